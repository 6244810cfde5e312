/- Rows of numbers that are the same. What a program means: its numbers are ints. What a program means: whether two states are the same. What a program means: what holds along a run. No conditions. -/
import Derived.Test.YtfkgcobaheegbaaGreatDoorGdTm
import Derived.Test.YtfkgcobaheegbaaGreatDoorP2
import Derived.Test.YtfkgcobaheegbaaGreatDoorCkF
import Derived.Test.YtfkgcobaheegbaaGreatDoorSoP
import Derived.Test.YtfkgcobaheegbaaGreatDoorWd
import Derived.Test.YtfkgcobaheegbaaGreatDoorSoS
set_option linter.all false
namespace Go.Proofs.YtfkgcobaheegbaaGreatDoor
open Go Go.Gd
set_option maxHeartbeats 4000000
set_option maxRecDepth 10000
theorem joY (n:Int):rng (IntKind.i64.wrap n):=by unfold rng;rw [IntKind.wrap_i64];omega
theorem jgh:rng 0:=by unfold rng;omega
theorem jtt (b:Bool):rng (vB b).n:=by cases b<;>(show rng _;unfold vB rng;simp)
theorem jtw {a b:Int} (h:rng a):rng (a.tmod b):=by
 unfold rng at *
 by_cases h0:0≤a
 ·have h1:0≤a.tmod b:=Int.tmod_nonneg b h0
  have h2:a.tmod b≤a:=by
   have:=Int.mul_tdiv_add_tmod a b
   by_cases hb:b=0
   ·subst hb;simp
   ·have hn:=Int.natAbs_tmod a b
    have:(a.tmod b).natAbs≤a.natAbs:=by rw [hn];exact Nat.mod_le _ _
    omega
  omega
 ·have hn:=Int.natAbs_tmod a b
  have:(a.tmod b).natAbs≤a.natAbs:=by rw [hn];exact Nat.mod_le _ _
  have h3:a.tmod b≤0:=by
   have:=Int.tmod_nonneg b (a:=-a) (by omega)
   rw [Int.neg_tmod] at this
   omega
  omega
theorem jtu (s:ByteArray) {a b:Int} (ha:rng a):rng (jnf s a b).1.n:=by
 unfold jnf
 (repeat' split)<;>first | exact joY _ | exact jgh | exact jtt _ | exact jtw ha
theorem jv6 (s:ByteArray) {a b:GValue} (ha:rng a.n):rng (jlF s a b).1.n:=by
 unfold jlF
 (repeat' split)<;>first | exact jtu _ ha | exact jgh | exact jtt _
theorem joX (s:ByteArray) (a:GValue):rng (jfm s a).n:=by
 unfold jfm
 (repeat' split)<;>first | exact joY _ | exact jgh | exact jtt _
def jp9 (l:List GValue):Prop:=∀ v∈l,rng v.n
def j1r (h:List (List Int)):Prop:=∀ l∈h,∀ x∈l,rng x
def j5I (p:GProg):Prop:=∀ k,k < p.tree.nodes.length→(nth p.tree.nodes k).kind=1→rng (nth p.tree.nodes k).n
theorem POk.rng {p:GProg} (h:POk p):j5I p:=fun k hk h1=>by
 obtain ⟨s,hs,e⟩:=(h.tree.shape k hk).1.num h1
 have hle:=jl9 hs
 have hnum:ji5 s=(jjC s.data.toList 0:Nat):=by
  unfold ji5
  rw [ji3 s hs.2.2 _ (Nat.le_refl _),List.take_of_length_le (by simp)]
 rw [e,hnum]
 unfold Go.Gd.rng;omega
theorem jv7 {l:List GValue} (h:jp9 l) (k t:Int):rng (jfs l k t).n:=by
 unfold jfs
 (repeat' split)<;>first | exact jgh | exact h _ (jaw (by omega))
theorem jtv {h:List (List Int)} (hr:j1r h) (v:GValue) (k:Nat) (hk:k < (jcn h v).length):rng (nth (jcn h v) k):=by
 unfold jcn at hk ⊢
 split at hk
 ·simp at hk
 ·rename_i e
  rw [if_neg e]
  exact hr _ (jaw (by omega)) _ (jaw hk)
theorem jcS {c:Prop} [Decidable c] {x y:GValue×Int} (h:c→rng x.1.n) (k:¬ c→rng y.1.n):rng (if c then x else y).1.n:=by
 by_cases e:c
 ·rw [if_pos e];exact h e
 ·rw [if_neg e];exact k e
theorem joW {p:GProg} (h:POk p) {slots:List GValue} {heap:List (List Int)} (h1:jp9 slots) (h2:j1r heap) (h3:∀ l∈heap,l.length≤1000000):∀ (n:Nat) (a:Int),0≤a→a.toNat < p.tree.nodes.length→a.toNat < n→isE (jaj p.tree.nodes a)→rng (jbi p slots heap n a).1.n
 | 0,a,_,_,hn,_=>by omega
 | n+1,a,h0,hl,hn,hk=>by
  have sh:=h.tree.shape a.toNat hl
  have hk:1≤(nth p.tree.nodes a.toNat).kind∧(nth p.tree.nodes a.toNat).kind≤9:=hk
  have hlen:∀ v:GValue,((jcn heap v).length:Int)≤1000000:=fun v=>by
   unfold jcn
   split
   ·simp
   ·have:=h3 _ (jaw (l:=heap) (k:=(v.n - 1).toNat) (by omega));omega
  have hX:(∃ x y,(nth p.tree.nodes a.toNat).l=[x,y]∧isE (jaj p.tree.nodes x))∨(∃ x,(nth p.tree.nodes a.toNat).l=[x]∧isE (jaj p.tree.nodes x))∨(nth p.tree.nodes a.toNat).kind≤4:=by
   by_cases e:(nth p.tree.nodes a.toNat).kind=9
   ·obtain ⟨x,y,g1,g2,_⟩:=sh.1.two (.inl e);exact .inl ⟨x,y,g1,g2⟩
   ·by_cases e4:(nth p.tree.nodes a.toNat).kind≤4
    ·exact .inr (.inr e4)
    ·obtain ⟨x,g1,g2⟩:=sh.1.one (by omega);exact .inr (.inl ⟨x,g1,g2⟩)
  have hX0:4 < (nth p.tree.nodes a.toNat).kind→rng (jbi p slots heap n (nth (nth p.tree.nodes a.toNat).l 0)).1.n∧(jbi p slots heap n (nth (nth p.tree.nodes a.toNat).l 0)).1.s.size≤40:=fun hk4=>by
   have:∃ x,nth (nth p.tree.nodes a.toNat).l 0=x∧x∈(nth p.tree.nodes a.toNat).l∧isE (jaj p.tree.nodes x):=by
    rcases hX with ⟨x,y,g1,g2⟩ | ⟨x,g1,g2⟩ | g
    ·exact ⟨x,by rw [g1];rfl,by rw [g1];simp,g2⟩
    ·exact ⟨x,by rw [g1];rfl,by rw [g1];simp,g2⟩
    ·omega
   obtain ⟨x,g1,g2,g3⟩:=this
   rw [g1]
   have hb:=sh.2.1 x g2
   exact ⟨joW h h1 h2 h3 n x hb.1 (by omega) (by omega) g3,(jfB h slots heap n x hb.1 (by omega) (by omega) g3).size⟩
  unfold jbi
  dsimp only
  generalize jbi p slots heap n (nth (nth p.tree.nodes a.toNat).l 0)=X at *
  generalize jbi p slots heap n (nth (nth p.tree.nodes a.toNat).l 1)=Y at *
  refine jcS (fun e=>h.rng _ hl e) fun e1=>jcS (fun _=>jtt _) fun e2=>jcS (fun _=>jgh) fun e3=>jcS (fun _=>jv7 h1 _ _) fun e4=>?_
  obtain ⟨x1,x2⟩:=hX0 (by omega)
  refine jcS (fun _=>jgh) fun e5=>jcS (fun _=>jcS (fun _=>jgh) fun e=>jtv h2 _ _ (by omega)) fun e6=>jcS (fun _=>jcS (fun _=>x1) fun _=>jcS (fun _=>jgh) fun _=>jv6 _ x1) fun e7=>jcS (fun _=>jcS (fun _=>?_) fun _=>?_) fun e8=>jcS (fun _=>joX _ _) fun _=>joX _ _
  ·show Go.Gd.rng (_:Int)
   unfold vI Go.Gd.rng;simp only;omega
  ·have:=hlen X.1
   show Go.Gd.rng (_:Int)
   unfold vI Go.Gd.rng;simp only;omega
structure RngR (R:RS):Prop where
 sl:∀ f∈R.frs,jp9 f.slots
 hp:j1r R.heap
def RngS (s:GState):Prop:=RngR (RS.of s)
theorem RngR.upd {R:RS} (h:RngR R) (k:Nat) {f:GFrame} (hf:jp9 f.slots):RngR (R.upd k f):=⟨fun g hg=>by
 rcases jeh hg with rfl | hg
 ·exact hf
 ·exact h.sl g hg,h.hp⟩
theorem jrb {α:Type} [Inhabited α] (l:List α) (k:Nat):nth l k∈l∨nth l k=default:=by
 by_cases h:k < l.length
 ·exact .inl (jaw h)
 ·right;unfold nth;rw [List.getD_eq_getElem?_getD,List.getElem?_eq_none (by omega)];rfl
theorem RngR.at_ {R:RS} (h:RngR R) (k:Nat):jp9 (nth R.frs k).slots:=by
 rcases jrb R.frs k with e | e
 ·exact h.sl _ e
 ·rw [e];intro v hv;cases hv
theorem RngR.on {R:RS} (h:RngR R):RngR R.on:=h.upd _ (h.at_ _)
theorem jv8 {l:List GValue} (h:jp9 l) (k:Nat) {v:GValue} (hv:rng v.n):jp9 (l.set k v):=fun x hx=>by
 rcases jeh hx with rfl | hx
 ·exact hv
 ·exact h x hx
theorem RngR.setS {R:RS} (h:RngR R) (p:GProg) (a:Int) {v:GValue} (hv:rng v.n):RngR (R.setS p a v):=h.upd _ (jv8 (h.at_ _) _ hv)
theorem RngR.store {R:RS} (h:RngR R) (p:GProg) (a:Int) {v:GValue} (hv:rng v.n):RngR (R.store p a v):=(h.setS p a hv).on
theorem RngR.tells {R:RS} (h:RngR R) (p:GProg) {v:GValue} (hv:rng v.n):RngR (R.tells p v):=by
 have hp:RngR R.pop:=⟨h.sl,h.hp⟩
 unfold RS.tells
 split
 ·exact ⟨h.sl,h.hp⟩
 split
 ·exact (hp.setS p _ hv).on
 ·exact hp.on
theorem RngR.cut {R:RS} (h:RngR R):RngR R.cut:=⟨fun g hg=>by
 rcases jeh hg with rfl | hg
 ·exact h.at_ _
 ·exact h.sl g hg,h.hp⟩
theorem RngR.settle {p:GProg}:∀ (n:Nat) {R:RS},RngR R→RngR (jbB p n R)
 | 0,R,h=>h
 | n+1,R,h=>by
  unfold jbB
  split
  ·exact h
  split
  ·exact RngR.settle n (h.tells p jgh)
  split
  ·exact h
  ·exact RngR.settle n h.cut
theorem RngR.push {R:RS} (h:RngR R) {f:GFrame} (hf:jp9 f.slots):RngR (R.push f):=⟨fun g hg=>by
 have hg:g∈R.frs++[f]:=hg
 rcases List.mem_append.1 hg with hg | hg
 ·exact h.sl g hg
 ·rw [List.mem_singleton] at hg;subst hg;exact hf,h.hp⟩
theorem RngR.deeper {R:RS} (h:RngR R) (b:Int):RngR (R.deeper b):=h.upd _ (h.at_ _)
theorem joV {p:GProg} (R:RS):∀ (l:List Int) (a:List GValue),(∀ x∈l,rng (R.val p x).1.n)→jp9 a→jp9 (R.args p l a).1
 | [],a,_,h=>by unfold RS.args;exact h
 | x::l,a,hl,h=>by
  unfold RS.args
  split
  ·exact h
  ·refine joV R l _ (fun y hy=>hl y (by simp [hy])) fun v hv=>?_
   rcases List.mem_append.1 hv with hv | hv
   ·exact h v hv
   ·rw [List.mem_singleton] at hv;subst hv;exact hl x (by simp)
theorem jms (p:GProg) (fn:Int) {a:List GValue} (h:jp9 a):jp9 (jbh p fn a).slots:=fun v hv=>by
 have hv:v∈a++List.replicate _ v0:=hv
 rcases List.mem_append.1 hv with hv | hv
 ·exact h v hv
 ·rw [(List.mem_replicate.1 hv).2];exact jgh
theorem RngR.val {p:GProg} (hs:SOk p) {R:RS} (h:RngR R) (hc:jbH R.heap≤40) {x:Int} (h0:0≤x) (hl:x.toNat < p.tree.nodes.length) (hE:isE (jaj p.tree.nodes x)):rng (R.val p x).1.n:=
 joW hs.ok (h.at_ _) h.hp (fun l hm=>by
  obtain ⟨k,hk,rfl⟩:=List.getElem_of_mem hm
  have:=jex R.heap k hk
  rw [ja3 hk] at this
  omega) _ x h0 hl (by omega) hE
theorem RngR.call {p:GProg} (hs:SOk p) {R:RS} (h:RngR R) (hc:jbH R.heap≤40) {a:Int} (hl:a.toNat < p.tree.nodes.length) (hk:(jag p a).kind=21):RngR (R.call p a).1:=by
 have sh:=hs.ok.tree.shape a.toNat hl
 unfold RS.call
 simp only
 split
 ·exact h
 split
 ·exact h
 ·refine h.push (jms p _ (joV R _ _ (fun x hx=>?_) fun v hv=>by cases hv))
  have:=sh.2.1 x hx
  exact h.val hs hc this.1 (by omega) (sh.1.call hk x hx)
theorem RngR.does {p:GProg} (hs:SOk p) {R:RS} (h:RngR R) (hc:jbH R.heap≤40) {node:Int} (h0:0≤node) (hl:node.toNat < p.tree.nodes.length) {inp:List Int} (hi:∀ x∈inp,rng x):RngR (R.does p node inp).1:=by
 have sh:=hs.ok.tree.shape node.toNat hl
 have kid:∀ x∈(jag p node).l,0≤x∧x.toNat < p.tree.nodes.length:=fun x hx=>by have:=sh.2.1 x hx;omega
 have hv:∀ x∈(jag p node).l,isE (jaj p.tree.nodes x)→rng (R.val p x).1.n:=fun x hx hE=>h.val hs hc (kid x hx).1 (kid x hx).2 hE
 unfold RS.does
 simp only
 split
 ·rename_i e
  obtain ⟨a,ha,hr⟩:=sh.1.right e
  have hla:(jag p node).l=[a]:=ha
  have ha0:=kid a (by rw [hla];simp)
  have hx:nth (jag p node).l 0=a:=by rw [hla];rfl
  unfold RS.right
  simp only [hx]
  split
  ·rename_i e1;exact h.call hs hc ha0.2 e1
  split
  ·refine RngR.store (R:={ R with in_:=R.in_+1 }) ⟨h.sl,h.hp⟩ p node ?_
   show rng (nth inp _)
   rcases jrb inp R.in_.toNat with e | e
   ·exact hi _ e
   ·rw [e];exact jgh
  split
  ·unfold RS.fresh
   simp only
   have hf:∀ (n:Nat),RngR { R with heap:=R.heap++[List.replicate n 0] }:=fun n=>⟨h.sl,fun l hm=>by
    have hm:l∈R.heap++[List.replicate n 0]:=hm
    rcases List.mem_append.1 hm with hm | hm
    ·exact h.hp l hm
    ·rw [List.mem_singleton] at hm;subst hm;intro x hx;rw [(List.mem_replicate.1 hx).2];exact jgh⟩
   have hlen:=jbI R.heap
   have key:∀ r:RS×GValue×Int,RngR r.1→rng r.2.1.n→RngR (if r.2.2=0 then (r.1.store p node r.2.1,(0:Int)) else (r.1,r.2.2)).1:=fun r g1 g2=>by
    split
    ·exact g1.store p node g2
    ·exact g1
   refine key _ ?_ ?_
   ·(repeat' split)<;>first | exact h | exact hf _
   ·(repeat' split)<;>first | exact jgh | (show rng (_:Int);unfold rng;simp only;omega)
  rename_i e1 e2 e3
  split
  ·refine h.store p node (hv a (by rw [hla];simp) ?_)
   have e1:jaj p.tree.nodes a≠21:=e1
   have e2:jaj p.tree.nodes a≠19:=e2
   have e3:jaj p.tree.nodes a≠20:=e3
   rcases hr with hr | hr | hr | hr
   ·exact hr
   ·exact (e2 hr).elim
   ·exact (e3 hr).elim
   ·exact (e1 hr).elim
  ·exact h
 split
 ·rename_i e1
  obtain ⟨a,ha,hr⟩:=sh.1.do_ e1
  have hla:(jag p node).l=[a]:=ha
  have ha0:=kid a (by rw [hla];simp)
  have hx:nth (jag p node).l 0=a:=by rw [hla];rfl
  rw [hx]
  exact h.call hs hc ha0.2 hr
 split
 ·rename_i e2
  obtain ⟨x,y,hxy,hx,hy⟩:=sh.1.two (.inr e2)
  have hxy:(jag p node).l=[x,y]:=hxy
  unfold RS.put
  simp only
  split
  ·exact h
  split
  ·exact h
  split
  ·exact h
  ·refine RngR.on ⟨h.sl,fun l hm=>?_⟩
   rcases jeh hm with rfl | hm
   ·intro z hz
    rcases jeh hz with rfl | hz
    ·rw [show nth (jag p node).l 1=y by rw [hxy];rfl]
     exact hv y (by rw [hxy];simp) hy
    ·rcases jrb R.heap (((jfs R.topF.slots (nth p.slots node.toNat) 4).n) - 1).toNat with e | e
     ·exact h.hp _ e z hz
     ·rw [e] at hz;cases hz
   ·exact h.hp l hm
 split
 ·rename_i e3
  split
  ·exact h.tells p jgh
  rename_i e4
  split
  ·exact h
  ·rcases sh.1.ret e3 with hl0 | ⟨a,hl0,hE⟩
   ·exact (e4 (by unfold jag;rw [hl0];rfl)).elim
   ·have hl0:(jag p node).l=[a]:=hl0
    rw [show nth (jag p node).l 0=a by rw [hl0];rfl]
    exact h.tells p (hv a (by rw [hl0];simp) hE)
 split
 ·exact h
 split
 ·split
  ·exact h
  ·exact RngR.on ⟨h.sl,h.hp⟩
 split
 ·split
  ·exact h.on.deeper _
  split
  ·exact h.on.deeper _
  ·exact h.on
 split
 ·split
  ·exact h.deeper _
  ·exact h.on
 ·exact h
theorem RngR.st {R:RS} (h:RngR R):RngS R.st:=⟨fun f hf=>h.sl f (List.mem_of_mem_take hf),h.hp⟩
theorem RngS.with {s:GState} (h:RngS s) (c t n:Int):RngS { s with status:=c,trap:=t,time:=n }:=⟨h.sl,h.hp⟩
theorem jtI {p:GProg} (hs:SOk p) {s:GState} (hI:StInv p s) (h:RngS s) {inp:List Int} (hi:∀ x∈inp,rng x):RngS (jdo p s inp):=by
 unfold jdo
 split
 ·exact h
 rename_i h0
 split
 ·exact ⟨h.sl,h.hp⟩
 simp only
 split
 ·exact ⟨h.sl,h.hp⟩
 ·have h2:¬ (s.status=2∨s.status=3):=fun hh=>h0 (by unfold jaS;rw [if_pos hh];decide)
  have hd:=hI.doing (fun hh=>h2 (.inl hh)) 0 (by decide)
  obtain ⟨s0,s1,_⟩:=hd.stmt hs
  have hat:atV p (RS.of { s with status:=0 }).st=jaS p s:=by rw [RS.of_st];unfold jaS;rw [if_neg h2];rfl
  rw [hat] at s0 s1
  have hr:RngR (RS.of { s with status:=0 }):=⟨h.sl,h.hp⟩
  have:=hr.does hs hI.cells s0 s1 hi
  exact (RngR.settle _ (R:={ ((RS.of { s with status:=0 }).does p (jaS p s) inp).1 with time:=s.time+1 }) ⟨this.sl,this.hp⟩).st
structure Fits (s:GState):Prop where
 frs:s.frames.length≤8
 heap:s.heap.length≤40
 out:s.out_.length≤24
 fr:∀ k,k < s.frames.length→(nth s.frames k).slots.length≤24∧(nth s.frames k).path.length≤300
 hp:∀ k,k < s.heap.length→(nth s.heap k).length≤40
theorem jnl {p:GProg} (hs:SOk p):∃ m:Nat,m < p.tree.fns.length∧jdA p=(m:Int)∧(nth p.tree.fns m).name=(⟨#[109,97,105,110]⟩:ByteArray)∧(nth p.tree.fns m).params.length=0:=by
 obtain ⟨j,hj,hmain⟩:=hs.names.main
 unfold jj8 at hmain
 simp only [Bool.and_eq_true,decide_eq_true_eq] at hmain
 obtain ⟨⟨g1,g2⟩,_⟩:=hmain
 obtain ⟨f1,f2,f3⟩:=jm6 GFunc.name (⟨#[109,97,105,110]⟩:ByteArray) p.tree.fns 0 ⟨_,jaw hj,g1⟩
 have e:(jb4 GFunc.name (⟨#[109,97,105,110]⟩:ByteArray) p.tree.fns 0 - 0).toNat=(jdA p).toNat:=by unfold jdA;simp
 rw [e] at f3
 have hlo:0≤jdA p:=f1
 have hhi:jdA p < 0+p.tree.fns.length:=f2
 have hm:(jdA p).toNat < p.tree.fns.length:=by omega
 have hjm:j=(jdA p).toNat:=by
  rcases Nat.lt_trichotomy j (jdA p).toNat with h | h | h
  ·exact (hs.names.one _ _ h hm (by rw [g1,f3])).elim
  ·exact h
  ·exact (hs.names.one _ _ h hj (by rw [g1,f3])).elim
 exact ⟨(jdA p).toNat,hm,by omega,f3,by rw [← hjm];omega⟩
def jfV (p:GProg):RS:=RS.of { jjo with frames:=[jbh p (jdA p) []] }
theorem jdP {p:GProg} (hs:SOk p):After p (jfV p):=by
 obtain ⟨m,hm,hidx,_,hpar⟩:=jnl hs
 have hf:=(jiL hs hm (args:=[]) (by rw [hpar];rfl)).1
 refine ⟨⟨RS.of_ok _,?_,fun k hk=>?_,fun k hk=>?_,fun _=>?_⟩,?_,?_,?_,?_⟩
 ·show 1≤8;omega
 ·have hk:k < 1:=hk
  have:k=0:=by omega
  subst this
  show FrOk p (jbh p (jdA p) [])
  rw [hidx];exact hf
 ·have hk:k+1 < 1:=hk
  omega
 ·show 1≤1;omega
 ·show jbH []≤40;decide
 ·show 0≤24;omega
 ·show (0:Int)≤0;omega
 ·show (0:Int)≤1000;omega
theorem juW {p:GProg}:RngR (jfV p):=⟨fun f hf=>by
 have hf:f∈[jbh p (jdA p) []]:=hf
 rw [List.mem_singleton] at hf;subst hf
 exact jms p _ fun v hv=>(by cases hv),fun l hl=>by cases hl⟩
theorem jlo (p:GProg):jjn p=((jfV p).settle p).st:=rfl
structure jkv (p:GProg) (n:Nat) (s:GState):Prop where
 inv:StInv p s
 rng:RngS s
 t0:0≤s.time
 t1:s.time≤n
theorem jp0 {p:GProg} (hs:SOk p):jkv p 0 (jjn p):=by
 have k:=jcp p ((jfV p).left+1) (jfV p)
 have e:(jjn p).time=0:=k.time
 exact ⟨(jdP hs).settled,(RngR.settle _ juW).st,by omega,by omega⟩
structure Grew (R R':RS):Prop where
 time:R'.time=R.time
 frs:R.frs.length≤R'.frs.length
 heap:R.heap.length≤R'.heap.length
theorem Grew.refl (R:RS):Grew R R:=⟨rfl,Nat.le_refl _,Nat.le_refl _⟩
theorem Grew.trans {a b c:RS} (h:Grew a b) (k:Grew b c):Grew a c:=⟨k.time.trans h.time,Nat.le_trans h.frs k.frs,Nat.le_trans h.heap k.heap⟩
theorem jf2 (R:RS) (k:Nat) (f:GFrame):Grew R (R.upd k f):=⟨rfl,Nat.le_of_eq RS.upd_len,Nat.le_refl _⟩
theorem jeA (R:RS):Grew R R.on:=jf2 _ _ _
theorem jgN (R:RS) (p:GProg) (a:Int) (v:GValue):Grew R (R.store p a v):=(jf2 R _ _).trans (jeA _)
theorem jj6 (R:RS) (p:GProg) (v:GValue):Grew R (R.tells p v):=by
 have hp:Grew R R.pop:=⟨rfl,Nat.le_refl _,Nat.le_refl _⟩
 unfold RS.tells
 split
 ·exact ⟨rfl,Nat.le_refl _,Nat.le_refl _⟩
 split
 ·exact hp.trans ((jf2 _ _ _).trans (jeA _))
 ·exact hp.trans (jeA _)
theorem jqK (R:RS) (f:GFrame):Grew R (R.push f):=⟨rfl,by show R.frs.length≤(R.frs++[f]).length;simp,Nat.le_refl _⟩
theorem jlU (R:RS) (p:GProg) (a:Int):Grew R (R.call p a).1:=by
 unfold RS.call
 simp only
 split
 ·exact .refl _
 split
 ·exact .refl _
 ·exact jqK _ _
theorem jj5 (R:RS) (p:GProg) (a:Int):Grew R (R.fresh p a).1:=by
 unfold RS.fresh
 simp only
 (repeat' split)<;>first | exact .refl _ | exact ⟨rfl,Nat.le_refl _,by simp⟩
theorem jpC (R:RS) (p:GProg) (a:Int) (inp:List Int):Grew R (R.right p a inp).1:=by
 unfold RS.right
 simp only
 split
 ·exact jlU _ _ _
 split
 ·exact (show Grew R { R with in_:=R.in_+1 } from ⟨rfl,Nat.le_refl _,Nat.le_refl _⟩).trans (jgN _ _ _ _)
 split
 ·split
  ·exact (jj5 _ _ _).trans (jgN _ _ _ _)
  ·exact jj5 _ _ _
 split
 ·exact jgN _ _ _ _
 ·exact .refl _
theorem jsY (R:RS) (p:GProg) (a:Int):Grew R (R.put p a).1:=by
 unfold RS.put
 simp only
 (repeat' split)<;>first | exact .refl _ | exact (show Grew R { R with heap:=R.heap.set _ _ } from ⟨rfl,Nat.le_refl _,by simp⟩).trans (jeA _)
theorem jiP (R:RS) (p:GProg) (a:Int) (inp:List Int):Grew R (R.does p a inp).1:=by
 unfold RS.does
 simp only
 split
 ·exact jpC _ _ _ _
 split
 ·exact jlU _ _ _
 split
 ·exact jsY _ _ _
 split
 ·(repeat' split)<;>first | exact .refl _ | exact jj6 _ _ _
 split
 ·exact .refl _
 split
 ·split
  ·exact .refl _
  ·exact (show Grew R { R with out_:=R.out_++[_] } from ⟨rfl,Nat.le_refl _,Nat.le_refl _⟩).trans (jeA _)
 split
 ·(repeat' split)<;>first | exact (jeA _).trans (jf2 _ _ _) | exact jeA _
 split
 ·(repeat' split)<;>first | exact jf2 _ _ _ | exact jeA _
 ·exact .refl _
theorem jef (p:GProg):∀ (n:Nat) (R:RS),Grew R (jbB p n R)
 | 0,R=>.refl R
 | n+1,R=>by
  unfold jbB
  split
  ·exact .refl R
  split
  ·exact (jj6 R p _).trans (jef p n _)
  split
  ·exact .refl R
  ·exact (show Grew R R.cut from ⟨rfl,by show R.frs.length≤(R.frs.set _ _).length;simp,Nat.le_refl _⟩).trans (jef p n _)
theorem jrQ {p:GProg} {s:GState} {inp:List Int}:(jdo p s inp).time=s.time∨(jdo p s inp).time=s.time+1:=by
 unfold jdo
 split
 ·exact .inl rfl
 split
 ·exact .inl rfl
 simp only
 split
 ·exact .inr rfl
 ·exact .inr (jcp p _ _).time
theorem jrO {p:GProg} (hs:SOk p) {n:Nat} {s:GState} (h:jkv p n s) {inp:List Int} (hn:inp.length≤1000) (hi:∀ x∈inp,Go.Gd.rng x):jkv p (n+1) (jdo p s inp):=by
 have ht:=@jrQ p s inp
 have:=h.t0
 have:=h.t1
 exact ⟨jrP hs h.inv hn,jtI hs h.inv h.rng hi,by omega,by omega⟩
theorem jdd {p:GProg} (hs:SOk p) {inp:List Int} (hn:inp.length≤1000) (hi:∀ x∈inp,Go.Gd.rng x):∀ n,jkv p n (je8 p inp n)
 | 0=>jp0 hs
 | n+1=>jrO hs (jdd hs hn hi n) hn hi
theorem StInv.fits {p:GProg} (hs:SOk p) {s:GState} (h:StInv p s):Fits s:=by
 have h2:=jbI s.heap
 have h3:=h.cells
 refine ⟨h.inv.frs,by omega,h.outs,fun k hk=>?_,fun k hk=>?_⟩
 ·have hf:FrOk p (nth s.frames k):=h.inv.fr k hk
  have h0:=hf.f0
  have h1:=hf.f1
  have hz:=(hs.fns (nth s.frames k).fn.toNat (by omega)).hi
  have:=hf.sl
  exact ⟨by omega,hf.len hs⟩
 ·have:=jex s.heap k hk;omega
end Go.Proofs.YtfkgcobaheegbaaGreatDoor

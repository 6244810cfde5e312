/- Rows of numbers that are the same. What a program means: its numbers are ints. What a program means: whether two states are the same. What a program means: what holds along a run. No conditions. -/
import Derived.Test.YtfkgcobaheegbaaGreatDoorGdTm
import Derived.Test.YtfkgcobaheegbaaGreatDoorP2
import Derived.Test.YtfkgcobaheegbaaGreatDoorCkF
import Derived.Test.YtfkgcobaheegbaaGreatDoorSoP
import Derived.Test.YtfkgcobaheegbaaGreatDoorWd
import Derived.Test.YtfkgcobaheegbaaGreatDoorSoS
set_option linter.all false
namespace Go.Proofs.YtfkgcobaheegbaaGreatDoor
open Go Go.Gd
theorem jcr {α:Type} [Inhabited α] {a b:List α} (hl:a.length=b.length) (h:∀ j,j < a.length→nth a j=nth b j):a=b:=by
 apply List.ext_getElem hl
 intro i h1 h2
 have:=h i h1
 rwa [jbl h1,jbl h2] at this
set_option maxHeartbeats 4000000
set_option maxRecDepth 10000
theorem juS (a b:List Int) (ha:a.length≤1000000000):PCall Tryz.prog 61 [jal eI 1 a,jal eI 1 b] (rB (decide (a=b))):=by
 refine jbA Tryz.func61 Tryz.ntmps61 ?_
 (repeat' (first|refine jaa fun K hK=>?_|refine wkA ?_|(refine hK _ _ ?_;clear hK K)|(refine jad (fun hc=>?_) (fun hc=>?_)<;>first | contradiction | (exfalso;omega) | skip)|refine wkB ?_|exact True.intro|(clear hK K)))
 ·(refine jaN [.tmp 4] ?_;try simp only [go_sem])
  rw [show decide (a=b)=false from decide_eq_false fun h=>hc (by rw [h])]
 have hl:a.length=b.length:=by omega
 have hKo:=hK;clear hK
 refine jah (S:=Nat) [(4,2),(11,15)] (fun k=>k≤a.length∧∀ j,j < k→nth a j=nth b j) (fun k=>[(5,rI k)]) (fun k=>⟨[],[]⟩) (fun k=>a.length - k) 0 ⟨by omega,fun j h=>by omega⟩ (jaE (by simp only [go_sem]) lle) ?_
 rintro k ⟨hk1,hk2⟩ Kr hKr
 (refine S ?_;try exact True.intro)
 (repeat' (first|refine jaa fun K hK=>?_|refine wkA ?_|(with_reducible refine gR 6 ?_);refine dE 6 [0,1,2,3,4,5,6,7,8] mixed ?_|(refine hK _ _ ?_;clear hK K)|(refine jad (fun hc=>?_) (fun hc=>?_)<;>first | contradiction | (exfalso;omega) | skip)|(refine hKo _ _ ?_)|refine wkB ?_|exact True.intro|(clear hK K)))
 ·(refine jaN [.tmp 4] ?_;try simp only [go_sem])
  rw [show decide (a=b)=false from decide_eq_false fun h=>hc (by rw [h])]
 ·refine hKr _ _ (jau (k+1) ⟨by omega,fun j hj=>?_⟩ (by (try simp only);omega) (by simp only [go_sem]) lle)
  by_cases h:j < k
  ·exact hk2 j h
  ·rw [show j=k by omega];exact hc
 ·(refine jaN [.tmp 4] ?_;try simp only [go_sem])
  rw [show decide (a=b)=true from decide_eq_true (jcr hl fun j hj=>hk2 j (by omega))]
theorem jn7 (n:Int):rng (IntKind.i64.wrap n):=by unfold rng;rw [IntKind.wrap_i64];omega
theorem jf1:rng 0:=by unfold rng;omega
theorem jsN (b:Bool):rng (vB b).n:=by cases b<;>(show rng _;unfold vB rng;simp)
theorem jsQ {a b:Int} (h:rng a):rng (a.tmod b):=by
 unfold rng at *
 by_cases h0:0≤a
 ·have h1:0≤a.tmod b:=Int.tmod_nonneg b h0
  have h2:a.tmod b≤a:=by
   have:=Int.mul_tdiv_add_tmod a b
   by_cases hb:b=0
   ·subst hb;simp
   ·have hn:=Int.natAbs_tmod a b
    have:(a.tmod b).natAbs≤a.natAbs:=by rw [hn];exact Nat.mod_le _ _
    omega
  omega
 ·have hn:=Int.natAbs_tmod a b
  have:(a.tmod b).natAbs≤a.natAbs:=by rw [hn];exact Nat.mod_le _ _
  have h3:a.tmod b≤0:=by
   have:=Int.tmod_nonneg b (a:=-a) (by omega)
   rw [Int.neg_tmod] at this
   omega
  omega
theorem jsO (s:ByteArray) {a b:Int} (ha:rng a):rng (jiX s a b).1.n:=by
 unfold jiX
 (repeat' split)<;>first | exact jn7 _ | exact jf1 | exact jsN _ | exact jsQ ha
theorem jvj (s:ByteArray) {a b:GValue} (ha:rng a.n):rng (jjf s a b).1.n:=by
 unfold jjf
 (repeat' split)<;>first | exact jsO _ ha | exact jf1 | exact jsN _
theorem jn6 (s:ByteArray) (a:GValue):rng (jem s a).n:=by
 unfold jem
 (repeat' split)<;>first | exact jn7 _ | exact jf1 | exact jsN _
def jpl (l:List GValue):Prop:=∀ v∈l,rng v.n
def j0p (h:List (List Int)):Prop:=∀ l∈h,∀ x∈l,rng x
def j4T (p:GProg):Prop:=∀ k,k < p.tree.nodes.length→(nth p.tree.nodes k).kind=1→rng (nth p.tree.nodes k).n
theorem POk.rng {p:GProg} (h:POk p):j4T p:=fun k hk h1=>by
 obtain ⟨s,hs,e⟩:=(h.tree.shape k hk).1.num h1
 have hle:=jln hs
 have hnum:jik s=(jiR s.data.toList 0:Nat):=by
  unfold jik
  rw [jii s hs.2.2 _ (Nat.le_refl _),List.take_of_length_le (by simp)]
 rw [e,hnum]
 unfold Go.Gd.rng;omega
theorem jvk {l:List GValue} (h:jpl l) (k t:Int):rng (jgh l k t).n:=by
 unfold jgh
 (repeat' split)<;>first | exact jf1 | exact h _ (jaP (by omega))
theorem jsP {h:List (List Int)} (hr:j0p h) (v:GValue) (k:Nat) (hk:k < (jb2 h v).length):rng (nth (jb2 h v) k):=by
 unfold jb2 at hk ⊢
 split at hk
 ·simp at hk
 ·rename_i e
  rw [if_neg e]
  exact hr _ (jaP (by omega)) _ (jaP hk)
theorem jcI {c:Prop} [Decidable c] {x y:GValue×Int} (h:c→rng x.1.n) (k:¬ c→rng y.1.n):rng (if c then x else y).1.n:=by
 by_cases e:c
 ·rw [if_pos e];exact h e
 ·rw [if_neg e];exact k e
theorem jn5 {p:GProg} (h:POk p) {slots:List GValue} {heap:List (List Int)} (h1:jpl slots) (h2:j0p heap) (h3:∀ l∈heap,l.length≤1000000):∀ (n:Nat) (a:Int),0≤a→a.toNat < p.tree.nodes.length→a.toNat < n→isE (jan p.tree.nodes a)→rng (jaY p slots heap n a).1.n
 | 0,a,_,_,hn,_=>by omega
 | n+1,a,h0,hl,hn,hk=>by
  have sh:=h.tree.shape a.toNat hl
  have hk:1≤(nth p.tree.nodes a.toNat).kind∧(nth p.tree.nodes a.toNat).kind≤9:=hk
  have hlen:∀ v:GValue,((jb2 heap v).length:Int)≤1000000:=fun v=>by
   unfold jb2
   split
   ·simp
   ·have:=h3 _ (jaP (l:=heap) (k:=(v.n - 1).toNat) (by omega));omega
  have hX:(∃ x y,(nth p.tree.nodes a.toNat).l=[x,y]∧isE (jan p.tree.nodes x))∨(∃ x,(nth p.tree.nodes a.toNat).l=[x]∧isE (jan p.tree.nodes x))∨(nth p.tree.nodes a.toNat).kind≤4:=by
   by_cases e:(nth p.tree.nodes a.toNat).kind=9
   ·obtain ⟨x,y,g1,g2,_⟩:=sh.1.two (.inl e);exact .inl ⟨x,y,g1,g2⟩
   ·by_cases e4:(nth p.tree.nodes a.toNat).kind≤4
    ·exact .inr (.inr e4)
    ·obtain ⟨x,g1,g2⟩:=sh.1.one (by omega);exact .inr (.inl ⟨x,g1,g2⟩)
  have hX0:4 < (nth p.tree.nodes a.toNat).kind→rng (jaY p slots heap n (nth (nth p.tree.nodes a.toNat).l 0)).1.n∧(jaY p slots heap n (nth (nth p.tree.nodes a.toNat).l 0)).1.s.size≤40:=fun hk4=>by
   have:∃ x,nth (nth p.tree.nodes a.toNat).l 0=x∧x∈(nth p.tree.nodes a.toNat).l∧isE (jan p.tree.nodes x):=by
    rcases hX with ⟨x,y,g1,g2⟩ | ⟨x,g1,g2⟩ | g
    ·exact ⟨x,by rw [g1];rfl,by rw [g1];simp,g2⟩
    ·exact ⟨x,by rw [g1];rfl,by rw [g1];simp,g2⟩
    ·omega
   obtain ⟨x,g1,g2,g3⟩:=this
   rw [g1]
   have hb:=sh.2.1 x g2
   exact ⟨jn5 h h1 h2 h3 n x hb.1 (by omega) (by omega) g3,(jeo h slots heap n x hb.1 (by omega) (by omega) g3).size⟩
  unfold jaY
  dsimp only
  generalize jaY p slots heap n (nth (nth p.tree.nodes a.toNat).l 0)=X at *
  generalize jaY p slots heap n (nth (nth p.tree.nodes a.toNat).l 1)=Y at *
  refine jcI (fun e=>h.rng _ hl e) fun e1=>jcI (fun _=>jsN _) fun e2=>jcI (fun _=>jf1) fun e3=>jcI (fun _=>jvk h1 _ _) fun e4=>?_
  obtain ⟨x1,x2⟩:=hX0 (by omega)
  refine jcI (fun _=>jf1) fun e5=>jcI (fun _=>jcI (fun _=>jf1) fun e=>jsP h2 _ _ (by omega)) fun e6=>jcI (fun _=>jcI (fun _=>x1) fun _=>jcI (fun _=>jf1) fun _=>jvj _ x1) fun e7=>jcI (fun _=>jcI (fun _=>?_) fun _=>?_) fun e8=>jcI (fun _=>jn6 _ _) fun _=>jn6 _ _
  ·show Go.Gd.rng (_:Int)
   unfold vI Go.Gd.rng;simp only;omega
  ·have:=hlen X.1
   show Go.Gd.rng (_:Int)
   unfold vI Go.Gd.rng;simp only;omega
structure RngR (R:RS):Prop where
 sl:∀ f∈R.frs,jpl f.slots
 hp:j0p R.heap
def RngS (s:GState):Prop:=RngR (RS.of s)
theorem RngR.upd {R:RS} (h:RngR R) (k:Nat) {f:GFrame} (hf:jpl f.slots):RngR (R.upd k f):=⟨fun g hg=>by
 rcases jd8 hg with rfl | hg
 ·exact hf
 ·exact h.sl g hg,h.hp⟩
theorem jqt {α:Type} [Inhabited α] (l:List α) (k:Nat):nth l k∈l∨nth l k=default:=by
 by_cases h:k < l.length
 ·exact .inl (jaP h)
 ·right;unfold nth;rw [List.getD_eq_getElem?_getD,List.getElem?_eq_none (by omega)];rfl
theorem RngR.at_ {R:RS} (h:RngR R) (k:Nat):jpl (nth R.frs k).slots:=by
 rcases jqt R.frs k with e | e
 ·exact h.sl _ e
 ·rw [e];intro v hv;cases hv
theorem RngR.on {R:RS} (h:RngR R):RngR R.on:=h.upd _ (h.at_ _)
theorem jvl {l:List GValue} (h:jpl l) (k:Nat) {v:GValue} (hv:rng v.n):jpl (l.set k v):=fun x hx=>by
 rcases jd8 hx with rfl | hx
 ·exact hv
 ·exact h x hx
theorem RngR.setS {R:RS} (h:RngR R) (p:GProg) (a:Int) {v:GValue} (hv:rng v.n):RngR (R.setS p a v):=h.upd _ (jvl (h.at_ _) _ hv)
theorem RngR.store {R:RS} (h:RngR R) (p:GProg) (a:Int) {v:GValue} (hv:rng v.n):RngR (R.store p a v):=(h.setS p a hv).on
theorem RngR.tells {R:RS} (h:RngR R) (p:GProg) {v:GValue} (hv:rng v.n):RngR (R.tells p v):=by
 have hp:RngR R.pop:=⟨h.sl,h.hp⟩
 unfold RS.tells
 split
 ·exact ⟨h.sl,h.hp⟩
 split
 ·exact (hp.setS p _ hv).on
 ·exact hp.on
theorem RngR.cut {R:RS} (h:RngR R):RngR R.cut:=⟨fun g hg=>by
 rcases jd8 hg with rfl | hg
 ·exact h.at_ _
 ·exact h.sl g hg,h.hp⟩
theorem RngR.settle {p:GProg}:∀ (n:Nat) {R:RS},RngR R→RngR (jbf p n R)
 | 0,R,h=>h
 | n+1,R,h=>by
  unfold jbf
  split
  ·exact h
  split
  ·exact RngR.settle n (h.tells p jf1)
  split
  ·exact h
  ·exact RngR.settle n h.cut
theorem RngR.push {R:RS} (h:RngR R) {f:GFrame} (hf:jpl f.slots):RngR (R.push f):=⟨fun g hg=>by
 have hg:g∈R.frs++[f]:=hg
 rcases List.mem_append.1 hg with hg | hg
 ·exact h.sl g hg
 ·rw [List.mem_singleton] at hg;subst hg;exact hf,h.hp⟩
theorem RngR.deeper {R:RS} (h:RngR R) (b:Int):RngR (R.deeper b):=h.upd _ (h.at_ _)
theorem jn4 {p:GProg} (R:RS):∀ (l:List Int) (a:List GValue),(∀ x∈l,rng (R.val p x).1.n)→jpl a→jpl (R.args p l a).1
 | [],a,_,h=>by unfold RS.args;exact h
 | x::l,a,hl,h=>by
  unfold RS.args
  split
  ·exact h
  ·refine jn4 R l _ (fun y hy=>hl y (by simp [hy])) fun v hv=>?_
   rcases List.mem_append.1 hv with hv | hv
   ·exact h v hv
   ·rw [List.mem_singleton] at hv;subst hv;exact hl x (by simp)
theorem jlH (p:GProg) (fn:Int) {a:List GValue} (h:jpl a):jpl (jbi p fn a).slots:=fun v hv=>by
 have hv:v∈a++List.replicate _ v0:=hv
 rcases List.mem_append.1 hv with hv | hv
 ·exact h v hv
 ·rw [(List.mem_replicate.1 hv).2];exact jf1
theorem RngR.val {p:GProg} (hs:SOk p) {R:RS} (h:RngR R) (hc:jbh R.heap≤40) {x:Int} (h0:0≤x) (hl:x.toNat < p.tree.nodes.length) (hE:isE (jan p.tree.nodes x)):rng (R.val p x).1.n:=
 jn5 hs.ok (h.at_ _) h.hp (fun l hm=>by
  obtain ⟨k,hk,rfl⟩:=List.getElem_of_mem hm
  have:=jdM R.heap k hk
  rw [jbl hk] at this
  omega) _ x h0 hl (by omega) hE
theorem RngR.call {p:GProg} (hs:SOk p) {R:RS} (h:RngR R) (hc:jbh R.heap≤40) {a:Int} (hl:a.toNat < p.tree.nodes.length) (hk:(jak p a).kind=21):RngR (R.call p a).1:=by
 have sh:=hs.ok.tree.shape a.toNat hl
 unfold RS.call
 simp only
 split
 ·exact h
 split
 ·exact h
 ·refine h.push (jlH p _ (jn4 R _ _ (fun x hx=>?_) fun v hv=>by cases hv))
  have:=sh.2.1 x hx
  exact h.val hs hc this.1 (by omega) (sh.1.call hk x hx)
theorem RngR.does {p:GProg} (hs:SOk p) {R:RS} (h:RngR R) (hc:jbh R.heap≤40) {node:Int} (h0:0≤node) (hl:node.toNat < p.tree.nodes.length) {inp:List Int} (hi:∀ x∈inp,rng x):RngR (R.does p node inp).1:=by
 have sh:=hs.ok.tree.shape node.toNat hl
 have kid:∀ x∈(jak p node).l,0≤x∧x.toNat < p.tree.nodes.length:=fun x hx=>by have:=sh.2.1 x hx;omega
 have hv:∀ x∈(jak p node).l,isE (jan p.tree.nodes x)→rng (R.val p x).1.n:=fun x hx hE=>h.val hs hc (kid x hx).1 (kid x hx).2 hE
 unfold RS.does
 simp only
 split
 ·rename_i e
  obtain ⟨a,ha,hr⟩:=sh.1.right e
  have hla:(jak p node).l=[a]:=ha
  have ha0:=kid a (by rw [hla];simp)
  have hx:nth (jak p node).l 0=a:=by rw [hla];rfl
  unfold RS.right
  simp only [hx]
  split
  ·rename_i e1;exact h.call hs hc ha0.2 e1
  split
  ·refine RngR.store (R:={ R with in_:=R.in_+1 }) ⟨h.sl,h.hp⟩ p node ?_
   show rng (nth inp _)
   rcases jqt inp R.in_.toNat with e | e
   ·exact hi _ e
   ·rw [e];exact jf1
  split
  ·unfold RS.fresh
   simp only
   have hf:∀ (n:Nat),RngR { R with heap:=R.heap++[List.replicate n 0] }:=fun n=>⟨h.sl,fun l hm=>by
    have hm:l∈R.heap++[List.replicate n 0]:=hm
    rcases List.mem_append.1 hm with hm | hm
    ·exact h.hp l hm
    ·rw [List.mem_singleton] at hm;subst hm;intro x hx;rw [(List.mem_replicate.1 hx).2];exact jf1⟩
   have hlen:=jaO R.heap
   have key:∀ r:RS×GValue×Int,RngR r.1→rng r.2.1.n→RngR (if r.2.2=0 then (r.1.store p node r.2.1,(0:Int)) else (r.1,r.2.2)).1:=fun r g1 g2=>by
    split
    ·exact g1.store p node g2
    ·exact g1
   refine key _ ?_ ?_
   ·(repeat' split)<;>first | exact h | exact hf _
   ·(repeat' split)<;>first | exact jf1 | (show rng (_:Int);unfold rng;simp only;omega)
  rename_i e1 e2 e3
  split
  ·refine h.store p node (hv a (by rw [hla];simp) ?_)
   have e1:jan p.tree.nodes a≠21:=e1
   have e2:jan p.tree.nodes a≠19:=e2
   have e3:jan p.tree.nodes a≠20:=e3
   rcases hr with hr | hr | hr | hr
   ·exact hr
   ·exact (e2 hr).elim
   ·exact (e3 hr).elim
   ·exact (e1 hr).elim
  ·exact h
 split
 ·rename_i e1
  obtain ⟨a,ha,hr⟩:=sh.1.do_ e1
  have hla:(jak p node).l=[a]:=ha
  have ha0:=kid a (by rw [hla];simp)
  have hx:nth (jak p node).l 0=a:=by rw [hla];rfl
  rw [hx]
  exact h.call hs hc ha0.2 hr
 split
 ·rename_i e2
  obtain ⟨x,y,hxy,hx,hy⟩:=sh.1.two (.inr e2)
  have hxy:(jak p node).l=[x,y]:=hxy
  unfold RS.put
  simp only
  split
  ·exact h
  split
  ·exact h
  split
  ·exact h
  ·refine RngR.on ⟨h.sl,fun l hm=>?_⟩
   rcases jd8 hm with rfl | hm
   ·intro z hz
    rcases jd8 hz with rfl | hz
    ·rw [show nth (jak p node).l 1=y by rw [hxy];rfl]
     exact hv y (by rw [hxy];simp) hy
    ·rcases jqt R.heap (((jgh R.topF.slots (nth p.slots node.toNat) 4).n) - 1).toNat with e | e
     ·exact h.hp _ e z hz
     ·rw [e] at hz;cases hz
   ·exact h.hp l hm
 split
 ·rename_i e3
  split
  ·exact h.tells p jf1
  rename_i e4
  split
  ·exact h
  ·rcases sh.1.ret e3 with hl0 | ⟨a,hl0,hE⟩
   ·exact (e4 (by unfold jak;rw [hl0];rfl)).elim
   ·have hl0:(jak p node).l=[a]:=hl0
    rw [show nth (jak p node).l 0=a by rw [hl0];rfl]
    exact h.tells p (hv a (by rw [hl0];simp) hE)
 split
 ·exact h
 split
 ·split
  ·exact h
  ·exact RngR.on ⟨h.sl,h.hp⟩
 split
 ·split
  ·exact h.on.deeper _
  split
  ·exact h.on.deeper _
  ·exact h.on
 split
 ·split
  ·exact h.deeper _
  ·exact h.on
 ·exact h
theorem RngR.st {R:RS} (h:RngR R):RngS R.st:=⟨fun f hf=>h.sl f (List.mem_of_mem_take hf),h.hp⟩
theorem RngS.with {s:GState} (h:RngS s) (c t n:Int):RngS { s with status:=c,trap:=t,time:=n }:=⟨h.sl,h.hp⟩
theorem js4 {p:GProg} (hs:SOk p) {s:GState} (hI:StInv p s) (h:RngS s) {inp:List Int} (hi:∀ x∈inp,rng x):RngS (jbc p s inp):=by
 unfold jbc
 split
 ·exact h
 rename_i h0
 split
 ·exact ⟨h.sl,h.hp⟩
 simp only
 split
 ·exact ⟨h.sl,h.hp⟩
 ·have h2:¬ (s.status=2∨s.status=3):=fun hh=>h0 (by unfold jav;rw [if_pos hh];decide)
  have hd:=hI.doing (fun hh=>h2 (.inl hh)) 0 (by decide)
  obtain ⟨s0,s1,_⟩:=hd.stmt hs
  have hat:atV p (RS.of { s with status:=0 }).st=jav p s:=by rw [RS.of_st];unfold jav;rw [if_neg h2];rfl
  rw [hat] at s0 s1
  have hr:RngR (RS.of { s with status:=0 }):=⟨h.sl,h.hp⟩
  have:=hr.does hs hI.cells s0 s1 hi
  exact (RngR.settle _ (R:={ ((RS.of { s with status:=0 }).does p (jav p s) inp).1 with time:=s.time+1 }) ⟨this.sl,this.hp⟩).st
structure Fits (s:GState):Prop where
 frs:s.frames.length≤8
 heap:s.heap.length≤40
 out:s.out_.length≤24
 fr:∀ k,k < s.frames.length→(nth s.frames k).slots.length≤24∧(nth s.frames k).path.length≤300
 hp:∀ k,k < s.heap.length→(nth s.heap k).length≤40
theorem jit (a b:GState) (hf:Fits a):PCall Tryz.prog 21 [.agg (jai a),.agg (jai b)] (rB (decide (a=b))):=by
 have h1:=hf.frs
 have h2:=hf.heap
 have h3:=hf.out
 have no:∀ {q:Prop},¬ q→(a=b→q)→rB false=rB (decide (a=b)):=fun h1 h2=>by rw [decide_eq_false fun h=>h1 (h2 h)]
 refine jbA Tryz.func21 Tryz.ntmps21 ?_
 (repeat' (first|refine jaa fun K hK=>?_|refine wkA ?_|(refine hK _ _ ?_;clear hK K)|(refine jad (fun hc=>?_) (fun hc=>?_)<;>first | contradiction | (exfalso;omega) | skip)|refine wkB ?_|exact True.intro|(clear hK K)))
 ·(refine jaN [.tmp 4] ?_;try simp only [go_sem])
  exact (no (fun h=>h) fun e=>by subst e;revert hc;simp)
 have hln:(((((a.in_=b.in_∧a.status=b.status)∧a.trap=b.trap)∧a.time=b.time)∧a.frames.length=b.frames.length)∧a.heap.length=b.heap.length)∧a.out_.length=b.out_.length:=by
  revert hc;simp only [Classical.not_not,not_or,Int.natCast_inj];exact id
 obtain ⟨⟨⟨⟨⟨⟨q1,q2⟩,q3⟩,q4⟩,q5⟩,q6⟩,q7⟩:=hln
 clear hc
 have hKo:=hK;clear hK
 refine jah (S:=Nat) [(4,2),(66,18)] (fun k=>k≤a.out_.length∧∀ j,j < k→nth a.out_ j=nth b.out_ j) (fun k=>[(5,rI k)]) (fun k=>⟨[],[(0,.var 39 (jai a)),(1,.var 39 (jai b))]⟩) (fun k=>a.out_.length - k) 0 ⟨by omega,fun j h=>by omega⟩ (jaE rfl lle) ?_
 rintro k ⟨hk1,hk2⟩ Kr hKr
 by_cases hk:k < a.out_.length
 ·(refine S ?_;try exact True.intro)
  (repeat' (first|refine jaa fun K hK=>?_|refine wkA ?_|(with_reducible refine gR 6 ?_);refine dE 6 [0,1,2,3,4,5,6,7,8,9,10] mixed ?_|(refine hK _ _ ?_;clear hK K)|(refine jad (fun hc=>?_) (fun hc=>?_)<;>first | contradiction | (exfalso;omega) | skip)|refine wkB ?_|exact True.intro|(clear hK K)))
  ·(refine jaN [.tmp 4] ?_;try simp only [go_sem])
   exact no hc (fun e=>by rw [e])
  ·refine hKr _ _ (jau (k+1) ⟨by omega,fun j hj=>?_⟩ (by (try simp only);omega) (by simp only [go_sem]) lle)
   by_cases h:j < k
   ·exact hk2 j h
   ·rw [show j=k by omega];exact hc
 have e3:a.out_=b.out_:=jcr q7 fun j hj=>hk2 j (by omega)
 have hke:k=a.out_.length:=by omega
 subst hke
 (refine S ?_;try exact True.intro)
 (repeat' (first|refine jaa fun K hK=>?_|refine wkA ?_|(refine hK _ _ ?_;clear hK K)|(refine jad (fun hc=>?_) (fun hc=>?_)<;>first | contradiction | (exfalso;omega) | skip)|(refine hKo _ _ ?_)|refine wkB ?_|exact True.intro|(clear hK K)))
 have hKo:=hK;clear hK
 refine jah (S:=Nat) [(4,1),(6,2),(84,20)] (fun k=>k≤a.heap.length∧∀ j,j < k→nth a.heap j=nth b.heap j) (fun k=>[(6,rI k)]) (fun k=>⟨[],[(0,.var 39 (jai a)),(1,.var 39 (jai b))]⟩) (fun k=>a.heap.length - k) 0 ⟨by omega,fun j h=>by omega⟩ (jaE rfl lle) ?_
 rintro k ⟨hk1,hk2⟩ Kr hKr
 by_cases hk:k < a.heap.length
 ·have hin:=juS (nth a.heap k) (nth b.heap k) (by have:=hf.hp k hk;omega)
  (refine S ?_;try exact True.intro)
  (repeat' (first|refine jaa fun K hK=>?_|refine wkA ?_|(with_reducible refine gR 11 ?_);refine dE 11 [0,1,2,3,4,5,6,7,8,9,10,11] mixed ?_|(refine hK _ _ ?_;clear hK K)|(refine jad (fun hc=>?_) (fun hc=>?_)<;>first | contradiction | (exfalso;omega) | skip)|refine cp (hin) ?_|refine wkB ?_|exact True.intro|(clear hK K)))
  ·(refine jaN [.tmp 4] ?_;try simp only [go_sem])
   exact no hc (fun e=>by rw [e])
  ·refine hKr _ _ (jau (k+1) ⟨by omega,fun j hj=>?_⟩ (by (try simp only);omega) (by simp only [go_sem]) lle)
   by_cases h:j < k
   ·exact hk2 j h
   ·rw [show j=k by omega];exact hc
 have e4:a.heap=b.heap:=jcr q6 fun j hj=>hk2 j (by omega)
 have hke:k=a.heap.length:=by omega
 subst hke
 (refine S ?_;try exact True.intro)
 (repeat' (first|refine jaa fun K hK=>?_|refine wkA ?_|(refine hK _ _ ?_;clear hK K)|(refine jad (fun hc=>?_) (fun hc=>?_)<;>first | contradiction | (exfalso;omega) | skip)|(refine hKo _ _ ?_)|refine wkB ?_|exact True.intro|(clear hK K)))
 have hKo:=hK;clear hK
 refine jah (S:=Nat) [(4,1),(8,5),(104,76)] (fun k=>k≤a.frames.length∧∀ j,j < k→nth a.frames j=nth b.frames j) (fun k=>[(8,rI k)]) (fun k=>⟨[],[(0,.var 39 (jai a)),(1,.var 39 (jai b))]⟩) (fun k=>a.frames.length - k) 0 ⟨by omega,fun j h=>by omega⟩ (jaE rfl lle) ?_
 rintro k ⟨hk1,hk2⟩ Kr hKr
 by_cases hk:k < a.frames.length
 rotate_left
 ·have e5:a.frames=b.frames:=jcr q5 fun j hj=>hk2 j (by omega)
  have hke:k=a.frames.length:=by omega
  subst hke
  (refine S ?_;try exact True.intro)
  (repeat' (first|refine jaa fun K hK=>?_|refine wkA ?_|(refine hK _ _ ?_;clear hK K)|(refine jad (fun hc=>?_) (fun hc=>?_)<;>first | contradiction | (exfalso;omega) | skip)|(refine hKo _ _ ?_)|refine wkB ?_|exact True.intro|(clear hK K)))
  (refine jaN [.tmp 4] ?_;try simp only [go_sem])
  rw [decide_eq_true]
  cases a;cases b;simp_all
 obtain ⟨g1,g2⟩:=hf.fr k hk
 generalize hx:nth a.frames k=x at *
 generalize hy:nth b.frames k=y at *
 (refine S ?_;try exact True.intro)
 (have W:=And.intro hx (hy);repeat' (first|refine jaa fun K hK=>?_|refine wkA ?_|(refine hK _ _ ?_;clear hK K)|(refine jad (fun hc=>?_) (fun hc=>?_)<;>first | contradiction | (exfalso;omega) | skip)|refine al 2 ?_|refine al 3 ?_|refine wkB ?_|exact True.intro|(clear hK K)));all_goals (try clear W)
 ·(refine jaN [.tmp 4] ?_;try simp only [go_sem])
  exact no (fun h=>h) fun e=>by rw [e,hy] at hx;subst hx;revert hc;simp
 have hln:(x.fn=y.fn∧x.slots.length=y.slots.length)∧x.path.length=y.path.length:=by
  revert hc;simp only [Classical.not_not,not_or,Int.natCast_inj];exact id
 obtain ⟨⟨r1,r2⟩,r3⟩:=hln
 clear hc
 have hKb:=hK;clear hK
 refine jah (S:=Nat) [(4,1),(11,1),(144,18)] (fun i=>i≤x.slots.length∧∀ j,j < i→nth x.slots j=nth y.slots j) (fun i=>[(11,rI i)]) (fun i=>⟨[],[(0,.var 39 (jai a)),(1,.var 39 (jai b)),(2,.var 57 (jaJ x)),(3,.var 57 (jaJ y))]⟩) (fun i=>x.slots.length - i) 0 ⟨by omega,fun j h=>by omega⟩ (jaE rfl lle) ?_
 rintro i ⟨hi1,hi2⟩ Ks hKs
 by_cases hi:i < x.slots.length
 ·(refine S ?_;try exact True.intro)
  (repeat' (first|refine jaa fun K hK=>?_|refine wkA ?_|(with_reducible refine gR 24 ?_);refine dE 24 [0,1,2,3,4,5,6,7,8,9,10] mixed ?_|(refine hK _ _ ?_;clear hK K)|(refine jad (fun hc=>?_) (fun hc=>?_)<;>first | contradiction | (exfalso;omega) | skip)|refine wkB ?_|exact True.intro|(clear hK K)))
  ·(refine jaN [.tmp 4] ?_;try simp only [go_sem])
   exact no hc (fun e=>by rw [← hx,← hy,e])
  ·refine hKs _ _ (jau (i+1) ⟨by omega,fun j hj=>?_⟩ (by (try simp only);omega) (by simp only [go_sem]) lle)
   by_cases h:j < i
   ·exact hi2 j h
   ·rw [show j=i by omega];exact hc
 have e6:x.slots=y.slots:=jcr r2 fun j hj=>hi2 j (by omega)
 have hie:i=x.slots.length:=by omega
 subst hie
 (refine S ?_;try exact True.intro)
 (repeat' (first|refine jaa fun K hK=>?_|refine wkA ?_|(refine hK _ _ ?_;clear hK K)|(refine jad (fun hc=>?_) (fun hc=>?_)<;>first | contradiction | (exfalso;omega) | skip)|(refine hKb _ _ ?_)|refine wkB ?_|exact True.intro|(clear hK K)))
 have hKb:=hK;clear hK
 refine jah (S:=Nat) [(4,1),(12,1),(162,18)] (fun i=>i≤x.path.length∧∀ j,j < i→nth x.path j=nth y.path j) (fun i=>[(12,rI i)]) (fun i=>⟨[],[(0,.var 39 (jai a)),(1,.var 39 (jai b)),(2,.var 57 (jaJ x)),(3,.var 57 (jaJ y))]⟩) (fun i=>x.path.length - i) 0 ⟨by omega,fun j h=>by omega⟩ (jaE rfl lle) ?_
 rintro i ⟨hi1,hi2⟩ Ks hKs
 by_cases hi:i < x.path.length
 ·(refine S ?_;try exact True.intro)
  (repeat' (first|refine jaa fun K hK=>?_|refine wkA ?_|(with_reducible refine gR 29 ?_);refine dE 29 [0,1,2,3,4,5,6,7,8,9,10] mixed ?_|(refine hK _ _ ?_;clear hK K)|(refine jad (fun hc=>?_) (fun hc=>?_)<;>first | contradiction | (exfalso;omega) | skip)|refine wkB ?_|exact True.intro|(clear hK K)))
  ·(refine jaN [.tmp 4] ?_;try simp only [go_sem])
   exact no hc (fun e=>by rw [← hx,← hy,e])
  ·refine hKs _ _ (jau (i+1) ⟨by omega,fun j hj=>?_⟩ (by (try simp only);omega) (by simp only [go_sem]) lle)
   by_cases h:j < i
   ·exact hi2 j h
   ·rw [show j=i by omega];exact hc
 have e7:x.path=y.path:=jcr r3 fun j hj=>hi2 j (by omega)
 have hie:i=x.path.length:=by omega
 subst hie
 (refine S ?_;try exact True.intro)
 (repeat' (first|refine jaa fun K hK=>?_|refine wkA ?_|(refine hK _ _ ?_;clear hK K)|(refine jad (fun hc=>?_) (fun hc=>?_)<;>first | contradiction | (exfalso;omega) | skip)|(refine hKb _ _ ?_)|refine wkB ?_|exact True.intro|(clear hK K)))
 refine hKr _ _ (jid [2,3] (k+1) ⟨by omega,fun j hj=>?_⟩ (by (try simp only);omega) rfl Sd (by simp only [go_sem];(try rfl)) vtl)
 by_cases h:j < k
 ·exact hk2 j h
 ·rw [show j=k by omega,hx,hy];cases x;cases y;simp_all
theorem jmB {p:GProg} (hs:SOk p):∃ m:Nat,m < p.tree.fns.length∧jdU p=(m:Int)∧(nth p.tree.fns m).name=(⟨#[109,97,105,110]⟩:ByteArray)∧(nth p.tree.fns m).params.length=0:=by
 obtain ⟨j,hj,hmain⟩:=hs.names.main
 unfold jjn at hmain
 simp only [Bool.and_eq_true,decide_eq_true_eq] at hmain
 obtain ⟨⟨g1,g2⟩,_⟩:=hmain
 obtain ⟨f1,f2,f3⟩:=jmq GFunc.name (⟨#[109,97,105,110]⟩:ByteArray) p.tree.fns 0 ⟨_,jaP hj,g1⟩
 have e:(jcR GFunc.name (⟨#[109,97,105,110]⟩:ByteArray) p.tree.fns 0 - 0).toNat=(jdU p).toNat:=by unfold jdU;simp
 rw [e] at f3
 have hlo:0≤jdU p:=f1
 have hhi:jdU p < 0+p.tree.fns.length:=f2
 have hm:(jdU p).toNat < p.tree.fns.length:=by omega
 have hjm:j=(jdU p).toNat:=by
  rcases Nat.lt_trichotomy j (jdU p).toNat with h | h | h
  ·exact (hs.names.one _ _ h hm (by rw [g1,f3])).elim
  ·exact h
  ·exact (hs.names.one _ _ h hj (by rw [g1,f3])).elim
 exact ⟨(jdU p).toNat,hm,by omega,f3,by rw [← hjm];omega⟩
def jdm (p:GProg):RS:=RS.of { jhe with frames:=[jbi p (jdU p) []] }
theorem jcP {p:GProg} (hs:SOk p):After p (jdm p):=by
 obtain ⟨m,hm,hidx,_,hpar⟩:=jmB hs
 have hf:=(jfI hs hm (args:=[]) (by rw [hpar];rfl)).1
 refine ⟨⟨RS.of_ok _,?_,fun k hk=>?_,fun k hk=>?_,fun _=>?_⟩,?_,?_,?_,?_⟩
 ·show 1≤8;omega
 ·have hk:k < 1:=hk
  have:k=0:=by omega
  subst this
  show FrOk p (jbi p (jdU p) [])
  rw [hidx];exact hf
 ·have hk:k+1 < 1:=hk
  omega
 ·show 1≤1;omega
 ·show jbh []≤40;decide
 ·show 0≤24;omega
 ·show (0:Int)≤0;omega
 ·show (0:Int)≤1000;omega
theorem juh {p:GProg}:RngR (jdm p):=⟨fun f hf=>by
 have hf:f∈[jbi p (jdU p) []]:=hf
 rw [List.mem_singleton] at hf;subst hf
 exact jlH p _ fun v hv=>(by cases hv),fun l hl=>by cases hl⟩
theorem jkD (p:GProg):jiD p=((jdm p).settle p).st:=rfl
structure jja (p:GProg) (n:Nat) (s:GState):Prop where
 inv:StInv p s
 rng:RngS s
 t0:0≤s.time
 t1:s.time≤n
theorem jo6 {p:GProg} (hs:SOk p):jja p 0 (jiD p):=by
 have k:=jbJ p ((jdm p).left+1) (jdm p)
 have e:(jiD p).time=0:=k.time
 exact ⟨(jcP hs).settled,(RngR.settle _ juh).st,by omega,by omega⟩
structure Grew (R R':RS):Prop where
 time:R'.time=R.time
 frs:R.frs.length≤R'.frs.length
 heap:R.heap.length≤R'.heap.length
theorem Grew.refl (R:RS):Grew R R:=⟨rfl,Nat.le_refl _,Nat.le_refl _⟩
theorem Grew.trans {a b c:RS} (h:Grew a b) (k:Grew b c):Grew a c:=⟨k.time.trans h.time,Nat.le_trans h.frs k.frs,Nat.le_trans h.heap k.heap⟩
theorem jfK (R:RS) (k:Nat) (f:GFrame):Grew R (R.upd k f):=⟨rfl,Nat.le_of_eq RS.upd_len,Nat.le_refl _⟩
theorem jeq (R:RS):Grew R R.on:=jfK _ _ _
theorem jgr (R:RS) (p:GProg) (a:Int) (v:GValue):Grew R (R.store p a v):=(jfK R _ _).trans (jeq _)
theorem jjk (R:RS) (p:GProg) (v:GValue):Grew R (R.tells p v):=by
 have hp:Grew R R.pop:=⟨rfl,Nat.le_refl _,Nat.le_refl _⟩
 unfold RS.tells
 split
 ·exact ⟨rfl,Nat.le_refl _,Nat.le_refl _⟩
 split
 ·exact hp.trans ((jfK _ _ _).trans (jeq _))
 ·exact hp.trans (jeq _)
theorem jp0 (R:RS) (f:GFrame):Grew R (R.push f):=⟨rfl,by show R.frs.length≤(R.frs++[f]).length;simp,Nat.le_refl _⟩
theorem jk6 (R:RS) (p:GProg) (a:Int):Grew R (R.call p a).1:=by
 unfold RS.call
 simp only
 split
 ·exact .refl _
 split
 ·exact .refl _
 ·exact jp0 _ _
theorem jjj (R:RS) (p:GProg) (a:Int):Grew R (R.fresh p a).1:=by
 unfold RS.fresh
 simp only
 (repeat' split)<;>first | exact .refl _ | exact ⟨rfl,Nat.le_refl _,by simp⟩
theorem joK (R:RS) (p:GProg) (a:Int) (inp:List Int):Grew R (R.right p a inp).1:=by
 unfold RS.right
 simp only
 split
 ·exact jk6 _ _ _
 split
 ·exact (show Grew R { R with in_:=R.in_+1 } from ⟨rfl,Nat.le_refl _,Nat.le_refl _⟩).trans (jgr _ _ _ _)
 split
 ·split
  ·exact (jjj _ _ _).trans (jgr _ _ _ _)
  ·exact jjj _ _ _
 split
 ·exact jgr _ _ _ _
 ·exact .refl _
theorem jsc (R:RS) (p:GProg) (a:Int):Grew R (R.put p a).1:=by
 unfold RS.put
 simp only
 (repeat' split)<;>first | exact .refl _ | exact (show Grew R { R with heap:=R.heap.set _ _ } from ⟨rfl,Nat.le_refl _,by simp⟩).trans (jeq _)
theorem jfJ (R:RS) (p:GProg) (a:Int) (inp:List Int):Grew R (R.does p a inp).1:=by
 unfold RS.does
 simp only
 split
 ·exact joK _ _ _ _
 split
 ·exact jk6 _ _ _
 split
 ·exact jsc _ _ _
 split
 ·(repeat' split)<;>first | exact .refl _ | exact jjk _ _ _
 split
 ·exact .refl _
 split
 ·split
  ·exact .refl _
  ·exact (show Grew R { R with out_:=R.out_++[_] } from ⟨rfl,Nat.le_refl _,Nat.le_refl _⟩).trans (jeq _)
 split
 ·(repeat' split)<;>first | exact (jeq _).trans (jfK _ _ _) | exact jeq _
 split
 ·(repeat' split)<;>first | exact jfK _ _ _ | exact jeq _
 ·exact .refl _
theorem jcE (p:GProg):∀ (n:Nat) (R:RS),Grew R (jbf p n R)
 | 0,R=>.refl R
 | n+1,R=>by
  unfold jbf
  split
  ·exact .refl R
  split
  ·exact (jjk R p _).trans (jcE p n _)
  split
  ·exact .refl R
  ·exact (show Grew R R.cut from ⟨rfl,by show R.frs.length≤(R.frs.set _ _).length;simp,Nat.le_refl _⟩).trans (jcE p n _)
theorem jq7 {p:GProg} {s:GState} {inp:List Int}:(jbc p s inp).time=s.time∨(jbc p s inp).time=s.time+1:=by
 unfold jbc
 split
 ·exact .inl rfl
 split
 ·exact .inl rfl
 simp only
 split
 ·exact .inr rfl
 ·exact .inr (jbJ p _ _).time
theorem jq4 {p:GProg} (hs:SOk p) {n:Nat} {s:GState} (h:jja p n s) {inp:List Int} (hn:inp.length≤1000) (hi:∀ x∈inp,Go.Gd.rng x):jja p (n+1) (jbc p s inp):=by
 have ht:=@jq7 p s inp
 have:=h.t0
 have:=h.t1
 exact ⟨jq6 hs h.inv hn,js4 hs h.inv h.rng hi,by omega,by omega⟩
theorem jb1 {p:GProg} (hs:SOk p) {inp:List Int} (hn:inp.length≤1000) (hi:∀ x∈inp,Go.Gd.rng x):∀ n,jja p n (jbS p inp n)
 | 0=>jo6 hs
 | n+1=>jq4 hs (jb1 hs hn hi n) hn hi
theorem StInv.fits {p:GProg} (hs:SOk p) {s:GState} (h:StInv p s):Fits s:=by
 have h2:=jaO s.heap
 have h3:=h.cells
 refine ⟨h.inv.frs,by omega,h.outs,fun k hk=>?_,fun k hk=>?_⟩
 ·have hf:FrOk p (nth s.frames k):=h.inv.fr k hk
  have h0:=hf.f0
  have h1:=hf.f1
  have hz:=(hs.fns (nth s.frames k).fn.toNat (by omega)).hi
  have:=hf.sl
  exact ⟨by omega,hf.len hs⟩
 ·have:=jdM s.heap k hk;omega
end Go.Proofs.YtfkgcobaheegbaaGreatDoor

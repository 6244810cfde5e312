/- The plain law of the document's checker: an error is noted at a node. The document's checker: from a source. The plain law of the document's checker: what types are noted. The plain law of the document's checker: what types are noted, by statements and functions. The plain law of the document's checker: what a checked program is. No conditions. -/
import Derived.Test.YtfkgcobaheegbaaGreatDoorCk8
set_option linter.all false
namespace Go.Proofs.YtfkgcobaheegbaaGreatDoor
open Go Go.Gd
def isN (t:GTree) (a:Int):Prop:=0≤a∧a < t.nodes.length
def jy8 (c:Ck):Prop:=c.e=0∨c.e=44∨isN c.tree c.at_
def Kp (t:GTree) (c c':Ck):Prop:=c.tree=t→c'.tree=t∧(jy8 c→jy8 c')
theorem Kp.refl (t:GTree) (c:Ck):Kp t c c:=fun h=>⟨h,id⟩
theorem Kp.trans {t:GTree} {a b c:Ck} (h:Kp t a b) (k:Kp t b c):Kp t a c:=fun e=>⟨(k (h e).1).1,fun x=>(k (h e).1).2 ((h e).2 x)⟩
theorem jdg {t:GTree} {c c':Ck} (h1:c'.tree=c.tree) (h2:c'.e=c.e) (h3:c'.at_=c.at_):Kp t c c':=fun e=>⟨h1.trans e,fun h=>by unfold jy8 at *;rw [h1,h2,h3];exact h⟩
theorem jc5 {t:GTree} (c:Ck) (e:Int) {a:Int} (ha:isN t a):Kp t c (c.fails e a):=fun ht=>by
 unfold Ck.fails
 split
 ·refine ⟨ht,fun _=>.inr (.inr ?_)⟩
  show isN c.tree a
  rw [ht];exact ha
 ·exact ⟨ht,id⟩
theorem jdD {t:GTree} (c:Ck) (b:Bool) {a:Int} (ha:isN t a):Kp t c (c.must b a):=by
 unfold Ck.must
 split
 ·exact .refl t c
 ·exact jc5 c 42 ha
theorem jhz {t:GTree} (c:Ck) {a:Int} (ha:isN t a):Kp t c (c.named a).1:=by
 unfold Ck.named
 split
 ·exact jc5 c 40 ha
 ·exact jdg rfl rfl rfl
theorem jqu {α:Type} [Inhabited α] {l:List α} {i:Nat} (h:l.length≤i):nth l i=default:=by simp [nth,List.getD_eq_getElem?_getD,List.getElem?_eq_none h]
theorem jgt {t:GTree} (h:TreeOk t) {c:Ck} (hc:c.tree=t) {a:Int} (ha:isN t a) (i:Nat):isN t (c.kid a i):=by
 obtain ⟨h0,h1⟩:=ha
 unfold Ck.kid Ck.node
 rw [hc]
 by_cases hi:i < (nth t.nodes a.toNat).l.length
 ·have:=(h.shape a.toNat (by omega)).2.1 _ (jaP hi)
  unfold isN
  omega
 ·have:nth (nth t.nodes a.toNat).l i=0:=jqu (Nat.le_of_not_lt hi)
  rw [this]
  unfold isN
  omega
theorem jkb {t:GTree} (h:TreeOk t) {c:Ck} (hc:c.tree=t) {a:Int} (ha:isN t a):∀ x∈(c.node a).l,isN t x:=fun x hx=>by
 obtain ⟨h0,h1⟩:=ha
 unfold Ck.node at hx
 rw [hc] at hx
 have:=(h.shape a.toNat (by omega)).2.1 _ hx
 unfold isN
 omega
theorem jmy {t:GTree} {ex:Ck→Int→Ck×Int} (hex:∀ c a,isN t a→Kp t c (ex c a).1):∀ (l:List Int) (c:Ck) (ts:List Int),(∀ x∈l,isN t x)→Kp t c (jcu ex c l ts).1
 | [],c,ts,_=>by unfold jcu;exact .refl t c
 | a::l,c,ts,hl=>by
  unfold jcu
  split
  ·exact (hex c a (hl a (by simp))).trans (jmy hex l _ _ fun x hx=>hl x (by simp [hx]))
  ·exact .refl t c
theorem jnC {t:GTree} {a:Int} (ha:isN t a):∀ (ts:List Int) (ps:List GParam) (c:Ck),Kp t c (jbV a c ts ps)
 | [],ps,c=>by rw [jd2];exact .refl t c
 | _::_,[],c=>by rw [jd3];exact .refl t c
 | x::ts,p::ps,c=>by
  unfold jbV
  split
  ·exact (jdD c _ ha).trans (jnC ha ts ps _)
  ·exact .refl t c
theorem juY {t:GTree} (h:TreeOk t) {ex:Ck→Int→Ck×Int} (hex:∀ c a,isN t a→Kp t c (ex c a).1) (c:Ck) {a:Int} (ha:isN t a):Kp t c (jdo ex c a).1:=fun hc=>by
 refine (show Kp t c (jdo ex c a).1 from ?_) hc
 unfold jdo
 split
 ·exact jc5 c 40 ha
 ·refine Kp.trans ?_ (jnC ha _ _ _)
  split
  ·exact (jmy hex _ _ _ (jkb h hc ha)).trans (jc5 _ 43 ha)
  ·exact jmy hex _ _ _ (jkb h hc ha)
theorem jsl {t:GTree} (h:TreeOk t) {ex:Ck→Int→Ck×Int} (hex:∀ c a,isN t a→Kp t c (ex c a).1) (c:Ck) {a:Int} (ha:isN t a):Kp t c (jap ex c a).1:=fun hc=>by
 have k0:=jgt h hc ha 0
 have k1:=jgt h hc ha 1
 refine (show Kp t c (jap ex c a).1 from ?_) hc
 unfold jap
 simp only
 repeat' split
 all_goals first
  | exact .refl t c
  | exact jhz c ha
  | exact juY h hex c ha
  | exact ((jhz c ha).trans (hex _ _ k0)).trans (jdD _ _ ha)
  | exact ((hex c _ k0).trans (hex _ _ k1)).trans (jdD _ _ ha)
  | exact (hex c _ k0).trans (jdD _ _ ha)
theorem jp7 {t:GTree} (h:TreeOk t):∀ (n:Nat) (c:Ck) (a:Int),isN t a→Kp t c (jae n c a).1
 | 0,c,a,ha=>by unfold jae;exact .refl t c
 | n+1,c,a,ha=>by
  unfold jae
  split
  ·exact .refl t c
  ·exact (jsl h (jp7 h n) c ha).trans (jdg rfl rfl rfl)
theorem jx1 {t:GTree} (h:TreeOk t) {ex:Ck→Int→Ck×Int} (hex:∀ c a,isN t a→Kp t c (ex c a).1) (c:Ck) {a:Int} (ha:isN t a):Kp t c (jrB ex c a):=fun hc=>by
 have k0:=jgt h hc ha 0
 refine (show Kp t c (jrB ex c a) from ?_) hc
 rw [jlf]
 have kA:Kp t c (jhA ex c a):=(hex c _ k0).trans (jdD _ _ ha)
 have kB:Kp t c (jjp ex c a):=by
  unfold jjp
  split
  ·exact kA.trans (jc5 _ 41 ha)
  ·exact kA
 have kC:Kp t c (jc6 ex c a):=by
  unfold jc6
  split
  ·exact kB.trans (jc5 _ 4 ha)
  ·exact kB
 exact kC.trans (jdg rfl rfl rfl)
theorem joN {t:GTree} (h:TreeOk t) {ex:Ck→Int→Ck×Int} (hex:∀ c a,isN t a→Kp t c (ex c a).1) (c:Ck) {a:Int} (ha:isN t a):Kp t c (jbD ex c a):=fun hc=>by
 have k0:=jgt h hc ha 0
 refine (show Kp t c (jbD ex c a) from ?_) hc
 unfold jbD
 simp only
 split
 ·exact jc5 c 43 ha
 split
 ·exact (hex c _ k0).trans (jdD _ _ ha)
 ·exact .refl t c
theorem jkc {t:GTree} {st:Ck→Int→Ck} (hst:∀ c a,isN t a→Kp t c (st c a)):∀ (l:List Int) (c:Ck),(∀ x∈l,isN t x)→Kp t c (jaI st c l)
 | [],c,_=>by unfold jaI;exact .refl t c
 | a::l,c,hl=>by
  unfold jaI
  split
  ·exact (hst c a (hl a (by simp))).trans (jkc hst l _ fun x hx=>hl x (by simp [hx]))
  ·exact .refl t c
theorem jnA {t:GTree} (h:TreeOk t) {st:Ck→Int→Ck} (hst:∀ c a,isN t a→Kp t c (st c a)) (c:Ck) {a:Int} (ha:isN t a):Kp t c (ja0 st c a):=fun hc=>by
 refine (show Kp t c (ja0 st c a) from ?_) hc
 have h1:Kp t c (c.noteF a):=jdg rfl rfl rfl
 exact (h1.trans (jkc hst _ _ (jkb h hc ha))).trans (jdg rfl rfl rfl)
theorem jg1 {t:GTree} (h:TreeOk t):∀ (n:Nat) (c:Ck) (a:Int),isN t a→Kp t c (jaf n c a)
 | 0,c,a,ha=>by unfold jaf;exact .refl t c
 | n+1,c,a,ha=>fun hc=>by
  have k0:=jgt h hc ha 0
  have k1:=jgt h hc ha 1
  have kl:=jkb h hc ha
  refine (show Kp t c (jaf (n+1) c a) from ?_) hc
  have e0:Kp t c (c.noteF a):=jdg rfl rfl rfl
  have hx:=jp7 h n
  unfold jaf
  simp only
  refine e0.trans ?_
  repeat' split
  ·exact jx1 h hx _ ha
  ·exact ((jhz _ ha).trans (hx _ _ k0)).trans (jdD _ _ ha)
  ·exact (((jhz _ ha).trans (hx _ _ k0)).trans (hx _ _ k1)).trans (jdD _ _ ha)
  ·exact hx _ _ k0
  ·exact (hx _ _ k0).trans (jdD _ _ ha)
  ·exact joN h hx _ ha
  ·exact ((hx _ _ k0).trans (jdD _ _ ha)).trans (jkc (fun c a ha=>jnA h (jg1 h n) c ha) _ _ fun x hx'=>kl x (List.mem_of_mem_drop hx'))
theorem jlc {t:GTree} {body:Int} (hb:isN t body):∀ (ps:List GParam) (c:Ck) (i:Int),Kp t c (jaQ body c ps i)
 | [],c,i=>by unfold jaQ;exact .refl t c
 | p::ps,c,i=>by
  unfold jaQ
  simp only
  refine Kp.trans ?_ (jlc hb ps _ _)
  split
  ·exact (jc5 c 41 hb).trans (jdg rfl rfl rfl)
  ·exact jdg rfl rfl rfl
theorem jeN {t:GTree} (h:TreeOk t) {k:Nat} (hk:k < t.fns.length):isN t (nth t.fns k).body:=by
 have:=h.chain.mem (nth t.fns k).body (List.mem_map.2 ⟨_,jaP hk,rfl⟩)
 unfold isN
 omega
theorem jmz {t:GTree} (h:TreeOk t) (c:Ck) {k:Nat} (hk:k < t.fns.length):Kp t c (jaF c k):=fun hc=>by
 refine (show Kp t c (jaF c k) from ?_) hc
 have hb:isN t (nth c.tree.fns k).body:=by rw [hc];exact jeN h hk
 have h1:Kp t c (jaQ (nth c.tree.fns k).body { c with fn:=(k:Int),vars:=[],more:=[],size:=0 } (nth c.tree.fns k).params 0):=Kp.trans (b:={ c with fn:=(k:Int),vars:=[],more:=[],size:=0 }) (jdg rfl rfl rfl) (jlc hb _ _ _)
 unfold jaF
 simp only
 split
 ·exact (h1.trans (jnA h (jg1 h _) _ hb)).trans (jdg rfl rfl rfl)
 ·exact h1.trans (jdg rfl rfl rfl)
theorem jg0 {t:GTree} (h:TreeOk t):∀ (n:Nat) (c:Ck) (i:Nat),i+n≤t.fns.length→Kp t c (jaz c i n)
 | 0,c,i,_=>by unfold jaz;exact .refl t c
 | n+1,c,i,hi=>by
  unfold jaz
  split
  ·exact (jmz h c (by omega)).trans (jg0 h n _ _ (by omega))
  ·exact .refl t c
theorem jnB {t:GTree} {x:GFunc} (hx:isN t x.body):∀ (l:List GFunc) (c:Ck),Kp t c (jdl x c l)
 | [],c=>by unfold jdl;exact .refl t c
 | f::l,c=>by
  unfold jdl
  refine Kp.trans ?_ (jnB hx l _)
  split
  ·exact jc5 c 41 hx
  ·exact .refl t c
theorem jlb {t:GTree} (h:TreeOk t):∀ (n:Nat) (c:Ck) (m:Bool) (i:Nat),i+n≤t.fns.length→Kp t c (jcS t.fns c m i n).1
 | 0,c,m,i,_=>by unfold jcS;exact .refl t c
 | n+1,c,m,i,hi=>by
  unfold jcS
  exact (jnB (jeN h (by omega)) _ _).trans (jlb h n _ _ _ (by omega))
theorem jsk {t:GTree} (h:TreeOk t) (c:Ck):Kp t c (jcp c):=fun hc=>by
 have h1:Kp t c (jcS c.tree.fns c false 0 c.tree.fns.length).1:=by rw [hc];exact jlb h _ _ _ _ (by omega)
 refine (show Kp t c (jcp c) from ?_) hc
 unfold jcp
 simp only
 split
 ·exact h1
 ·refine h1.trans fun hq=>?_
  unfold Ck.fails
  split
  ·exact ⟨hq,fun _=>.inr (.inl rfl)⟩
  ·exact ⟨hq,id⟩
theorem jrW {t:GTree} (h:TreeOk t):jy8 (jcQ t)∧(jcQ t).tree=t:=by
 have k:Kp t (ck0 t) (jcQ t):=(jsk h (ck0 t)).trans (jg0 h _ _ _ (by omega))
 exact ⟨(k rfl).2 (.inl rfl),(k rfl).1⟩
theorem jmb {t:GTree} (h:TreeOk t):(ja4 t).2.2=0∨(ja4 t).2.2=44∨isN t (ja4 t).2.1:=by
 obtain ⟨a,b⟩:=jrW h
 unfold ja4
 split
 ·rcases a with a | a | a
  ·exact .inl a
  ·exact .inr (.inl a)
  ·rw [b] at a;exact .inr (.inr a)
 ·exact .inl rfl
set_option maxHeartbeats 4000000 in
set_option maxRecDepth 10000 in
theorem jhD (s:ByteArray) (hs:s.size≤1000000):PCall Tryz.prog 16 [rS s] (.tup [.agg (jam (jbO s).1),rI (jbO s).2.1,rI (jbO s).2.2]):=by
 have hp:=jve s hs
 by_cases h1:(jaR s).2.2=0
 ·have ht:=jnX h1
  have hk:=jxW (jaR s).1 ht
  have hat:=jmb ht
  by_cases h2:(ja4 (jaR s).1).2.2=44
  ·have e:jbO s=(jdW,0,44):=by unfold jbO;rw [if_neg (fun h=>h h1)];simp only;rw [if_pos h2]
   rw [e]
   refine jbA Tryz.func16 Tryz.ntmps16 ?_
   (have W:=And.intro h1 (h2);repeat' (first|refine jaa fun K hK=>?_|refine wkA ?_|(refine hK _ _ ?_;clear hK K)|(refine jad (fun hc=>?_) (fun hc=>?_)<;>first | contradiction | (exfalso;omega) | skip)|refine cp (hp) ?_|refine cp (hk) ?_|refine wkB ?_|exact True.intro|(clear hK K)));all_goals (try clear W)
   refine jlF [.cell 2 29,.tmp 3,.tmp 4] ?_
   refine VToL.tup (ds:=[.agg (jam jdW),rI _,rI _]) ?_
   refine And.intro (VToL.agg (ds:=jam jdW) ?_) (And.intro (.same _ rfl) (And.intro (.same _ rfl) trivial))
   simp only [jam,jdW]
   exact vtl
  ·by_cases h3:(ja4 (jaR s).1).2.2=0
   ·have e:jbO s=((ja4 (jaR s).1).1,0,0):=by unfold jbO;rw [if_neg (fun h=>h h1)];simp only;rw [if_neg h2,if_neg (fun h=>h h3)]
    rw [e]
    refine jbA Tryz.func16 Tryz.ntmps16 ?_
    (have W:=And.intro h1 (h3);repeat' (first|refine jaa fun K hK=>?_|refine wkA ?_|(refine hK _ _ ?_;clear hK K)|(refine jad (fun hc=>?_) (fun hc=>?_)<;>first | contradiction | (exfalso;omega) | skip)|refine cp (hp) ?_|refine cp (hk) ?_|refine wkB ?_|exact True.intro|(clear hK K)));all_goals (try clear W)
    (refine jaN [.cell 2 29,.tmp 3,.tmp 4] ?_;try simp only [go_sem])
   ·have e:jbO s=(jdW,(nth (jaR s).1.nodes (ja4 (jaR s).1).2.1.toNat).line,(ja4 (jaR s).1).2.2):=by unfold jbO;rw [if_neg (fun h=>h h1)];simp only;rw [if_neg h2,if_pos h3]
    obtain ⟨hn1,hn2⟩:=(hat.resolve_left h3).resolve_left h2
    rw [e]
    refine jbA Tryz.func16 Tryz.ntmps16 ?_
    (have W:=And.intro h1 (And.intro h2 (h3));repeat' (first|refine jaa fun K hK=>?_|refine wkA ?_|(with_reducible refine gR 8 ?_);refine dA 8 [0] [0,1,2,3,4,5,6,7,8,9,10] mixed ?_|(refine hK _ _ ?_;clear hK K)|(refine jad (fun hc=>?_) (fun hc=>?_)<;>first | contradiction | (exfalso;omega) | skip)|refine cp (hp) ?_|refine cp (hk) ?_|refine wkB ?_|exact True.intro|(clear hK K)));all_goals (try clear W)
    refine jlF [.cell 2 29,.tmp 3,.tmp 4] ?_
    refine VToL.tup (ds:=[.agg (jam jdW),rI _,rI _]) ?_
    refine And.intro (VToL.agg (ds:=jam jdW) ?_) (And.intro (.same _ rfl) (And.intro (.same _ rfl) trivial))
    simp only [jam,jdW]
    exact vtl
 ·have e:jbO s=(jdW,(jaR s).2.1,(jaR s).2.2):=by unfold jbO;rw [if_pos h1]
  rw [e]
  refine jbA Tryz.func16 Tryz.ntmps16 ?_
  (have W:=h1;repeat' (first|refine jaa fun K hK=>?_|refine wkA ?_|(refine hK _ _ ?_;clear hK K)|(refine jad (fun hc=>?_) (fun hc=>?_)<;>first | contradiction | (exfalso;omega) | skip)|refine cp (hp) ?_|refine wkB ?_|exact True.intro|(clear hK K)));all_goals (try clear W)
  refine jlF [.cell 2 29,.tmp 3,.tmp 4] ?_
  refine VToL.tup (ds:=[.agg (jam jdW),rI _,rI _]) ?_
  refine And.intro (VToL.agg (ds:=jam jdW) ?_) (And.intro (.same _ rfl) (And.intro (.same _ rfl) trivial))
  simp only [jam,jdW]
  exact vtl
theorem jig {α:Type} [Inhabited α] (l:List α) (i k:Nat) (v:α):nth (l.set i v) k=if i=k∧k < l.length then v else nth l k:=by
 unfold nth
 rw [List.getD_eq_getElem?_getD,List.getElem?_set,List.getD_eq_getElem?_getD]
 by_cases h:i=k
 ·subst h
  by_cases hi:i < l.length
  ·simp [hi]
  ·simp [hi]
 ·simp [h]
structure TyE (t:GTree) (ty:List Int) (k:Nat):Prop where
 int:(nth t.nodes k).kind=1→nth ty k=1
 bool:(nth t.nodes k).kind=2→nth ty k=2
 text:(nth t.nodes k).kind=3→nth ty k=3
 var:(nth t.nodes k).kind=4→1≤nth ty k∧nth ty k≤4
 index:(nth t.nodes k).kind=5→nth ty k=1∧nth ty (nth (nth t.nodes k).l 0).toNat=1
 len:(nth t.nodes k).kind=6→nth ty k=1∧(nth ty (nth (nth t.nodes k).l 0).toNat=3∨nth ty (nth (nth t.nodes k).l 0).toNat=4)
 neg:(nth t.nodes k).kind=7→nth ty k=1∧nth ty (nth (nth t.nodes k).l 0).toNat=1
 not:(nth t.nodes k).kind=8→nth ty k=2∧nth ty (nth (nth t.nodes k).l 0).toNat=2
 bin:(nth t.nodes k).kind=9→nth ty k=jgT (nth t.nodes k).name (nth ty (nth (nth t.nodes k).l 0).toNat) (nth ty (nth (nth t.nodes k).l 1).toNat)∧nth ty k≠0
 cond:(nth t.nodes k).kind=15∨(nth t.nodes k).kind=16→nth ty (nth (nth t.nodes k).l 0).toNat=2
 call:(nth t.nodes k).kind=21→0≤jdh GFunc.name (nth t.nodes k).name t.fns 0 (-1)∧(nth t.nodes k).l.length=(nth t.fns (jdh GFunc.name (nth t.nodes k).name t.fns 0 (-1)).toNat).params.length
 in_:(nth t.nodes k).kind=19→nth ty k=1
 new:(nth t.nodes k).kind=20→nth ty k=4
 let_:(nth t.nodes k).kind=10→1≤nth ty (nth (nth t.nodes k).l 0).toNat∧nth ty (nth (nth t.nodes k).l 0).toNat≤4
def TyAll (t:GTree) (ty:List Int) (lo hi:Nat):Prop:=∀ k,lo≤k→k < hi→TyE t ty k
def Tw (lo hi:Nat) (c c':Ck):Prop:=∀ k,(k < lo∨hi≤k)→nth c'.types k=nth c.types k
theorem _root_.Go.Gd.Chain.closed {t:List GNode} {lo hi:Nat} {L:List Int} (h:Chain t lo L hi):∀ k,lo≤k→k < hi→∀ a∈(nth t k).l,lo≤a.toNat:=by
 induction h with
 | nil=>intro k h1 h2;omega
 | @cons lo c hi L hc h1 h2 i1 i2=>
  intro k hk1 hk2 a ha
  have l1:=h1.le
  by_cases h:k < c
  ·exact i1 k hk1 h a ha
  by_cases h':k=c
  ·subst h'
   exact (h1.mem a ha).2.1
  ·have:=i2 k (by omega) hk2 a ha
   omega
theorem TyE.keep {t:GTree} (h:TreeOk t) {ty ty':List Int} {k lo:Nat} (hk:k < t.nodes.length) (hlo:lo≤k) (hc:∀ a∈(nth t.nodes k).l,lo≤a.toNat) (he:∀ i,lo≤i→i≤k→nth ty' i=nth ty i) (x:TyE t ty k):TyE t ty' k:=by
 have hm:=(h.shape k hk).2.1
 have sh:=(h.shape k hk).1
 have e0:=he k hlo (Nat.le_refl _)
 have ea:∀ i,i < (nth t.nodes k).l.length→nth ty' (nth (nth t.nodes k).l i).toNat=nth ty (nth (nth t.nodes k).l i).toNat:=fun i hi=>by
  have hmem:=jaP hi
  have:=hm _ hmem
  exact he _ (hc _ hmem) (by omega)
 refine ⟨fun e=>by rw [e0];exact x.int e,fun e=>by rw [e0];exact x.bool e,fun e=>by rw [e0];exact x.text e,fun e=>by rw [e0];exact x.var e,fun e=>?_,fun e=>?_,fun e=>?_,fun e=>?_,fun e=>?_,fun e=>?_,x.call,fun e=>by rw [e0];exact x.in_ e,fun e=>by rw [e0];exact x.new e,fun e=>?_⟩
 ·obtain ⟨a,hl,_⟩:=sh.one (by omega)
  rw [e0,ea 0 (by rw [hl];simp)];exact x.index e
 ·obtain ⟨a,hl,_⟩:=sh.one (by omega)
  rw [e0,ea 0 (by rw [hl];simp)];exact x.len e
 ·obtain ⟨a,hl,_⟩:=sh.one (by omega)
  rw [e0,ea 0 (by rw [hl];simp)];exact x.neg e
 ·obtain ⟨a,hl,_⟩:=sh.one (by omega)
  rw [e0,ea 0 (by rw [hl];simp)];exact x.not e
 ·obtain ⟨a,b,hl,_⟩:=sh.two (by omega)
  rw [e0,ea 0 (by rw [hl];simp),ea 1 (by rw [hl];simp)];exact x.bin e
 ·have hl:0 < (nth t.nodes k).l.length:=by
   rcases e with e | e
   ·obtain ⟨a,b,_,_,hl | ⟨d,hl,_⟩⟩:=sh.if_ e<;>rw [hl]<;>simp
   ·obtain ⟨a,b,hl,_⟩:=sh.while_ e;rw [hl];simp
  rw [ea 0 hl];exact x.cond e
 ·obtain ⟨a,hl,_⟩:=sh.right (by omega)
  rw [ea 0 (by rw [hl];simp)];exact x.let_ e
theorem TyAll.keep {t:GTree} (h:TreeOk t) {ty ty':List Int} {lo hi:Nat} {L:List Int} (hc:Chain t.nodes lo L hi) (hl:hi≤t.nodes.length) (he:∀ i,lo≤i→i < hi→nth ty' i=nth ty i) (x:TyAll t ty lo hi):TyAll t ty' lo hi:=fun k h1 h2=>
 (x k h1 h2).keep h (by omega) h1 (hc.closed k h1 h2) fun i g1 g2=>he i g1 (by omega)
theorem TyAll.join {t:GTree} {ty:List Int} {lo mid hi:Nat} (x:TyAll t ty lo mid) (y:TyAll t ty mid hi):TyAll t ty lo hi:=fun k h1 h2=>by
 by_cases h:k < mid
 ·exact x k h1 h
 ·exact y k (by omega) h2
theorem TyAll.none {t:GTree} {ty:List Int} {lo:Nat}:TyAll t ty lo lo:=fun k h1 h2=>by omega
theorem Tw.refl (lo hi:Nat) (c:Ck):Tw lo hi c c:=fun _ _=>rfl
theorem Tw.same {lo hi:Nat} {c c':Ck} (h:c'.types=c.types):Tw lo hi c c':=fun _ _=>by rw [h]
theorem Tw.trans {lo hi:Nat} {a b c:Ck} (h:Tw lo hi a b) (k:Tw lo hi b c):Tw lo hi a c:=fun i hi=>(k i hi).trans (h i hi)
theorem Tw.mono {lo hi lo' hi':Nat} {a b:Ck} (h:Tw lo hi a b) (h1:lo'≤lo) (h2:hi≤hi'):Tw lo' hi' a b:=fun i hi=>h i (by omega)
theorem jfk (c:Ck) (e a:Int):(c.fails e a).types=c.types:=by unfold Ck.fails;split<;>rfl
theorem jaX (c:Ck) (b:Bool) (a:Int):(c.must b a).types=c.types:=by unfold Ck.must;split;rfl;exact jfk _ _ _
theorem jbt {c:Ck} {b:Bool} {a:Int} (h:(c.must b a).e=0):b=true∧c.e=0:=by
 unfold Ck.must at h
 split at h
 ·exact ⟨by assumption,h⟩
 ·exfalso
  unfold Ck.fails at h
  split at h
  ·cases h
  ·contradiction
theorem jcK {c:Ck} {e a:Int} (he:e≠0) (h:(c.fails e a).e=0):False:=by
 unfold Ck.fails at h
 split at h
 ·exact he h
 ·contradiction
theorem jea (c:Ck) (a:Int):(c.named a).1.types=c.types:=by unfold Ck.named;split;exact jfk _ _ _;rfl
def VarsT (c:Ck):Prop:=∀ v∈c.vars,1≤v.ty∧v.ty≤4
theorem VarsT.ev {c c':Ck} (h:VarsT c) (s:Ev c c'):VarsT c':=by unfold VarsT;rw [s.vars];exact h
theorem jst {c:Ck} (h:VarsT c) {a:Int} (he:(c.named a).1.e=0):1≤(c.named a).2∧(c.named a).2≤4:=by
 unfold Ck.named at he ⊢
 split
 ·rename_i hf
  rw [if_pos hf] at he
  exact (jcK (by decide) he).elim
 ·rename_i hf
  rcases jj6 GVar.name (c.node a).name c.vars 0 (by omega) with ⟨h1,_⟩ | h1
  ·exact (hf (by show jcR GVar.name (c.node a).name c.vars 0 < 0;rw [h1];decide)).elim
  ·exact h _ (jaP (by show (jcR GVar.name (c.node a).name c.vars 0).toNat < _;omega))
theorem Ev.e0 {c c':Ck} (s:Ev c c') (h:c'.e=0):c.e=0:=Classical.byContradiction fun e=>s.err e h
structure TyR (t:GTree) (lo hi:Nat) (c c':Ck):Prop where
 tw:Tw lo hi c c'
 all:TyAll t c'.types lo hi
theorem TyR.post {t:GTree} {lo hi:Nat} {a b c:Ck} (h:TyR t lo hi a b) (e:c.types=b.types):TyR t lo hi a c:=⟨h.tw.trans (.same e),by rw [e];exact h.all⟩
theorem TyR.pre {t:GTree} {lo hi:Nat} {a b c:Ck} (e:b.types=a.types) (h:TyR t lo hi b c):TyR t lo hi a c:=⟨(Tw.same e).trans h.tw,h.all⟩
theorem TyR.seq {t:GTree} (ht:TreeOk t) {lo mid hi:Nat} {L:List Int} {a b c:Ck} (hc:Chain t.nodes lo L mid) (hl:mid≤t.nodes.length) (h1:mid≤hi) (h:TyR t lo mid a b) (k:TyR t mid hi b c):TyR t lo hi a c:=
 ⟨(h.tw.mono (Nat.le_refl _) h1).trans (k.tw.mono hc.le (Nat.le_refl _)),(h.all.keep ht hc hl fun i _ h2=>k.tw i (.inl h2)).join k.all⟩
def ExT (t:GTree) (n:Nat):Prop:=∀ (c:Ck) (a:Int) (lo:Nat),CkIn c→c.tree=t→VarsT c→0≤a→a < t.nodes.length→a.toNat < n→isR (jan t.nodes a)→Chain t.nodes lo (nth t.nodes a.toNat).l a.toNat→(jae n c a).1.e=0→
 TyR t lo (a.toNat+1) c (jae n c a).1∧nth (jae n c a).1.types a.toNat=(jae n c a).2∧0≤(jae n c a).2∧(jae n c a).2≤4
theorem jfE {t:List GNode} {lo hi:Nat} {a:Int} (h:Chain t lo [a] hi):0≤a∧a < t.length∧lo≤a.toNat∧hi=a.toNat+1∧Chain t lo (nth t a.toNat).l a.toNat:=by
 cases h with
 | cons hc h1 h2=>
  cases h2
  exact ⟨by omega,by omega,by have:=h1.le;simpa using this,by simp,by simpa using h1⟩
theorem jei {t:List GNode} {lo hi:Nat} {a:Int} {L:List Int} (h:Chain t lo (a::L) hi):0≤a∧a < t.length∧lo≤a.toNat∧a.toNat+1≤hi∧Chain t lo (nth t a.toNat).l a.toNat∧Chain t (a.toNat+1) L hi:=by
 cases h with
 | cons hc h1 h2=>exact ⟨by omega,by omega,by have:=h1.le;simpa using this,by have:=h2.le;simpa using this,by simpa using h1,by simpa using h2⟩
theorem Chain.one' {t:List GNode} {lo:Nat} {a:Int} (h0:0≤a) (h1:a < t.length) (h:Chain t lo (nth t a.toNat).l a.toNat):Chain t lo [a] (a.toNat+1):=by
 have e:a=((a.toNat:Nat):Int):=by omega
 rw [e]
 exact Chain.one (by omega) (by simpa using h)
theorem jrg {t:GTree} (ht:TreeOk t) {n:Nat} (hx:ExT t n):∀ (L:List Int) (c:Ck) (ts:List Int) (lo hi:Nat),CkIn c→c.tree=t→VarsT c→hi≤n→hi≤t.nodes.length→(∀ x∈L,isR (jan t.nodes x))→Chain t.nodes lo L hi→(jcu (jae n) c L ts).1.e=0→TyR t lo hi c (jcu (jae n) c L ts).1
 | [],c,ts,lo,hi,h,hc,hv,hn,hl,hr,hch,he=>by
  cases hch
  unfold jcu
  exact ⟨.refl _ _ _,.none⟩
 | a::L,c,ts,lo,hi,h,hc,hv,hn,hl,hr,hch,he=>by
  have e0:=(jfi (jaA n) (a::L) c ts).e0 he
  unfold jcu at he ⊢
  rw [if_pos e0] at he ⊢
  obtain ⟨c1,c2,c3,c4,c5,c6⟩:=jei hch
  have ev:=jaA n c a
  have e1:=(jfi (jaA n) L _ _).e0 he
  have r1:=(hx c a lo h hc hv c1 c2 (by omega) (hr a (by simp)) c5 e1).1
  exact r1.seq ht (Chain.one' c1 c2 c5) (by omega) (by omega) (jrg ht hx L _ _ _ hi (h.ev ev) (ev.tree.trans hc) (hv.ev ev) hn hl (fun x hx=>hr x (by simp [hx])) c6 he)
theorem jiL (a:Int):∀ (ts:List Int) (ps:List GParam) (c:Ck),(jbV a c ts ps).types=c.types
 | [],ps,c=>by rw [jd2]
 | _::_,[],c=>by rw [jd3]
 | x::ts,p::ps,c=>by
  unfold jbV
  split
  ·rw [jiL a ts ps _];exact jaX _ _ _
  ·rfl
theorem jvL {t:GTree} (ht:TreeOk t) {n:Nat} (hx:ExT t n) {c:Ck} {a:Int} {lo:Nat} (h:CkIn c) (hc:c.tree=t) (hv:VarsT c) (h0:0≤a) (h1:a < t.nodes.length) (hn:a.toNat≤n) (hk:(nth t.nodes a.toNat).kind=21) (hch:Chain t.nodes lo (nth t.nodes a.toNat).l a.toNat) (he:(jdo (jae n) c a).1.e=0) :
  TyR t lo a.toNat c (jdo (jae n) c a).1∧(0≤(jdo (jae n) c a).2∧(jdo (jae n) c a).2≤4)∧0≤jdh GFunc.name (nth t.nodes a.toNat).name t.fns 0 (-1)∧(nth t.nodes a.toNat).l.length=(nth t.fns (jdh GFunc.name (nth t.nodes a.toNat).name t.fns 0 (-1)).toNat).params.length:=by
 have hnode:c.node a=nth t.nodes a.toNat:=by unfold Ck.node;rw [hc]
 have hcall:=(ht.shape a.toNat (by omega)).1.call hk
 unfold jdo at he ⊢
 split at he
 ·exact (jcK (by decide) he).elim
 rename_i hf
 rw [if_neg hf]
 simp only at he ⊢
 have e1:=(jhx a _ _ _).e0 he
 split at e1
 ·exact (jcK (by decide) e1).elim
 rename_i hl
 rw [if_neg hl]
 have r:=jrg ht hx (c.node a).l c [] lo a.toNat h hc hv hn (by omega) (fun x hx'=>.inl (hcall x (by rw [← hnode];exact hx'))) (by rw [hnode];exact hch) e1
 have hcal:jaG c a=jdh GFunc.name (nth t.nodes a.toNat).name t.fns 0 (-1):=by unfold jaG;rw [hnode,hc]
 refine ⟨r.post (jiL _ _ _ _),?_,by rw [← hcal];omega,by rw [← hcal,← hnode,← hc];omega⟩
 have hfn:(nth c.tree.fns (jaG c a).toNat)∈c.tree.fns∨(nth c.tree.fns (jaG c a).toNat)=default:=by
  by_cases hi:(jaG c a).toNat < c.tree.fns.length
  ·exact .inl (jaP hi)
  ·exact .inr (jqu (Nat.le_of_not_lt hi))
 rcases hfn with hfn | hfn
 ·exact (ht.fn _ (by rw [← hc];exact hfn)).1.ret
 ·rw [hfn];decide
theorem juj (s:ByteArray) (a b:Int):0≤jgT s a b∧jgT s a b≤4:=by
 unfold jgT
 repeat' split
 all_goals omega
theorem jvM {t:GTree} (ht:TreeOk t) {c c':Ck} {a T:Int} {lo:Nat} (hl:c'.types.length=t.nodes.length) (h0:0≤a) (h1:a < t.nodes.length) (hch:Chain t.nodes lo (nth t.nodes a.toNat).l a.toNat) (r:TyR t lo a.toNat c c') (hT:TyE t (c'.types.set a.toNat T) a.toNat) :
  TyR t lo (a.toNat+1) c (c'.note a T)∧nth (c'.note a T).types a.toNat=T:=by
 have hs:∀ k,nth (c'.note a T).types k=if a.toNat=k∧k < c'.types.length then T else nth c'.types k:=fun k=>jig _ _ _ _
 refine ⟨⟨fun k hk=>?_,?_⟩,by rw [hs,if_pos ⟨rfl,by omega⟩]⟩
 ·have hlo:=hch.le
  rw [hs,if_neg (by omega)]
  exact r.tw k (by omega)
 ·refine (r.all.keep ht hch (by omega) fun i _ h2=>by rw [hs,if_neg (by omega)]).join fun k g1 g2=>?_
  have:k=a.toNat:=by omega
  subst this
  exact hT
theorem jiJ {t:GTree} (ht:TreeOk t):∀ n,ExT t n
 | 0=>fun c a lo h hc hv h0 h1 hn=>by omega
 | n+1=>fun c a lo h hc hv h0 h1 hn hr hch he=>by
  have hx:=jiJ ht n
  have e0:=(jaA (n+1) c a).e0 he
  unfold jae at he ⊢
  rw [if_neg (by omega)] at he ⊢
  simp only at he ⊢
  have he:(jap (jae n) c a).1.e=0:=he
  have hnode:c.node a=nth t.nodes a.toNat:=by unfold Ck.node;rw [hc]
  have sh:=(ht.shape a.toNat (by omega)).1
  have hlen:(jap (jae n) c a).1.types.length=t.nodes.length:=by rw [(jjZ (jaA n) c a).types,h.types,hc]
  -- what is to be shown of the node itself
  suffices hs:TyR t lo a.toNat c (jap (jae n) c a).1∧TyE t ((jap (jae n) c a).1.types.set a.toNat (jap (jae n) c a).2) a.toNat∧0≤(jap (jae n) c a).2∧(jap (jae n) c a).2≤4 by
   obtain ⟨s1,s2,s3⟩:=hs
   obtain ⟨g1,g2⟩:=jvM ht hlen h0 h1 hch s1 s2
   exact ⟨g1,g2,s3⟩
  have hset:∀ T,nth ((jap (jae n) c a).1.types.set a.toNat T) a.toNat=T:=fun T=>by rw [jig,if_pos ⟨rfl,by omega⟩]
  have hoth:∀ T k,k≠a.toNat→nth ((jap (jae n) c a).1.types.set a.toNat T) k=nth (jap (jae n) c a).1.types k:=fun T k hk=>by rw [jig,if_neg (by omega)]
  have leaf:(nth t.nodes a.toNat).l=[]→∀ c',c'.types=c.types→TyR t lo a.toNat c c':=fun hl c' e=>by
   rw [hl] at hch
   have:lo=a.toNat:=by cases hch;rfl
   subst this
   exact ⟨.same e,.none⟩
  have kid1:∀ c0 x,CkIn c0→c0.tree=t→VarsT c0→c0.types=c.types→(nth t.nodes a.toNat).l=[x]→isR (jan t.nodes x)→(jae n c0 x).1.e=0→TyR t lo a.toNat c (jae n c0 x).1∧nth (jae n c0 x).1.types x.toNat=(jae n c0 x).2∧x.toNat≠a.toNat:=fun c0 x g1 g2 g3 g4 hl hxr hxe=>by
   rw [hl] at hch
   obtain ⟨c1,c2,c3,c4,c5⟩:=jfE hch
   obtain ⟨r1,r2,_⟩:=hx c0 x lo g1 g2 g3 c1 c2 (by omega) hxr c5 hxe
   rw [c4]
   exact ⟨r1.pre g4,r2,by omega⟩
  have kd:∀ i,c.kid a i=nth (nth t.nodes a.toNat).l i:=fun i=>by unfold Ck.kid;rw [hnode]
  have hkr:(nth t.nodes a.toNat).kind=1∨(nth t.nodes a.toNat).kind=2∨(nth t.nodes a.toNat).kind=3∨(nth t.nodes a.toNat).kind=4∨(nth t.nodes a.toNat).kind=5∨(nth t.nodes a.toNat).kind=6∨(nth t.nodes a.toNat).kind=7∨(nth t.nodes a.toNat).kind=8∨(nth t.nodes a.toNat).kind=9∨(nth t.nodes a.toNat).kind=19∨(nth t.nodes a.toNat).kind=20∨(nth t.nodes a.toNat).kind=21:=by
   have:isR (nth t.nodes a.toNat).kind:=hr
   unfold isR isE at this
   omega
  rcases hkr with k | k | k | k | k | k | k | k | k | k | k | k
  ·have e:jap (jae n) c a=(c,1):=by unfold jap;simp only;rw [hnode,k];rfl
   rw [e] at hset ⊢
   refine ⟨leaf (sh.zero (by omega)) _ rfl,?_,by simp,by simp⟩
   constructor<;>intro k'<;>first | (exfalso;omega) | exact hset _
  ·have e:jap (jae n) c a=(c,2):=by unfold jap;simp only;rw [hnode,k];rfl
   rw [e] at hset ⊢
   refine ⟨leaf (sh.zero (by omega)) _ rfl,?_,by simp,by simp⟩
   constructor<;>intro k'<;>first | (exfalso;omega) | exact hset _
  ·have e:jap (jae n) c a=(c,3):=by unfold jap;simp only;rw [hnode,k];rfl
   rw [e] at hset ⊢
   refine ⟨leaf (sh.zero (by omega)) _ rfl,?_,by simp,by simp⟩
   constructor<;>intro k'<;>first | (exfalso;omega) | exact hset _
  ·have e:jap (jae n) c a=c.named a:=by unfold jap;simp only;rw [hnode,k];rfl
   rw [e] at hset he ⊢
   have hty:=jst hv he
   refine ⟨leaf (sh.zero (by omega)) _ (jea c a),?_,by omega,by omega⟩
   constructor<;>intro k'<;>first | (exfalso;omega) | (rw [hset];exact hty)
  ·have e:jap (jae n) c a=((jae n (c.named a).1 (c.kid a 0)).1.must (decide ((c.named a).2=4) && decide ((jae n (c.named a).1 (c.kid a 0)).2=1)) a,1):=by unfold jap;simp only;rw [hnode,k];rfl
   obtain ⟨x,hl,hxe⟩:=sh.one (by omega)
   have hk0:c.kid a 0=x:=by rw [kd,hl];rfl
   rw [e] at hset hoth he ⊢
   rw [hk0] at hset hoth he ⊢
   obtain ⟨b1,b2⟩:=jbt he
   simp only [Bool.and_eq_true,decide_eq_true_eq] at b1
   have ev:=jb0 c a
   obtain ⟨r1,r2,r3⟩:=kid1 (c.named a).1 x (h.ev ev) (ev.tree.trans hc) (hv.ev ev) (jea c a) hl (.inl hxe) b2
   refine ⟨r1.post (jaX _ _ _),?_,by simp,by simp⟩
   constructor<;>intro k'<;>first | (exfalso;omega) | skip
   refine ⟨hset _,?_⟩
   rw [hl]
   show nth (List.set _ _ _) x.toNat=1
   rw [hoth _ _ r3]
   show nth (Ck.must _ _ _).types x.toNat=1
   rw [jaX,r2];exact b1.2
  ·have e:jap (jae n) c a=((jae n c (c.kid a 0)).1.must (decide ((jae n c (c.kid a 0)).2=3) || decide ((jae n c (c.kid a 0)).2=4)) a,1):=by unfold jap;simp only;rw [hnode,k];rfl
   obtain ⟨x,hl,hxe⟩:=sh.one (by omega)
   have hk0:c.kid a 0=x:=by rw [kd,hl];rfl
   rw [e] at hset hoth he ⊢
   rw [hk0] at hset hoth he ⊢
   obtain ⟨b1,b2⟩:=jbt he
   simp only [Bool.or_eq_true,decide_eq_true_eq] at b1
   obtain ⟨r1,r2,r3⟩:=kid1 c x h hc hv rfl hl (.inl hxe) b2
   refine ⟨r1.post (jaX _ _ _),?_,by simp,by simp⟩
   constructor<;>intro k'<;>first | (exfalso;omega) | skip
   refine ⟨hset _,?_⟩
   rw [hl]
   show nth (List.set _ _ _) x.toNat=3∨nth (List.set _ _ _) x.toNat=4
   rw [hoth _ _ r3]
   show nth (Ck.must _ _ _).types x.toNat=3∨nth (Ck.must _ _ _).types x.toNat=4
   rw [jaX,r2];exact b1
  ·have e:jap (jae n) c a=((jae n c (c.kid a 0)).1.must (decide ((jae n c (c.kid a 0)).2=1)) a,1):=by unfold jap;simp only;rw [hnode,k];rfl
   obtain ⟨x,hl,hxe⟩:=sh.one (by omega)
   have hk0:c.kid a 0=x:=by rw [kd,hl];rfl
   rw [e] at hset hoth he ⊢
   rw [hk0] at hset hoth he ⊢
   obtain ⟨b1,b2⟩:=jbt he
   simp only [decide_eq_true_eq] at b1
   obtain ⟨r1,r2,r3⟩:=kid1 c x h hc hv rfl hl (.inl hxe) b2
   refine ⟨r1.post (jaX _ _ _),?_,by simp,by simp⟩
   constructor<;>intro k'<;>first | (exfalso;omega) | skip
   refine ⟨hset _,?_⟩
   rw [hl]
   show nth (List.set _ _ _) x.toNat=1
   rw [hoth _ _ r3]
   show nth (Ck.must _ _ _).types x.toNat=1
   rw [jaX,r2];exact b1
  ·have e:jap (jae n) c a=((jae n c (c.kid a 0)).1.must (decide ((jae n c (c.kid a 0)).2=2)) a,2):=by unfold jap;simp only;rw [hnode,k];rfl
   obtain ⟨x,hl,hxe⟩:=sh.one (by omega)
   have hk0:c.kid a 0=x:=by rw [kd,hl];rfl
   rw [e] at hset hoth he ⊢
   rw [hk0] at hset hoth he ⊢
   obtain ⟨b1,b2⟩:=jbt he
   simp only [decide_eq_true_eq] at b1
   obtain ⟨r1,r2,r3⟩:=kid1 c x h hc hv rfl hl (.inl hxe) b2
   refine ⟨r1.post (jaX _ _ _),?_,by simp,by simp⟩
   constructor<;>intro k'<;>first | (exfalso;omega) | skip
   refine ⟨hset _,?_⟩
   rw [hl]
   show nth (List.set _ _ _) x.toNat=2
   rw [hoth _ _ r3]
   show nth (Ck.must _ _ _).types x.toNat=2
   rw [jaX,r2];exact b1
  ·have e:jap (jae n) c a=((jae n (jae n c (c.kid a 0)).1 (c.kid a 1)).1.must (!decide (jgT (c.node a).name (jae n c (c.kid a 0)).2 (jae n (jae n c (c.kid a 0)).1 (c.kid a 1)).2=0)) a,jgT (c.node a).name (jae n c (c.kid a 0)).2 (jae n (jae n c (c.kid a 0)).1 (c.kid a 1)).2):=by unfold jap;simp only;rw [hnode,k];rfl
   obtain ⟨x,y,hl,hxe,hye⟩:=sh.two (by omega)
   have hk0:c.kid a 0=x:=by rw [kd,hl];rfl
   have hk1:c.kid a 1=y:=by rw [kd,hl];rfl
   rw [e] at hset hoth he ⊢
   rw [hk0,hk1] at hset hoth he ⊢
   obtain ⟨b1,b2⟩:=jbt he
   simp only [Bool.not_eq_true',decide_eq_false_iff_not] at b1
   have ev:=jaA n c x
   have b0:(jae n c x).1.e=0:=(jaA n _ y).e0 b2
   rw [hl] at hch
   obtain ⟨c1,c2,c3,c4,c5,c6⟩:=jei hch
   obtain ⟨d1,d2,d3,d4,d5⟩:=jfE c6
   obtain ⟨r1,r2,_⟩:=hx c x lo h hc hv c1 c2 (by omega) (.inl hxe) c5 b0
   obtain ⟨q1,q2,_⟩:=hx (jae n c x).1 y (x.toNat+1) (h.ev ev) (ev.tree.trans hc) (hv.ev ev) d1 d2 (by omega) (.inl hye) d5 b2
   have rr:=r1.seq ht (Chain.one' c1 c2 c5) (by omega) (by omega) q1
   rw [d4]
   refine ⟨rr.post (jaX _ _ _),?_,juj _ _ _⟩
   rw [d4] at hset hoth
   rw [← d4]
   rw [← d4] at hset hoth
   have ex:nth ((jae n (jae n c x).1 y).1.types) x.toNat=(jae n c x).2:=by rw [q1.tw _ (by omega),r2]
   constructor<;>intro k'<;>first | (exfalso;omega) | skip
   have g0:=hset (jgT (c.node a).name (jae n c x).2 (jae n (jae n c x).1 y).2)
   have g1:=hoth (jgT (c.node a).name (jae n c x).2 (jae n (jae n c x).1 y).2) x.toNat (by omega)
   have g2:=hoth (jgT (c.node a).name (jae n c x).2 (jae n (jae n c x).1 y).2) y.toNat (by omega)
   simp only [jaX] at g0 g1 g2 ⊢
   rw [hl]
   show _=jgT _ (nth _ x.toNat) (nth _ y.toNat)∧_
   rw [g0,g1,g2,ex,q2,← hnode]
   exact ⟨rfl,b1⟩
  ·have e:jap (jae n) c a=(c,1):=by unfold jap;simp only;rw [hnode,k];rfl
   rw [e] at hset ⊢
   refine ⟨leaf (sh.zero (by omega)) _ rfl,?_,by simp,by simp⟩
   constructor<;>intro k'<;>first | (exfalso;omega) | exact hset _
  ·have e:jap (jae n) c a=((jae n c (c.kid a 0)).1.must (decide ((jae n c (c.kid a 0)).2=1)) a,4):=by unfold jap;simp only;rw [hnode,k];rfl
   obtain ⟨x,hl,hxe⟩:=sh.one (by omega)
   have hk0:c.kid a 0=x:=by rw [kd,hl];rfl
   rw [e] at hset he ⊢
   rw [hk0] at hset he ⊢
   obtain ⟨b1,b2⟩:=jbt he
   obtain ⟨r1,r2,r3⟩:=kid1 c x h hc hv rfl hl (.inl hxe) b2
   refine ⟨r1.post (jaX _ _ _),?_,by simp,by simp⟩
   constructor<;>intro k'<;>first | (exfalso;omega) | exact hset _
  ·have e:jap (jae n) c a=jdo (jae n) c a:=by unfold jap;simp only;rw [hnode,k];rfl
   rw [e] at he ⊢
   obtain ⟨r1,r2,r3⟩:=jvL ht hx h hc hv h0 h1 (by omega) k hch he
   refine ⟨r1,?_,r2⟩
   constructor<;>intro k'<;>first | (exfalso;omega) | exact r3
theorem TyR.skip {t:GTree} {lo:Nat} {c c':Ck} {a:Int} (hk:isS (jan t.nodes a)∨jan t.nodes a=18) (hcd:(nth t.nodes a.toNat).kind=15∨(nth t.nodes a.toNat).kind=16∨(nth t.nodes a.toNat).kind=10→((nth t.nodes a.toNat).kind=10∨nth c'.types (nth (nth t.nodes a.toNat).l 0).toNat=2)∧1≤nth c'.types (nth (nth t.nodes a.toNat).l 0).toNat∧nth c'.types (nth (nth t.nodes a.toNat).l 0).toNat≤4) (r:TyR t lo a.toNat c c'):TyR t lo (a.toNat+1) c c':=by
 refine ⟨r.tw.mono (Nat.le_refl _) (by omega),fun k h1 h2=>?_⟩
 by_cases h:k < a.toNat
 ·exact r.all k h1 h
 ·have:k=a.toNat:=by omega
  subst this
  have hk:isS (nth t.nodes a.toNat).kind∨(nth t.nodes a.toNat).kind=18:=hk
  unfold isS at hk
  constructor<;>intro k'<;>first | (exfalso;omega) | exact (hcd (by omega)).1.resolve_left (by omega) | exact (hcd (by omega)).2
def StT (t:GTree) (n:Nat):Prop:=∀ (c:Ck) (a:Int) (lo:Nat),CkIn c→c.tree=t→VarsT c→c.e=0→0≤a→a < t.nodes.length→a.toNat < n→isS (jan t.nodes a)→Chain t.nodes lo (nth t.nodes a.toNat).l a.toNat→(jaf n c a).e=0→
 TyR t lo (a.toNat+1) c (jaf n c a)∧VarsT (jaf n c a)
theorem Sv.e0 {c c':Ck} (s:Sv c c') (h:c'.e=0):c.e=0:=Classical.byContradiction fun e=>s.err e h
theorem jkH {t:GTree} (ht:TreeOk t) {st:Ck→Int→Ck} {C:Int→Prop} {n:Nat} (hs:∀ c a,CkIn c→c.e=0→Sv c (st c a))
  (hst:∀ (c:Ck) (a:Int) (lo:Nat),CkIn c→c.tree=t→VarsT c→c.e=0→0≤a→a < t.nodes.length→a.toNat < n→C (jan t.nodes a)→Chain t.nodes lo (nth t.nodes a.toNat).l a.toNat→(st c a).e=0→TyR t lo (a.toNat+1) c (st c a)∧VarsT (st c a)) :
  ∀ (L:List Int) (c:Ck) (lo hi:Nat),CkIn c→c.tree=t→VarsT c→hi≤n→hi≤t.nodes.length→(∀ x∈L,C (jan t.nodes x))→Chain t.nodes lo L hi→(jaI st c L).e=0→TyR t lo hi c (jaI st c L)∧VarsT (jaI st c L)
 | [],c,lo,hi,h,hc,hv,hn,hl,hr,hch,he=>by
  cases hch
  unfold jaI
  exact ⟨⟨.refl _ _ _,.none⟩,hv⟩
 | a::L,c,lo,hi,h,hc,hv,hn,hl,hr,hch,he=>by
  have e0:=(jc8 hs (a::L) c h).e0 he
  unfold jaI at he ⊢
  rw [if_pos e0] at he ⊢
  obtain ⟨c1,c2,c3,c4,c5,c6⟩:=jei hch
  have s:=hs c a h e0
  have e1:=(jc8 hs L _ s.inv).e0 he
  obtain ⟨r1,v1⟩:=hst c a lo h hc hv e0 c1 c2 (by omega) (hr a (by simp)) c5 e1
  obtain ⟨r2,v2⟩:=jkH ht hs hst L _ _ hi s.inv (s.tree.trans hc) v1 hn hl (fun x hx=>hr x (by simp [hx])) c6 he
  exact ⟨r1.seq ht (Chain.one' c1 c2 c5) (by omega) (by omega) r2,v2⟩
theorem jon {t:GTree} (ht:TreeOk t) {n:Nat} (hst:StT t n) (c:Ck) (a:Int) (lo:Nat) (h:CkIn c) (hc:c.tree=t) (hv:VarsT c) (h0:0≤a) (h1:a < t.nodes.length) (hn:a.toNat≤n) (hk:jan t.nodes a=18) (hch:Chain t.nodes lo (nth t.nodes a.toNat).l a.toNat) (he:(ja0 (jaf n) c a).e=0) :
  TyR t lo (a.toNat+1) c (ja0 (jaf n) c a)∧VarsT (ja0 (jaf n) c a):=by
 have sv:=jcN (ja3 n) h a
 have hnode:c.node a=nth t.nodes a.toNat:=by unfold Ck.node;rw [hc]
 have hb:=(ht.shape a.toNat (by omega)).1.block hk
 have ev:=jc2 c a
 obtain ⟨r,_⟩:=jkH ht (ja3 n) (C:=isS) hst (c.node a).l (c.noteF a) lo a.toNat (h.ev ev) (ev.tree.trans hc) (hv.ev ev) hn (by omega) (fun x hx=>hb x (by rw [← hnode];exact hx)) (by rw [hnode];exact hch) he
 have r:TyR t lo a.toNat c (ja0 (jaf n) c a):=TyR.post (b:=jaI (jaf n) (c.noteF a) (c.node a).l) (TyR.pre (a:=c) (b:=c.noteF a) rfl r) rfl
 have hk18:(nth t.nodes a.toNat).kind=18:=hk
 refine ⟨r.skip (.inr hk) (fun h=>by omega),?_⟩
 unfold VarsT
 rw [sv.2]
 exact hv
theorem jlR {t:GTree} (ht:TreeOk t) {n:Nat} {c c0:Ck} {a x:Int} {lo:Nat} (h:CkIn c0) (hc:c0.tree=t) (hv:VarsT c0) (hty:c0.types=c.types) (hn:a.toNat≤n) (hl:(nth t.nodes a.toNat).l=[x]) (hx:isR (jan t.nodes x)) (hch:Chain t.nodes lo (nth t.nodes a.toNat).l a.toNat) (he:(jae n c0 x).1.e=0) :
  TyR t lo a.toNat c (jae n c0 x).1∧0≤(jae n c0 x).2∧(jae n c0 x).2≤4∧nth (jae n c0 x).1.types x.toNat=(jae n c0 x).2:=by
 rw [hl] at hch
 obtain ⟨c1,c2,c3,c4,c5⟩:=jfE hch
 obtain ⟨r1,r2,r3⟩:=jiJ ht n c0 x lo h hc hv c1 c2 (by omega) hx c5 he
 rw [c4]
 exact ⟨r1.pre hty,r3.1,r3.2,r2⟩
theorem jyI {t:GTree} (ht:TreeOk t) {n:Nat} {c c0:Ck} {a x y:Int} {lo:Nat} (h:CkIn c0) (hc:c0.tree=t) (hv:VarsT c0) (hty:c0.types=c.types) (hn:a.toNat≤n) (hl:(nth t.nodes a.toNat).l=[x,y]) (hx:isE (jan t.nodes x)) (hy:isE (jan t.nodes y)) (hch:Chain t.nodes lo (nth t.nodes a.toNat).l a.toNat) (hle:a.toNat≤t.nodes.length) (he:(jae n (jae n c0 x).1 y).1.e=0) :
  TyR t lo a.toNat c (jae n (jae n c0 x).1 y).1:=by
 rw [hl] at hch
 obtain ⟨c1,c2,c3,c4,c5,c6⟩:=jei hch
 obtain ⟨d1,d2,d3,d4,d5⟩:=jfE c6
 have ev:=jaA n c0 x
 obtain ⟨r1,_⟩:=jiJ ht n c0 x lo h hc hv c1 c2 (by omega) (.inl hx) c5 ((jaA n _ y).e0 he)
 obtain ⟨q1,_⟩:=jiJ ht n (jae n c0 x).1 y (x.toNat+1) (h.ev ev) (ev.tree.trans hc) (hv.ev ev) d1 d2 (by omega) (.inl hy) d5 he
 rw [d4]
 exact (r1.seq ht (Chain.one' c1 c2 c5) (by omega) (by omega) q1).pre hty
theorem jfM {c:Ck} {p:Prop} [Decidable p] {e a:Int} (he:e≠0) (h:(if p then c.fails e a else c).e=0):¬ p∧(if p then c.fails e a else c)=c:=by
 split at h
 ·exact (jcK he h).elim
 ·rename_i hp
  exact ⟨hp,if_neg hp⟩
theorem jrh {t:GTree} (ht:TreeOk t):∀ n,StT t n
 | 0=>fun c a lo h hc hv e0 h0 h1 hn=>by omega
 | n+1=>fun c a lo h hc hv e0 h0 h1 hn hr hch he=>by
  have hs:=jrh ht n
  have hnode:(c.noteF a).node a=nth t.nodes a.toNat:=by unfold Ck.node;show nth c.tree.nodes _=_;rw [hc]
  have sh:=(ht.shape a.toNat (by omega)).1
  have kd:∀ i,(c.noteF a).kid a i=nth (nth t.nodes a.toNat).l i:=fun i=>by unfold Ck.kid;rw [hnode]
  have ev:=jc2 c a
  have h':=h.ev ev
  have hc':=ev.tree.trans hc
  have hv':=hv.ev ev
  suffices hsf:TyR t lo a.toNat c (jaf (n+1) c a)∧VarsT (jaf (n+1) c a)∧((nth t.nodes a.toNat).kind=15∨(nth t.nodes a.toNat).kind=16∨(nth t.nodes a.toNat).kind=10→((nth t.nodes a.toNat).kind=10∨nth (jaf (n+1) c a).types (nth (nth t.nodes a.toNat).l 0).toNat=2)∧1≤nth (jaf (n+1) c a).types (nth (nth t.nodes a.toNat).l 0).toNat∧nth (jaf (n+1) c a).types (nth (nth t.nodes a.toNat).l 0).toNat≤4) from ⟨hsf.1.skip (.inl hr) hsf.2.2,hsf.2.1⟩
  have hkr:(nth t.nodes a.toNat).kind=10∨(nth t.nodes a.toNat).kind=11∨(nth t.nodes a.toNat).kind=12∨(nth t.nodes a.toNat).kind=13∨(nth t.nodes a.toNat).kind=14∨(nth t.nodes a.toNat).kind=17∨(nth t.nodes a.toNat).kind=15∨(nth t.nodes a.toNat).kind=16:=by
   have:isS (nth t.nodes a.toNat).kind:=hr
   unfold isS at this
   omega
  rcases hkr with k | k | k | k | k | k | k
  ·have e:jaf (n+1) c a=jrB (jae n) (c.noteF a) a:=by unfold jaf;simp only;rw [hnode,k];rfl
   obtain ⟨x,hl,hxr⟩:=sh.right (by omega)
   have hk0:(c.noteF a).kid a 0=x:=by rw [kd,hl];rfl
   rw [e] at he ⊢
   rw [jlf] at he ⊢
   have he:(jc6 (jae n) (c.noteF a) a).e=0:=he
   obtain ⟨_,q1⟩:=jfM (by decide) he
   have q1:jc6 (jae n) (c.noteF a) a=jjp (jae n) (c.noteF a) a:=q1
   rw [q1] at he
   obtain ⟨_,q2⟩:=jfM (by decide) he
   have q2:jjp (jae n) (c.noteF a) a=jhA (jae n) (c.noteF a) a:=q2
   rw [q2] at he
   unfold jhA at he
   rw [hk0] at he
   obtain ⟨b1,b2⟩:=jbt he
   simp only [Bool.not_eq_true',decide_eq_false_iff_not] at b1
   obtain ⟨r1,r2,r3,r4⟩:=jlR (c:=c) ht h' hc' hv' rfl (by omega) hl hxr hch b2
   have hty:(jc6 (jae n) (c.noteF a) a).types=(jae n (c.noteF a) x).1.types:=by rw [q1,q2];unfold jhA;rw [hk0,jaX]
   refine ⟨r1.post hty,fun v hv2=>?_,fun _=>⟨.inl k,by
    rw [hl]
    show 1≤nth (jc6 (jae n) (c.noteF a) a).types x.toNat∧nth (jc6 (jae n) (c.noteF a) a).types x.toNat≤4
    rw [hty,r4];omega⟩⟩
   have hv2:v∈(jc6 (jae n) (c.noteF a) a).vars++[(⟨((c.noteF a).node a).name,(jae n (c.noteF a) ((c.noteF a).kid a 0)).2,(jc6 (jae n) (c.noteF a) a).size⟩:GVar)]:=hv2
   rcases List.mem_append.1 hv2 with hm | hm
   ·rw [(jjY (jaA n) (c.noteF a) a).vars] at hm
    exact hv' v hm
   ·rw [List.mem_singleton.1 hm]
    show 1≤(jae n (c.noteF a) ((c.noteF a).kid a 0)).2∧(jae n (c.noteF a) ((c.noteF a).kid a 0)).2≤4
    rw [hk0]
    omega
  ·have e:jaf (n+1) c a=(jae n ((c.noteF a).named a).1 ((c.noteF a).kid a 0)).1.must (decide (((c.noteF a).named a).2=(jae n ((c.noteF a).named a).1 ((c.noteF a).kid a 0)).2)) a:=by unfold jaf;simp only;rw [hnode,k];rfl
   obtain ⟨x,hl,hxr⟩:=sh.right (by omega)
   have hk0:(c.noteF a).kid a 0=x:=by rw [kd,hl];rfl
   rw [e] at he ⊢
   rw [hk0] at he ⊢
   obtain ⟨b1,b2⟩:=jbt he
   have en:=jb0 (c.noteF a) a
   obtain ⟨r1,_⟩:=jlR (c:=c) ht (h'.ev en) (en.tree.trans hc') (hv'.ev en) (jea _ _) (by omega) hl hxr hch b2
   exact ⟨r1.post (jaX _ _ _),(hv'.ev en).ev ((jaA n _ _).trans (jbF _ _ _)),fun h=>by omega⟩
  ·have e:jaf (n+1) c a=(jae n (jae n ((c.noteF a).named a).1 ((c.noteF a).kid a 0)).1 ((c.noteF a).kid a 1)).1.must (decide (((c.noteF a).named a).2=4) && decide ((jae n ((c.noteF a).named a).1 ((c.noteF a).kid a 0)).2=1) && decide ((jae n (jae n ((c.noteF a).named a).1 ((c.noteF a).kid a 0)).1 ((c.noteF a).kid a 1)).2=1)) a:=by unfold jaf;simp only;rw [hnode,k];rfl
   obtain ⟨x,y,hl,hxe,hye⟩:=sh.two (by omega)
   have hk0:(c.noteF a).kid a 0=x:=by rw [kd,hl];rfl
   have hk1:(c.noteF a).kid a 1=y:=by rw [kd,hl];rfl
   rw [e] at he ⊢
   rw [hk0,hk1] at he ⊢
   obtain ⟨b1,b2⟩:=jbt he
   have en:=jb0 (c.noteF a) a
   have r1:=jyI (c:=c) ht (h'.ev en) (en.tree.trans hc') (hv'.ev en) (jea _ _) (by omega) hl hxe hye hch (by omega) b2
   exact ⟨r1.post (jaX _ _ _),(hv'.ev en).ev (((jaA n _ _).trans (jaA n _ _)).trans (jbF _ _ _)),fun h=>by omega⟩
  ·have e:jaf (n+1) c a=(jae n (c.noteF a) ((c.noteF a).kid a 0)).1:=by unfold jaf;simp only;rw [hnode,k];rfl
   obtain ⟨x,hl,hxk⟩:=sh.do_ k
   have hk0:(c.noteF a).kid a 0=x:=by rw [kd,hl];rfl
   rw [e] at he ⊢
   rw [hk0] at he ⊢
   obtain ⟨r1,_⟩:=jlR (c:=c) ht h' hc' hv' rfl (by omega) hl (by rw [hxk];unfold isR;omega) hch he
   exact ⟨r1,hv'.ev (jaA n _ _),fun h=>by omega⟩
  ·have e:jaf (n+1) c a=(jae n (c.noteF a) ((c.noteF a).kid a 0)).1.must (!decide ((jae n (c.noteF a) ((c.noteF a).kid a 0)).2=4)) a:=by unfold jaf;simp only;rw [hnode,k];rfl
   obtain ⟨x,hl,hxe⟩:=sh.one (by omega)
   have hk0:(c.noteF a).kid a 0=x:=by rw [kd,hl];rfl
   rw [e] at he ⊢
   rw [hk0] at he ⊢
   obtain ⟨b1,b2⟩:=jbt he
   obtain ⟨r1,_⟩:=jlR (c:=c) ht h' hc' hv' rfl (by omega) hl (.inl hxe) hch b2
   exact ⟨r1.post (jaX _ _ _),hv'.ev ((jaA n _ _).trans (jbF _ _ _)),fun h=>by omega⟩
  ·have e:jaf (n+1) c a=jbD (jae n) (c.noteF a) a:=by unfold jaf;simp only;rw [hnode,k];rfl
   rw [e] at he ⊢
   unfold jbD at he ⊢
   rw [hnode] at he ⊢
   simp only at he ⊢
   split at he
   ·exact (jcK (by decide) he).elim
   rename_i hf
   rw [if_neg hf]
   rcases sh.ret k with hl | ⟨x,hl,hxe⟩
   ·rw [hl]
    rw [if_neg (by decide)]
    rw [hl] at hch
    have:lo=a.toNat:=by cases hch;rfl
    subst this
    exact ⟨⟨.same rfl,.none⟩,hv',fun h=>by omega⟩
   ·have hk0:(c.noteF a).kid a 0=x:=by rw [kd,hl];rfl
    have hl1:(nth t.nodes a.toNat).l.length=1:=by rw [hl];rfl
    rw [if_pos hl1] at he ⊢
    rw [hk0] at he ⊢
    obtain ⟨b1,b2⟩:=jbt he
    obtain ⟨r1,_⟩:=jlR (c:=c) ht h' hc' hv' rfl (by omega) hl (.inl hxe) hch b2
    exact ⟨r1.post (jaX _ _ _),hv'.ev ((jaA n _ _).trans (jbF _ _ _)),fun h=>by omega⟩
  ·have e:jaf (n+1) c a=jaI (ja0 (jaf n)) ((jae n (c.noteF a) ((c.noteF a).kid a 0)).1.must (decide ((jae n (c.noteF a) ((c.noteF a).kid a 0)).2=2)) a) (((c.noteF a).node a).l.drop 1):=by
    unfold jaf;simp only;rw [hnode];rcases k with k | k<;>rw [k]<;>rfl
   have hsh:∃ x L,(nth t.nodes a.toNat).l=x::L∧isE (jan t.nodes x)∧∀ y∈L,jan t.nodes y=18:=by
    rcases k with k | k
    ·obtain ⟨x,y,hx,hy,hl | ⟨z,hl,hz⟩⟩:=sh.if_ k
     ·exact ⟨x,[y],hl,hx,fun u hu=>by rw [List.mem_singleton.1 hu];exact hy⟩
     ·exact ⟨x,[y,z],hl,hx,fun u hu=>by
       rcases List.mem_cons.1 hu with rfl | hu
       ·exact hy
       ·rw [List.mem_singleton.1 hu];exact hz⟩
    ·obtain ⟨x,y,hl,hx,hy⟩:=sh.while_ k
     exact ⟨x,[y],hl,hx,fun u hu=>by rw [List.mem_singleton.1 hu];exact hy⟩
   obtain ⟨x,L,hl,hxe,hL⟩:=hsh
   have hk0:(c.noteF a).kid a 0=x:=by rw [kd,hl];rfl
   rw [e] at he ⊢
   rw [hnode,hl,hk0] at he ⊢
   have he:(jaI (ja0 (jaf n)) ((jae n (c.noteF a) x).1.must (decide ((jae n (c.noteF a) x).2=2)) a) L).e=0:=he
   show TyR t lo a.toNat c (jaI (ja0 (jaf n)) ((jae n (c.noteF a) x).1.must (decide ((jae n (c.noteF a) x).2=2)) a) L)∧VarsT (jaI (ja0 (jaf n)) ((jae n (c.noteF a) x).1.must (decide ((jae n (c.noteF a) x).2=2)) a) L)∧((nth t.nodes a.toNat).kind=15∨(nth t.nodes a.toNat).kind=16∨(nth t.nodes a.toNat).kind=10→((nth t.nodes a.toNat).kind=10∨nth (jaI (ja0 (jaf n)) ((jae n (c.noteF a) x).1.must (decide ((jae n (c.noteF a) x).2=2)) a) L).types (nth (x::L) 0).toNat=2)∧1≤nth (jaI (ja0 (jaf n)) ((jae n (c.noteF a) x).1.must (decide ((jae n (c.noteF a) x).2=2)) a) L).types (nth (x::L) 0).toNat∧nth (jaI (ja0 (jaf n)) ((jae n (c.noteF a) x).1.must (decide ((jae n (c.noteF a) x).2=2)) a) L).types (nth (x::L) 0).toNat≤4)
   have ex:=(jaA n (c.noteF a) x).trans (jbF _ (decide ((jae n (c.noteF a) x).2=2)) a)
   have hin:=h'.ev ex
   have hsb:∀ (q:Ck) b,CkIn q→q.e=0→Sv q (ja0 (jaf n) q b):=fun q b hq _=>(jcN (ja3 n) hq b).1
   have e1:=(jc8 hsb L _ hin).e0 he
   obtain ⟨b1,b2⟩:=jbt e1
   rw [hl] at hch
   obtain ⟨c1,c2,c3,c4,c5,c6⟩:=jei hch
   obtain ⟨r1,r1b,_⟩:=jiJ ht n (c.noteF a) x lo h' hc' hv' c1 c2 (by omega) (.inl hxe) c5 b2
   obtain ⟨r2,v2⟩:=jkH ht hsb (C:=fun k=>k=18) (n:=n) (fun q b l g1 g2 g3 _ g5 g6 g7 g8 g9 g10=>jon ht hs q b l g1 g2 g3 g5 g6 (by omega) g8 g9 g10) L _ (x.toNat+1) a.toNat hin (ex.tree.trans hc') (hv'.ev ex) (by omega) (by omega) hL c6 he
   exact ⟨((TyR.pre (a:=c) (b:=c.noteF a) rfl r1).post (jaX _ _ _)).seq ht (Chain.one' c1 c2 c5) (by omega) (by omega) r2,v2,fun _=>by
    show (_∨nth _ x.toNat=2)∧1≤nth _ x.toNat∧nth _ x.toNat≤4
    rw [r2.tw x.toNat (.inl (by omega)),jaX,r1b]
    have:=of_decide_eq_true b1
    omega⟩
theorem jlS {t:GTree} (body:Int):∀ (ps:List GParam) (c:Ck) (i:Int),VarsT c→(∀ p∈ps,1≤p.ty∧p.ty≤4)→VarsT (jaQ body c ps i)∧(jaQ body c ps i).types=c.types∧((jaQ body c ps i).e=0→c.e=0)
 | [],c,i,h,hp=>by unfold jaQ;exact ⟨h,rfl,id⟩
 | p::ps,c,i,h,hp=>by
  have fin:∀ c1:Ck,Ev c c1→c1.types=c.types→VarsT (jaQ body (je4 c1 ⟨p.name,p.ty,i⟩) ps (i+1))∧(jaQ body (je4 c1 ⟨p.name,p.ty,i⟩) ps (i+1)).types=c.types∧((jaQ body (je4 c1 ⟨p.name,p.ty,i⟩) ps (i+1)).e=0→c.e=0):=fun c1 s e=>by
   obtain ⟨a,b,d⟩:=jlS (t:=t) body ps (je4 c1 ⟨p.name,p.ty,i⟩) (i+1) (fun v hv=>by
    have hv:v∈c1.vars++[(⟨p.name,p.ty,i⟩:GVar)]:=hv
    rcases List.mem_append.1 hv with hv | hv
    ·exact h.ev s v hv
    ·rw [List.mem_singleton.1 hv];exact hp p (by simp)) (fun q hq=>hp q (by simp [hq]))
   exact ⟨a,b.trans e,fun hh=>s.e0 (d hh)⟩
  unfold jaQ
  simp only
  split
  ·exact fin _ (jbZ c (by decide) body) (jfk _ _ _)
  ·exact fin _ (.refl c) rfl
theorem jmW {t:GTree} (ht:TreeOk t) {c:Ck} (h:CkIn0 c) (hc:c.tree=t) {k:Nat} (hk:k < t.fns.length) (hsz:c.size_.length < 6) {lo:Nat} (hch:Chain t.nodes lo (nth t.nodes (nth t.fns k).body.toNat).l (nth t.fns k).body.toNat) (he:(jaF c k).e=0) :
  TyR t lo ((nth t.fns k).body.toNat+1) c (jaF c k)∧c.e=0:=by
 have hk':k < c.tree.fns.length:=by rw [hc];exact hk
 have hp3:=h.tree.fn _ (jaP hk')
 have hi0:CkIn { c with fn:=(k:Int),vars:=[],more:=[],size:=0 }:=⟨h.tree,h.types,h.slots,h.fns,by show c.size_.length≤6;omega,by show (0:Int)≤k;omega,by show (k:Int) < (c.tree.fns.length:Int);omega,by show ((0:Nat):Int)≤0;omega,by show (0:Int)≤25;omega,fun _=>by show (0:Int)≤24;omega⟩
 obtain ⟨a,b,d⟩:=jfN (nth c.tree.fns k).body (nth c.tree.fns k).params _ 0 hi0 (by show (0:Int)+_≤20;omega)
 obtain ⟨a',b',d'⟩:=jlS (t:=t) (nth c.tree.fns k).body (nth c.tree.fns k).params { c with fn:=(k:Int),vars:=[],more:=[],size:=0 } 0 (fun v hv=>by simp at hv) hp3.1.ps
 have hbN:=jeN ht hk
 have hbk:=ht.body _ (jaP hk)
 unfold jaF at he ⊢
 simp only at he ⊢
 rw [hc] at he ⊢
 rw [hc] at a b d a' b' d'
 split at he
 ·rename_i e1
  rw [if_pos e1]
  obtain ⟨r,_⟩:=jon ht (jrh ht t.nodes.length) _ (nth t.fns k).body lo a (b.trans (by rfl)) a' hbN.1 hbN.2 (by have:=hbN.2;have:=hbN.1;omega) hbk hch he
  have q:=TyR.pre (a:=c) b' r
  exact ⟨⟨fun k hk=>q.tw k hk,q.all⟩,d' e1⟩
 ·rename_i e1
  exact (e1 he).elim
theorem jeE {t:GTree} (ht:TreeOk t):∀ (n i lo:Nat) (c:Ck),CkIn0 c→c.tree=t→c.size_.length=i→i+n=t.fns.length→Chain t.nodes lo ((t.fns.drop i).map (·.body)) t.nodes.length→(jaz c i n).e=0→
  TyR t lo t.nodes.length c (jaz c i n)∧(jaz c i n).tree=t∧CkIn0 (jaz c i n)∧(jaz c i n).size_.length=t.fns.length
 | 0,i,lo,c,h,hc,hs,hi,hch,he=>by
  unfold jaz
  rw [List.drop_eq_nil_of_le (by omega)] at hch
  have:lo=t.nodes.length:=by cases hch;rfl
  subst this
  exact ⟨⟨.refl _ _ _,.none⟩,hc,h,by omega⟩
 | n+1,i,lo,c,h,hc,hs,hi,hch,he=>by
  have h6:=ht.fns
  unfold jaz at he ⊢
  by_cases e0:c.e=0
  ·rw [if_pos e0] at he ⊢
   have hk:i < t.fns.length:=by omega
   rw [jbz hk] at hch
   obtain ⟨c1,c2,c3,c4,c5,c6⟩:=jei (a:=(nth t.fns i).body) hch
   obtain ⟨f1,f2,f3⟩:=jfm h (by rw [hc];exact hk) (by omega:c.size_.length < 6)
   have e1:(jaF c i).e=0:=by
    cases n with
    | zero=>unfold jaz at he;exact he
    | succ m=>
     unfold jaz at he
     split at he
     ·assumption
     ·exact he
   obtain ⟨r1,_⟩:=jmW ht h hc hk (by omega) c5 e1
   obtain ⟨r2,q1,q2,q3⟩:=jeE ht n (i+1) ((nth t.fns i).body.toNat+1) (jaF c i) f1 (f2.trans hc) (by omega) (by omega) c6 he
   exact ⟨r1.seq ht (Chain.one' c1 c2 c5) (by omega) (by omega) r2,q1,q2,q3⟩
  ·rw [if_neg e0] at he
   exact (e0 he).elim
structure POk (p:GProg):Prop where
 tree:TreeOk p.tree
 types:p.types.length=p.tree.nodes.length
 slots:p.slots.length=p.tree.nodes.length
 fn:p.fn.length=p.tree.nodes.length
 size:p.size.length=p.tree.fns.length
 ty:TyAll p.tree p.types 0 p.tree.nodes.length
theorem jnv {t:GTree} (ht:TreeOk t):CkIn0 (jcp (ck0 t))∧(jcp (ck0 t)).tree=t∧(jcp (ck0 t)).size_=[]:=by
 have ev:=jnn (ck0 t)
 refine ⟨⟨by rw [ev.tree];exact ht,?_,?_,?_⟩,ev.tree,ev.size_⟩
 ·rw [ev.types,ev.tree];show (t.nodes.map _).length=t.nodes.length;simp
 ·rw [ev.slots,ev.tree];show (t.nodes.map _).length=t.nodes.length;simp
 ·rw [ev.fns,ev.tree];show (t.nodes.map _).length=t.nodes.length;simp
theorem jrX {t:GTree} (ht:TreeOk t) (he:(ja4 t).2.2=0):POk (ja4 t).1∧(ja4 t).1.tree=t:=by
 unfold ja4 at he ⊢
 split at he
 ·rename_i h;exact (h he).elim
 rename_i h
 rw [if_neg h]
 have h:(jcQ t).e=0:=by omega
 obtain ⟨i1,i2,i3⟩:=jnv ht
 obtain ⟨r,q1,q2,q3⟩:=jeE ht t.fns.length 0 0 (jcp (ck0 t)) i1 i2 (by rw [i3];rfl) (by omega) (by rw [List.drop_zero];exact ht.chain) h
 refine ⟨⟨q2.tree,q2.types,q2.slots,q2.fns,?_,?_⟩,q1⟩
 ·show (jcQ t).size_.length=(jcQ t).tree.fns.length
  have e:(jcQ t).tree=t:=q1
  rw [e];exact q3
 ·show TyAll (jcQ t).tree (jcQ t).types 0 (jcQ t).tree.nodes.length
  have e:(jcQ t).tree=t:=q1
  rw [e];exact r.all
end Go.Proofs.YtfkgcobaheegbaaGreatDoor

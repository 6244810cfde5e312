/- What is visible: the document's. The plain law of the document's checker: which functions are noted. Rows of numbers that are the same. What a program means: whether two states are the same. What is visible: the document's, of a node. No conditions. -/
import Derived.Test.YtdekkklnfifphaaGreatDoorViS
import Derived.Test.YtdekkklnfifphaaGreatDoorSoC
import Derived.Test.YtdekkklnfifphaaGreatDoorSlF
import Derived.Test.YtdekkklnfifphaaGreatDoorGdTm
import Derived.Test.YtdekkklnfifphaaGreatDoorP2
import Derived.Test.YtdekkklnfifphaaGreatDoorCkF
import Derived.Test.YtdekkklnfifphaaGreatDoorWd
set_option linter.all false
namespace Go.Proofs.YtdekkklnfifphaaGreatDoor
open Go Go.Gd
set_option maxHeartbeats 4000000
set_option maxRecDepth 10000
theorem joB {p:GProg} (h:POk p) (node:Int):∀ (n:Nat) (b:Int) (vars:List GVar),0≤b→b.toNat < p.tree.nodes.length→b.toNat < n→jak p.tree.nodes b=18→vars.length+300 * b.toNat≤1000000→
  PCall Tryz.prog 48 [.agg (jah p),rI b,rI node,jaI jcv 3 vars] (.tup [jaI jcv 3 ((ja2 p node n b vars).getD []),rB (ja2 p node n b vars).isSome])
 | 0,b,vars,h0,hl,hn,hk,hv=>by omega
 | n+1,b,vars,h0,hl,hn,hk,hv=>by
  have ih:=joB h node n
  have sh:=h.tree.shape b.toNat hl
  have hblk:=sh.1.block hk
  have hkid:=sh.2.1
  have hty:=h.types
  have hsl:=h.slots
  have hmany:=h.tree.many
  suffices key:∀ O,jeh (ja2 p node n) p node (jaj p b).l vars=O→PCall Tryz.prog 48 [.agg (jah p),rI b,rI node,jaI jcv 3 vars] (.tup [jaI jcv 3 (O.getD []),rB O.isSome]) from key _ rfl
  intro O hO
  generalize ja2 p node n=w at *
  have hL0:(jaj p b).l=(nth p.tree.nodes b.toNat).l:=rfl
  rw [hL0] at hO
  have hll:(nth p.tree.nodes b.toNat).l.length≤300:=by
   obtain ⟨lo,hc⟩:=sh.2.2
   have:=jhI hc
   omega
  generalize hL:(nth p.tree.nodes b.toNat).l=L at *
  refine jbO Tryz.func48 Tryz.ntmps48 ?_
  (have W:=hL;repeat' (first|refine jaa fun K hK=>?_|refine wkA ?_|(refine hK _ _ ?_;clear hK K)|(refine jad (fun hc=>?_) (fun hc=>?_)<;>first | contradiction | (exfalso;omega) | skip)|refine bx 0 ?_|refine wkB ?_|exact True.intro|(clear hK K)));all_goals (try clear W)
  have hKo:=hK;clear hK
  refine jag (S:=Nat×List GVar) [(3,1),(8,2),(11,5),(23,80)] (fun s=>s.1≤L.length∧s.2.length≤vars.length+s.1∧jeh w p node (L.drop s.1) s.2=O) (fun s=>[(11,rI s.1),(3,jaI jcv 3 s.2),(8,.raw (.slice none 0 0)),(9,rB false)]) (fun s=>⟨[],[(0,.var 29 (jah p))]⟩) (fun s=>L.length - s.1) (0,vars) ⟨by omega,by show vars.length≤_;omega,by simpa using hO⟩ (jau rfl lle) ?_
  rintro ⟨k,vs⟩ ⟨hk1,hvs,hk2⟩ Kr hKr
  simp only at hk1 hvs hk2 ⊢
  by_cases hlt:k < L.length
  ·have hx:=hblk _ (jam hlt)
   have hx2:=hkid _ (jam hlt)
   rw [ja0 hlt] at hk2
   unfold jeh at hk2
   generalize hxd:nth L k=x at *
   by_cases hxn:x=node
   ·rw [if_pos hxn] at hk2
    subst hk2
    (refine S ?_;try exact True.intro)
    (have W:=And.intro hxd (hxn);repeat' (first|refine jaa fun K hK=>?_|refine wkA ?_|(refine hK _ _ ?_;clear hK K)|(refine jad (fun hc=>?_) (fun hc=>?_)<;>first | contradiction | (exfalso;omega) | skip)|refine wkB ?_|exact True.intro|(clear hK K)));all_goals (try clear W)
    (refine jaU [.tmp 8,.tmp 9] ?_;try simp only [go_sem])
   rw [if_neg hxn] at hk2
   have hxl:x.toNat < p.tree.nodes.length:=by omega
   have shx:=h.tree.shape x.toNat hxl
   have hx:10≤(nth p.tree.nodes x.toNat).kind∧(nth p.tree.nodes x.toNat).kind≤17:=hx
   have hnx:jaj p x=nth p.tree.nodes x.toNat:=rfl
   unfold jiH at hk2
   rw [hnx] at hk2
   by_cases k10:(nth p.tree.nodes x.toNat).kind=10
   ·obtain ⟨a,ha,_⟩:=shx.1.right (.inl k10)
    have hal:=shx.2.1 a (by rw [ha];simp)
    have ha0:nth (nth p.tree.nodes x.toNat).l 0=a:=by rw [ha];rfl
    have ha1:(nth p.tree.nodes x.toNat).l.length=1:=by rw [ha];rfl
    rw [if_neg (by omega),if_pos k10,Option.none_or] at hk2
    (refine S ?_;try exact True.intro)
    (have W:=And.intro hxd (And.intro hxn (And.intro k10 (And.intro ha0 (ha1))));repeat' (first|refine jaa fun K hK=>?_|refine wkA ?_|(with_reducible refine gR 7 ?_);refine dE 7 [0,1,2,3,4,5,6,7,8,9,10] mixed ?_|(with_reducible refine gR 9 ?_);refine dC 9 ([],[],[50]) [] [0,1,3,4,5,6,7,8,9,10,11,12,13,14,15,16,17,18,19,20,21,22,2,23,24] mixed ?_|(refine hK _ _ ?_;clear hK K)|(refine jad (fun hc=>?_) (fun hc=>?_)<;>first | contradiction | (exfalso;omega) | skip)|refine al 1 ?_|refine j28 7 ?_|refine wkB ?_|exact True.intro|(clear hK K)));all_goals (try clear W)
    have hKb:=hK;clear hK
    refine jag (S:=Unit) [(8,2),(13,3),(72,31)] (fun _=>True) (fun j=>[(13,rI 1),(8,.raw (.slice none 0 0)),(9,rB false)]) (fun j=>⟨[],[(0,.var 29 (jah p)),(1,.var 68 (jaH (nth p.tree.nodes x.toNat))),(7,.vec 70 3 ((vs++[jeV p x]).map jcv))]⟩) (fun j=>0) () trivial (jau ?_ lle) ?_
    ·rw [List.map_append]
     unfold jeV
     rw [hnx,ha0];rfl
    rintro _ _ Ks hKs
    (refine S ?_;try exact True.intro)
    (have W:=And.intro k10 (ha1);repeat' (first|refine jaa fun K hK=>?_|refine wkA ?_|(refine hK _ _ ?_;clear hK K)|(refine jad (fun hc=>?_) (fun hc=>?_)<;>first | contradiction | (exfalso;omega) | skip)|(refine hKb _ _ ?_)|refine wkB ?_|exact True.intro|(clear hK K)));all_goals (try clear W)
    have hvr:VTo (fun i=>[1,7].contains i) ⟨[],[(0,.var 29 (jah p)),(1,.var 68 (jaH (nth p.tree.nodes x.toNat))),(7,.vec 70 3 ((vs++[jeV p x]).map jcv))]⟩ (.rs 7 (vs.length+1) 3 (vs.length+1)) (jaI jcv 3 (vs++[jeV p x])):=VTo.row (vs++[jeV p x]) rfl rfl (by simp)
    all_goals refine hKr _ _ (jaM [1,7] (k+1,vs++[jeV p x]) ⟨by show k+1≤L.length;omega,by show (vs++[_]).length≤vars.length+(k+1);simp;omega,hk2⟩ (by show L.length - (k+1) < L.length - k;omega) rfl Sd (by simp only [go_sem];(try rfl)) vtl)
   rw [if_neg k10] at hk2
   by_cases kb:(nth p.tree.nodes x.toNat).kind=15∨(nth p.tree.nodes x.toNat).kind=16
   ·rw [if_pos kb] at hk2
    have hbl:∀ j,1≤j→j < (nth p.tree.nodes x.toNat).l.length→jak p.tree.nodes (nth (nth p.tree.nodes x.toNat).l j)=18:=fun j hj1 hj2=>by
     rcases kb with kb | kb
     ·obtain ⟨a,b,_,hb,hl | ⟨d,hl,hd⟩⟩:=shx.1.if_ kb
      ·rw [hl] at hj2 ⊢
       have:j=1:=by simp at hj2;omega
       subst this;exact hb
      ·rw [hl] at hj2 ⊢
       have:j=1∨j=2:=by simp at hj2;omega
       rcases this with rfl | rfl
       ·exact hb
       ·exact hd
     ·obtain ⟨a,b,hl,_,hb⟩:=shx.1.while_ kb
      rw [hl] at hj2 ⊢
      have:j=1:=by simp at hj2;omega
      subst this;exact hb
    have hl3:2≤(nth p.tree.nodes x.toNat).l.length∧(nth p.tree.nodes x.toNat).l.length≤3:=by
     rcases kb with kb | kb
     ·obtain ⟨a,b,_,hb,hl | ⟨d,hl,hd⟩⟩:=shx.1.if_ kb<;>rw [hl]<;>simp
     ·obtain ⟨a,b,hl,_,hb⟩:=shx.1.while_ kb;rw [hl];simp
    (refine S ?_;try exact True.intro)
    (have W:=And.intro hxd (And.intro hxn (k10));repeat' (first|refine jaa fun K hK=>?_|refine wkA ?_|(with_reducible refine gR 7 ?_);refine dE 7 [0,1,2,3,4,5,6,7,8,9,10] mixed ?_|(refine hK _ _ ?_;clear hK K)|(refine jad (fun hc=>?_) (fun hc=>?_)<;>first | contradiction | (exfalso;omega) | skip)|refine al 1 ?_|refine wkB ?_|exact True.intro|(clear hK K)));all_goals (try clear W)
    have hKb:=hK;clear hK
    refine jag (S:=Nat) [(8,2),(13,3),(72,31)] (fun j=>1≤j∧j≤(nth p.tree.nodes x.toNat).l.length∧(jet w vs ((nth p.tree.nodes x.toNat).l.drop j)).or (jeh w p node (L.drop (k+1)) vs)=O) (fun j=>[(13,rI j),(8,.raw (.slice none 0 0)),(9,rB false)]) (fun j=>⟨[],[(0,.var 29 (jah p)),(1,.var 68 (jaH (nth p.tree.nodes x.toNat)))]⟩) (fun j=>(nth p.tree.nodes x.toNat).l.length - j) 1 ⟨by omega,by omega,hk2⟩ (jau rfl lle) ?_
    rintro j ⟨hj1,hj2,hj3⟩ Ks hKs
    by_cases hjl:j < (nth p.tree.nodes x.toNat).l.length
    ·have hbj:=shx.2.1 _ (jam hjl)
     have hw:=ih (nth (nth p.tree.nodes x.toNat).l j) vs hbj.1 (by omega) (by omega) (hbl j hj1 hjl) (by omega)
     rw [ja0 hjl] at hj3
     unfold jet at hj3
     generalize hyd:nth (nth p.tree.nodes x.toNat).l j=y at *
     cases hy:w y vs with
     | none=>
      rw [hy] at hw hj3
      (refine S ?_;try exact True.intro)
      (have W:=And.intro hyd (kb);repeat' (first|refine jaa fun K hK=>?_|refine wkA ?_|(with_reducible refine gR 13 ?_);refine dE 13 [0,1,2,3,4,5,6,7,8,9,10,11,12,13] mixed ?_|(refine hK _ _ ?_;clear hK K)|(refine jad (fun hc=>?_) (fun hc=>?_)<;>first | contradiction | (exfalso;omega) | skip)|refine cp (hw) ?_|refine wkB ?_|exact True.intro|(clear hK K)));all_goals (try clear W)
      refine hKs _ _ (jar (j+1) ⟨by omega,by omega,by simpa using hj3⟩ (by (try simp only);omega) rfl lle)
     | some V=>
      rw [hy] at hw hj3
      have:O=some V:=by rw [← hj3];rfl
      subst this
      (refine S ?_;try exact True.intro)
      (have W:=And.intro hyd (kb);repeat' (first|refine jaa fun K hK=>?_|refine wkA ?_|(with_reducible refine gR 13 ?_);refine dE 13 [0,1,2,3,4,5,6,7,8,9,10,11,12,13] mixed ?_|(refine hK _ _ ?_;clear hK K)|(refine jad (fun hc=>?_) (fun hc=>?_)<;>first | contradiction | (exfalso;omega) | skip)|refine cp (hw) ?_|refine wkB ?_|exact True.intro|(clear hK K)));all_goals (try clear W)
      (refine jaU [.tmp 8,.tmp 9] ?_;try simp only [go_sem])
    ·have hje:j=(nth p.tree.nodes x.toNat).l.length:=by omega
     subst hje
     rw [List.drop_length] at hj3
     have hj3:jeh w p node (L.drop (k+1)) vs=O:=by simpa [jet] using hj3
     (refine S ?_;try exact True.intro)
     (repeat' (first|refine jaa fun K hK=>?_|refine wkA ?_|(refine hK _ _ ?_;clear hK K)|(refine jad (fun hc=>?_) (fun hc=>?_)<;>first | contradiction | (exfalso;omega) | skip)|(refine hKb _ _ ?_)|refine wkB ?_|exact True.intro|(clear hK K)))
     refine hKr _ _ (jaM [1] (k+1,vs) ⟨by show k+1≤L.length;omega,by show vs.length≤vars.length+(k+1);omega,hj3⟩ (by show L.length - (k+1) < L.length - k;omega) rfl Sd (by simp only [go_sem];(try rfl)) vtl)
   ·rw [if_neg kb,Option.none_or] at hk2
    have kb1:¬ (nth p.tree.nodes x.toNat).kind=15:=fun h=>kb (.inl h)
    have kb2:¬ (nth p.tree.nodes x.toNat).kind=16:=fun h=>kb (.inr h)
    (refine S ?_;try exact True.intro)
    (have W:=And.intro hxd (And.intro hxn (k10));repeat' (first|refine jaa fun K hK=>?_|refine wkA ?_|(with_reducible refine gR 7 ?_);refine dE 7 [0,1,2,3,4,5,6,7,8,9,10] mixed ?_|(refine hK _ _ ?_;clear hK K)|(refine jad (fun hc=>?_) (fun hc=>?_)<;>first | contradiction | (exfalso;omega) | skip)|refine al 1 ?_|refine wkB ?_|exact True.intro|(clear hK K)));all_goals (try clear W)
    have hKb:=hK;clear hK
    refine jag (S:=Unit) [(8,2),(13,3),(72,31)] (fun _=>True) (fun j=>[(13,rI 1),(8,.raw (.slice none 0 0)),(9,rB false)]) (fun j=>⟨[],[(0,.var 29 (jah p)),(1,.var 68 (jaH (nth p.tree.nodes x.toNat)))]⟩) (fun j=>0) () trivial (jau rfl lle) ?_
    rintro _ _ Ks hKs
    (refine S ?_;try exact True.intro)
    (have W:=And.intro kb1 (kb2);repeat' (first|refine jaa fun K hK=>?_|refine wkA ?_|(refine hK _ _ ?_;clear hK K)|(refine jad (fun hc=>?_) (fun hc=>?_)<;>first | contradiction | (exfalso;omega) | skip)|(refine hKb _ _ ?_)|refine wkB ?_|exact True.intro|(clear hK K)));all_goals (try clear W)
    all_goals refine hKr _ _ (jaM [1] (k+1,vs) ⟨by show k+1≤L.length;omega,by show vs.length≤vars.length+(k+1);omega,hk2⟩ (by show L.length - (k+1) < L.length - k;omega) rfl Sd (by simp only [go_sem];(try rfl)) vtl)
  ·have hke:k=L.length:=by omega
   subst hke
   rw [List.drop_length] at hk2
   have hk2:O=none:=by simpa [jeh] using hk2.symm
   subst hk2
   (refine S ?_;try exact True.intro)
   (repeat' (first|refine jaa fun K hK=>?_|refine wkA ?_|(refine hK _ _ ?_;clear hK K)|(refine jad (fun hc=>?_) (fun hc=>?_)<;>first | contradiction | (exfalso;omega) | skip)|(refine hKo _ _ ?_)|refine wkB ?_|exact True.intro|(clear hK K)))
   refine jfG [.tmp 8,.tmp 9] ?_
   exact VToL.tup ⟨VTo.nil _ _,.same _ rfl,trivial⟩
structure Fw (c c':Ck):Prop where
 fn:c'.fn=c.fn
 fns:∀ x∈c'.fns,x∈c.fns∨x=c.fn
theorem Fw.refl (c:Ck):Fw c c:=⟨rfl,fun _ h=>.inl h⟩
theorem Fw.trans {a b c:Ck} (h:Fw a b) (k:Fw b c):Fw a c:=⟨k.fn.trans h.fn,fun x hx=>by
 rcases k.fns x hx with e | e
 ·exact h.fns x e
 ·right;rw [e,h.fn]⟩
theorem jgx {c c':Ck} (h1:c'.fn=c.fn) (h2:c'.fns=c.fns):Fw c c':=⟨h1,fun x hx=>by rw [h2] at hx;exact .inl hx⟩
theorem jnX {l:List Int} {i:Nat} {x y:Int} (h:x∈l.set i y):x∈l∨x=y:=by
 rcases List.mem_or_eq_of_mem_set h with h | h
 ·exact .inl h
 ·exact .inr h
theorem jcL (c:Ck) (e a:Int):Fw c (c.fails e a):=by unfold Ck.fails;split<;>exact jgx rfl rfl
theorem jcF (c:Ck) (b:Bool) (a:Int):Fw c (c.must b a):=by unfold Ck.must;split;exact .refl _;exact jcL _ _ _
theorem jhr (c:Ck) (a:Int):Fw c (c.named a).1:=by unfold Ck.named;split;exact jcL _ _ _;exact jgx rfl rfl
theorem jvC (c:Ck) (a t:Int):Fw c (c.note a t):=⟨rfl,fun _ h=>jnX h⟩
theorem jny (c:Ck) (a:Int):Fw c (c.noteF a):=⟨rfl,fun _ h=>jnX h⟩
theorem jmA {c x y:Ck} {q:Prop} [Decidable q] (h:Fw c x) (k:Fw c y):Fw c (if q then x else y):=by split;exact h;exact k
theorem jqi {ex:Ck→Int→Ck×Int} (hx:∀ c a,Fw c (ex c a).1):∀ (L:List Int) (c:Ck) (ts:List Int),Fw c (jcg ex c L ts).1
 | [],c,ts=>by unfold jcg;exact .refl c
 | a::L,c,ts=>by
  unfold jcg
  split
  ·exact (hx c a).trans (jqi hx L _ _)
  ·exact .refl c
theorem jnA (a:Int):∀ (ts:List Int) (ps:List GParam) (c:Ck),Fw c (jbS a c ts ps)
 | [],ps,c=>by rw [jdg];exact .refl c
 | _::_,[],c=>by rw [jdh];exact .refl c
 | x::ts,p::ps,c=>by
  unfold jbS
  split
  ·exact (jcF _ _ _).trans (jnA a ts ps _)
  ·exact .refl c
theorem jvB {ex:Ck→Int→Ck×Int} (hx:∀ c a,Fw c (ex c a).1) (c:Ck) (a:Int):Fw c (jc1 ex c a).1:=by
 unfold jc1
 split
 ·exact jcL _ _ _
 ·simp only
  exact ((jqi hx _ c _).trans (jmA (jcL _ _ _) (.refl _))).trans (jnA _ _ _ _)
theorem jsU {ex:Ck→Int→Ck×Int} (hx:∀ c a,Fw c (ex c a).1) (c:Ck) (a:Int):Fw c (jao ex c a).1:=by
 unfold jao
 simp only
 split
 ·exact .refl c
 split
 ·exact .refl c
 split
 ·exact .refl c
 split
 ·exact jhr _ _
 split
 ·exact jvB hx c a
 split
 ·exact ((jhr _ _).trans (hx _ _)).trans (jcF _ _ _)
 split
 ·exact ((hx _ _).trans (hx _ _)).trans (jcF _ _ _)
 split
 ·exact (hx _ _).trans (jcF _ _ _)
 split
 ·exact (hx _ _).trans (jcF _ _ _)
 split
 ·exact (hx _ _).trans (jcF _ _ _)
 ·exact (hx _ _).trans (jcF _ _ _)
theorem jd8:∀ (n:Nat) (c:Ck) (a:Int),Fw c (jab n c a).1
 | 0,c,a=>by unfold jab;exact .refl c
 | n+1,c,a=>by
  unfold jab
  split
  ·exact .refl c
  ·exact (jsU (jd8 n) c a).trans (jvC _ _ _)
theorem jy0 {ex:Ck→Int→Ck×Int} (hx:∀ c a,Fw c (ex c a).1) (c:Ck) (a:Int):Fw c (jqy ex c a):=by
 have hA:Fw c (jgZ ex c a):=(hx c _).trans (jcF _ _ _)
 have hB:Fw (jgZ ex c a) (jiG ex c a):=jmA (jcL _ _ _) (.refl _)
 have hC:Fw (jiG ex c a) (jcZ ex c a):=jmA (jcL _ _ _) (.refl _)
 rw [ji9]
 exact ((hA.trans hB).trans hC).trans (jgx rfl rfl)
theorem joX {ex:Ck→Int→Ck×Int} (hx:∀ c a,Fw c (ex c a).1) (c:Ck) (a:Int):Fw c (jbh ex c a):=by
 unfold jbh
 simp only
 split
 ·exact jcL _ _ _
 split
 ·exact (hx _ _).trans (jcF _ _ _)
 ·exact .refl c
theorem jjZ {st:Ck→Int→Ck} (hs:∀ c a,Fw c (st c a)):∀ (L:List Int) (c:Ck),Fw c (jaC st c L)
 | [],c=>by unfold jaC;exact .refl c
 | a::L,c=>by
  unfold jaC
  split
  ·exact (hs c a).trans (jjZ hs L _)
  ·exact .refl c
theorem jnx {st:Ck→Int→Ck} (hs:∀ c a,Fw c (st c a)) (c:Ck) (a:Int):Fw c (jaS st c a):=by
 unfold jaS
 simp only
 exact ((jny c a).trans (jjZ hs _ _)).trans (jgx rfl rfl)
theorem jgW:∀ (n:Nat) (c:Ck) (a:Int),Fw c (jae n c a)
 | 0,c,a=>by unfold jae;exact .refl c
 | n+1,c,a=>by
  unfold jae
  simp only
  refine (jny c a).trans ?_
  split
  ·exact jy0 (jd8 n) _ _
  split
  ·exact ((jhr _ _).trans (jd8 n _ _)).trans (jcF _ _ _)
  split
  ·exact (((jhr _ _).trans (jd8 n _ _)).trans (jd8 n _ _)).trans (jcF _ _ _)
  split
  ·exact jd8 n _ _
  split
  ·exact (jd8 n _ _).trans (jcF _ _ _)
  split
  ·exact joX (jd8 n) _ _
  ·exact ((jd8 n _ _).trans (jcF _ _ _)).trans (jjZ (fun c a=>jnx (jgW n) c a) _ _)
theorem jk0 (body:Int):∀ (ps:List GParam) (c:Ck) (i:Int),Fw c (jaF body c ps i)
 | [],c,i=>by unfold jaF;exact .refl c
 | p::ps,c,i=>by
  unfold jaF
  simp only
  have h1:Fw c (if 0≤c.find p.name then c.fails 41 body else c):=jmA (jcL c 41 body) (.refl c)
  generalize (if 0≤c.find p.name then c.fails 41 body else c)=d at *
  refine h1.trans ?_
  exact Fw.trans (b:={ d with vars:=d.vars++[⟨p.name,p.ty,i⟩],more:=d.more.drop 1,size:=d.size+1 }) (jgx rfl rfl) (jk0 body ps _ _)
theorem jmz (c:Ck) (k:Nat):∀ x∈(jay c k).fns,x∈c.fns∨x=(k:Int):=by
 have h:Fw { c with fn:=(k:Int),vars:=[],more:=[],size:=0 } (jay c k):=by
  unfold jay
  simp only
  exact ((jk0 _ _ _ _).trans (jmA (jnx (jgW _) _ _) (.refl _))).trans (jgx rfl rfl)
 exact fun x hx=>h.fns x hx
theorem jgV:∀ (n i:Nat) (c:Ck),∀ x∈(jat c i n).fns,x∈c.fns∨((i:Int)≤x∧x < (i:Int)+n)
 | 0,i,c,x,hx=>by unfold jat at hx;exact .inl hx
 | n+1,i,c,x,hx=>by
  unfold jat at hx
  split at hx
  ·rcases jgV n (i+1) _ x hx with h | h
   ·rcases jmz c i x h with h | h
    ·exact .inl h
    ·right;omega
   ·right;omega
  ·exact .inl hx
theorem jnz (x:GFunc):∀ (l:List GFunc) (c:Ck),Fw c (jcD x c l)
 | [],c=>by unfold jcD;exact .refl c
 | f::l,c=>by
  unfold jcD
  exact (jmA (jcL _ _ _) (.refl _):Fw c (if f.name=x.name then c.fails 41 x.body else c)).trans (jnz x l _)
theorem jhW (fns:List GFunc):∀ (n i:Nat) (c:Ck) (m:Bool),Fw c (jcq fns c m i n).1
 | 0,i,c,m=>by unfold jcq;exact .refl c
 | n+1,i,c,m=>by
  unfold jcq
  exact (jnz _ _ c).trans (jhW fns n (i+1) _ _)
theorem jsT (c:Ck):Fw c (jb6 c):=by
 unfold jb6
 simp only
 exact jmA (jhW _ _ _ _ _) ((jhW _ _ _ _ _).trans (jcL _ _ _))
theorem jsG {t:GTree} (ht:TreeOk t) (he:(jaL t).2.2=0) (h1:0 < t.fns.length):∀ x∈(jaL t).1.fn,0≤x∧x < t.fns.length:=fun x hx=>by
 unfold jaL at he hx
 split at he
 ·rename_i h;exact (h he).elim
 rename_i h
 rw [if_neg h] at hx
 have hx:x∈(jat (jb6 (ck0 t)) 0 t.fns.length).fns:=hx
 rcases jgV t.fns.length 0 _ x hx with g | g
 ·rcases (jsT (ck0 t)).fns x g with g | g
  ·have g:x∈t.nodes.map fun _=>(0:Int):=g
   obtain ⟨_,_,rfl⟩:=List.mem_map.1 g
   omega
  ·have g:x=0:=g
   omega
 ·omega
theorem jrA {s:ByteArray} (he:(jaP s).2.2=0):∀ k,k < (jaP s).1.tree.nodes.length→0≤nth (jaP s).1.fn k∧nth (jaP s).1.fn k < (jaP s).1.tree.fns.length:=by
 have hok:=jrC he
 obtain ⟨j,hj,_⟩:=(jg8 he).names.main
 unfold jaP at he hok hj ⊢
 split at he
 ·rename_i h;exact (h he).elim
 rename_i h
 rw [if_neg h] at hok hj ⊢
 have h:(jaA s).2.2=0:=by omega
 simp only at he hok hj ⊢
 split at he
 ·cases he
 rename_i h2
 split at he
 ·rename_i h3;exact (h3 he).elim
 rename_i h3
 rw [if_neg h2,if_neg h3] at hok hj ⊢
 have ht:=(jjL (je7 h) (by omega)).2
 simp only at hok hj ⊢
 rw [ht] at hj ⊢
 exact fun k hk=>jsG (je7 h) (by omega) (by omega) _ (jam (by rw [hok.fn,ht];exact hk))
theorem jcr {α:Type} [Inhabited α] {a b:List α} (hl:a.length=b.length) (h:∀ j,j < a.length→nth a j=nth b j):a=b:=by
 apply List.ext_getElem hl
 intro i h1 h2
 have:=h i h1
 rwa [jbc h1,jbc h2] at this
structure Fits (s:GState):Prop where
 frs:s.frames.length≤8
 heap:s.heap.length≤40
 out:s.out_.length≤24
 fr:∀ k,k < s.frames.length→(nth s.frames k).slots.length≤24∧(nth s.frames k).path.length≤300
 hp:∀ k,k < s.heap.length→(nth s.heap k).length≤40
theorem jkl:∀ (l:List GParam) (i:Int) (x:GParam),jfm (l++[x]) i=jfm l i++[⟨x.name,x.ty,i+l.length⟩]
 | [],i,x=>by simp [jfm]
 | y::l,i,x=>by
  have:=jkl l (i+1) x
  simp only [List.cons_append,jfm,this,List.length_cons]
  congr 3
  simp only [GVar.mk.injEq,true_and]
  omega
theorem jfE:∀ (l:List GParam) (i:Int),(jfm l i).length=l.length
 | [],i=>rfl
 | y::l,i=>by simp only [jfm,List.length_cons,jfE l (i+1)]
theorem j0h {p:GProg} (h:POk p) (hfn:∀ k,k < p.tree.nodes.length→0≤nth p.fn k∧nth p.fn k < p.tree.fns.length) (node:Int) (h0:0≤node) (h1:node.toNat < p.tree.nodes.length):PCall Tryz.prog 22 [.agg (jah p),rI node] (jaI jcv 3 (jiS p node)):=by
 obtain ⟨f0,f1⟩:=hfn _ h1
 have hlf:=h.fn
 have hmany:=h.tree.many
 have hft:(nth p.fn node.toNat).toNat < p.tree.fns.length:=by omega
 have hbN:=jcM h.tree hft
 have hbk:=h.tree.body _ (jam hft)
 have hps:=(h.tree.fn _ (jam hft)).2
 have hw:=joB h node p.tree.nodes.length (nth p.tree.fns (nth p.fn node.toNat).toNat).body (jfm (nth p.tree.fns (nth p.fn node.toNat).toNat).params 0) hbN.1 (by have:=hbN.1;have:=hbN.2;omega) (by have:=hbN.1;have:=hbN.2;omega) hbk (by rw [jfE];have:=hbN.1;have:=hbN.2;omega)
 unfold jiS
 generalize ja2 p node p.tree.nodes.length (nth p.tree.fns (nth p.fn node.toNat).toNat).body (jfm (nth p.tree.fns (nth p.fn node.toNat).toNat).params 0)=O at *
 generalize hF:nth p.fn node.toNat=g at *
 generalize hG:nth p.tree.fns g.toNat=f at *
 refine jbO Tryz.func22 Tryz.ntmps22 ?_
 (have W:=And.intro hF (hG);repeat' (first|refine jaa fun K hK=>?_|refine wkA ?_|(with_reducible refine gR 1 ?_);refine dE 1 [0,1,2,3,4,5,6,7,8,9,10,11] mixed ?_|(refine hK _ _ ?_;clear hK K)|(refine jad (fun hc=>?_) (fun hc=>?_)<;>first | contradiction | (exfalso;omega) | skip)|refine bx 0 ?_|refine al 1 ?_|refine wkB ?_|exact True.intro|(clear hK K)));all_goals (try clear W)
 have hKo:=hK;clear hK
 have hpl:∀ k,(jfm (f.params.take k) 0).length=min k f.params.length:=fun k=>by rw [jfE];simp
 refine jag (S:=Nat) [(6,2),(21,24)] (fun k=>k≤f.params.length) (fun k=>[(6,.rs 2 k 3 k),(7,rI k)]) (fun k=>⟨[],[(0,.var 29 (jah p)),(1,.var 66 (jbn f)),(2,.vec 70 3 ((jfm (f.params.take k) 0).map jcv))]⟩) (fun k=>f.params.length - k) 0 (by omega) (jau rfl lle) ?_
 rintro k hk Kr hKr
 have hkl:(jfm (f.params.take k) 0).length=k:=by rw [hpl];omega
 by_cases hlt:k < f.params.length
 ·(refine S ?_;try exact True.intro)
  (have W:=hkl;repeat' (first|refine jaa fun K hK=>?_|refine wkA ?_|(with_reducible refine gR 6 ?_);refine dE 6 [0,1,2,3,4,5,6,7,8,9,10,11,12,13,14,15,16,17] mixed ?_|(refine hK _ _ ?_;clear hK K)|(refine jad (fun hc=>?_) (fun hc=>?_)<;>first | contradiction | (exfalso;omega) | skip)|refine wkB ?_|exact True.intro|(clear hK K)));all_goals (try clear W)
  refine hKr _ _ (jar (k+1) (by omega) (by show f.params.length - (k+1) < f.params.length - k;omega) ?_ lle)
  show Hp.mk _ [_,_,_]=Hp.mk _ [_,_,(2,.vec _ _ ((jfm (f.params.take (k+1)) 0).map jcv))]
  rw [ja8 hlt,jkl,List.map_append]
  have:((0:Int)+(f.params.take k).length)=(k:Int):=by simp;omega
  rw [this]
  rfl
 ·have hke:k=f.params.length:=by omega
  subst hke
  rw [List.take_length] at hkl ⊢
  (refine S ?_;try exact True.intro)
  (have W:=hkl;repeat' (first|refine jhF (id:=7) [2] [(20,1)] [(6,jaI jcv 3 (jfm f.params 0))] ?_|refine jaa fun K hK=>?_|refine wkA ?_|(refine hK _ _ ?_;clear hK K)|(refine jad (fun hc=>?_) (fun hc=>?_)<;>first | contradiction | (exfalso;omega) | skip)|refine cp (hw) ?_|(refine hKo _ _ ?_)|refine wkB ?_|exact True.intro|(clear hK K)));all_goals (try clear W)
  (refine jaU [.tmp 4] ?_;try simp only [go_sem])
theorem jf3 (n y:Int) (l:List Int) (i:Int):jee n (y::l) i=if y=n then i else jee n l (i+1):=rfl
theorem jn5 (n:Int):∀ (l:List Int) (i:Int) (x:Int),0≤i→jee n (l++[x]) i=if jee n l i < 0 then (if x=n then i+l.length else -1) else jee n l i
 | [],i,x,hi=>by simp [jee]
 | y::l,i,x,hi=>by
  rw [List.cons_append,jf3,jf3]
  by_cases h:y=n
  ·simp only [if_pos h]
   rw [if_neg (by omega)]
  ·simp only [if_neg h]
   rw [jn5 n l (i+1) x (by omega)]
   simp only [List.length_cons]
   have:i+1+(l.length:Int)=i+((l.length+1:Nat):Int):=by omega
   rw [this]
theorem jik (n:Int):∀ (l:List Int) (i:Int),0≤i→(jee n l i < 0↔∀ j,j < l.length→nth l j≠n)∧(jee n l i=-1∨(i≤jee n l i∧jee n l i < i+l.length))
 | [],i,hi=>⟨by simp [jee],.inl rfl⟩
 | y::l,i,hi=>by
  obtain ⟨a,b⟩:=jik n l (i+1) (by omega)
  simp only [jee]
  by_cases h:y=n
  ·rw [if_pos h]
   refine ⟨⟨fun h'=>by omega,fun h'=>(h' 0 (by simp) h).elim⟩,.inr ⟨by omega,by simp;omega⟩⟩
  ·rw [if_neg h]
   refine ⟨⟨fun h' j hj=>?_,fun h'=>a.2 fun j hj=>h' (j+1) (by simpa using hj)⟩,?_⟩
   ·cases j with
    | zero=>exact h
    | succ j=>exact a.1 h' j (by simpa using hj)
   ·rcases b with b | b
    ·exact .inl b
    ·right;simp only [List.length_cons];omega
theorem jlx (l:List Int) (n:Int) (hl:l.length≤1000000):PCall Tryz.prog 78 [jaI eI 1 l,rI n] (rI (jee n l 0)):=by
 refine jbO Tryz.func78 Tryz.ntmps78 ?_
 (repeat' (first|refine jaa fun K hK=>?_|refine wkA ?_|(refine hK _ _ ?_;clear hK K)|(refine jad (fun hc=>?_) (fun hc=>?_)<;>first | contradiction | (exfalso;omega) | skip)|refine wkB ?_|exact True.intro|(clear hK K)))
 have hKo:=hK;clear hK
 refine jag (S:=Nat) [(4,15)] (fun k=>k≤l.length∧jee n l 0=jee n (l.drop k) k) (fun k=>[(5,rI k)]) (fun k=>⟨[],[]⟩) (fun k=>l.length - k) 0 ⟨by omega,rfl⟩ (jau (by simp only [go_sem]) lle) ?_
 rintro k ⟨hk1,hk2⟩ Kr hKr
 by_cases hlt:k < l.length
 ·rw [ja0 hlt,jf3] at hk2
  (refine S ?_;try exact True.intro)
  (repeat' (first|refine jaa fun K hK=>?_|refine wkA ?_|(refine hK _ _ ?_;clear hK K)|(refine jad (fun hc=>?_) (fun hc=>?_)<;>first | contradiction | (exfalso;omega) | skip)|refine wkB ?_|exact True.intro|(clear hK K)))
  ·(refine jaU [.tmp 4] ?_;try simp only [go_sem])
   rw [hk2,if_pos hc]
  ·rw [if_neg hc] at hk2
   refine hKr _ _ (jar (k+1) ⟨by omega,by rw [hk2];push_cast;rfl⟩ (by (try simp only);omega) (by simp only [go_sem]) lle)
 ·have hke:k=l.length:=by omega
  subst hke
  rw [List.drop_length] at hk2
  have hk2:jee n l 0=-1:=hk2
  (refine S ?_;try exact True.intro)
  (repeat' (first|refine jaa fun K hK=>?_|refine wkA ?_|(refine hK _ _ ?_;clear hK K)|(refine jad (fun hc=>?_) (fun hc=>?_)<;>first | contradiction | (exfalso;omega) | skip)|(refine hKo _ _ ?_)|refine wkB ?_|exact True.intro|(clear hK K)))
  (refine jaU [.tmp 4] ?_;try simp only [go_sem])
  rw [hk2]
theorem jkf {p:GProg} (h:POk p) (b:Int):(jaj p b).l.length≤300:=by
 have hm:=h.tree.many
 by_cases hb:b.toNat < p.tree.nodes.length
 ·obtain ⟨lo,hc⟩:=(h.tree.shape b.toNat hb).2.2
  have:=jhI hc
  show (nth p.tree.nodes b.toNat).l.length≤300
  omega
 ·unfold jaj nth
  rw [List.getD_eq_getElem?_getD,List.getElem?_eq_none (by omega)]
  exact Nat.zero_le _
structure AtAll (p:GProg) (s:GState):Prop where
 pa:∀ k,k < s.frames.length→1≤(nth s.frames k).path.length∧(nth s.frames k).path.length≤1000
 b:∀ k,k < s.frames.length→0≤(nth s.frames k).pl.block∧(nth s.frames k).pl.block.toNat < p.tree.nodes.length
 at_:∀ k,k < s.frames.length→0≤(nth s.frames k).pl.at_∧(nth s.frames k).pl.at_ < (jaj p (nth s.frames k).pl.block).l.length
theorem jok {p:GProg} {s:GState} (h:AtAll p s) (hf:Fits s):PCall Tryz.prog 16 [.agg (jah p),.agg (jal s)] (.agg (jcc (jcJ p s))):=by
 have hfl:=hf.frs
 refine jbO Tryz.func16 Tryz.ntmps16 ?_
 (repeat' (first|refine jaa fun K hK=>?_|refine wkA ?_|(refine hK _ _ ?_;clear hK K)|(refine jad (fun hc=>?_) (fun hc=>?_)<;>first | contradiction | (exfalso;omega) | skip)|refine bx 0 ?_|refine bx 1 ?_|refine al 2 ?_|refine al 3 ?_|refine wkB ?_|exact True.intro|(clear hK K)))
 refine jaD (FLe.nilC 4 3 0 47 3 rfl (by decide) rfl rfl) ?_
 (refine S ?_;try exact True.intro)
 have hKo:=hK;clear hK
 refine jag (S:=Nat) [(6,3),(22,42)] (fun k=>k≤s.frames.length) (fun k=>[(6,rI k)]) (fun k=>⟨[],[(0,.var 29 (jah p)),(1,.var 42 (jal s)),(2,.var 38 [.raw (.slice none 0 0),.raw (.slice none 0 0),rI 0,.raw (.slice none 0 0),rI 0,rI 0,rI 0]),(3,.var 38 [.rs 4 k 3 k,jaI eLI 1 s.heap,rI s.in_,jaI eS 1 s.out_,rI s.status,rI s.trap,rI s.time]),(4,.vec 47 3 (((s.frames.take k).map (jiQ p)).map jb4))]⟩) (fun k=>s.frames.length - k) 0 (by omega) (jau rfl lle) ?_
 rintro k hk Kr hKr
 have hkl:((s.frames.take k).map (jiQ p)).length=k:=by simp;omega
 by_cases hlt:k < s.frames.length
 ·obtain ⟨a1,a2⟩:=h.pa k hlt
  obtain ⟨b1,b2⟩:=h.b k hlt
  obtain ⟨c1,c2⟩:=h.at_ k hlt
  unfold GFrame.pl at b1 b2 c1 c2
  unfold jaj at c2
  generalize hx:nth s.frames k=x at *
  (refine S ?_;try exact True.intro)
  (have W:=And.intro hkl (hx);repeat' (first|refine jaa fun K hK=>?_|refine wkA ?_|(with_reducible refine gR 7 ?_);refine dE 7 [0,1,2,3,4,5,6,7,8,9,10,11,12,13,14,15,16,17,18,19,20,21,22] mixed ?_|(refine hK _ _ ?_;clear hK K)|(refine jad (fun hc=>?_) (fun hc=>?_)<;>first | contradiction | (exfalso;omega) | skip)|refine al 5 ?_|refine al 6 ?_|refine wkB ?_|exact True.intro|(clear hK K)));all_goals (try clear W)
  refine hKr _ _ (jaM [5,6] (k+1) (by omega) (by show s.frames.length - (k+1) < s.frames.length - k;omega) rfl Sd ?_ vtl)
  show Hp.mk _ [_,_,_,_,(4,_)]=Hp.mk _ [_,_,_,_,(4,.vec _ _ (((s.frames.take (k+1)).map (jiQ p)).map jb4))]
  rw [ja8 hlt,List.map_append,List.map_append,hx]
  rfl
 ·have hke:k=s.frames.length:=by omega
  subst hke
  rw [List.take_length] at hkl ⊢
  (refine S ?_;try exact True.intro)
  (have W:=hkl;repeat' (first|refine jaa fun K hK=>?_|refine wkA ?_|(refine hK _ _ ?_;clear hK K)|(refine jad (fun hc=>?_) (fun hc=>?_)<;>first | contradiction | (exfalso;omega) | skip)|(refine hKo _ _ ?_)|refine wkB ?_|exact True.intro|(clear hK K)));all_goals (try clear W)
  refine jfG [.cell 4 38] ?_
  refine VToL.agg (ds:=jcc (jcJ p s)) ⟨VTo.row ((s.frames).map (jiQ p)) rfl rfl (by simp),.same _ rfl,.same _ rfl,.same _ rfl,.same _ rfl,.same _ rfl,.same _ rfl,trivial⟩
end Go.Proofs.YtdekkklnfifphaaGreatDoor

/- What a program means: returns, prints, tests. What a program means: tests; each statement. What a program means: a state that shares nothing. No conditions. -/
import Derived.Test.YtfkgcobaheegbaaGreatDoorSo9
import Derived.Test.YtfkgcobaheegbaaGreatDoorP8
set_option linter.all false
namespace Go.Proofs.YtfkgcobaheegbaaGreatDoor
open Go Go.Gd
set_option maxHeartbeats 4000000
set_option maxRecDepth 10000
def _root_.Go.Gd.RS.says (R:RS) (w:ByteArray):RS:={ R with out_:=R.out_++[w] }
theorem jyA {t:TypeId} {pre post:List AV} {R:RS} {tl:List (Nat×Row)} {w:ByteArray} {c0:List AV} {o:List (List AV)} (hc:c0=pre++(R.says w).c++post) (ho:o=R.out_.map eS++[[rS w]]) :
  (0,.var t c0)::(1,.vec 57 3 (tab R.frs.length R.fr))::(2,.vec 22 1 (tab R.heap.length fun k=>[.rs (fid 2 k) (nth R.heap k).length 1 (nth R.heap k).length]))::(3,.vec 9 1 o) ::
   fam 0 R.frs.length R.sl (fam 1 R.frs.length R.pt (fam 2 R.heap.length R.hp tl))=(R.says w).e t pre post tl:=
 RS.e_mk (R:=R.says w) hc rfl (fun _ _=>rfl) rfl (fun _ _=>rfl) (by rw [ho];simp [RS.says];rfl) rfl rfl rfl (fun _ _=>rfl) (fun _ _=>rfl) (fun _ _=>rfl) rfl
end Go.Proofs.YtfkgcobaheegbaaGreatDoor
namespace Go.Gd
open Go
def RS.rows (R:RS):List (Nat×Row):=
 (1,.vec 57 3 (tab R.frs.length R.fr))::(2,.vec 22 1 (tab R.heap.length fun k=>[.rs (fid 2 k) (nth R.heap k).length 1 (nth R.heap k).length]))::(3,.vec 9 1 (R.out_.map eS)) ::
  fam 0 R.frs.length R.sl (fam 1 R.frs.length R.pt (fam 2 R.heap.length R.hp []))
theorem jga {n:Nat} {S:Type} {W:List (Nat×Nat)} {ok:S→Prop} {J:S→List (Nat×AV)} {G:S→Hp} {μ:S→Nat} {F₀ F:List AV} {B:List Nat} {l:List (Nat×Row)} (l':List (Nat×Row)) (D:Nat→Bool) (s:S) (h1:ok s) (h2:μ s < n) (hperm:∀ i,jau l i=jau l' i) (hB:B.all (jcQ D)=true) (hl:jeu D l') (h4:⟨B,jbf D l'⟩=G s) (h3:VToL D ⟨B,l'⟩ F (jly (J s) (joC W F₀))):Next n W ok J G μ F₀ F ⟨B,l⟩:=
 ⟨s,h2,(FLe.perm l' hperm).trans (by rw [← h4];exact FLe.free D hB hl h3),h1⟩
theorem jmy (D:Nat→Bool) (a:Nat) (f:Nat→Row) (l:List (Nat×Row)):∀ (n k:Nat),(∀ j,k≤j→j < k+n→jsi (jcQ D) (f j))→jeu D l→jeu D (jet a f k n l)
 | 0,k,_,h=>h
 | n+1,k,hf,h=>⟨.inr (hf k (Nat.le_refl _) (by omega)),jmy D a f l n (k+1) (fun j h1 h2=>hf j (by omega) (by omega)) h⟩
theorem jcV {D:Nat→Bool} {a n:Nat} {f:Nat→Row} {l:List (Nat×Row)} (hf:∀ j,j < n→jsi (jcQ D) (f j)) (h:jeu D l):jeu D (fam a n f l):=jmy D a f l n 0 (fun j _ h2=>hf j (by omega)) h
theorem jj9 (D:Nat→Bool) (a:Nat) (f:Nat→Row) (l:List (Nat×Row)) (hD:∀ k,D (fid a k)=false):∀ (n k:Nat),jbf D (jet a f k n l)=jet a f k n (jbf D l)
 | 0,k=>rfl
 | n+1,k=>by
  show (bif D (fid a k) then _ else (fid a k,f k)::jbf D (jet a f (k+1) n l))=_
  rw [hD k,jj9 D a f l hD n (k+1)];rfl
theorem jcd {D:Nat→Bool} {a n:Nat} {f:Nat→Row} {l:List (Nat×Row)} (hD:∀ k,D (fid a k)=false):jbf D (fam a n f l)=fam a n f (jbf D l):=jj9 D a f l hD n 0
theorem jbv {L:List Nat} (h:L.all (fun i=>decide (i < 1000))=true) (a k:Nat):L.contains (fid a k)=false:=by
 cases e:L.contains (fid a k) with
 | false=>rfl
 | true=>
  have:=List.all_eq_true.1 h _ (List.contains_iff_mem.1 e)
  simp only [decide_eq_true_eq] at this
  have:=jcs a k;omega
theorem jzh {P:Program} {fn:Func} {F:List AV} {l0 l':List (Nat×Row)} {out:List AV} {e:Exit} {r:AV} {l:List (Nat×Row)} (hperm:∀ i,jau l0 i=jau l' i) (rs:List ResultVar) (hv:jby out=r) (hl:jeu lowQ l') (hq:(jby out).all (jcQ lowQ)=true) (h2:jbf lowQ l'=l) (hrs:fn.results.toList=rs:=by rfl) (he:e=.normal∨e=.ret:=by first | exact Or.inr rfl | exact Or.inl rfl | fail)
  (ho:jgC P ⟨[],l0⟩ F rs=some out:=by first | (simp (disch:=first | omega | fail) only [go_sem,↓reduceIte,Nat.reduceEqDiff,Nat.reduceLeDiff,Nat.reduceSub,Nat.reduceAdd];rfl) | rfl) (hok:jbW P ⟨[],l0⟩ F rs:=by first | exact True.intro | (simp (disch:=first | omega | fail) only [go_sem,↓reduceIte,Nat.reduceEqDiff,Nat.reduceLeDiff,Nat.reduceSub,Nat.reduceAdd])):jjz P fn (fun r' l'=>r'=r∧l'=l) e F ⟨[],l0⟩:=by
 subst hrs
 refine jkk he ho hok r ⟨[],l⟩ ((joU l' hperm).trans ?_) ⟨rfl,rfl⟩
 have:=RLe.free (H:=⟨[],l'⟩) lowQ rfl hl (jks hv hq)
 rw [h2] at this
 exact this
theorem j22 {P:Program} {A:AS} {H:Hp} (i:Nat) {t e:TypeId} {sz:Nat} {x:AV} {c:Prop} {ys:List (List AV)} {zs:List Value} {f:AV→Hp→Prop} {d:Dep fun r H'=>HLx A H H'∧f r H'} {q:Prop} (k:q) (ht:elT P t=some e:=by (simp only [go_sem];rfl)) (hs:jcy P e=some sz:=by (simp only [go_sem];done)) (hz:jbN P e=some zs:=by (simp only [go_sem];rfl)) (hzl:zs.length=sz:=by rfl) (h0:0 < sz:=by decide)
  (hx:jny H x=some (c,ys):=by rfl) (hc:c:=by trivial) (hg:jkv sz ys:=by (simp (disch:=first | omega | assumption | fail) only [go_sem];done)) (hr:room (jcc P e) ys.length:=by (simp only [go_sem];omega)) (hi:H.get i=none:=by first | rfl | (simp (disch:=first | omega | assumption | fail) only [go_sem,↓reduceIte,Nat.reduceEqDiff,Nat.reduceAdd];done))
  (e:f (.rs i ys.length sz ys.length) (H.put i (.vec e sz ys))=q:=by (simp (disch:=first | omega | assumption | fail) only [go_sem,jeR,↓reduceIte,Int.reduceToNat,Nat.reduceMul,Nat.reduceAdd,Nat.reduceLeDiff,Nat.reduceSub,Nat.reduceEqDiff,Nat.reduceBEq];rfl)):jc5 P t t (.sl true sz [] []) x H (AP (fun r H'=>HLx A H H'∧f r H') d):=apN (b:=true) (d:=d) i k ht hs hz hzl h0 hx hc hg hr hi e
theorem jlj (D:Nat→Bool) (R:RS) (k:Nat):jsi (jcQ D) (R.sl k):=jcf (enc:=jak) (sz:=3) _
theorem jli (D:Nat→Bool) (R:RS) (k:Nat):jsi (jcQ D) (R.pt k):=jcf (enc:=jaV) (sz:=2) _
theorem jrA (D:Nat→Bool) (R:RS) (k:Nat):jsi (jcQ D) (R.hp k):=jcf (enc:=eI) (sz:=1) _
def RS.rowsT (R:RS) (tl:List (Nat×Row)):List (Nat×Row):=
 (1,.vec 57 3 (tab R.frs.length R.fr))::(2,.vec 22 1 (tab R.heap.length fun k=>[.rs (fid 2 k) (nth R.heap k).length 1 (nth R.heap k).length]))::(3,.vec 9 1 (R.out_.map eS)) ::
  fam 0 R.frs.length R.sl (fam 1 R.frs.length R.pt (fam 2 R.heap.length R.hp tl))
theorem RS.rowsT_nil (R:RS):R.rowsT []=R.rows:=rfl
theorem RS.e_rows {t:TypeId} {pre post:List AV} {R:RS} {tl:List (Nat×Row)}:R.e t pre post tl=(0,.var t (pre++R.c++post))::R.rowsT tl:=rfl
theorem RS.rowsT_app (R:RS) (tl:List (Nat×Row)):R.rowsT tl=R.rows++tl:=by
 rw [← RS.rowsT_nil]
 unfold RS.rowsT
 rw [show tl=[]++tl from rfl,jed,jed,jed]
 rfl
theorem RS.rows_no {R:RS} (i:Nat) (h:i=0∨4≤i) (h':i < 1000):jau R.rows i=none:=by
 rw [← RS.rowsT_nil]
 unfold RS.rowsT
 simp only [jau]
 rw [if_neg (by omega),if_neg (by omega),if_neg (by omega),jbK _ _ _ _ _ h',jbK _ _ _ _ _ h',jbK _ _ _ _ _ h']
 rfl
@[go_sem] theorem RS.rowsT_get (R:RS) (tl:List (Nat×Row)) (i:Nat) (h:i=0∨4≤i) (h':i < 1000):jau (R.rowsT tl) i=jau tl i:=by
 rw [RS.rowsT_app,jbE,RS.rows_no i h h'];rfl
@[go_sem] theorem RS.rowsT_put (R:RS) (tl:List (Nat×Row)) (i:Nat) (r:Row) (h:i=0∨4≤i) (h':i < 1000):jhv (R.rowsT tl) i r=R.rowsT (jhv tl i r):=by
 unfold RS.rowsT
 simp only [jhv]
 rw [if_neg (by omega),if_neg (by omega),if_neg (by omega),jeH _ _ _ _ _ _ h',jeH _ _ _ _ _ _ h',jeH _ _ _ _ _ _ h']
end Go.Gd
namespace Go.Proofs.YtfkgcobaheegbaaGreatDoor
open Go Go.Gd
set_option maxHeartbeats 4000000
set_option maxRecDepth 10000
theorem ju5 (s:GState) (h1:s.frames.length≤1000) (h2:s.heap.length≤1000) (h3:s.out_.length≤1000) (h4:∀ k,k < s.frames.length→(nth s.frames k).slots.length≤1000∧(nth s.frames k).path.length≤1000) (h5:∀ k,k < s.heap.length→(nth s.heap k).length≤1000) :
  ACalls Tryz.prog 29 [.agg (jao s)] [] (fun r l=>r=.agg (RS.of s).c∧l=(RS.of s).rows):=by
 generalize hR:RS.of s=R
 refine jaK Tryz.func29 Tryz.ntmps29 ?_
 (repeat' (first|refine jaa fun K hK=>?_|refine wkA ?_|(refine hK _ _ ?_;clear hK K)|(refine jae (fun hc=>?_) (fun hc=>?_)<;>first | contradiction | (exfalso;omega) | skip)|refine bxF 4 ?_|refine alF 5 ?_|refine alF 6 ?_|refine jsh 3 ?_|refine wkB ?_|exact True.intro|(clear hK K)))
 refine ja1 (FLe.nilC 1 6 0 57 3 rfl (by decide) rfl rfl) ?_
 refine ja1 (FLe.nilC 2 6 1 22 1 rfl (by decide) rfl rfl) ?_
 (refine S ?_;try exact True.intro)
 have hKo:=hK;clear hK
 refine jah (S:=Nat) [(4,2),(15,28)] (fun k=>k≤s.frames.length) (fun k=>[(4,rI k)])
  (fun k=>⟨[],(4,.var 39 (jao s))::(5,.var 39 [.raw (.slice none 0 0),.raw (.slice none 0 0),rI 0,.raw (.slice none 0 0),rI 0,rI 0,rI 0])::(6,.var 39 [.rs 1 k 3 k,.rs 2 0 1 0,rI s.in_,.rs 3 s.out_.length 1 s.out_.length,rI s.status,rI s.trap,rI s.time])::(3,.vec 9 1 (s.out_.map eS))::(1,.vec 57 3 (tab k R.fr))::(2,.vec 22 1 [])::fam 0 k R.sl (fam 1 k R.pt [])⟩)
  (fun k=>s.frames.length - k) 0 (by omega) (jaH ?_ lle) ?_
 ·rfl
 rintro k hk Kr hKr
 by_cases hkl:k < s.frames.length
 ·obtain ⟨g1,g2⟩:=h4 k hkl
  have hfr:jaN (nth s.frames k)=[rI (nth s.frames k).fn,jal jak 3 (nth s.frames k).slots,jal jaV 2 (nth s.frames k).path]:=rfl
  (refine S ?_;try exact True.intro)
  (have W:=hfr;repeat' (first|refine jaa fun K hK=>?_|refine wkA ?_|(refine hK _ _ ?_;clear hK K)|(refine jae (fun hc=>?_) (fun hc=>?_)<;>first | contradiction | (exfalso;omega) | skip)|refine alF 7 ?_|refine jsh (fid 0 k) ?_|refine jsh (fid 1 k) ?_|refine jsh 8 ?_|refine wkB ?_|exact True.intro|(clear hK K)));all_goals (try clear W)
  have hRf:∀ j,j < k+1→(if j=k then [rI (nth s.frames k).fn,.rs (fid 0 k) (nth s.frames k).slots.length 3 (nth s.frames k).slots.length,.rs (fid 1 k) (nth s.frames k).path.length 2 (nth s.frames k).path.length] else R.fr j)=R.fr j:=fun j hj=>by
   split
   ·rename_i e
    subst e
    subst hR
    unfold RS.fr
    rw [show nth (RS.of s).jp j=[] from jeJ _ _ _ hkl]
    rfl
   ·rfl
  have hg0:=jcs 0 k
  have hg1:=jcs 1 k
  have hg2:fid 1 k≠fid 0 k:=fun e=>by have:=(jdi (by omega) (by omega) e).1;omega
  refine hKr _ _ (jga ((4,.var 39 (jao s))::(5,.var 39 [.raw (.slice none 0 0),.raw (.slice none 0 0),rI 0,.raw (.slice none 0 0),rI 0,rI 0,rI 0])::(6,.var 39 [.rs 1 (k+1) 3 (k+1),.rs 2 0 1 0,rI s.in_,.rs 3 s.out_.length 1 s.out_.length,rI s.status,rI s.trap,rI s.time])::(3,.vec 9 1 (s.out_.map eS))::(1,.vec 57 3 (tab (k+1) R.fr))::(2,.vec 22 1 []) ::
   fam 0 (k+1) R.sl (fam 1 (k+1) R.pt [(7,.var 57 [rI (nth s.frames k).fn,.rs (fid 0 k) (nth s.frames k).slots.length 3 (nth s.frames k).slots.length,.rs (fid 1 k) (nth s.frames k).path.length 2 (nth s.frames k).path.length]),(8,.vec 57 3 [[rI (nth s.frames k).fn,.rs (fid 0 k) (nth s.frames k).slots.length 3 (nth s.frames k).slots.length,.rs (fid 1 k) (nth s.frames k).path.length 2 (nth s.frames k).path.length]])]))
   (fun i=>[7,8].contains i) (k+1) (by omega) (by show s.frames.length - (k+1) < s.frames.length - k;omega) (jaM _ _ (jaM _ _ (jaM _ _ (jaM _ _ (jbs _ ?_ (jaM _ _ fun i=>?_)))))) rfl ?_ ?_ ?_)
  ·exact congrArg (Row.vec _ _) (jch rfl hRf)
  ·refine (jaY 0 k R.sl (fun i=>jaY 1 k R.pt (l':=[_,_]++[(fid 1 k,.vec 89 2 ((nth s.frames k).path.map jaV)),(fid 0 k,.vec 59 3 ((nth s.frames k).slots.map jak))]) (fun i=>?_) i) i).trans (jkO (h:=0) (q:=R.hp) R.sl R.pt (fun _ _=>rfl) (fun _ _=>rfl) ?_ ?_ jaf i)
   ·simp only [jau,List.cons_append,List.nil_append]
    repeat' split
    all_goals first
     | rfl
     | (exfalso;omega)
   ·subst hR;rfl
   ·subst hR
    unfold RS.pt
    rw [show nth (RS.of s).jp k=[] from jeJ _ _ _ hkl,List.append_nil];rfl
  ·refine ⟨.inr (jea _ _),.inr rfl,.inr rfl,.inr (jcf (enc:=eS) (sz:=1) _),.inr (jhC fun j _=>?_),.inr (jrs _),jcV (fun j _=>jlj _ _ _) (jcV (fun j _=>jli _ _ _) ⟨.inl rfl,.inl rfl,trivial⟩)⟩
   simp only [RS.fr,jaE,AV.all,jcQ,jbv (L:=[7,8]) rfl];rfl
  ·show Hp.mk [] (_::_::_::_::_::_::jbf _ (fam 0 _ _ _))=_
   rw [jcd (jbv rfl 0),jcd (jbv rfl 1)]
   rfl
  ·exact vtl
 ·have hke:k=s.frames.length:=by omega
  subst hke
  (refine S ?_;try exact True.intro)
  (repeat' (first|refine jaa fun K hK=>?_|refine wkA ?_|(refine hK _ _ ?_;clear hK K)|(refine jae (fun hc=>?_) (fun hc=>?_)<;>first | contradiction | (exfalso;omega) | skip)|(refine hKo _ _ ?_)|refine wkB ?_|exact True.intro|(clear hK K)))
  have hKp:=hK;clear hK
  refine jah (S:=Nat) [(6,1),(43,19)] (fun j=>j≤s.heap.length) (fun j=>[(6,rI j)])
   (fun j=>⟨[],(4,.var 39 (jao s))::(5,.var 39 [.raw (.slice none 0 0),.raw (.slice none 0 0),rI 0,.raw (.slice none 0 0),rI 0,rI 0,rI 0])::(6,.var 39 [.rs 1 s.frames.length 3 s.frames.length,.rs 2 j 1 j,rI s.in_,.rs 3 s.out_.length 1 s.out_.length,rI s.status,rI s.trap,rI s.time])::(3,.vec 9 1 (s.out_.map eS))::(1,.vec 57 3 (tab s.frames.length R.fr))::(2,.vec 22 1 (tab j fun k=>[.rs (fid 2 k) (nth s.heap k).length 1 (nth s.heap k).length]))::fam 0 s.frames.length R.sl (fam 1 s.frames.length R.pt (fam 2 j R.hp []))⟩)
   (fun j=>s.heap.length - j) 0 (by omega) (jaH rfl lle) ?_
  rintro j hj Ks hKs
  by_cases hjl:j < s.heap.length
  ·have g3:=h5 j hjl
   (refine S ?_;try exact True.intro)
   (repeat' (first|refine jaa fun K hK=>?_|refine wkA ?_|(with_reducible refine gR 15 ?_);refine dC 15 ([],[],[58,59]) [] [0,1,2,3,4,5,6,7,8,9,10,11,12] mixed ?_|(refine hK _ _ ?_;clear hK K)|(refine jae (fun hc=>?_) (fun hc=>?_)<;>first | contradiction | (exfalso;omega) | skip)|refine j22 (fid 2 j) ?_|refine j0M 8 ?_|refine wkB ?_|exact True.intro|(clear hK K)))
   have hRp:∀ i,i < j+1→(if i=j then [AV.rs (fid 2 j) (nth s.heap j).length 1 (nth s.heap j).length] else [AV.rs (fid 2 i) (nth s.heap i).length 1 (nth s.heap i).length])=[AV.rs (fid 2 i) (nth s.heap i).length 1 (nth s.heap i).length]:=fun i hi=>by
    split
    ·rename_i e
     subst e
     rfl
    ·rfl
   have hg2:=jcs 2 j
   refine hKs _ _ (jga ((4,.var 39 (jao s))::(5,.var 39 [.raw (.slice none 0 0),.raw (.slice none 0 0),rI 0,.raw (.slice none 0 0),rI 0,rI 0,rI 0])::(6,.var 39 [.rs 1 s.frames.length 3 s.frames.length,.rs 2 (j+1) 1 (j+1),rI s.in_,.rs 3 s.out_.length 1 s.out_.length,rI s.status,rI s.trap,rI s.time])::(3,.vec 9 1 (s.out_.map eS))::(1,.vec 57 3 (tab s.frames.length R.fr))::(2,.vec 22 1 (tab (j+1) fun k=>[.rs (fid 2 k) (nth s.heap k).length 1 (nth s.heap k).length])) ::
    fam 0 s.frames.length R.sl (fam 1 s.frames.length R.pt (fam 2 (j+1) R.hp [(8,.vec 22 1 [[.rs (fid 2 j) (nth s.heap j).length 1 (nth s.heap j).length]])])))
    (fun i=>[8].contains i) (j+1) (by omega) (by show s.heap.length - (j+1) < s.heap.length - j;omega) (jaM _ _ (jaM _ _ (jaM _ _ (jaM _ _ (jaM _ _ (jbs _ ?_ fun i=>?_)))))) rfl ?_ ?_ ?_)
   ·exact congrArg (Row.vec _ _) (jch rfl hRp)
   ·refine (jaY 0 _ R.sl (fun i=>jaY 1 _ R.pt (fun i=>jaY 2 j R.hp (l':=[_]++[(fid 2 j,.vec 3 1 ((nth s.heap j).map eI))]) (fun i=>?_) i) i) i).trans (jkN R.hp (fun _ _=>rfl) ?_ jaf i)
    ·simp only [jau,List.cons_append,List.nil_append]
     repeat' split
     all_goals first
      | rfl
      | (exfalso;omega)
    ·subst hR
     unfold RS.hp
     rfl
   ·refine ⟨.inr (jea _ _),.inr rfl,.inr rfl,.inr (jcf (enc:=eS) (sz:=1) _),.inr (jhC fun j _=>?_),.inr (jhC fun j _=>?_),jcV (fun j _=>jlj _ _ _) (jcV (fun j _=>jli _ _ _) (jcV (fun j _=>jrA _ _ _) ⟨.inl rfl,trivial⟩))⟩
    ·simp only [RS.fr,jaE,AV.all,jcQ,jbv (L:=[8]) rfl];rfl
    ·simp only [jaE,AV.all,jcQ,jbv (L:=[8]) rfl];rfl
   ·show Hp.mk [] (_::_::_::_::_::_::jbf _ (fam 0 _ _ _))=_
    rw [jcd (jbv rfl 0),jcd (jbv rfl 1),jcd (jbv rfl 2)]
    rfl
   ·exact vtl
  ·have hje:j=s.heap.length:=by omega
   subst hje
   (refine S ?_;try exact True.intro)
   (repeat' (first|refine jaa fun K hK=>?_|refine wkA ?_|(refine hK _ _ ?_;clear hK K)|(refine jae (fun hc=>?_) (fun hc=>?_)<;>first | contradiction | (exfalso;omega) | skip)|(refine hKp _ _ ?_)|refine wkB ?_|exact True.intro|(clear hK K)))
   refine jzh (l':=R.rowsT [(4,.var 39 (jao s)),(5,.var 39 R.c),(6,.var 39 R.c)]) (fun i=>?_) [.cell 2 39] ?_ ?_ ?_ ?_
   ·subst hR
    rw [RS.rowsT_app,jbE]
    by_cases i4:i=4
    ·subst i4;rw [RS.rows_no 4 (by omega) (by omega)];rfl
    by_cases i5:i=5
    ·subst i5;rw [RS.rows_no 5 (by omega) (by omega)];rfl
    by_cases i6:i=6
    ·subst i6;rw [RS.rows_no 6 (by omega) (by omega)];rfl
    rw [show jau [(4,Row.var 39 (jao s)),(5,.var 39 (RS.of s).c),(6,.var 39 (RS.of s).c)] i=none by simp only [jau,if_neg i4,if_neg i5,if_neg i6],Option.or_none]
    unfold RS.rows
    simp only [jau,if_neg i4,if_neg i5,if_neg i6]
    by_cases i1:i=1
    ·subst i1;rfl
    by_cases i2:i=2
    ·subst i2;rfl
    by_cases i3:i=3
    ·subst i3;rfl
    simp only [if_neg i1,if_neg i2,if_neg i3]
    rfl
   ·subst hR;rfl
   ·exact (RS.free (t:=0) (pre:=[]) (post:=[]) (R:=R) (t':=0) (pre':=[]) (post':=[]) (R':=R) rfl jaf rfl rfl).2.1.2
   ·rfl
   ·have:=(RS.free (t:=0) (pre:=[]) (post:=[]) (R:=R) (t':=0) (pre':=[]) (post':=[]) (R':=R) (tl:=[(4,.var 39 (jao s)),(5,.var 39 R.c),(6,.var 39 R.c)]) rfl jaf rfl rfl).2.2
    exact (List.cons.inj this).2
end Go.Proofs.YtfkgcobaheegbaaGreatDoor

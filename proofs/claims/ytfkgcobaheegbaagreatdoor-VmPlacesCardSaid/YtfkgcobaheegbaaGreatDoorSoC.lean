/- Lemmas. No conditions. -/
import Derived.Test.YtfkgcobaheegbaaGreatDoorSo9
set_option linter.all false
set_option maxHeartbeats 4000000
set_option maxRecDepth 10000
namespace Go.Proofs.YtfkgcobaheegbaaGreatDoor
open Go Go.Gd Tryz
def _root_.Go.Gd.RS.says(R:RS)(w:ByteArray):RS:={ R with ay:=R.ay++[w] }
end Go.Proofs.YtfkgcobaheegbaaGreatDoor
namespace Go.Gd
open Go
def RS.rows(R:RS):List (Nat×Row):=
 (1,.aO 57 3 (ig R.aJ.length R.fr))::(2,.aO 22 1 (ig R.heap.length fun k=>[.rs (bW 2 k) (nth R.heap k).length 1 (nth R.heap k).length]))::(3,.aO 9 1 (R.ay.map eS)) ::
  cD 0 R.aJ.length R.sl (cD 1 R.aJ.length R.pt (cD 2 R.heap.length R.hp []))
variable{n:Nat}{l:List (Nat×Row)}
theorem C2{S:Type}{W:List (Nat×Nat)}{ok:S->Prop}{J:S->List (Nat×AV)}{G:S->Hp}{μ:S->Nat}{F₀ F:List AV}{B:List Nat}(l':List (Nat×Row))(D:Nat->Bool)(s:S)(h1:ok s)(h2:μ s<n)(hperm:∀i,aD l i=aD l' i)(hB:B.all (fy D)=true)(hl:gz D l')(h4:⟨B,eo D l'⟩=G s)(h3:bZ D ⟨B,l'⟩ F (mH (J s) (mB W F₀))):Next n W ok J G μ F₀ F ⟨B,l⟩:=
 ⟨s,h2,(dz.perm l' hperm).trans (by rw[<-h4];exact dz.free D hB hl h3),h1⟩
theorem DA(D:Nat->Bool)(a:Nat)(f:Nat->Row)(l:List (Nat×Row)):∀(n k:Nat),(∀j,k<=j->j<k+n->qh (fy D) (f j))->gz D l->gz D (fQ a f k n l)
 |0,k,_,h=>h
 |n+1,k,hf,h=>⟨.inr (hf k jl jB),DA D a f l n (k+1) (fun j h1 h2=>hf j jB jB) h⟩
variable{D:Nat->Bool}
theorem wO{a:Nat}{f:Nat->Row}(hf:∀j,j<n->qh (fy D) (f j))(h:gz D l):gz D (cD a n f l):=DA D a f l n 0 (fun j _ h2=>hf j jB) h
theorem G7(D:Nat->Bool)(a:Nat)(f:Nat->Row)(l:List (Nat×Row))(hD:∀k,D (bW a k)=false):∀(n k:Nat),eo D (fQ a f k n l)=fQ a f k n (eo D l)
 |0,k=>rfl
 |n+1,k=>by
  show(bif D (bW a k)then _ else(bW a k,f k)::eo D (fQ a f (k+1) n l))=_;rw[hD k,G7 D a f l hD n (k+1)];rfl
theorem vo{a:Nat}{f:Nat->Row}(hD:∀k,D (bW a k)=false):eo D (cD a n f l)=cD a n f (eo D l):=G7 D a f l hD n 0
theorem rY{L:List Nat}(h:L.all (fun i=>decide (i<1000))=true)(a k:Nat):L.contains (bW a k)=false:=by
 cases e:L.contains (bW a k)with
 |false=>rfl
 |true=>
  have:=List.all_eq_true.1 h _ (List.contains_iff_mem.1 e);simp only[decide_eq_true_eq]at this;have:=oH a k;omega
theorem P4{P:Program}{fn:Func}{F:List AV}{l0 l':List (Nat×Row)}{out:List AV}{e:Exit}{r:AV}(hperm:∀i,aD l0 i=aD l' i)(rs:List ResultVar)(hv:jy out=r)(hl:gz gP l')(hq:(jy out).all (fy gP)=true)(h2:eo gP l'=l)(hrs:fn.results.toList=rs:=by rfl)(he:e=.normal\/e=.ret:=by first|exact Or.inr rfl|exact Or.inl rfl|fail)
  (ho:iO P ⟨[],l0⟩ F rs=some out:=by first|(simp(disch:=first|omega|fail) only[go_sem,↓reduceIte,Nat.reduceEqDiff,Nat.reduceLeDiff,Nat.reduceSub,Nat.reduceAdd];rfl)|rfl) (hok:jc P ⟨[],l0⟩ F rs:=by first|exact jI|(simp(disch:=first|omega|fail) only[go_sem,↓reduceIte,Nat.reduceEqDiff,Nat.reduceLeDiff,Nat.reduceSub,Nat.reduceAdd])):kj P fn (fun r' l'=>r'=r/\l'=l) e F ⟨[],l0⟩:=by
 subst hrs;refine rK he ho hok r ⟨[],l⟩ ((zi l' hperm).trans ?_) ⟨rfl,rfl⟩;have:=gH.free (H:=⟨[],l'⟩) gP rfl hl (xI hv hq);rw[h2]at this;exact this
theorem Kt{P:Program}{A:AS}{H:Hp}(i:Nat){t e:TypeId}{sz:Nat}{x:AV}{c:Prop}{ys:List (List AV)}{zs:List Value}{f:AV->Hp->Prop}{d:gv fun r H'=>dS A H H'/\f r H'}{q:Prop}(k:q)(ht:iw P t=some e:=by(simp only[go_sem];rfl))(hs:da P e=some sz:=by(simp only[go_sem];done))(hz:ee P e=some zs:=by(simp only[go_sem];rfl))(hzl:zs.length=sz:=by rfl)(h0:0<sz:=by decide)
  (hx:tB H x=some (c,ys):=by rfl) (hc:c:=by trivial) (hg:lz sz ys:=by(simp(disch:=first|omega|assumption|fail) only[go_sem];done)) (hr:room (iR P e) ys.length:=by(simp only[go_sem];omega)) (hi:H.get i=none:=by first|rfl|(simp(disch:=first|omega|assumption|fail) only[go_sem,↓reduceIte,Nat.reduceEqDiff,Nat.reduceAdd];done))
  (e:f (.rs i ys.length sz ys.length) (H.put i (.aO e sz ys))=q:=by(simp(disch:=first|omega|assumption|fail) only[go_sem,sf,↓reduceIte,Int.reduceToNat,Nat.reduceMul,Nat.reduceAdd,Nat.reduceLeDiff,Nat.reduceSub,Nat.reduceEqDiff,Nat.reduceBEq];rfl)):o8 P t t (.sl true sz [] []) x H (AP (fun r H'=>dS A H H'/\f r H') d):=ML (b:=true) (d:=d) i k ht hs hz hzl h0 hx hc hg hr hi e
theorem DS(D:Nat->Bool)(R:RS)(k:Nat):qh (fy D) (R.sl k):=lu (enc:=cI) (sz:=3) _
theorem CM(D:Nat->Bool)(R:RS)(k:Nat):qh (fy D) (R.pt k):=lu (enc:=l7) (sz:=2) _
theorem Lk(D:Nat->Bool)(R:RS)(k:Nat):qh (fy D) (R.hp k):=lu (enc:=eI) (sz:=1) _
def RS.lP(R:RS)(tl:List (Nat×Row)):List (Nat×Row):=
 (1,.aO 57 3 (ig R.aJ.length R.fr))::(2,.aO 22 1 (ig R.heap.length fun k=>[.rs (bW 2 k) (nth R.heap k).length 1 (nth R.heap k).length]))::(3,.aO 9 1 (R.ay.map eS)) ::
  cD 0 R.aJ.length R.sl (cD 1 R.aJ.length R.pt (cD 2 R.heap.length R.hp tl))
theorem RS.kN(R:RS):R.lP []=R.rows:=rfl
theorem RS.n8(R:RS)(tl:List (Nat×Row)):R.lP tl=R.rows++tl:=by
 rw[<-RS.kN];unfold RS.lP;rw[show tl=[]++tl from rfl,qw,qw,qw];rfl
theorem RS.lb{R:RS}(i:Nat)(h:i=0\/4<=i)(h':i<1000):aD R.rows i=none:=by
 rw[<-RS.kN];unfold RS.lP;simp only[aD];rw[jN,jN,jN,qp _ _ _ _ _ h',qp _ _ _ _ _ h',qp _ _ _ _ _ h'];rfl
end Go.Gd
namespace Go.Proofs.YtfkgcobaheegbaaGreatDoor
open Go Go.Gd Tryz
theorem KQ(s:aK)(h1:s.ao.length<=1000)(h2:s.heap.length<=1000)(h3:s.ay.length<=1000)(h4:∀k,k<s.ao.length->(nth s.ao k).slots.length<=1000/\(nth s.ao k).path.length<=1000)(h5:∀k,k<s.heap.length->(nth s.heap k).length<=1000) :
  aj prog 29 [.agg (jT s)] [] (fun r l=>r=.agg (RS.of s).c/\l=(RS.of s).rows):=by
 generalize hR:RS.of s=R;refine aU func29 ntmps29 ?_
 (repeat' (first|refine aA fun K hK=>?_|refine aC ?_|(refine hK _ _ ?_;clear hK K)|(refine aB ?_ ?_<;>intro hc<;>try exact jz)|refine eW 4 ?_|refine lC 5 ?_|refine lC 6 ?_|refine rL 3 ?_|refine az ?_|exact jI|(clear hK K)))
 refine iS (dz.fH 1 6 0 57 3 rfl jC rfl rfl) ?_;refine iS (dz.fH 2 6 1 22 1 rfl jC rfl rfl) ?_
 (refine S ?_;try exact jI)
 have hKo:=hK;clear hK;refine fm (S:=Nat) [(4,2),(15,28)] (fun k=>k<=s.ao.length) (fun k=>[(4,rI k)])
  (fun k=>⟨[],(4,.var 39 (jT s))::(5,.var 39 [.raw (.slice none 0 0),.raw (.slice none 0 0),rI 0,.raw (.slice none 0 0),rI 0,rI 0,rI 0])::(6,.var 39 [.rs 1 k 3 k,.rs 2 0 1 0,rI s.in_,.rs 3 s.ay.length 1 s.ay.length,rI s.status,rI s.bn,rI s.time])::(3,.aO 9 1 (s.ay.map eS))::(1,.aO 57 3 (ig k R.fr))::(2,.aO 22 1 [])::cD 0 k R.sl (cD 1 k R.pt [])⟩)
  (fun k=>s.ao.length-k) 0 jB (fi ?_ cX) ?_
 ·rfl
 rintro k hk Kr hKr;by_cases hkl:k<s.ao.length
 ·obtain⟨g1,g2⟩:=h4 k hkl
  have hfr:po (nth s.ao k)=[rI (nth s.ao k).fn,bt cI 3 (nth s.ao k).slots,bt l7 2 (nth s.ao k).path]:=rfl
  (refine S ?_;try exact jI)
  (have W:=hfr;repeat' (first|refine aA fun K hK=>?_|refine aC ?_|(refine hK _ _ ?_;clear hK K)|(refine aB ?_ ?_<;>intro hc<;>try exact jz)|refine lC 7 ?_|refine rL (bW 0 k) ?_|refine rL (bW 1 k) ?_|refine rL 8 ?_|refine az ?_|exact jI|(clear hK K)));all_goals(try clear W)
  have hRf:∀j,j<k+1->(if j=k then[rI (nth s.ao k).fn,.rs (bW 0 k) (nth s.ao k).slots.length 3 (nth s.ao k).slots.length,.rs (bW 1 k) (nth s.ao k).path.length 2 (nth s.ao k).path.length]else R.fr j)=R.fr j:=fun j hj=>by
   split
   ·rename_i e
    subst e;subst hR;unfold RS.fr;rw[show nth (RS.of s).jp j=[] from z6 _ _ _ hkl];rfl
   ·rfl
  have hg0:=oH 0 k;have hg1:=oH 1 k;have hg2:bW 1 k≠bW 0 k:=fun e=>by have:=(sx jB jB e).1;omega
  refine hKr _ _ (C2 ((4,.var 39 (jT s))::(5,.var 39 [.raw (.slice none 0 0),.raw (.slice none 0 0),rI 0,.raw (.slice none 0 0),rI 0,rI 0,rI 0])::(6,.var 39 [.rs 1 (k+1) 3 (k+1),.rs 2 0 1 0,rI s.in_,.rs 3 s.ay.length 1 s.ay.length,rI s.status,rI s.bn,rI s.time])::(3,.aO 9 1 (s.ay.map eS))::(1,.aO 57 3 (ig (k+1) R.fr))::(2,.aO 22 1 []) ::
   cD 0 (k+1) R.sl (cD 1 (k+1) R.pt [(7,.var 57 [rI (nth s.ao k).fn,.rs (bW 0 k) (nth s.ao k).slots.length 3 (nth s.ao k).slots.length,.rs (bW 1 k) (nth s.ao k).path.length 2 (nth s.ao k).path.length]),(8,.aO 57 3 [[rI (nth s.ao k).fn,.rs (bW 0 k) (nth s.ao k).slots.length 3 (nth s.ao k).slots.length,.rs (bW 1 k) (nth s.ao k).path.length 2 (nth s.ao k).path.length]])]))
   (fun i=>[7,8].contains i) (k+1) jB (by show s.ao.length-(k+1)<s.ao.length-k;omega) (oE _ _ (oE _ _ (oE _ _ (oE _ _ (Hi _ ?_ (oE _ _ fun i=>?_)))))) rfl ?_ ?_ ?_)
  ·exact congrArg (Row.aO _ _) (Ea rfl hRf)
  ·refine(rZ 0 k R.sl (fun i=>rZ 1 k R.pt (l':=[_,_]++[(bW 1 k,.aO 89 2 ((nth s.ao k).path.map l7)),(bW 0 k,.aO 59 3 ((nth s.ao k).slots.map cI))]) (fun i=>?_) i) i).trans (I7 (h:=0) (q:=R.hp) R.sl R.pt (fun _ _=>rfl) (fun _ _=>rfl) ?_ ?_ yK i)
   ·simp only[aD,List.cons_append,List.nil_append]
    repeat' split
    all_goals first
     |rfl
     |omega
   ·subst hR;rfl
   ·subst hR
    unfold RS.pt;rw[show nth (RS.of s).jp k=[] from z6 _ _ _ hkl,List.append_nil];rfl
  ·refine⟨.inr (BR _ _),.inr rfl,.inr rfl,.inr (lu (enc:=eS) (sz:=1) _),.inr (wk fun j _=>?_),.inr (FX _),wO (fun j _=>DS _ _ _) (wO (fun j _=>CM _ _ _) ⟨.inl rfl,.inl rfl,trivial⟩)⟩
   simp only[RS.fr,aY,AV.all,fy,rY (L:=[7,8]) rfl];rfl
  ·show Hp.mk [] (_::_::_::_::_::_::eo _ (cD 0 _ _ _))=_
   rw[vo (rY rfl 0),vo (rY rfl 1)];rfl
  ·exact kY
 ·have hke:k=s.ao.length:=jB
  subst hke
  (refine S ?_;try exact jI)
  (repeat' (first|refine aA fun K hK=>?_|refine aC ?_|(refine hK _ _ ?_;clear hK K)|(refine aB ?_ ?_<;>intro hc<;>try exact jz)|refine hKo _ _ ?_|refine az ?_|exact jI|(clear hK K)))
  have hKp:=hK;clear hK;refine fm (S:=Nat) [(6,1),(43,19)] (fun j=>j<=s.heap.length) (fun j=>[(6,rI j)])
   (fun j=>⟨[],(4,.var 39 (jT s))::(5,.var 39 [.raw (.slice none 0 0),.raw (.slice none 0 0),rI 0,.raw (.slice none 0 0),rI 0,rI 0,rI 0])::(6,.var 39 [.rs 1 s.ao.length 3 s.ao.length,.rs 2 j 1 j,rI s.in_,.rs 3 s.ay.length 1 s.ay.length,rI s.status,rI s.bn,rI s.time])::(3,.aO 9 1 (s.ay.map eS))::(1,.aO 57 3 (ig s.ao.length R.fr))::(2,.aO 22 1 (ig j fun k=>[.rs (bW 2 k) (nth s.heap k).length 1 (nth s.heap k).length]))::cD 0 s.ao.length R.sl (cD 1 s.ao.length R.pt (cD 2 j R.hp []))⟩)
   (fun j=>s.heap.length-j) 0 jB (fi rfl cX) ?_
  rintro j hj Ks hKs;by_cases hjl:j<s.heap.length
  ·have g3:=h5 j hjl
   (refine S ?_;try exact jI)
   (repeat' (first|refine aA fun K hK=>?_|refine aC ?_|(with_reducible refine gR 15 ?_);refine dC 15 ([],[],[58,59]) [] [0,1,2,3,4,5,6,7,8,9,10,11,12] mixed ?_|(refine hK _ _ ?_;clear hK K)|(refine aB ?_ ?_<;>intro hc<;>try exact jz)|refine Kt (bW 2 j) ?_|refine I8 8 ?_|refine az ?_|exact jI|(clear hK K)))
   have hRp:∀i,i<j+1->(if i=j then[AV.rs (bW 2 j) (nth s.heap j).length 1 (nth s.heap j).length]else[AV.rs (bW 2 i) (nth s.heap i).length 1 (nth s.heap i).length])=[AV.rs (bW 2 i) (nth s.heap i).length 1 (nth s.heap i).length]:=fun i hi=>by
    split
    ·rename_i e
     subst e;rfl
    ·rfl
   have hg2:=oH 2 j;refine hKs _ _ (C2 ((4,.var 39 (jT s))::(5,.var 39 [.raw (.slice none 0 0),.raw (.slice none 0 0),rI 0,.raw (.slice none 0 0),rI 0,rI 0,rI 0])::(6,.var 39 [.rs 1 s.ao.length 3 s.ao.length,.rs 2 (j+1) 1 (j+1),rI s.in_,.rs 3 s.ay.length 1 s.ay.length,rI s.status,rI s.bn,rI s.time])::(3,.aO 9 1 (s.ay.map eS))::(1,.aO 57 3 (ig s.ao.length R.fr))::(2,.aO 22 1 (ig (j+1) fun k=>[.rs (bW 2 k) (nth s.heap k).length 1 (nth s.heap k).length])) ::
    cD 0 s.ao.length R.sl (cD 1 s.ao.length R.pt (cD 2 (j+1) R.hp [(8,.aO 22 1 [[.rs (bW 2 j) (nth s.heap j).length 1 (nth s.heap j).length]])])))
    (fun i=>[8].contains i) (j+1) jB (by show s.heap.length-(j+1)<s.heap.length-j;omega) (oE _ _ (oE _ _ (oE _ _ (oE _ _ (oE _ _ (Hi _ ?_ fun i=>?_)))))) rfl ?_ ?_ ?_)
   ·exact congrArg (Row.aO _ _) (Ea rfl hRp)
   ·refine(rZ 0 _ R.sl (fun i=>rZ 1 _ R.pt (fun i=>rZ 2 j R.hp (l':=[_]++[(bW 2 j,.aO 3 1 ((nth s.heap j).map eI))]) (fun i=>?_) i) i) i).trans (Ox R.hp (fun _ _=>rfl) ?_ yK i)
    ·simp only[aD,List.cons_append,List.nil_append]
     repeat' split
     all_goals first
      |rfl
      |omega
    ·subst hR
     unfold RS.hp;rfl
   ·refine⟨.inr (BR _ _),.inr rfl,.inr rfl,.inr (lu (enc:=eS) (sz:=1) _),.inr (wk fun j _=>?_),.inr (wk fun j _=>?_),wO (fun j _=>DS _ _ _) (wO (fun j _=>CM _ _ _) (wO (fun j _=>Lk _ _ _) ⟨.inl rfl,trivial⟩))⟩
    ·simp only[RS.fr,aY,AV.all,fy,rY (L:=[8]) rfl];rfl
    ·simp only[aY,AV.all,fy,rY (L:=[8]) rfl];rfl
   ·show Hp.mk [] (_::_::_::_::_::_::eo _ (cD 0 _ _ _))=_
    rw[vo (rY rfl 0),vo (rY rfl 1),vo (rY rfl 2)];rfl
   ·exact kY
  ·have hje:j=s.heap.length:=jB
   subst hje
   (refine S ?_;try exact jI)
   (repeat' (first|refine aA fun K hK=>?_|refine aC ?_|(refine hK _ _ ?_;clear hK K)|(refine aB ?_ ?_<;>intro hc<;>try exact jz)|(refine hKp _ _ ?_)|refine az ?_|exact jI|(clear hK K)))
   refine P4 (l':=R.lP [(4,.var 39 (jT s)),(5,.var 39 R.c),(6,.var 39 R.c)]) (fun i=>?_) [.cell 2 39] ?_ ?_ ?_ ?_
   ·subst hR
    rw[RS.n8,rz];by_cases i4:i=4
    ·subst i4;rw[RS.lb 4 jB jB];rfl
    by_cases i5:i=5
    ·subst i5;rw[RS.lb 5 jB jB];rfl
    by_cases i6:i=6
    ·subst i6;rw[RS.lb 6 jB jB];rfl
    rw[show aD [(4,Row.var 39 (jT s)),(5,.var 39 (RS.of s).c),(6,.var 39 (RS.of s).c)] i=none by simp only[aD,if_neg i4,if_neg i5,if_neg i6],Option.or_none];unfold RS.rows;simp only[aD,if_neg i4,if_neg i5,if_neg i6];by_cases i1:i=1
    ·subst i1;rfl
    by_cases i2:i=2
    ·subst i2;rfl
    by_cases i3:i=3
    ·subst i3;rfl
    simp only[if_neg i1,if_neg i2,if_neg i3];rfl
   ·subst hR;rfl
   ·exact(RS.free (t:=0) (pre:=[]) (post:=[]) (R:=R) (t':=0) (pre':=[]) (post':=[]) (R':=R) rfl yK rfl rfl).2.1.2
   ·rfl
   ·have:=(RS.free (t:=0) (pre:=[]) (post:=[]) (R:=R) (t':=0) (pre':=[]) (post':=[]) (R':=R) (tl:=[(4,.var 39 (jT s)),(5,.var 39 R.c),(6,.var 39 R.c)]) rfl yK rfl rfl).2.2
    exact(List.cons.inj this).2
end Go.Proofs.YtfkgcobaheegbaaGreatDoor

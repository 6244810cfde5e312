/- Lemmas. No conditions. -/
import Derived.Test.YtfkgcobaheegbaaGreatDoorSo9
set_option linter.all false
set_option maxHeartbeats 4000000
set_option maxRecDepth 10000
namespace Go.Proofs.YtfkgcobaheegbaaGreatDoor
open Go Go.Gd Tryz
def _root_.Go.Gd.RS.says(R:RS)(w:ByteArray):RS:={ R with ax:=R.ax++[w] }
end Go.Proofs.YtfkgcobaheegbaaGreatDoor
namespace Go.Gd
open Go
def RS.rows(R:RS):List (Nat×Row):=
 (1,.aL 57 3 (iy R.aK.length R.fr))::(2,.aL 22 1 (iy R.heap.length fun k=>[.rs (bY 2 k) (nth R.heap k).length 1 (nth R.heap k).length]))::(3,.aL 9 1 (R.ax.map eS)) ::
  cK 0 R.aK.length R.sl (cK 1 R.aK.length R.pt (cK 2 R.heap.length R.hp []))
variable{n:Nat}{l:List (Nat×Row)}
theorem H9{S:Type}{W:List (Nat×Nat)}{ok:S->Prop}{J:S->List (Nat×AV)}{G:S->Hp}{μ:S->Nat}{F₀ F:List AV}{B:List Nat}(l':List (Nat×Row))(D:Nat->Bool)(s:S)(h1:ok s)(h2:μ s<n)(hperm:∀i,av l i=av l' i)(hB:B.all (fF D)=true)(hl:gJ D l')(h4:⟨B,eu D l'⟩=G s)(h3:bX D ⟨B,l'⟩ F (mm (J s) (lS W F₀))):Next n W ok J G μ F₀ F ⟨B,l⟩:=
 ⟨s,h2,(dq.perm l' hperm).trans (by rw[<-h4];exact dq.free D hB hl h3),h1⟩
theorem FJ(D:Nat->Bool)(a:Nat)(f:Nat->Row)(l:List (Nat×Row)):∀(n k:Nat),(∀j,k<=j->j<k+n->pX (fF D) (f j))->gJ D l->gJ D (fX a f k n l)
 |0,k,_,h=>h
 |n+1,k,hf,h=>⟨.inr (hf k jl jB),FJ D a f l n (k+1) (fun j h1 h2=>hf j jB jB) h⟩
theorem xi{D:Nat->Bool}{a:Nat}{f:Nat->Row}(hf:∀j,j<n->pX (fF D) (f j))(h:gJ D l):gJ D (cK a n f l):=FJ D a f l n 0 (fun j _ h2=>hf j jB) h
theorem C9(D:Nat->Bool)(a:Nat)(f:Nat->Row)(l:List (Nat×Row))(hD:∀k,D (bY a k)=false):∀(n k:Nat),eu D (fX a f k n l)=fX a f k n (eu D l)
 |0,k=>rfl
 |n+1,k=>by show(bif D (bY a k)then _ else(bY a k,f k)::eu D (fX a f (k+1) n l))=_;rw[hD k,C9 D a f l hD n (k+1)];rfl
theorem wR{D:Nat->Bool}{a:Nat}{f:Nat->Row}(hD:∀k,D (bY a k)=false):eu D (cK a n f l)=cK a n f (eu D l):=C9 D a f l hD n 0
theorem rC{L:List Nat}(h:L.all (fun i=>decide (i<1000))=true)(a k:Nat):L.contains (bY a k)=false:=by
 cases e:L.contains (bY a k)with
 |false=>rfl
 |true=> have:=List.all_eq_true.1 h _ (List.contains_iff_mem.1 e);simp only[decide_eq_true_eq]at this;have:=o6 a k;omega
theorem OO{P:Program}{fn:Func}{F:List AV}{l0 l':List (Nat×Row)}{out:List AV}{e:Exit}{r:AV}(hperm:∀i,av l0 i=av l' i)(rs:List ResultVar)(hv:jU out=r)(hl:gJ ie l')(hq:(jU out).all (fF ie)=true)(h2:eu ie l'=l)(hrs:fn.results.toList=rs:=by rfl)(he:e=.normal\/e=.ret:=by first|exact Or.inr rfl|exact Or.inl rfl|fail)
  (ho:jg P ⟨[],l0⟩ F rs=some out:=by first|(simp(disch:=first|omega|fail) only[go_sem,↓reduceIte,Nat.reduceEqDiff,Nat.reduceLeDiff,Nat.reduceSub,Nat.reduceAdd];rfl)|rfl) (hok:j3 P ⟨[],l0⟩ F rs:=by first|exact jI|(simp(disch:=first|omega|fail) only[go_sem,↓reduceIte,Nat.reduceEqDiff,Nat.reduceLeDiff,Nat.reduceSub,Nat.reduceAdd])):kX P fn (fun r' l'=>r'=r/\l'=l) e F ⟨[],l0⟩:=by
 subst hrs;refine rE he ho hok r ⟨[],l⟩ ((Bb l' hperm).trans ?_) ⟨rfl,rfl⟩;have:=hZ.free (H:=⟨[],l'⟩) ie rfl hl (yF hv hq);rw[h2]at this;exact this
theorem OD{P:Program}{A:AS}{H:Hp}(i:Nat){t e:TypeId}{sz:Nat}{x:AV}{c:Prop}{ys:List (List AV)}{zs:List Value}{f:AV->Hp->Prop}{d:gb fun r H'=>dI A H H'/\f r H'}{q:Prop}(k:q)(ht:iH P t=some e:=by(simp only[go_sem];rfl))(hs:dc P e=some sz:=by(simp only[go_sem];done))(hz:eT P e=some zs:=by(simp only[go_sem];rfl))(hzl:zs.length=sz:=by rfl)(h0:0<sz:=by decide)
  (hx:tj H x=some (c,ys):=by rfl) (hc:c:=by trivial) (hg:lA sz ys:=by(simp(disch:=first|omega|assumption|fail) only[go_sem];done)) (hr:room (ju P e) ys.length:=by(simp only[go_sem];omega)) (hi:H.get i=none:=by first|rfl|(simp(disch:=first|omega|assumption|fail) only[go_sem,↓reduceIte,Nat.reduceEqDiff,Nat.reduceAdd];done))
  (e:f (.rs i ys.length sz ys.length) (H.put i (.aL e sz ys))=q:=by(simp(disch:=first|omega|assumption|fail) only[go_sem,rN,↓reduceIte,Int.reduceToNat,Nat.reduceMul,Nat.reduceAdd,Nat.reduceLeDiff,Nat.reduceSub,Nat.reduceEqDiff,Nat.reduceBEq];rfl)):pT P t t (.sl true sz [] []) x H (AP (fun r H'=>dI A H H'/\f r H') d):=Q7 (b:=true) (d:=d) i k ht hs hz hzl h0 hx hc hg hr hi e
theorem DR(D:Nat->Bool)(R:RS)(k:Nat):pX (fF D) (R.sl k):=lJ (enc:=cv) (sz:=3) _
theorem GN(D:Nat->Bool)(R:RS)(k:Nat):pX (fF D) (R.pt k):=lJ (enc:=qc) (sz:=2) _
theorem Kf(D:Nat->Bool)(R:RS)(k:Nat):pX (fF D) (R.hp k):=lJ (enc:=eI) (sz:=1) _
def RS.mg(R:RS)(tl:List (Nat×Row)):List (Nat×Row):=
 (1,.aL 57 3 (iy R.aK.length R.fr))::(2,.aL 22 1 (iy R.heap.length fun k=>[.rs (bY 2 k) (nth R.heap k).length 1 (nth R.heap k).length]))::(3,.aL 9 1 (R.ax.map eS)) ::
  cK 0 R.aK.length R.sl (cK 1 R.aK.length R.pt (cK 2 R.heap.length R.hp tl))
theorem RS.lc(R:RS):R.mg []=R.rows:=rfl
theorem RS.nT(R:RS)(tl:List (Nat×Row)):R.mg tl=R.rows++tl:=by rw[<-RS.lc];unfold RS.mg;rw[show tl=[]++tl from rfl,rb,rb,rb];rfl
theorem RS.lI{R:RS}(i:Nat)(h:i=0\/4<=i)(h':i<1000):av R.rows i=none:=by rw[<-RS.lc];unfold RS.mg;simp only[av];rw[jN,jN,jN,rc _ _ _ _ _ h',rc _ _ _ _ _ h',rc _ _ _ _ _ h'];rfl
end Go.Gd
namespace Go.Proofs.YtfkgcobaheegbaaGreatDoor
open Go Go.Gd Tryz
theorem OY(s:aJ)(h1:s.aq.length<=1000)(h2:s.heap.length<=1000)(h3:s.ax.length<=1000)(h4:∀k,k<s.aq.length->(nth s.aq k).slots.length<=1000/\(nth s.aq k).path.length<=1000)(h5:∀k,k<s.heap.length->(nth s.heap k).length<=1000) :
  aj prog 29 [.agg (lK s)] [] (fun r l=>r=.agg (RS.of s).c/\l=(RS.of s).rows):=by
 generalize hR:RS.of s=R;refine aT func29 ntmps29 ?_
 (repeat' (first|refine aB fun K hK=>?_|refine aC ?_|(refine hK _ _ ?_;clear hK K)|(refine aA ?_ ?_<;>intro hc<;>try exact jz)|refine fa 4 ?_|refine kj 5 ?_|refine kj 6 ?_|refine qy 3 ?_|refine aD ?_|exact jI|(clear hK K)))
 refine iV (dq.fM 1 6 0 57 3 rfl jC rfl rfl) ?_;refine iV (dq.fM 2 6 1 22 1 rfl jC rfl rfl) ?_
 (refine S ?_;try exact jI)
 have hKo:=hK;clear hK;refine fi (S:=Nat) [(4,2),(15,28)] (fun k=>k<=s.aq.length) (fun k=>[(4,rI k)])
  (fun k=>⟨[],(4,.var 39 (lK s))::(5,.var 39 [.raw (.slice none 0 0),.raw (.slice none 0 0),rI 0,.raw (.slice none 0 0),rI 0,rI 0,rI 0])::(6,.var 39 [.rs 1 k 3 k,.rs 2 0 1 0,rI s.in_,.rs 3 s.ax.length 1 s.ax.length,rI s.status,rI s.aZ,rI s.time])::(3,.aL 9 1 (s.ax.map eS))::(1,.aL 57 3 (iy k R.fr))::(2,.aL 22 1 [])::cK 0 k R.sl (cK 1 k R.pt [])⟩)
  (fun k=>s.aq.length-k) 0 jB (fj ?_ cQ) ?_
 ·rfl
 rintro k hk Kr hKr;by_cases hkl:k<s.aq.length
 ·obtain⟨g1,g2⟩:=h4 k hkl;have hfr:ur (nth s.aq k)=[rI (nth s.aq k).fn,bp cv 3 (nth s.aq k).slots,bp qc 2 (nth s.aq k).path]:=rfl
  (refine S ?_;try exact jI)
  (have W:=hfr;repeat' (first|refine aB fun K hK=>?_|refine aC ?_|(refine hK _ _ ?_;clear hK K)|(refine aA ?_ ?_<;>intro hc<;>try exact jz)|refine kj 7 ?_|refine qy (bY 0 k) ?_|refine qy (bY 1 k) ?_|refine qy 8 ?_|refine aD ?_|exact jI|(clear hK K)));all_goals(try clear W)
  have hRf:∀j,j<k+1->(if j=k then[rI (nth s.aq k).fn,.rs (bY 0 k) (nth s.aq k).slots.length 3 (nth s.aq k).slots.length,.rs (bY 1 k) (nth s.aq k).path.length 2 (nth s.aq k).path.length]else R.fr j)=R.fr j:=fun j hj=>by
   split
   ·rename_i e;subst e;subst hR;unfold RS.fr;rw[show nth (RS.of s).jp j=[] from BN _ _ _ hkl];rfl
   ·rfl
  have hg0:=o6 0 k;have hg1:=o6 1 k;have hg2:bY 1 k≠bY 0 k:=fun e=>by have:=(ry jB jB e).1;omega
  refine hKr _ _ (H9 ((4,.var 39 (lK s))::(5,.var 39 [.raw (.slice none 0 0),.raw (.slice none 0 0),rI 0,.raw (.slice none 0 0),rI 0,rI 0,rI 0])::(6,.var 39 [.rs 1 (k+1) 3 (k+1),.rs 2 0 1 0,rI s.in_,.rs 3 s.ax.length 1 s.ax.length,rI s.status,rI s.aZ,rI s.time])::(3,.aL 9 1 (s.ax.map eS))::(1,.aL 57 3 (iy (k+1) R.fr))::(2,.aL 22 1 []) ::
   cK 0 (k+1) R.sl (cK 1 (k+1) R.pt [(7,.var 57 [rI (nth s.aq k).fn,.rs (bY 0 k) (nth s.aq k).slots.length 3 (nth s.aq k).slots.length,.rs (bY 1 k) (nth s.aq k).path.length 2 (nth s.aq k).path.length]),(8,.aL 57 3 [[rI (nth s.aq k).fn,.rs (bY 0 k) (nth s.aq k).slots.length 3 (nth s.aq k).slots.length,.rs (bY 1 k) (nth s.aq k).path.length 2 (nth s.aq k).path.length]])]))
   (fun i=>[7,8].contains i) (k+1) jB (by show s.aq.length-(k+1)<s.aq.length-k;omega) (oQ _ _ (oQ _ _ (oQ _ _ (oQ _ _ (E9 _ ?_ (oQ _ _ fun i=>?_)))))) rfl ?_ ?_ ?_)
  ·exact congrArg (Row.aL _ _) (DQ rfl hRf)
  ·refine(sP 0 k R.sl (fun i=>sP 1 k R.pt (l':=[_,_]++[(bY 1 k,.aL 89 2 ((nth s.aq k).path.map qc)),(bY 0 k,.aL 59 3 ((nth s.aq k).slots.map cv))]) (fun i=>?_) i) i).trans (Mr (h:=0) (q:=R.hp) R.sl R.pt (fun _ _=>rfl) (fun _ _=>rfl) ?_ ?_ xW i)
   ·simp only[av,List.cons_append,List.nil_append];repeat' split
    all_goals first
     |rfl
     |omega
   ·subst hR;rfl
   ·subst hR;unfold RS.pt;rw[show nth (RS.of s).jp k=[] from BN _ _ _ hkl,List.append_nil];rfl
  ·refine⟨.inr (AR _ _),.inr rfl,.inr rfl,.inr (lJ (enc:=eS) (sz:=1) _),.inr (we fun j _=>?_),.inr (Iv _),xi (fun j _=>DR _ _ _) (xi (fun j _=>GN _ _ _) ⟨.inl rfl,.inl rfl,trivial⟩)⟩;simp only[RS.fr,aW,AV.all,fF,rC (L:=[7,8]) rfl];rfl
  ·show Hp.mk [] (_::_::_::_::_::_::eu _ (cK 0 _ _ _))=_;rw[wR (rC rfl 0),wR (rC rfl 1)];rfl
  ·exact ki
 ·have hke:k=s.aq.length:=jB;subst hke
  (refine S ?_;try exact jI)
  (repeat' (first|refine aB fun K hK=>?_|refine aC ?_|(refine hK _ _ ?_;clear hK K)|(refine aA ?_ ?_<;>intro hc<;>try exact jz)|refine hKo _ _ ?_|refine aD ?_|exact jI|(clear hK K)))
  have hKp:=hK;clear hK;refine fi (S:=Nat) [(6,1),(43,19)] (fun j=>j<=s.heap.length) (fun j=>[(6,rI j)])
   (fun j=>⟨[],(4,.var 39 (lK s))::(5,.var 39 [.raw (.slice none 0 0),.raw (.slice none 0 0),rI 0,.raw (.slice none 0 0),rI 0,rI 0,rI 0])::(6,.var 39 [.rs 1 s.aq.length 3 s.aq.length,.rs 2 j 1 j,rI s.in_,.rs 3 s.ax.length 1 s.ax.length,rI s.status,rI s.aZ,rI s.time])::(3,.aL 9 1 (s.ax.map eS))::(1,.aL 57 3 (iy s.aq.length R.fr))::(2,.aL 22 1 (iy j fun k=>[.rs (bY 2 k) (nth s.heap k).length 1 (nth s.heap k).length]))::cK 0 s.aq.length R.sl (cK 1 s.aq.length R.pt (cK 2 j R.hp []))⟩)
   (fun j=>s.heap.length-j) 0 jB (fj rfl cQ) ?_
  rintro j hj Ks hKs;by_cases hjl:j<s.heap.length
  ·have g3:=h5 j hjl
   (refine S ?_;try exact jI)
   (repeat' (first|refine aB fun K hK=>?_|refine aC ?_|(with_reducible refine gR 15 ?_);refine dC 15 ([],[],[58,59]) [] [0,1,2,3,4,5,6,7,8,9,10,11,12] mixed ?_|(refine hK _ _ ?_;clear hK K)|(refine aA ?_ ?_<;>intro hc<;>try exact jz)|refine OD (bY 2 j) ?_|refine II 8 ?_|refine aD ?_|exact jI|(clear hK K)))
   have hRp:∀i,i<j+1->(if i=j then[AV.rs (bY 2 j) (nth s.heap j).length 1 (nth s.heap j).length]else[AV.rs (bY 2 i) (nth s.heap i).length 1 (nth s.heap i).length])=[AV.rs (bY 2 i) (nth s.heap i).length 1 (nth s.heap i).length]:=fun i hi=>by
    split
    ·rename_i e;subst e;rfl
    ·rfl
   have hg2:=o6 2 j;refine hKs _ _ (H9 ((4,.var 39 (lK s))::(5,.var 39 [.raw (.slice none 0 0),.raw (.slice none 0 0),rI 0,.raw (.slice none 0 0),rI 0,rI 0,rI 0])::(6,.var 39 [.rs 1 s.aq.length 3 s.aq.length,.rs 2 (j+1) 1 (j+1),rI s.in_,.rs 3 s.ax.length 1 s.ax.length,rI s.status,rI s.aZ,rI s.time])::(3,.aL 9 1 (s.ax.map eS))::(1,.aL 57 3 (iy s.aq.length R.fr))::(2,.aL 22 1 (iy (j+1) fun k=>[.rs (bY 2 k) (nth s.heap k).length 1 (nth s.heap k).length])) ::
    cK 0 s.aq.length R.sl (cK 1 s.aq.length R.pt (cK 2 (j+1) R.hp [(8,.aL 22 1 [[.rs (bY 2 j) (nth s.heap j).length 1 (nth s.heap j).length]])])))
    (fun i=>[8].contains i) (j+1) jB (by show s.heap.length-(j+1)<s.heap.length-j;omega) (oQ _ _ (oQ _ _ (oQ _ _ (oQ _ _ (oQ _ _ (E9 _ ?_ fun i=>?_)))))) rfl ?_ ?_ ?_)
   ·exact congrArg (Row.aL _ _) (DQ rfl hRp)
   ·refine(sP 0 _ R.sl (fun i=>sP 1 _ R.pt (fun i=>sP 2 j R.hp (l':=[_]++[(bY 2 j,.aL 3 1 ((nth s.heap j).map eI))]) (fun i=>?_) i) i) i).trans (Jg R.hp (fun _ _=>rfl) ?_ xW i)
    ·simp only[av,List.cons_append,List.nil_append];repeat' split
     all_goals first
      |rfl
      |omega
    ·subst hR;unfold RS.hp;rfl
   ·refine⟨.inr (AR _ _),.inr rfl,.inr rfl,.inr (lJ (enc:=eS) (sz:=1) _),.inr (we fun j _=>?_),.inr (we fun j _=>?_),xi (fun j _=>DR _ _ _) (xi (fun j _=>GN _ _ _) (xi (fun j _=>Kf _ _ _) ⟨.inl rfl,trivial⟩))⟩
    ·simp only[RS.fr,aW,AV.all,fF,rC (L:=[8]) rfl];rfl
    ·simp only[aW,AV.all,fF,rC (L:=[8]) rfl];rfl
   ·show Hp.mk [] (_::_::_::_::_::_::eu _ (cK 0 _ _ _))=_;rw[wR (rC rfl 0),wR (rC rfl 1),wR (rC rfl 2)];rfl
   ·exact ki
  ·have hje:j=s.heap.length:=jB;subst hje
   (refine S ?_;try exact jI)
   (repeat' (first|refine aB fun K hK=>?_|refine aC ?_|(refine hK _ _ ?_;clear hK K)|(refine aA ?_ ?_<;>intro hc<;>try exact jz)|(refine hKp _ _ ?_)|refine aD ?_|exact jI|(clear hK K)))
   refine OO (l':=R.mg [(4,.var 39 (lK s)),(5,.var 39 R.c),(6,.var 39 R.c)]) (fun i=>?_) [.cell 2 39] ?_ ?_ ?_ ?_
   ·subst hR;rw[RS.nT,jd];by_cases i4:i=4
    ·subst i4;rw[RS.lI 4 jB jB];rfl
    by_cases i5:i=5
    ·subst i5;rw[RS.lI 5 jB jB];rfl
    by_cases i6:i=6
    ·subst i6;rw[RS.lI 6 jB jB];rfl
    rw[show av [(4,Row.var 39 (lK s)),(5,.var 39 (RS.of s).c),(6,.var 39 (RS.of s).c)] i=none by simp only[av,if_neg i4,if_neg i5,if_neg i6],Option.or_none];unfold RS.rows;simp only[av,if_neg i4,if_neg i5,if_neg i6];by_cases i1:i=1
    ·subst i1;rfl
    by_cases i2:i=2
    ·subst i2;rfl
    by_cases i3:i=3
    ·subst i3;rfl
    simp only[if_neg i1,if_neg i2,if_neg i3];rfl
   ·subst hR;rfl
   ·exact(RS.free (t:=0) (pre:=[]) (post:=[]) (R:=R) (t':=0) (pre':=[]) (post':=[]) (R':=R) rfl xW rfl rfl).2.1.2
   ·rfl
   ·have:=(RS.free (t:=0) (pre:=[]) (post:=[]) (R:=R) (t':=0) (pre':=[]) (post':=[]) (R':=R) (tl:=[(4,.var 39 (lK s)),(5,.var 39 R.c),(6,.var 39 R.c)]) rfl xW rfl rfl).2.2;exact(List.cons.inj this).2
end Go.Proofs.YtfkgcobaheegbaaGreatDoor

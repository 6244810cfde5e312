/- Lemmas. No conditions. -/
import Derived.Test.YtijdhbokcdpklaaGreatDoorBqM
set_option linter.all false
set_option maxHeartbeats 4000000
set_option maxRecDepth 10000
namespace Go.Gd
open Go
def dp(nm:UR):List ar->Int->Int
 |[],_=>-1
 |b::l,k=>if b.name=nm then k else dp nm l (k+1)
theorem rh(nm:UR):∀(l:List ar) (k:Int),(dp nm l k=-1/\∀j,j<l.length->(nth l j).name≠nm)\/∃j:Nat,j<l.length/\dp nm l k=k+j/\(nth l j).name=nm/\∀i,i<j->(nth l i).name≠nm
 |[],k=>.inl ⟨rfl,fun j h=>by simp at h⟩
 |b::l,k=>by
  show((if b.name=nm then k else dp nm l (k+1))=-1/\_)\/∃j:Nat,_/\(if b.name=nm then k else dp nm l (k+1))=k+j/\_;by_cases c:b.name=nm
  ·rw[if_pos c];exact .inr ⟨0,jE,jB,c,fun i h=>jB⟩
  ·rw[if_neg c];rcases rh nm l (k+1)with⟨e,h⟩|⟨j,h1,h2,h3,h4⟩
   ·refine .inl ⟨e,fun j hj=>?_⟩;cases j with
    |zero=>exact c
    |succ j=>exact h j (by simpa using hj)
   ·refine .inr ⟨j+1,by simpa using h1,by rw[h2];push_cast;omega,h3,fun i hi=>?_⟩;cases i with
    |zero=>exact c
    |succ i=>exact h4 i jB
variable{nm:UR}
def FX{l:List ar}{k:Nat}(hk:k<l.length)(h:(nth l k).name=nm)(U8:∀j,j<k->(nth l j).name≠nm):dp nm l 0=(k:Int):=by
 rcases rh nm l 0 with⟨_,h'⟩|⟨j,h1,h2,h3,h4⟩
 ·exact(h' k hk h).elim
 ·rw[h2];rcases Nat.lt_trichotomy j k with c|c|c
  ·exact(U8 j c h3).elim
  ·omega
  ·exact(h4 k c h).elim
def EK{l:List ar}(U8:∀j,j<l.length->(nth l j).name≠nm):dp nm l 0=-1:=by
 rcases rh nm l 0 with⟨e,_⟩|⟨j,h1,_,h3,_⟩
 ·exact e
 ·exact(U8 j h1 h3).elim
def Sub.Nw{x:Bool}{sz:Nat}{cs ds d d':UM}(h:nn cs ds):Sub (.sl x sz [cs] d) (.sl false sz [ds] d'):=fun w v hv=>by
 obtain⟨O',hg⟩:=h.get;cases hv with
 |sl _ _ _ a c vs hn hc hx U' hb hH D' hr=>
  refine .sl false sz [ds] a c vs jE hc jE (fun l hl=>by rw[List.mem_singleton.1 hl,<-O'];exact U' cs jE) hb hH D' fun i j u hi hu=>?_
  have Xg:i=0:=by simpa using hi
  subst Xg;have hu:ds[j]?=some u:=hu;have hj:j<cs.length:=by rw[O'];exact(List.getElem?_eq_some_iff.1 hu).1
  exact hg j cs[j] u (List.getElem?_eq_getElem hj) hu _ _ (hr 0 j cs[j] jE (List.getElem?_eq_getElem hj))
def aB.sub{P:UY}{f:FuncId}{args:UM}{r r':AV}(h:aB P f args r)(hs:Sub r r'):aB P f args r':=fun w vs h1 h2=> (h w vs h1 h2).mono fun _ _ ⟨v,r0,H',w',e0,e,⟨e1,e2⟩,g1,g2,g3⟩=>⟨v,r',H',w',e0,e,⟨rfl,e2⟩,g1,hs _ _ (e1 ▸ g2),g3⟩
def Dn:UW:=[.string ⟨#[]⟩,.slice none 0 0,.slice none 0 0,.slice none 0 0]
abbrev zB:UM:=List.map AV.raw Dn
def cY.lN{D:UX}{H:Hp}{dd:UM}{i sz m n:Nat}{e:US}{α:Type}{enc:α->UM}[he:bK enc sz](l:List α)(more:UK)(hD:D i=true)(hi:H.get i=some (.aG e sz (l.map enc++more)))(hm:m=l.length+more.length)(hn:n=l.length):cY D H (.rs i m sz n) (.sl false sz (l.map enc) dd):=
 .zc dd i sz m n e _ _ hD hi jF jB jF (fun ds XS=>by obtain⟨x,_,rfl⟩:=List.mem_map.1 XS;exact he.len x) (nM l) fun k j c d hk h1 h2=>by
  have Vk:k<l.length:=jB;have e1:(l.map enc++more).getD k []=enc l[k]:=by rw[List.getD_eq_getElem?_getD,List.getElem?_append_left (by simpa using Vk)];simp[Vk]
  have e2:(l.map enc).getD k []=enc l[k]:=by simp[Vk]
  rw[e1]at h1;rw[e2,h1]at h2;cases h2;exact .same c (ql (fun _ h=>by cases h) _ (lz (he.free _) h1))
end Go.Gd
namespace Go.Proofs.YtijdhbokcdpklaaGreatDoor
open Go Go.Gd Tryz Go.Gd.MV
@[go_sem] def qc4(w c:aU):cL w++List.drop 3 (cL c)=cL w:=(rfl)
def R9(nm:UR)(b:ar):ab prog 26 [.agg (bu b),.pt 3 0 0 0] [(3,.var 9 [rS nm])] (fun r l=>r=rB (decide (b.name=nm))/\l=[(3,.var 9 [rS nm])]):=by
 refine aO func26 ntmps26 ?_;refine S ?_
 (repeat' (first|refine aq fun K hK=>?_|refine ak ?_|(refine hK _ _ ?_;clear hK K)|(refine ao ?_ ?_<;>intro hc<;>try exact jz)|refine bx 9 ?_|refine ap ?_|exact jI|(clear hK K)))
 (refine aW [.tmp 3] ?_;try simp only[go_sem])
def KB(nm:UR)(L:List ar)(hL:L.length<=1000):ab prog 25 [aM bu 4 L,.dW 26 [.pt 3 0 0 0]] [(3,.var 9 [rS nm])] (fun r l=>r=rI (dp nm L 0)/\l=[(3,.var 9 [rS nm])]):=by
 suffices key:∀z,dp nm L 0=z->ab prog 25 [aM bu 4 L,.dW 26 [.pt 3 0 0 0]] [(3,.var 9 [rS nm])] (fun r l=>r=rI z/\l=[(3,.var 9 [rS nm])]) from key _ rfl
 intro z hz;refine aO func25 ntmps25 ?_;refine S ?_
 (repeat' (first|refine aq fun K hK=>?_|refine ak ?_|(refine hK _ _ ?_;clear hK K)|(refine ao ?_ ?_<;>intro hc<;>try exact jz)|refine ap ?_|exact jI|(clear hK K)))
 have Vb:=hK;clear hK;refine ee (S:=Nat) [(4,2),(8,11)] (fun k=>k<=L.length/\∀j,j<k->(nth L j).name≠nm) (fun k=>[(8,rI k)]) (fun _=>⟨[3],[(3,.var 9 [rS nm])]⟩) (fun k=>L.length-k) 0 ⟨Nat.zero_le _,fun j h=>jB⟩ (dZ rfl cr) ?_;rintro k ⟨hk,U8⟩ Kr U5;by_cases I':k<L.length
 ·have U7:=R9 nm (nth L k);by_cases c:(nth L k).name=nm
  ·rw[decide_eq_true c]at U7;have:=FX I' c U8;rw[hz]at this;subst this;refine S ?_
   (have W:=I';repeat' (first|refine aq fun K hK=>?_|refine ak ?_|(refine hK _ _ ?_;clear hK K)|(refine ao ?_ ?_<;>intro hc<;>try exact jz)|(refine cl U7 ?_)|refine ap ?_|exact jI|(clear hK K)))
   (refine aW [.tmp 4] ?_;try simp only[go_sem])
  ·rw[decide_eq_false c]at U7;refine S ?_
   (have W:=I';repeat' (first|refine aq fun K hK=>?_|refine ak ?_|(refine hK _ _ ?_;clear hK K)|(refine ao ?_ ?_<;>intro hc<;>try exact jz)|(refine cl U7 ?_)|refine ap ?_|exact jI|(clear hK K)))
   exact U5 _ _ (dY (k+1) ⟨jB,fun j hj=>by
    by_cases e:j<k
    ·exact U8 j e
    ·rw[show j=k from jB];exact c⟩ (by show L.length-(k+1)<L.length-k;omega) rfl cr)
 ·have:=EK (nm:=nm) (l:=L) fun j hj=>U8 j jB
  rw[hz]at this;subst this;refine S ?_
  (have W:=I';repeat' (first|refine aq fun K hK=>?_|refine ak ?_|(refine hK _ _ ?_;clear hK K)|(refine ao ?_ ?_<;>intro hc<;>try exact jz)|refine Vb _ _ ?_|refine ap ?_|exact jI|(clear hK K)))
  (refine aW [.tmp 4] ?_;try simp only[go_sem])
def o0(w:aU)(nm:UR)(hL:w.l.length<=1000):aB prog 11 [.agg (cL w),rS nm] (rI (dp nm w.l 0)):=by
 have h:=KB nm w.l hL;generalize dp nm w.l 0=z at*;refine bF func11 ntmps11 ?_
 (repeat' (first|refine aq fun K hK=>?_|refine ak ?_|(refine hK _ _ ?_;clear hK K)|(refine ao ?_ ?_<;>intro hc<;>try exact jz)|refine aV 2 ?_|refine aV 3 ?_|refine cm (h) ?_|refine ap ?_|exact jI|(clear hK K)))
 (refine aW [.tmp 4] ?_;try simp only[go_sem])
def sO:aU:=⟨[⟨(⟨#[109,97,105,110]⟩:UR),[],[],[]⟩],0,0⟩
def C1:aB prog 8 [] (.agg (cL sO)):=by
 refine aB.sub (r:=.agg [.sl true 4 [[.raw (.string (⟨#[109,97,105,110]⟩:UR)),.raw (.slice none 0 0),.raw (.slice none 0 0),.raw (.slice none 0 0)]] [],rI 0,rI 0]) ?_ (Ic (ds:=cL sO) ⟨Sub.Nw ⟨.refl _,.nil _ _,.nil _ _,.nil _ _,trivial⟩,.refl _,.refl _,trivial⟩);refine bF func8 ntmps8 ?_
 (repeat' (first|refine aq fun K hK=>?_|refine ak ?_|(refine hK _ _ ?_;clear hK K)|(refine ao ?_ ?_<;>intro hc<;>try exact jz)|refine cC 0 ?_|refine ap ?_|exact jI|(clear hK K)))
 (refine aW [.cell 0 37] ?_;try simp only[go_sem])
structure BW(b:ar):Prop where
 ok:ij b
 i16:b.aD.length<=16
 s8:b.base.length+b.own.length<=8
def BW.re{b:ar}(h:BW b):(dr b).length<=8:=by have:=h.s8;unfold dr;rw[zO];omega
structure jh(w:aU):Prop where
 ln:w.l.length<=100
 c0:0<=w.cur
 c1:w.cur<w.l.length
 b:∀k,k<w.l.length->BW (nth w.l k)
 t:bE w.time
section
variable (p:af)(F:UP->MV->MV)
noncomputable def comesB(b:ar)(t:Int):Int:=(atB p F b t).time
noncomputable def curB(w:aU):ar:=nth w.l w.cur.toNat
noncomputable def V'(w:aU):aU:={ w with time:=comesB p F (curB w) w.time }
noncomputable def goW(w:aU)(t:Int):aU×Int:=if t<0\/200<t\/comesB p F (curB w) t<t then(w,63)else({ w with time:=t },0)
noncomputable def switchW(w:aU)(nm:UR):aU×Int:=if dp nm w.l 0<0 then(w,60)else(V' p F { w with cur:=dp nm w.l 0 },0)
end
section
variable {p:af}(hp:mf p)(U7:fg p){F:UP->MV->MV}(hF:bH p (bA p) F)
include hp U7 hF
theorem BY{b:ar}(h:ij b)(t:Int)(ht:bE t):aB prog 39 [.agg (cf p),.agg (bu b),rI t] (rI (comesB p F b t)):=by
 have Za:=tP h;obtain⟨k,EE,Zd,WR,_,_⟩:=DP hp hF (by have:=h.inl;omega) h.inr (mH h.fq) U7 (by have:=h.oU;omega) t ht;have key:ab prog 39 [.agg (cf p),.agg (bu b),rI t] [] fun r l=>r=rI (comesB p F b t)/\l=EE:=by
  unfold comesB atB;generalize shotM p F b.aD (dr b) t=Sh at*;generalize badM p F b.aD (dr b) t=z at*;generalize dr b=A at*;have U1:=Zd.e2.low;refine aO func39 ntmps39 ?_
  (have W:=U1;repeat' (first|refine aq fun K hK=>?_|refine ak ?_|(with_reducible refine gR 1 ?_);refine dC 1 ([],[14],[16]) [] (ba 0 12) mixed ?_|(refine hK _ _ ?_;clear hK K)|(refine ao ?_ ?_<;>intro hc<;>try exact jz)|refine aV 3 ?_|refine aV 4 ?_|refine cq (Za) ?_|(refine oc (e:=[]) Zd (fun j _ h=>(h rfl).elim) ?_)|refine cT WR ?_|refine ap ?_|exact jI|(clear hK K)))
  exact eG (e:=[]) (B:=[]) rfl AY Zd.e2 (tl:=[(3,.var 30 (cf p)),(4,.var 49 (bu b))]) (fun _=>rfl) (dq jC (dq jC dK)) [.tmp 6]
 exact aB.yk key (.same _ rfl)
theorem CV{w:aU}(h:jh w):aB prog 31 [.agg (cf p),.agg (cL w)] (.agg (cL (V' p F w))):=by
 have Wu:=h.c0;have Vn:=h.c1;have hk:w.cur.toNat<w.l.length:=jB;have hb:=(h.b _ hk).ok;have YL:=BY hp U7 hF hb w.time h.t;change aB _ _ _ (rI (comesB p F (curB w) w.time))at YL
 unfold V';generalize comesB p F (curB w) w.time=z at*;refine bF func31 ntmps31 ?_
 (have W:=jA Wu Vn;repeat' (first|refine aq fun K hK=>?_|refine ak ?_|(with_reducible refine gR 1 ?_);refine dC 1 ([],[14],[]) [] (ba 0 12) mixed ?_|(refine hK _ _ ?_;clear hK K)|(refine ao ?_ ?_<;>intro hc<;>try exact jz)|refine aV 2 ?_|refine aV 3 ?_|refine cC 4 ?_|refine cq (YL) ?_|refine ap ?_|exact jI|(clear hK K)))
 (refine aW [.cell 4 37] ?_;try simp only[go_sem])
theorem Kx{w:aU}(h:jh w)(t:Int)(ht:bE t):aB prog 18 [.agg (cf p),.agg (cL w),rI t] (.aQ [.agg (cL (goW p F w t).1),rI (goW p F w t).2]):=by
 have Wu:=h.c0;have Vn:=h.c1;have hk:w.cur.toNat<w.l.length:=jB;have YL:=BY hp U7 hF (h.b _ hk).ok t ht;change aB _ _ _ (rI (comesB p F (curB w) t))at YL
 unfold goW;generalize comesB p F (curB w) t=z at*;by_cases c1:t<0
 ·rw[if_pos (.inl c1)];refine bF func18 ntmps18 ?_
  (have W:=jA c1 (jA Wu (Vn));repeat' (first|refine aq fun K hK=>?_|refine ak ?_|(with_reducible refine gR 1 ?_);refine dC 1 ([],[23],[]) [] (ba 0 19) mixed ?_|(refine hK _ _ ?_;clear hK K)|(refine ao ?_ ?_<;>intro hc<;>try exact jz)|refine aV 3 ?_|refine aV 4 ?_|refine cC 6 ?_|refine⟨rI 0,?_⟩|refine ap ?_|exact jI|(clear hK K)))
  (refine aW [.cell 6 37,.tmp 7] ?_;try simp only[go_sem])
 by_cases c2:200<t
 ·rw[if_pos (.inr (.inl c2))];refine bF func18 ntmps18 ?_
  (have W:=jA c1 (jA c2 (jA Wu (Vn)));repeat' (first|refine aq fun K hK=>?_|refine ak ?_|(with_reducible refine gR 1 ?_);refine dC 1 ([],[23],[]) [] (ba 0 19) mixed ?_|(refine hK _ _ ?_;clear hK K)|(refine ao ?_ ?_<;>intro hc<;>try exact jz)|refine aV 3 ?_|refine aV 4 ?_|refine cC 6 ?_|refine⟨rI 0,?_⟩|refine ap ?_|exact jI|(clear hK K)))
  (refine aW [.cell 6 37,.tmp 7] ?_;try simp only[go_sem])
 by_cases c3:z<t
 ·rw[if_pos (.inr (.inr c3))];refine bF func18 ntmps18 ?_
  (have W:=jA c1 (jA c2 (jA c3 (jA Wu (Vn))));repeat' (first|refine aq fun K hK=>?_|refine ak ?_|(with_reducible refine gR 1 ?_);refine dC 1 ([],[23],[]) [] (ba 0 19) mixed ?_|(refine hK _ _ ?_;clear hK K)|(refine ao ?_ ?_<;>intro hc<;>try exact jz)|refine aV 3 ?_|refine aV 4 ?_|refine cC 6 ?_|refine cq (YL) ?_|refine ap ?_|exact jI|(clear hK K)))
  (refine aW [.cell 6 37,.tmp 7] ?_;try simp only[go_sem])
 ·rw[if_neg (by rintro(h|h|h);exact c1 h;exact c2 h;exact c3 h)];refine bF func18 ntmps18 ?_
  (have W:=jA c1 (jA c2 (jA c3 (jA Wu (Vn))));repeat' (first|refine aq fun K hK=>?_|refine ak ?_|(with_reducible refine gR 1 ?_);refine dC 1 ([],[23],[]) [] (ba 0 19) mixed ?_|(refine hK _ _ ?_;clear hK K)|(refine ao ?_ ?_<;>intro hc<;>try exact jz)|refine aV 3 ?_|refine aV 4 ?_|refine cC 6 ?_|refine cq (YL) ?_|refine ap ?_|exact jI|(clear hK K)))
  (refine aW [.cell 6 37,.tmp 7] ?_;try simp only[go_sem])
theorem NQ{w:aU}(h:jh w)(nm:UR):aB prog 14 [.agg (cf p),.agg (cL w),rS nm] (.aQ [.agg (cL (switchW p F w nm).1),rI (switchW p F w nm).2]):=by
 have VU:=h.ln;have hf:=o0 w nm jB;have hh:¬dp nm w.l 0<0->aB prog 31 [.agg (cf p),.agg (cL { w with cur:=dp nm w.l 0 })] (.agg (cL (V' p F { w with cur:=dp nm w.l 0 }))):=fun c=>by
  rcases rh nm w.l 0 with⟨e,_⟩|⟨j,h1,h2,_,_⟩
  ·rw[e]at c;omega
  ·exact CV hp U7 hF ⟨h.ln,by show 0<=dp nm w.l 0;omega,by show dp nm w.l 0<w.l.length;omega,h.b,h.t⟩
 unfold switchW;generalize dp nm w.l 0=k at*;by_cases c:k<0
 ·rw[if_pos c];refine bF func14 ntmps14 ?_
  (have W:=c;repeat' (first|refine aq fun K hK=>?_|refine ak ?_|(refine hK _ _ ?_;clear hK K)|(refine ao ?_ ?_<;>intro hc<;>try exact jz)|refine aV 3 ?_|refine aV 4 ?_|refine cC 6 ?_|refine cp (hf) ?_|refine ap ?_|exact jI|(clear hK K)))
  (refine aW [.cell 6 37,.tmp 7] ?_;try simp only[go_sem])
 ·rw[if_neg c];have hh:=hh c;generalize V' p F { w with cur:=k }=W2 at*;refine bF func14 ntmps14 ?_
  (have W:=c;repeat' (first|refine aq fun K hK=>?_|refine ak ?_|(refine hK _ _ ?_;clear hK K)|(refine ao ?_ ?_<;>intro hc<;>try exact jz)|refine aV 3 ?_|refine aV 4 ?_|refine cC 6 ?_|refine cp (hf) ?_|refine cp (hh) ?_|refine ap ?_|exact jI|(clear hK K)))
  (refine aW [.cell 6 37,.tmp 7] ?_;try simp only[go_sem])
end
def zn(l:List ar)(hl:l.length<=1000)(i:Nat):ab prog 33 [aM bu 4 l] [] (fun r l'=>r=.rs i l.length 4 l.length/\l'=[(i,.aG 49 4 (l.map bu))]):=by
 refine aO func33 ntmps33 ?_
 (repeat' (first|refine aq fun K hK=>?_|refine ak ?_|(refine hK _ _ ?_;clear hK K)|(refine ao ?_ ?_<;>intro hc<;>try exact jz)|(with_reducible refine fun(b:Bool) hb=>?_)|refine vn i ?_|refine ap ?_|exact jI|(clear hK K)))
 ·have VQ:l=[]:=by simpa using hb hc
  subst VQ;exact xi i 49 4 jC [.tmp 2] rfl rfl trivial
 ·(refine bY [.tmp 2] ?_ ?_<;>(try simp only[go_sem]))
def Dy(w:aU)(b:ar)(k:Int)(hl:w.l.length<=100)(h0:0<=k)(h1:k<w.l.length):aB prog 35 [.agg (cL w),rI k,.agg (bu b)] (.agg (cL { w with l:=w.l.set k.toNat b })):=by
 have U4:=zn w.l jB 1;obtain⟨l,c,t⟩:=w;obtain⟨n,rfl⟩:=Int.eq_ofNat_of_zero_le h0;simp only[cL]at*;have hn:n<l.length:=by simpa using h1
 refine bF func35 ntmps35 ?_
 (have W:=hn;repeat' (first|refine aq fun K hK=>?_|refine ak ?_|(refine hK _ _ ?_;clear hK K)|(refine ao ?_ ?_<;>intro hc<;>try exact jz)|refine aV 3 ?_|refine aV 5 ?_|refine cC 6 ?_|refine cm (U4) ?_|refine ap ?_|exact jI|(clear hK K)))
 refine fH [.cell 6 37] ?_;exact bt.agg (ds:=[aM bu 4 (l.set n b),rI c,rI t]) ⟨cY.row (l.set n b) rfl rfl (by rw[List.length_set]),.same _ rfl,.same _ rfl,trivial⟩
variable{l:List ar}{k:Nat}
def sr{n:Nat}{b:ar}(hk:k<l.length):nth (l.set n b) k=if n=k then b else nth l k:=by
 unfold nth;rw[List.getD_eq_getElem?_getD,List.getD_eq_getElem?_getD,List.getElem?_set];by_cases c:n=k
 ·subst c;rw[if_pos rfl,if_pos rfl,if_pos hk];rfl
 ·rw[if_neg c,if_neg c]
theorem jh.set{w:aU}(h:jh w)(n:Nat){b:ar}(hb:BW b):jh { w with l:=w.l.set n b }:=
 ⟨by show(w.l.set n b).length<=100;rw[List.length_set];exact h.ln,h.c0,by show w.cur<(w.l.set n b).length;rw[List.length_set];exact h.c1,fun k hk=>by
  have hk:k<w.l.length:=by simpa using hk
  show BW (nth (w.l.set n b) k);rw[sr hk];split
  ·exact hb
  ·exact h.b k hk,h.t⟩
def qU(w:aU)(b:ar)(e:Int):aU×Int:=if e≠0 then(w,e)else({ w with l:=w.l.set w.cur.toNat b },0)
section
variable (p:af)(F:UP->MV->MV)
noncomputable def addW(w:aU)(nm:UR)(v:aj):aU×Int:=qU w (addB p F (curB w) ⟨w.time,nm,v⟩).1 (addB p F (curB w) ⟨w.time,nm,v⟩).2
noncomputable def rebaseW(w:aU)(i k:Int):aU×Int×Int:=
 if i<0\/k<0 then(w,0,60)else if i=k then(w,0,1)else if i=0 then(w,0,64)
 else if(rebaseB p F (nth w.l i.toNat) (nth w.l k.toNat)).2.2≠0 then(w,(rebaseB p F (nth w.l i.toNat) (nth w.l k.toNat)).2)
 else(if w.cur=i then V' p F { w with l:=w.l.set i.toNat (rebaseB p F (nth w.l i.toNat) (nth w.l k.toNat)).1 }else{ w with l:=w.l.set i.toNat (rebaseB p F (nth w.l i.toNat) (nth w.l k.toNat)).1 },0,0)
end
noncomputable def appendW(w:aU)(n:Int):aU×Int:=qU w (ov (curB w) n).1 (ov (curB w) n).2
def ng(ok:Bool)(w:aU)(old nm:UR):aU×Int:=
 if dp old w.l 0<0 then(w,60)else if ok=false then(w,1)else if 0<=dp nm w.l 0 then(w,61)
 else({ w with l:=w.l.set (dp old w.l 0).toNat { nth w.l (dp old w.l 0).toNat with name:=nm } },0)
variable{w:aU}
def Ed(h:jh w)(b:ar)(e:Int):aB prog 48 [.agg (cL w),.agg (bu b),rI e] (.aQ [.agg (cL (qU w b e).1),rI (qU w b e).2]):=by
 have hi:=Dy w b w.cur h.ln h.c0 h.c1;unfold qU;by_cases c:e=0
 ·rw[if_neg (fun h=>h c)];generalize ({ w with l:=w.l.set w.cur.toNat b }:aU)=W2 at*;refine bF func48 ntmps48 ?_
  (have W:=c;repeat' (first|refine aq fun K hK=>?_|refine ak ?_|(refine hK _ _ ?_;clear hK K)|(refine ao ?_ ?_<;>intro hc<;>try exact jz)|refine aV 3 ?_|refine aV 4 ?_|refine cC 6 ?_|refine cp (hi) ?_|refine ap ?_|exact jI|(clear hK K)))
  (refine aW [.cell 6 37,.tmp 7] ?_;try simp only[go_sem])
 ·rw[if_pos c];refine bF func48 ntmps48 ?_
  (have W:=c;repeat' (first|refine aq fun K hK=>?_|refine ak ?_|(refine hK _ _ ?_;clear hK K)|(refine ao ?_ ?_<;>intro hc<;>try exact jz)|refine aV 3 ?_|refine aV 4 ?_|refine cC 6 ?_|refine ap ?_|exact jI|(clear hK K)))
  (refine aW [.cell 6 37,.tmp 7] ?_;try simp only[go_sem])
def Uf(h:jh w)(n:Int):aB prog 23 [.agg (cL w),rI n] (.aQ [.agg (cL (appendW w n).1),rI (appendW w n).2]):=by
 have Wu:=h.c0;have Vn:=h.c1;have hk:w.cur.toNat<w.l.length:=jB;have h1:=Nn (h.b _ hk).ok n;change aB _ _ _ (.aQ [.agg (bu (ov (curB w) n).1),rI (ov (curB w) n).2])at h1
 have h2:=fun b e=>Ed h b e
 unfold appendW;generalize ov (curB w) n=X at*;obtain⟨xb,xe⟩:=X;have h2:=h2 xb xe;simp only at h1 ⊢;generalize qU w xb xe=Y at*;refine bF func23 ntmps23 ?_
 (have W:=jA Wu Vn;repeat' (first|refine aq fun K hK=>?_|refine ak ?_|(refine hK _ _ ?_;clear hK K)|(refine ao ?_ ?_<;>intro hc<;>try exact jz)|refine aV 2 ?_|refine cC 4 ?_|refine cC 6 ?_|refine cp (h1) ?_|refine cp (h2) ?_|refine ap ?_|exact jI|(clear hK K)))
 (refine aW [.cell 4 37,.tmp 5] ?_;try simp only[go_sem])
def yT(h:jh w)(old nm:UR):aB prog 16 [.agg (cL w),rS old,rS nm] (.aQ [.agg (cL (ng (fl nm) w old nm).1),rI (ng (fl nm) w old nm).2]):=by
 have VU:=h.ln;have f1:=o0 w old jB;have f2:=o0 w nm jB;have f3:=yY nm;have hi:=fun b=>Dy w b (dp old w.l 0) h.ln
 have hb:dp old w.l 0<w.l.length:=by
  rcases rh old w.l 0 with⟨e,_⟩|⟨j,h1,h2,_,_⟩
  ·rw[e];omega
  ·rw[h2];omega
 unfold ng;generalize dp old w.l 0=k at*;generalize dp nm w.l 0=m at*;generalize fl nm=ok at*;by_cases c1:k<0
 ·rw[if_pos c1];refine bF func16 ntmps16 ?_
  (have W:=c1;repeat' (first|refine aq fun K hK=>?_|refine ak ?_|(refine hK _ _ ?_;clear hK K)|(refine ao ?_ ?_<;>intro hc<;>try exact jz)|refine aV 3 ?_|refine cC 6 ?_|refine cp (f1) ?_|refine ap ?_|exact jI|(clear hK K)))
  (refine aW [.cell 6 37,.tmp 7] ?_;try simp only[go_sem])
 rw[if_neg c1];by_cases c2:ok=false
 ·subst c2;rw[if_pos rfl];refine bF func16 ntmps16 ?_
  (have W:=c1;repeat' (first|refine aq fun K hK=>?_|refine ak ?_|(refine hK _ _ ?_;clear hK K)|(refine ao ?_ ?_<;>intro hc<;>try exact jz)|refine aV 3 ?_|refine cC 6 ?_|refine cp (f1) ?_|refine cp (f3) ?_|refine ap ?_|exact jI|(clear hK K)))
  (refine aW [.cell 6 37,.tmp 7] ?_;try simp only[go_sem])
 have c2:ok=true:=by cases ok<;>simp_all
 subst c2;rw[if_neg jC];by_cases c3:0<=m
 ·rw[if_pos c3];have c3':m >= 0:=c3;refine bF func16 ntmps16 ?_
  (have W:=jA c1 (c3');repeat' (first|refine aq fun K hK=>?_|refine ak ?_|(refine hK _ _ ?_;clear hK K)|(refine ao ?_ ?_<;>intro hc<;>try exact jz)|refine aV 3 ?_|refine cC 6 ?_|refine cp (f1) ?_|refine cp (f3) ?_|refine cp (f2) ?_|refine ap ?_|exact jI|(clear hK K)))
  (refine aW [.cell 6 37,.tmp 7] ?_;try simp only[go_sem])
 ·rw[if_neg c3];have c3':¬m >= 0:=c3;obtain⟨n,rfl⟩:=Int.eq_ofNat_of_zero_le (show 0<=k from jB);have hn:n<w.l.length:=jB;have hi:=hi { nth w.l n with name:=nm } jB hb;simp only[Int.toNat_natCast]at hi ⊢;generalize ({ w with l:=w.l.set n { nth w.l n with name:=nm } }:aU)=W2 at*;refine bF func16 ntmps16 ?_
  (have W:=jA c1 (jA c3' (hn));repeat' (first|refine aq fun K hK=>?_|refine ak ?_|(refine hK _ _ ?_;clear hK K)|(refine ao ?_ ?_<;>intro hc<;>try exact jz)|refine aV 3 ?_|refine cC 6 ?_|refine cC 9 ?_|refine cp (f1) ?_|refine cp (f3) ?_|refine cp (f2) ?_|refine cp (hi) ?_|refine ap ?_|exact jI|(clear hK K)))
  (refine aW [.cell 6 37,.tmp 7] ?_;try simp only[go_sem])
section
variable {p:af}(hp:mf p)(U7:fg p){F:UP->MV->MV}(hF:bH p (bA p) F)
include hp U7 hF
theorem Ro{w:aU}(h:jh w)(nm:UR){v:aj}(hv:bE v.n):aB prog 22 [.agg (cf p),.agg (cL w),rS nm,.agg (bW v)] (.aQ [.agg (cL (addW p F w nm v).1),rI (addW p F w nm v).2]):=by
 have Wu:=h.c0;have Vn:=h.c1;have hk:w.cur.toNat<w.l.length:=jB;have h1:=Uo hp U7 hF (h.b _ hk).ok (x:=⟨w.time,nm,v⟩) hv;change aB _ _ _ (.aQ [.agg (bu (addB p F (curB w) ⟨w.time,nm,v⟩).1),rI (addB p F (curB w) ⟨w.time,nm,v⟩).2])at h1
 have h2:=fun b e=>Ed h b e
 unfold addW;generalize addB p F (curB w) ⟨w.time,nm,v⟩=X at*;obtain⟨xb,xe⟩:=X;have h2:=h2 xb xe;simp only at h1 ⊢;generalize qU w xb xe=Y at*;refine bF func22 ntmps22 ?_
 (have W:=jA Wu Vn;repeat' (first|refine aq fun K hK=>?_|refine ak ?_|(with_reducible refine gR 1 ?_);refine dC 1 ([],[],[25]) [16] (ba 0 19) mixed ?_|(refine hK _ _ ?_;clear hK K)|(refine ao ?_ ?_<;>intro hc<;>try exact jz)|refine aV 4 ?_|refine aV 5 ?_|refine aV 7 ?_|refine cC 8 ?_|refine cC 10 ?_|refine cN h1 ?_|refine cp (h2) ?_|refine ap ?_|exact jI|(clear hK K)))
 (refine aW [.cell 8 37,.tmp 9] ?_;try simp only[go_sem])
theorem LS{w:aU}(h:jh w)(a o:UR):aB prog 24 [.agg (cf p),.agg (cL w),rS a,rS o] (.aQ [.agg (cL (rebaseW p F w (dp a w.l 0) (dp o w.l 0)).1),rI (rebaseW p F w (dp a w.l 0) (dp o w.l 0)).2.1,rI (rebaseW p F w (dp a w.l 0) (dp o w.l 0)).2.2]):=by
 have VU:=h.ln;have f1:=o0 w a jB;have f2:=o0 w o jB;have hb:∀nm,dp nm w.l 0<w.l.length:=fun nm=>by
  rcases rh nm w.l 0 with⟨e,_⟩|⟨j,h1,h2,_,_⟩
  ·rw[e];omega
  ·rw[h2];omega
 have WG:=hb a;have W4:=hb o;clear hb;generalize dp a w.l 0=i at*;generalize dp o w.l 0=k at*;unfold rebaseW;by_cases c1:i<0\/k<0
 ·rw[if_pos c1];have c1':(if i<k then i else k)<0:=by split<;>omega
  refine bF func24 ntmps24 ?_
  (have W:=c1';repeat' (first|refine aq fun K hK=>?_|refine ak ?_|(with_reducible refine gR 1 ?_);refine dC 1 ([],[18,21],[]) [] (ba 0 8) mixed ?_|(refine hK _ _ ?_;clear hK K)|(refine ao ?_ ?_<;>intro hc<;>try exact jz)|refine aV 4 ?_|refine aV 5 ?_|refine cC 8 ?_|refine cq (f1) ?_|refine cq (f2) ?_|refine ap ?_|exact jI|(clear hK K)))
  (refine aW [.cell 8 37,.tmp 9,.tmp 10] ?_;try simp only[go_sem])
 rw[if_neg c1];obtain⟨ni,rfl⟩:=Int.eq_ofNat_of_zero_le (show 0<=i from jB);obtain⟨nk,rfl⟩:=Int.eq_ofNat_of_zero_le (show 0<=k from jB);have c1':¬(if(ni:Int)<nk then(ni:Int)else nk)<0:=by split<;>omega
 have hi:ni<w.l.length:=jB;have hk:nk<w.l.length:=jB;by_cases c2:ni=nk
 ·have c2':(ni:Int)=nk:=jB;rw[if_pos c2'];refine bF func24 ntmps24 ?_
  (have W:=jA c1' (jA c2 (c2'));repeat' (first|refine aq fun K hK=>?_|refine ak ?_|(with_reducible refine gR 1 ?_);refine dC 1 ([],[18,21],[]) [] (ba 0 8) mixed ?_|(refine hK _ _ ?_;clear hK K)|(refine ao ?_ ?_<;>intro hc<;>try exact jz)|refine aV 4 ?_|refine aV 5 ?_|refine cC 8 ?_|refine cq (f1) ?_|refine cq (f2) ?_|refine ap ?_|exact jI|(clear hK K)))
  (refine aW [.cell 8 37,.tmp 9,.tmp 10] ?_;try simp only[go_sem])
 have c2':¬(ni:Int)=nk:=jB;rw[if_neg c2'];by_cases c3:ni=0
 ·have c3':(ni:Int)=0:=jB;rw[if_pos c3'];refine bF func24 ntmps24 ?_
  (have W:=jA c1' (jA c2 (jA c2' (jA c3 (c3'))));repeat' (first|refine aq fun K hK=>?_|refine ak ?_|(with_reducible refine gR 1 ?_);refine dC 1 ([],[18,21],[]) [] (ba 0 8) mixed ?_|(refine hK _ _ ?_;clear hK K)|(refine ao ?_ ?_<;>intro hc<;>try exact jz)|refine aV 4 ?_|refine aV 5 ?_|refine cC 8 ?_|refine cq (f1) ?_|refine cq (f2) ?_|refine ap ?_|exact jI|(clear hK K)))
  (refine aW [.cell 8 37,.tmp 9,.tmp 10] ?_;try simp only[go_sem])
 have c3':¬(ni:Int)=0:=jB;rw[if_neg c3'];have h1:=Sx hp U7 hF (h.b _ hi).ok (h.b _ hk).ok (by have:=(h.b _ hk).re;omega);have V3:=fun b=>Dy w b ni VU jB jB
 have ZN:(rebaseB p F (nth w.l ni) (nth w.l nk)).2.2=0->BW (rebaseB p F (nth w.l ni) (nth w.l nk)).1:=by
  have g1:=h.b _ hi;have g2:=h.b _ hk;have g3:=g1.ok.kv g2.ok (by have:=g2.re;omega);unfold rebaseB;split
  ·intro h;cases h
  rename_i q;split
  ·intro h;cases h
  intro _;exact⟨g3,g2.i16,by show(dr (nth w.l nk)).length+(nth w.l ni).own.length<=8;omega⟩
 simp only[Int.toNat_natCast];generalize rebaseB p F (nth w.l ni) (nth w.l nk)=X at*;obtain⟨xb,xn,xe⟩:=X;simp only at h1 ZN ⊢;by_cases c4:xe=0
 rotate_left
 ·rw[if_pos c4];refine bF func24 ntmps24 ?_
  (have W:=jA c1' (jA c2 (jA c2' (jA c3 (jA c3' (jA c4 (jA hi (hk)))))));repeat' (first|refine aq fun K hK=>?_|refine ak ?_|(with_reducible refine gR 1 ?_);refine dC 1 ([],[18,21],[]) [] (ba 0 8) mixed ?_|(with_reducible refine gR 8 ?_);refine dC 8 ([],[],[49]) [16] (ba 0 20) mixed ?_|(refine hK _ _ ?_;clear hK K)|(refine ao ?_ ?_<;>intro hc<;>try exact jz)|refine aV 4 ?_|refine aV 5 ?_|refine cC 8 ?_|refine cC 13 ?_|refine cq (f1) ?_|refine cq (f2) ?_|refine cN h1 ?_|refine ap ?_|exact jI|(clear hK K)))
  (refine aW [.cell 8 37,.tmp 9,.tmp 10] ?_;try simp only[go_sem])
 rw[if_neg (fun h=>h c4)];have V3:=V3 xb;simp only[Int.toNat_natCast]at V3;have hw2:jh { w with l:=w.l.set ni xb }:=h.set ni (ZN c4);by_cases c5:w.cur=ni
 ·rw[if_pos c5];have hhe:=CV hp U7 hF hw2;have c5':({ w with l:=w.l.set ni xb }:aU).cur=ni:=c5;generalize ({ w with l:=w.l.set ni xb }:aU)=W2 at*;generalize V' p F W2=W3 at*;refine bF func24 ntmps24 ?_
  (have W:=jA c1' (jA c2 (jA c2' (jA c3 (jA c3' (jA c4 (jA c5' (jA hi (hk))))))));repeat' (first|refine aq fun K hK=>?_|refine ak ?_|(with_reducible refine gR 1 ?_);refine dC 1 ([],[18,21],[]) [] (ba 0 8) mixed ?_|(with_reducible refine gR 8 ?_);refine dC 8 ([],[],[49]) [16] (ba 0 20) mixed ?_|(refine hK _ _ ?_;clear hK K)|(refine ao ?_ ?_<;>intro hc<;>try exact jz)|refine aV 4 ?_|refine aV 5 ?_|refine cC 8 ?_|refine cC 13 ?_|refine cq (f1) ?_|refine cq (f2) ?_|refine cN h1 ?_|refine cp (V3) ?_|refine cp (hhe) ?_|refine ap ?_|exact jI|(clear hK K)))
  (refine aW [.cell 8 37,.tmp 9,.tmp 10] ?_;try simp only[go_sem])
 ·rw[if_neg c5];have c5':¬({ w with l:=w.l.set ni xb }:aU).cur=ni:=c5;generalize ({ w with l:=w.l.set ni xb }:aU)=W2 at*;refine bF func24 ntmps24 ?_
  (have W:=jA c1' (jA c2 (jA c2' (jA c3 (jA c3' (jA c4 (jA c5' (jA hi (hk))))))));repeat' (first|refine aq fun K hK=>?_|refine ak ?_|(with_reducible refine gR 1 ?_);refine dC 1 ([],[18,21],[]) [] (ba 0 8) mixed ?_|(with_reducible refine gR 8 ?_);refine dC 8 ([],[],[49]) [16] (ba 0 20) mixed ?_|(refine hK _ _ ?_;clear hK K)|(refine ao ?_ ?_<;>intro hc<;>try exact jz)|refine aV 4 ?_|refine aV 5 ?_|refine cC 8 ?_|refine cC 13 ?_|refine cq (f1) ?_|refine cq (f2) ?_|refine cN h1 ?_|refine cp (V3) ?_|refine ap ?_|exact jI|(clear hK K)))
  (refine aW [.cell 8 37,.tmp 9,.tmp 10] ?_;try simp only[go_sem])
end
def P0{x:ar}:∀B:List ar,∃z,(x::B).drop B.length=[z]:=fun B=>by
 have h:((x::B).drop B.length).length=1:=by rw[List.length_drop];simp
 exact List.length_eq_one_iff.1 h
theorem Jk(q:UX):∀l:List ar,aZ q (l.map bu).flatten=true
 |[]=>rfl
 |x::l=>by rw[List.map_cons,List.flatten_cons,vv,Jk q l,EH];rfl
def RT(l:List ar):Go.Gd.Good 4 (l.map bu):=fun c hc=>by obtain⟨y,_,rfl⟩:=List.mem_map.1 hc;exact⟨rfl,rfl⟩
def Q5(A B L:List ar)(x:ar)(hL:L=A++x::B)(h1000:L.length<=1000)(n k:Nat)(hn:n=A.length+B.length+1)(hk:k=A.length):ab prog 32 [.rs 1 n 4 n,rI k,rI (k+1)] [(1,.aG 49 4 (L.map bu))] (fun r l=>r=.rs 1 n 4 (n-1)/\l=[(1,.aG 49 4 ((A++B).map bu++[zB]))]):=by
 have hll:L.length=n:=by rw[hL,List.length_append,List.length_cons];omega
 have WQ:(L.map bu).length=n:=by rw[List.length_map,hll]
 have VM:¬(k:Int)=k+1:=jB;have hkn:k<n:=jB;have hd1:List.drop (k+1) L=B:=by rw[hL,hk,<-List.drop_drop,List.drop_left];rfl
 have XM:List.take k L=A:=by rw[hL,hk];exact List.take_left
 refine ab.wU (i:=1) (css:=L.map bu) (X:=(A++B).map bu++[zB]) (l:=[(1,.aG 49 4 (L.map bu))]) jB rfl WQ.symm (fun j r h1 h2=>?_) (by rw[List.length_append,List.length_map,List.length_append];simp only[List.length_cons,List.length_nil];omega) ?_ ?_ fun c YC=>?_
 ·simp only[aC]at h1;split at h1
  ·rename_i e;exact(h2 e).elim
  ·cases h1
 ·rw[List.flatten_append,vv,Jk];rfl
 ·intro y hy;rcases List.mem_append.1 hy with hy|hy
  ·obtain⟨z,_,rfl⟩:=List.mem_map.1 hy;rfl
  ·rw[List.mem_singleton.1 hy];rfl
 show ab _ _ _ [(1,.aG 49 4 (L.map bu++gk 4 (c-n)))] (fun r l'=>r=.rc 1 c 4 (n-1)/\l'=[(1,.aG 49 4 ((A++B).map bu++[zB]++gk 4 (c-n)))]);have V5:(gk 4 (c-n)).length=c-n:=Ap;generalize gk 4 (c-n)=Sp at*;have U4:c=(L.map bu++Sp).length:=by rw[List.length_append,WQ,V5];omega
 have Xq:((L.map bu++Sp).drop (k+1)).take (n-(k+1))=B.map bu:=by rw[List.drop_append_of_le_length jB,<-List.map_drop,hd1];have h1:=List.take_left (l₁:=B.map bu) (l₂:=Sp);rwa [List.length_map,show B.length=n-(k+1) from jB]at h1
 have hgB:=RT B;have XP:(B.map bu).length=n-(k+1):=by rw[List.length_map];omega
 have VR:k+(n-(k+1))=n-1:=jB;obtain⟨Z,hZ,hZl⟩:∃Z,dz (L.map bu++Sp) k (B.map bu)=(A++B).map bu++[Z]++Sp/\Z.length=4:=by
  obtain⟨z,hz⟩:=P0 (x:=x) B;refine⟨bu z,?_,rfl⟩;have e1:L.map bu++Sp=A.map bu++((x::B).map bu++Sp):=by rw[hL,List.map_append,List.append_assoc]
  have h1:(A.map bu++((x::B).map bu++Sp)).take k=A.map bu:=by have:=List.take_left (l₁:=A.map bu) (l₂:=(x::B).map bu++Sp);rwa [List.length_map,<-hk]at this
  have h2:(A.map bu++((x::B).map bu++Sp)).drop (k+(B.map bu).length)=[bu z]++Sp:=by have h3:=List.drop_left (l₁:=A.map bu) (l₂:=(x::B).map bu++Sp);rw[List.length_map,<-hk]at h3;rw[<-List.drop_drop,h3,List.length_map,List.drop_append_of_le_length jE,<-List.map_drop,hz];rfl
  unfold dz;rw[e1,h1,h2,List.map_append];simp
 have haT:c=((A++B).map bu++[Z]++Sp).length:=by rw[List.length_append,List.length_append,List.length_map,List.length_append,V5];simp only[List.length_cons,List.length_nil];omega
 have X8:dz ((A++B).map bu++[Z]++Sp) (n-1) (List.replicate 1 zB)=(A++B).map bu++[zB]++Sp:=by
  have h1:((A++B).map bu++([Z]++Sp)).take (n-1)=(A++B).map bu:=by have:=List.take_left (l₁:=(A++B).map bu) (l₂:=[Z]++Sp);rwa [List.length_map,List.length_append,show A.length+B.length=n-1 from jB]at this
  have h2:((A++B).map bu++([Z]++Sp)).drop (n-1+1)=Sp:=by have h3:=List.drop_left (l₁:=(A++B).map bu) (l₂:=[Z]++Sp);rw[List.length_map,List.length_append,show A.length+B.length=n-1 from jB]at h3;rw[<-List.drop_drop,h3];rfl
  have e:(A++B).map bu++[Z]++Sp=(A++B).map bu++([Z]++Sp):=List.append_assoc _ _ _;unfold dz;rw[e,h1,List.length_replicate,h2];rfl
 have Xa:n-(n-1)=1:=jB;simp only[List.map_append]at haT X8;generalize Yx:L.map bu++Sp=R0 at*;refine aO func32 ntmps32 ?_;refine S ?_
 (have W:=jA hkn (jA WQ (jA VM (jA VR (Xa))));repeat' (first|(refine UD (zs:=Dn) (c:=(4:Nat)=4/\c=R0.length/\(k+1)+(n-(k+1))<=c) (ys:=B.map bu) rfl U4 jG jG jG rfl jC (by show some (_,(R0.drop (k+1)).take (n-(k+1)))=_;rw[Xq]) ⟨rfl,U4,jB⟩ hgB (by rw[XP];omega) ?_;rw[XP,VR,hZ])|refine aq fun K hK=>?_|refine ak ?_|(with_reducible refine gR 5 ?_);refine dE 5 (ba 0 8) mixed ?_|(refine hK _ _ ?_;clear hK K)|(refine ao ?_ ?_<;>intro hc<;>try exact jz)|(refine FK (zs:=Dn) rfl haT jG jG jG rfl jC rfl jB ?_;rw[X8])|refine ap ?_|exact jI|(clear hK K)))
 (refine bY [.tmp 6] ?_ ?_<;>(try simp only[go_sem]))
def jt(l:List ar)(k:Nat):List ar:=l.take k++l.drop (k+1)
noncomputable def pruneW(p:af)(F:UP->MV->MV)(w:aU)(k:Int):aU×Int:=
 if k<0 then(w,60)else if k=0 then(w,64)
 else(if k<w.cur then{ w with l:=jt w.l k.toNat,cur:=w.cur-1 }else if w.cur=k then V' p F { w with l:=jt w.l k.toNat,cur:=0 }else{ w with l:=jt w.l k.toNat },0)
def wg{j:Nat}(hk:k<l.length)(hj:j<(jt l k).length):nth (jt l k) j=if j<k then nth l j else nth l (j+1):=by
 have O':(l.take k).length=k:=by rw[List.length_take];omega
 unfold jt nth;simp only[List.getD_eq_getElem?_getD];by_cases c:j<k
 ·rw[if_pos c,List.getElem?_append_left jB,List.getElem?_take,if_pos c]
 ·rw[if_neg c,List.getElem?_append_right jB,O',List.getElem?_drop,show k+1+(j-k)=j+1 from jB]
def qt(hk:k<l.length):(jt l k).length=l.length-1:=by unfold jt;rw[List.length_append,List.length_take,List.length_drop];omega
def jh.erase(h:jh w)(hk:k<w.l.length){c:Int}(h0:0<=c)(h1:c<w.l.length-1):jh { w with l:=jt w.l k,cur:=c }:=
 ⟨by show(jt w.l k).length<=100;rw[qt hk];have:=h.ln;omega,h0,by show c<(jt w.l k).length;rw[qt hk];omega,fun j hj=>by
  have hj:j<(jt w.l k).length:=hj;show BW (nth (jt w.l k) j);rw[wg hk hj];rw[qt hk]at hj;split
  ·exact h.b j jB
  ·exact h.b (j+1) jB,h.t⟩
section
variable {p:af}(hp:mf p)(U7:fg p){F:UP->MV->MV}(hF:bH p (bA p) F)
include hp U7 hF
theorem RB{w:aU}(h:jh w)(nm:UR):aB prog 15 [.agg (cf p),.agg (cL w),rS nm] (.aQ [.agg (cL (pruneW p F w (dp nm w.l 0)).1),rI (pruneW p F w (dp nm w.l 0)).2]):=by
 have VU:=h.ln;have f1:=o0 w nm jB;have hb:dp nm w.l 0=-1\/0<=dp nm w.l 0/\dp nm w.l 0<w.l.length:=by
  rcases rh nm w.l 0 with⟨e,_⟩|⟨j,h1,h2,_,_⟩
  ·exact .inl e
  ·exact .inr ⟨jB,jB⟩
 generalize dp nm w.l 0=i at*;unfold pruneW;rcases hb with rfl|⟨Xg,Xx⟩
 ·rw[jP];refine bF func15 ntmps15 ?_
  (repeat' (first|refine aq fun K hK=>?_|refine ak ?_|(refine hK _ _ ?_;clear hK K)|(refine ao ?_ ?_<;>intro hc<;>try exact jz)|refine aV 3 ?_|refine aV 4 ?_|refine cC 6 ?_|refine cp (f1) ?_|refine ap ?_|exact jI|(clear hK K)))
  (refine aW [.cell 6 37,.tmp 7] ?_;try simp only[go_sem])
 rw[jN];obtain⟨k,rfl⟩:=Int.eq_ofNat_of_zero_le Xg;have hkm:¬(k:Int)=-1:=jB;by_cases c0:k=0
 ·have c0':(k:Int)=0:=jB;rw[if_pos c0'];refine bF func15 ntmps15 ?_
  (have W:=jA hkm (jA c0 (c0'));repeat' (first|refine aq fun K hK=>?_|refine ak ?_|(refine hK _ _ ?_;clear hK K)|(refine ao ?_ ?_<;>intro hc<;>try exact jz)|refine aV 3 ?_|refine aV 4 ?_|refine cC 6 ?_|refine cp (f1) ?_|refine ap ?_|exact jI|(clear hK K)))
  (refine aW [.cell 6 37,.tmp 7] ?_;try simp only[go_sem])
 have c0':¬(k:Int)=0:=jB;rw[if_neg c0'];have hk:k<w.l.length:=jB;have U4:=zn w.l jB 1;have hde:=Q5 (w.l.take k) (w.l.drop (k+1)) w.l (nth w.l k) (by have:=tT hk;rw[<-List.singleton_append,<-List.append_assoc,<-this,List.take_append_drop]) jB w.l.length k (by rw[List.length_take,List.length_drop];omega) (by rw[List.length_take];omega);have WV:=qt hk;have her:w.l.take k++w.l.drop (k+1)=jt w.l k:=rfl;rw[her]at hde;have hhe:w.cur=k->aB prog 31 [.agg (cf p),.agg (cL { w with l:=jt w.l k,cur:=0 })] (.agg (cL (V' p F { w with l:=jt w.l k,cur:=0 }))):=fun c=>CV hp U7 hF (h.erase hk (c:=0) jB jB)
 simp only[Int.toNat_natCast];obtain⟨l,c,t⟩:=w;simp only at*;generalize jt l k=M at*;simp only[cL]at f1;have X5:c<(l.length:Int):=h.c1;by_cases c1:(k:Int)<c
 ·rw[if_pos c1];have c1':c>(k:Int):=c1;simp only[cL];refine bF func15 ntmps15 ?_
  (have W:=jA hkm (jA c0 (jA c0' (c1')));repeat' (first|refine aq fun K hK=>?_|refine ak ?_|(refine hK _ _ ?_;clear hK K)|(refine ao ?_ ?_<;>intro hc<;>try exact jz)|refine aV 3 ?_|refine aV 4 ?_|refine cC 6 ?_|refine cp (f1) ?_|refine cm (U4) ?_|refine cm (hde) ?_|refine ap ?_|exact jI|(clear hK K)))
  refine fH [.cell 6 37,.tmp 7] ?_;exact bt.aQ (ds:=[.agg [aM bu 4 M,rI (c-1),rI t],rI 0]) ⟨bt.agg (ds:=[aM bu 4 M,rI (c-1),rI t]) ⟨cY.lN M [zB] rfl rfl (by rw[WV];simp only[List.length_cons,List.length_nil];omega) jB,.same _ rfl,.same _ rfl,trivial⟩,.same _ rfl,trivial⟩
 rw[if_neg c1];have c1':¬c>(k:Int):=c1;by_cases c2:c=k
 ·rw[if_pos c2];have hh2:aB prog 31 [.agg (cf p),.agg [aM bu 4 M,rI 0,rI t]] (.agg (cL (V' p F ⟨M,0,t⟩))):=hhe c2;clear hhe;generalize V' p F ⟨M,0,t⟩=W3 at*;have c3:¬(k:Int)>k:=jB;subst c2;clear c1 c1';simp only[cL];refine bF func15 ntmps15 ?_
  (have W:=jA hkm (jA c0 (jA c0' (c3)));repeat' (first|refine PZ [1] 4 [aM bu 4 M,rI k,rI t] [(19,8)] [] ?_ (hc:=by exact⟨cY.lN M [zB] rfl rfl (by rw[WV];simp only[List.length_cons,List.length_nil];omega) jB,.same _ rfl,.same _ rfl,trivial⟩)|refine aq fun K hK=>?_|refine ak ?_|(refine hK _ _ ?_;clear hK K)|(refine ao ?_ ?_<;>intro hc<;>try exact jz)|refine aV 3 ?_|refine aV 4 ?_|refine cC 6 ?_|refine cp (f1) ?_|refine cm (U4) ?_|refine cm (hde) ?_|refine cp (hh2) ?_|refine ap ?_|exact jI|(clear hK K)))
  (refine aW [.cell 6 37,.tmp 7] ?_;try simp only[go_sem])
  rfl
 ·rw[if_neg c2];simp only[cL];refine bF func15 ntmps15 ?_
  (have W:=jA hkm (jA c0 (jA c0' (jA c1' (c2))));repeat' (first|refine aq fun K hK=>?_|refine ak ?_|(refine hK _ _ ?_;clear hK K)|(refine ao ?_ ?_<;>intro hc<;>try exact jz)|refine aV 3 ?_|refine aV 4 ?_|refine cC 6 ?_|refine cp (f1) ?_|refine cm (U4) ?_|refine cm (hde) ?_|refine ap ?_|exact jI|(clear hK K)))
  refine fH [.cell 6 37,.tmp 7] ?_;exact bt.aQ (ds:=[.agg [aM bu 4 M,rI c,rI t],rI 0]) ⟨bt.agg (ds:=[aM bu 4 M,rI c,rI t]) ⟨cY.lN M [zB] rfl rfl (by rw[WV];simp only[List.length_cons,List.length_nil];omega) jB,.same _ rfl,.same _ rfl,trivial⟩,.same _ rfl,trivial⟩
end
def pY(w:aU)(nm:UR)(x:ar)(e:Int):aU×Int:=
 if 0<=dp nm w.l 0 then(w,61)else if 8<=w.l.length then(w,62)else if e≠0 then(w,e)else({ w with l:=w.l++[x],cur:=w.l.length },0)
section
variable {p:af}(hp:mf p)(U7:fg p){F:UP->MV->MV}(hF:bH p (bA p) F)
include hp U7 hF
theorem Rh{b:ar}(h:ij b)(nm:UR){x:az}(hx:bE x.v.n)(hxa:bE x.at_):ab prog 40 [.agg (bu b),.pt 5 0 0 0,.pt 7 0 0 0,.pt 12 0 0 0] [(5,.var 30 (cf p)),(7,.var 9 [rS nm]),(12,.var 87 (bv x))] (fun r l=>r=.aQ [.agg (bu (forkB p F (fl nm) b nm x).1),rI (forkB p F (fl nm) b nm x).2]/\l=[(5,.var 30 (cf p)),(7,.var 9 [rS nm]),(12,.var 87 (bv x))]):=by
 have hf:=KY hp U7 hF h nm hx hxa;generalize forkB p F (fl nm) b nm x=X at*;obtain⟨xb,xe⟩:=X;simp only at hf ⊢;refine aO func40 ntmps40 ?_;refine S ?_
 (repeat' (first|refine aq fun K hK=>?_|refine ak ?_|(refine hK _ _ ?_;clear hK K)|(refine ao ?_ ?_<;>intro hc<;>try exact jz)|refine bx 20 ?_|refine al 21 ?_|refine cp (hf) ?_|refine ap ?_|exact jI|(clear hK K)))
 (refine aW [.cell 5 49,.tmp 6] ?_;try simp only[go_sem])
end
def KU{p:af}(h:jh w)(nm nm2:UR)(x:az)(xb:ar)(xe:Int)(U4:ab prog 40 [.agg (bu (curB w)),.pt 5 0 0 0,.pt 7 0 0 0,.pt 12 0 0 0] [(5,.var 30 (cf p)),(7,.var 9 [rS nm2]),(12,.var 87 (bv x))] (fun r l=>r=.aQ [.agg (bu xb),rI xe]/\l=[(5,.var 30 (cf p)),(7,.var 9 [rS nm2]),(12,.var 87 (bv x))])) :
  ab prog 27 [.agg (cL w),rS nm,.dW 40 [.pt 5 0 0 0,.pt 7 0 0 0,.pt 12 0 0 0]] [(5,.var 30 (cf p)),(7,.var 9 [rS nm2]),(12,.var 87 (bv x))] (fun r l=>r=.aQ [.agg (cL (pY w nm xb xe).1),rI (pY w nm xb xe).2]/\l=[(5,.var 30 (cf p)),(7,.var 9 [rS nm2]),(12,.var 87 (bv x))]):=by
 have VU:=h.ln;have Wu:=h.c0;have Vn:=h.c1;have f1:=o0 w nm jB;have YC:=zn w.l jB 1;change ab _ _ [.agg (bu (nth w.l w.cur.toNat)),_,_,_] _ _ at U4
 unfold pY;generalize dp nm w.l 0=i at*;by_cases c1:0<=i
 ·rw[if_pos c1];have c1':i >= 0:=c1;refine aO func27 ntmps27 ?_;refine S ?_
  (have W:=c1';repeat' (first|refine aq fun K hK=>?_|refine ak ?_|(refine hK _ _ ?_;clear hK K)|(refine ao ?_ ?_<;>intro hc<;>try exact jz)|refine bx 20 ?_|refine al 21 ?_|refine cp (f1) ?_|refine ap ?_|exact jI|(clear hK K)))
  (refine aW [.cell 6 37,.tmp 7] ?_;try simp only[go_sem])
 rw[if_neg c1];have c1':¬i >= 0:=c1;by_cases c2:8<=w.l.length
 ·rw[if_pos c2];have c2':(w.l.length:Int) >= 8:=jB;refine aO func27 ntmps27 ?_;refine S ?_
  (have W:=jA c1' (c2');repeat' (first|refine aq fun K hK=>?_|refine ak ?_|(refine hK _ _ ?_;clear hK K)|(refine ao ?_ ?_<;>intro hc<;>try exact jz)|refine bx 20 ?_|refine al 21 ?_|refine cp (f1) ?_|refine ap ?_|exact jI|(clear hK K)))
  (refine aW [.cell 6 37,.tmp 7] ?_;try simp only[go_sem])
 rw[if_neg c2];have c2':¬(w.l.length:Int) >= 8:=jB;by_cases c3:xe=0
 rotate_left
 ·rw[if_pos c3];refine aO func27 ntmps27 ?_;refine S ?_
  (have W:=jA c1' (jA c2' (jA c3 (jA Wu (Vn))));repeat' (first|refine aq fun K hK=>?_|refine ak ?_|(refine hK _ _ ?_;clear hK K)|(refine ao ?_ ?_<;>intro hc<;>try exact jz)|refine bx 20 ?_|refine al 21 ?_|refine al 22 ?_|(refine cl U4 ?_)|refine cp (f1) ?_|refine ap ?_|exact jI|(clear hK K)))
  (refine aW [.cell 6 37,.tmp 7] ?_;try simp only[go_sem])
 ·rw[if_neg (fun h=>h c3)];subst c3;obtain⟨l,c,t⟩:=w;simp only at*;simp only[cL]at f1 ⊢;refine aO func27 ntmps27 ?_;refine S ?_
  (have W:=jA c1' (jA c2' (jA Wu (Vn)));repeat' (first|refine aq fun K hK=>?_|refine ak ?_|(with_reducible refine gR 8 ?_);refine dC 8 ([],[],[39]) [] [0,1,3,4,2,5,6,7] mixed ?_|(refine hK _ _ ?_;clear hK K)|(refine ao ?_ ?_<;>intro hc<;>try exact jz)|refine bx 20 ?_|refine al 21 ?_|refine al 22 ?_|(refine cl U4 ?_)|refine cN YC ?_|refine cp (f1) ?_|refine ap ?_|exact jI|(clear hK K)))
  refine fH [.cell 6 37,.tmp 7] ?_;exact bt.aQ (ds:=[.agg [aM bu 4 (l++[xb]),rI l.length,rI t],rI 0]) ⟨bt.agg (ds:=[aM bu 4 (l++[xb]),rI l.length,rI t]) ⟨cY.row (l++[xb]) rfl (by rw[List.map_append];rfl) (by rw[List.length_append];rfl),(by rw[show(((l.length+1:Nat):Int)-1)=(l.length:Int) from jB];exact .same _ rfl),.same _ rfl,trivial⟩,.same _ rfl,trivial⟩
noncomputable def forkW(p:af)(F:UP->MV->MV)(w:aU)(nm va:UR)(v:aj):aU×Int:=
 pY w nm (forkB p F (fl nm) (curB w) nm ⟨w.time,va,v⟩).1 (forkB p F (fl nm) (curB w) nm ⟨w.time,va,v⟩).2
section
variable {p:af}(hp:mf p)(U7:fg p){F:UP->MV->MV}(hF:bH p (bA p) F)
include hp U7 hF
theorem Im{w:aU}(h:jh w)(nm va:UR){v:aj}(hv:bE v.n):aB prog 19 [.agg (cf p),.agg (cL w),rS nm,rS va,.agg (bW v)] (.aQ [.agg (cL (forkW p F w nm va v).1),rI (forkW p F w nm va v).2]):=by
 have hk:w.cur.toNat<w.l.length:=by have:=h.c0;have:=h.c1;omega
 have h1:=KU (p:=p) h nm nm ⟨w.time,va,v⟩ _ _ (Rh hp U7 hF (h.b _ hk).ok nm (x:=⟨w.time,va,v⟩) hv h.t);have h1:ab prog 27 [.agg (cL w),rS nm,.dW 40 [.pt 5 0 0 0,.pt 7 0 0 0,.pt 12 0 0 0]] [(5,.var 30 (cf p)),(7,.var 9 [.raw (.string nm)]),(12,.var 87 (.raw (.int .i64 w.time)::.raw (.string va)::bW v))] (fun r l=>r=.aQ [.agg (cL (forkW p F w nm va v).1),rI (forkW p F w nm va v).2]/\l=[(5,.var 30 (cf p)),(7,.var 9 [.raw (.string nm)]),(12,.var 87 (.raw (.int .i64 w.time)::.raw (.string va)::bW v))]):=h1;generalize forkW p F w nm va v=Y at*;obtain⟨yw,ye⟩:=Y;simp only at h1 ⊢;refine bF func19 ntmps19 ?_
 (repeat' (first|refine aq fun K hK=>?_|refine ak ?_|(refine hK _ _ ?_;clear hK K)|(refine ao ?_ ?_<;>intro hc<;>try exact jz)|refine aV 5 ?_|refine aV 6 ?_|refine aV 7 ?_|refine aV 9 ?_|refine cC 10 ?_|refine cC 12 ?_|refine cm (h1) ?_|refine ap ?_|exact jI|(clear hK K)))
 (refine aW [.cell 10 37,.tmp 11] ?_;try simp only[go_sem])
end
def PC{p:af}(h:jh w)(nm nm2:UR)(w2:aU)(n:Int)(xb:ar)(xe:Int)(U4:ab prog 28 [.agg (bu (curB w)),.pt 4 0 0 0,.pt 6 0 0 0,.pt 5 0 0 0,.pt 7 0 0 0] [(4,.var 30 (cf p)),(5,.var 37 (cL w2)),(6,.var 9 [rS nm2]),(7,.var 3 [rI n])] (fun r l=>r=.aQ [.agg (bu xb),rI xe]/\l=[(4,.var 30 (cf p)),(5,.var 37 (cL w2)),(6,.var 9 [rS nm2]),(7,.var 3 [rI n])])) :
  ab prog 27 [.agg (cL w),rS nm,.dW 28 [.pt 4 0 0 0,.pt 6 0 0 0,.pt 5 0 0 0,.pt 7 0 0 0]] [(4,.var 30 (cf p)),(5,.var 37 (cL w2)),(6,.var 9 [rS nm2]),(7,.var 3 [rI n])] (fun r l=>r=.aQ [.agg (cL (pY w nm xb xe).1),rI (pY w nm xb xe).2]/\l=[(4,.var 30 (cf p)),(5,.var 37 (cL w2)),(6,.var 9 [rS nm2]),(7,.var 3 [rI n])]):=by
 have VU:=h.ln;have Wu:=h.c0;have Vn:=h.c1;have f1:=o0 w nm jB;have YC:=zn w.l jB 1;change ab _ _ [.agg (bu (nth w.l w.cur.toNat)),_,_,_,_] _ _ at U4
 unfold pY;generalize dp nm w.l 0=i at*;by_cases c1:0<=i
 ·rw[if_pos c1];have c1':i >= 0:=c1;refine aO func27 ntmps27 ?_;refine S ?_
  (have W:=c1';repeat' (first|refine aq fun K hK=>?_|refine ak ?_|(refine hK _ _ ?_;clear hK K)|(refine ao ?_ ?_<;>intro hc<;>try exact jz)|refine bx 20 ?_|refine al 21 ?_|refine cp (f1) ?_|refine ap ?_|exact jI|(clear hK K)))
  (refine aW [.cell 6 37,.tmp 7] ?_;try simp only[go_sem])
 rw[if_neg c1];have c1':¬i >= 0:=c1;by_cases c2:8<=w.l.length
 ·rw[if_pos c2];have c2':(w.l.length:Int) >= 8:=jB;refine aO func27 ntmps27 ?_;refine S ?_
  (have W:=jA c1' (c2');repeat' (first|refine aq fun K hK=>?_|refine ak ?_|(refine hK _ _ ?_;clear hK K)|(refine ao ?_ ?_<;>intro hc<;>try exact jz)|refine bx 20 ?_|refine al 21 ?_|refine cp (f1) ?_|refine ap ?_|exact jI|(clear hK K)))
  (refine aW [.cell 6 37,.tmp 7] ?_;try simp only[go_sem])
 rw[if_neg c2];have c2':¬(w.l.length:Int) >= 8:=jB;by_cases c3:xe=0
 rotate_left
 ·rw[if_pos c3];refine aO func27 ntmps27 ?_;refine S ?_
  (have W:=jA c1' (jA c2' (jA c3 (jA Wu (Vn))));repeat' (first|refine aq fun K hK=>?_|refine ak ?_|(refine hK _ _ ?_;clear hK K)|(refine ao ?_ ?_<;>intro hc<;>try exact jz)|refine bx 20 ?_|refine al 21 ?_|refine al 22 ?_|(refine cl U4 ?_)|refine cp (f1) ?_|refine ap ?_|exact jI|(clear hK K)))
  (refine aW [.cell 6 37,.tmp 7] ?_;try simp only[go_sem])
 ·rw[if_neg (fun h=>h c3)];subst c3;obtain⟨l,c,t⟩:=w;simp only at*;simp only[cL]at f1 U4 ⊢;refine aO func27 ntmps27 ?_;refine S ?_
  (have W:=jA c1' (jA c2' (jA Wu (Vn)));repeat' (first|refine aq fun K hK=>?_|refine ak ?_|(with_reducible refine gR 8 ?_);refine dC 8 ([],[],[39]) [] [0,1,3,4,2,5,6,7] mixed ?_|(refine hK _ _ ?_;clear hK K)|(refine ao ?_ ?_<;>intro hc<;>try exact jz)|refine bx 20 ?_|refine al 21 ?_|refine al 22 ?_|(refine cl U4 ?_)|refine cN YC ?_|refine cp (f1) ?_|refine ap ?_|exact jI|(clear hK K)))
  refine fH [.cell 6 37,.tmp 7] ?_;exact bt.aQ (ds:=[.agg [aM bu 4 (l++[xb]),rI l.length,rI t],rI 0]) ⟨bt.agg (ds:=[aM bu 4 (l++[xb]),rI l.length,rI t]) ⟨cY.row (l++[xb]) rfl (by rw[List.map_append];rfl) (by rw[List.length_append];rfl),(by rw[show(((l.length+1:Nat):Int)-1)=(l.length:Int) from jB];exact .same _ rfl),.same _ rfl,trivial⟩,.same _ rfl,trivial⟩
noncomputable def inputW(p:af)(F:UP->MV->MV)(w:aU)(nm:UR)(n:Int):aU×Int:=
 pY w nm (inputB p F (fl nm) (curB w) nm w.time n).1 (inputB p F (fl nm) (curB w) nm w.time n).2
section
variable {p:af}(hp:mf p)(U7:fg p){F:UP->MV->MV}(hF:bH p (bA p) F)
include hp U7 hF
theorem Tj{b:ar}(h:ij b)(nm:UR)(w:aU)(n:Int)(ht:bE w.time):ab prog 28 [.agg (bu b),.pt 4 0 0 0,.pt 6 0 0 0,.pt 5 0 0 0,.pt 7 0 0 0] [(4,.var 30 (cf p)),(5,.var 37 (cL w)),(6,.var 9 [rS nm]),(7,.var 3 [rI n])] (fun r l=>r=.aQ [.agg (bu (inputB p F (fl nm) b nm w.time n).1),rI (inputB p F (fl nm) b nm w.time n).2]/\l=[(4,.var 30 (cf p)),(5,.var 37 (cL w)),(6,.var 9 [rS nm]),(7,.var 3 [rI n])]):=by
 have hf:=O5 hp U7 hF h nm w.time n ht;generalize inputB p F (fl nm) b nm w.time n=X at*;obtain⟨xb,xe⟩:=X;simp only at hf ⊢;refine aO func28 ntmps28 ?_;refine S ?_
 (repeat' (first|refine aq fun K hK=>?_|refine ak ?_|(refine hK _ _ ?_;clear hK K)|(refine ao ?_ ?_<;>intro hc<;>try exact jz)|refine bx 20 ?_|refine al 21 ?_|refine cp (hf) ?_|refine ap ?_|exact jI|(clear hK K)))
 (refine aW [.cell 6 49,.tmp 7] ?_;try simp only[go_sem])
theorem QD{w:aU}(h:jh w)(nm:UR)(n:Int):aB prog 12 [.agg (cf p),.agg (cL w),rS nm,rI n] (.aQ [.agg (cL (inputW p F w nm n).1),rI (inputW p F w nm n).2]):=by
 have hk:w.cur.toNat<w.l.length:=by have:=h.c0;have:=h.c1;omega
 have h1:ab prog 27 [.agg (cL w),rS nm,.dW 28 [.pt 4 0 0 0,.pt 6 0 0 0,.pt 5 0 0 0,.pt 7 0 0 0]] [(4,.var 30 (cf p)),(5,.var 37 (cL w)),(6,.var 9 [rS nm]),(7,.var 3 [rI n])] (fun r l=>r=.aQ [.agg (cL (inputW p F w nm n).1),rI (inputW p F w nm n).2]/\l=[(4,.var 30 (cf p)),(5,.var 37 (cL w)),(6,.var 9 [rS nm]),(7,.var 3 [rI n])]):=PC (p:=p) h nm nm w n _ _ (Tj hp U7 hF (h.b _ hk).ok nm w n h.t);generalize inputW p F w nm n=Y at*;obtain⟨yw,ye⟩:=Y;simp only at h1 ⊢;refine bF func12 ntmps12 ?_
 (repeat' (first|refine aq fun K hK=>?_|refine ak ?_|(refine hK _ _ ?_;clear hK K)|(refine ao ?_ ?_<;>intro hc<;>try exact jz)|refine aV 4 ?_|refine aV 5 ?_|refine aV 6 ?_|refine aV 7 ?_|refine cC 8 ?_|refine cm (h1) ?_|refine ap ?_|exact jI|(clear hK K)))
 (refine aW [.cell 8 37,.tmp 9] ?_;try simp only[go_sem])
end
end Go.Proofs.YtijdhbokcdpklaaGreatDoor
/- Lemmas. No conditions. -/
import Derived.Test.YtijdhbokcdpklaaGreatDoorBqL
set_option linter.all false
set_option maxHeartbeats 4000000
set_option maxRecDepth 10000
namespace Go.Gd
open Go
def dw(nm:UI):List ak->Int->Int
 |[],_=>-1
 |b::l,k=>if b.name=nm then k else dw nm l (k+1)
theorem rC(nm:UI):∀(l:List ak) (k:Int),(dw nm l k=-1/\∀j,j<l.length->(nth l j).name≠nm)\/∃j:Nat,j<l.length/\dw nm l k=k+j/\(nth l j).name=nm/\∀i,i<j->(nth l i).name≠nm
 |[],k=>.inl ⟨rfl,fun j h=>by simp at h⟩
 |b::l,k=>by
  show((if b.name=nm then k else dw nm l (k+1))=-1/\_)\/∃j:Nat,_/\(if b.name=nm then k else dw nm l (k+1))=k+j/\_;by_cases c:b.name=nm
  ·rw[if_pos c];exact .inr ⟨0,jE,jB,c,fun i h=>jB⟩
  ·rw[if_neg c];rcases rC nm l (k+1)with⟨e,h⟩|⟨j,h1,h2,h3,h4⟩
   ·refine .inl ⟨e,fun j hj=>?_⟩;cases j with
    |zero=>exact c
    |succ j=>exact h j (by simpa using hj)
   ·refine .inr ⟨j+1,by simpa using h1,by rw[h2];push_cast;omega,h3,fun i hi=>?_⟩;cases i with
    |zero=>exact c
    |succ i=>exact h4 i jB
variable{nm:UI}
def J8{l:List ak}{k:Nat}(hk:k<l.length)(h:(nth l k).name=nm)(Ur:∀j,j<k->(nth l j).name≠nm):dw nm l 0=(k:Int):=by
 rcases rC nm l 0 with⟨_,h'⟩|⟨j,h1,h2,h3,h4⟩
 ·exact(h' k hk h).elim
 ·rw[h2];rcases Nat.lt_trichotomy j k with c|c|c
  ·exact(Ur j c h3).elim
  ·omega
  ·exact(h4 k c h).elim
def TX{l:List ak}(Ur:∀j,j<l.length->(nth l j).name≠nm):dw nm l 0=-1:=by
 rcases rC nm l 0 with⟨e,_⟩|⟨j,h1,_,h3,_⟩
 ·exact e
 ·exact(Ur j h1 h3).elim
def Sub.Ph{x:Bool}{sz:Nat}{cs ds d d':UE}(h:ny cs ds):Sub (.sl x sz [cs] d) (.sl false sz [ds] d'):=fun w v hv=>by
 obtain⟨I',hg⟩:=h.get;cases hv with
 |sl _ _ _ a c vs hn hc hx Uu hb hH D' hr=>
  refine .sl false sz [ds] a c vs jE hc jE (fun l hl=>by rw[List.mem_singleton.1 hl,<-I'];exact Uu cs jE) hb hH D' fun i j u hi hu=>?_
  have WU:i=0:=by simpa using hi
  subst WU;have hu:ds[j]?=some u:=hu;have hj:j<cs.length:=by rw[I'];exact(List.getElem?_eq_some_iff.1 hu).1
  exact hg j cs[j] u (List.getElem?_eq_getElem hj) hu _ _ (hr 0 j cs[j] jE (List.getElem?_eq_getElem hj))
def aC.sub{P:UP}{f:FuncId}{args:UE}{r r':AV}(h:aC P f args r)(hs:Sub r r'):aC P f args r':=fun w vs h1 h2=> (h w vs h1 h2).mono fun _ _ ⟨v,r0,H',w',e0,e,⟨e1,e2⟩,g1,g2,g3⟩=>⟨v,r',H',w',e0,e,⟨rfl,e2⟩,g1,hs _ _ (e1 ▸ g2),g3⟩
def Bp:UM:=[.string ⟨#[]⟩,.slice none 0 0,.slice none 0 0,.slice none 0 0]
abbrev zB:UE:=List.map AV.raw Bp
def cY.lw{D:UO}{H:Hp}{dd:UE}{i sz m n:Nat}{e:UJ}{α:Type}{enc:α->UE}[he:bH enc sz](l:List α)(more:UC)(hD:D i=true)(hi:H.get i=some (.aG e sz (l.map enc++more)))(hm:m=l.length+more.length)(hn:n=l.length):cY D H (.rs i m sz n) (.sl false sz (l.map enc) dd):=
 .yn dd i sz m n e _ _ hD hi jF jB jF (fun ds Xt=>by obtain⟨x,_,rfl⟩:=List.mem_map.1 Xt;exact he.len x) (nG l) fun k j c d hk h1 h2=>by
  have UY:k<l.length:=jB;have e1:(l.map enc++more).getD k []=enc l[k]:=by rw[List.getD_eq_getElem?_getD,List.getElem?_append_left (by simpa using UY)];simp[UY]
  have e2:(l.map enc).getD k []=enc l[k]:=by simp[UY]
  rw[e1]at h1;rw[e2,h1]at h2;cases h2;exact .same c (qe (fun _ h=>by cases h) _ (lK (he.free _) h1))
end Go.Gd
namespace Go.Proofs.YtijdhbokcdpklaaGreatDoor
open Go Go.Gd Tryz Go.Gd.MV
@[go_sem] def qcH(w c:aU):cU w++List.drop 3 (cU c)=cU w:=(rfl)
def Ua(nm:UI)(b:ak):ab prog 26 [.agg (bu b),.pt 3 0 0 0] [(3,.var 9 [rS nm])] (fun r l=>r=rB (decide (b.name=nm))/\l=[(3,.var 9 [rS nm])]):=by
 refine aM func26 ntmps26 ?_;refine S ?_
 (repeat' (first|refine av fun K hK=>?_|refine au ?_|(refine hK _ _ ?_;clear hK K)|(refine ar ?_ ?_<;>intro hc<;>try exact jz)|refine bx 9 ?_|(refine bY ?_ ?_<;>intro hc<;>try exact jz)|refine aq ?_|exact jI|(clear hK K)))
 (refine ba [.tmp 3] ?_;try simp only[go_sem])
def TO(nm:UI)(L:List ak)(hL:L.length<=1000):ab prog 25 [aP bu 4 L,.dW 26 [.pt 3 0 0 0]] [(3,.var 9 [rS nm])] (fun r l=>r=rI (dw nm L 0)/\l=[(3,.var 9 [rS nm])]):=by
 suffices key:∀z,dw nm L 0=z->ab prog 25 [aP bu 4 L,.dW 26 [.pt 3 0 0 0]] [(3,.var 9 [rS nm])] (fun r l=>r=rI z/\l=[(3,.var 9 [rS nm])]) from key _ rfl
 intro z hz;refine aM func25 ntmps25 ?_;refine S ?_
 (repeat' (first|refine av fun K hK=>?_|refine au ?_|(refine hK _ _ ?_;clear hK K)|(refine ar ?_ ?_<;>intro hc<;>try exact jz)|(refine bY ?_ ?_<;>intro hc<;>try exact jz)|refine aq ?_|exact jI|(clear hK K)))
 have Ux:=hK;clear hK;refine eN (S:=Nat) [(4,2),(8,11)] (fun k=>k<=L.length/\∀j,j<k->(nth L j).name≠nm) (fun k=>[(8,rI k)]) (fun _=>⟨[3],[(3,.var 9 [rS nm])]⟩) (fun k=>L.length-k) 0 ⟨Nat.zero_le _,fun j h=>jB⟩ (eR rfl cH) ?_;rintro k ⟨hk,Ur⟩ Kr Ut;by_cases O':k<L.length
 ·have Uw:=Ua nm (nth L k);by_cases c:(nth L k).name=nm
  ·rw[decide_eq_true c]at Uw;have:=J8 O' c Ur;rw[hz]at this;subst this;refine S ?_
   (have W:=O';repeat' (first|refine av fun K hK=>?_|refine au ?_|(refine hK _ _ ?_;clear hK K)|(refine ar ?_ ?_<;>intro hc<;>try exact jz)|(refine cl Uw ?_)|refine Ux _ _ ?_|(refine bY ?_ ?_<;>intro hc<;>try exact jz)|refine aq ?_|exact jI|(clear hK K)))
   (refine ba [.tmp 4] ?_;try simp only[go_sem])
  ·rw[decide_eq_false c]at Uw;refine S ?_
   (have W:=O';repeat' (first|refine av fun K hK=>?_|refine au ?_|(refine hK _ _ ?_;clear hK K)|(refine ar ?_ ?_<;>intro hc<;>try exact jz)|(refine cl Uw ?_)|refine Ux _ _ ?_|(refine bY ?_ ?_<;>intro hc<;>try exact jz)|refine aq ?_|exact jI|(clear hK K)))
   exact Ut _ _ (eQ (k+1) ⟨jB,fun j hj=>by
    by_cases e:j<k
    ·exact Ur j e
    ·rw[show j=k from jB];exact c⟩ (by show L.length-(k+1)<L.length-k;omega) rfl cH)
 ·have:=TX (nm:=nm) (l:=L) fun j hj=>Ur j jB
  rw[hz]at this;subst this;refine S ?_
  (have W:=O';repeat' (first|refine av fun K hK=>?_|refine au ?_|(refine hK _ _ ?_;clear hK K)|(refine ar ?_ ?_<;>intro hc<;>try exact jz)|refine Ux _ _ ?_|(refine bY ?_ ?_<;>intro hc<;>try exact jz)|refine aq ?_|exact jI|(clear hK K)))
  (refine ba [.tmp 4] ?_;try simp only[go_sem])
def rK(w:aU)(nm:UI)(hL:w.l.length<=1000):aC prog 11 [.agg (cU w),rS nm] (rI (dw nm w.l 0)):=by
 have h:=TO nm w.l hL;generalize dw nm w.l 0=z at*;refine bQ func11 ntmps11 ?_
 (repeat' (first|refine av fun K hK=>?_|refine au ?_|(refine hK _ _ ?_;clear hK K)|(refine ar ?_ ?_<;>intro hc<;>try exact jz)|refine aV 2 ?_|refine aV 3 ?_|refine cm (h) ?_|(refine bY ?_ ?_<;>intro hc<;>try exact jz)|refine aq ?_|exact jI|(clear hK K)))
 (refine ba [.tmp 4] ?_;try simp only[go_sem])
def sA:aU:=⟨[⟨(⟨#[109,97,105,110]⟩:UI),[],[],[]⟩],0,0⟩
def Iu:aC prog 8 [] (.agg (cU sA)):=by
 refine aC.sub (r:=.agg [.sl true 4 [[.raw (.string (⟨#[109,97,105,110]⟩:UI)),.raw (.slice none 0 0),.raw (.slice none 0 0),.raw (.slice none 0 0)]] [],rI 0,rI 0]) ?_ (HH (ds:=cU sA) ⟨Sub.Ph ⟨.refl _,.nil _ _,.nil _ _,.nil _ _,trivial⟩,.refl _,.refl _,trivial⟩);refine bQ func8 ntmps8 ?_
 (repeat' (first|refine av fun K hK=>?_|refine au ?_|(refine hK _ _ ?_;clear hK K)|(refine ar ?_ ?_<;>intro hc<;>try exact jz)|refine cL 0 ?_|(refine bY ?_ ?_<;>intro hc<;>try exact jz)|refine aq ?_|exact jI|(clear hK K)))
 (refine ba [.cell 0 37] ?_;try simp only[go_sem])
structure BW(b:ak):Prop where
 ok:ie b
 i16:b.aD.length<=16
 s8:b.base.length+b.own.length<=8
def BW.um{b:ak}(h:BW b):(dB b).length<=8:=by have:=h.s8;unfold dB;rw[zA];omega
structure iW(w:aU):Prop where
 ln:w.l.length<=100
 c0:0<=w.cur
 c1:w.cur<w.l.length
 b:∀k,k<w.l.length->BW (nth w.l k)
 t:bD w.time
section
variable (p:af)(F:UG->MV->MV)
noncomputable def comesB(b:ak)(t:Int):Int:=(atB p F b t).time
noncomputable def curB(w:aU):ak:=nth w.l w.cur.toNat
noncomputable def VF(w:aU):aU:={ w with time:=comesB p F (curB w) w.time }
noncomputable def goW(w:aU)(t:Int):aU×Int:=if t<0\/200<t\/comesB p F (curB w) t<t then(w,63)else({ w with time:=t },0)
noncomputable def switchW(w:aU)(nm:UI):aU×Int:=if dw nm w.l 0<0 then(w,60)else(VF p F { w with cur:=dw nm w.l 0 },0)
end
section
variable {p:af}(hp:mJ p)(Uw:fw p){F:UG->MV->MV}(hF:bF p (bz p) F)
include hp Uw hF
theorem Fk{b:ak}(h:ie b)(t:Int)(ht:bD t):aC prog 39 [.agg (cn p),.agg (bu b),rI t] (rI (comesB p F b t)):=by
 have Yd:=we h;obtain⟨k,EE,YP,Wq,_,_⟩:=Bl hp hF (by have:=h.inl;omega) h.inr (mh h.fx) Uw (by have:=h.oM;omega) t ht;have key:ab prog 39 [.agg (cn p),.agg (bu b),rI t] [] fun r l=>r=rI (comesB p F b t)/\l=EE:=by
  unfold comesB atB;generalize shotM p F b.aD (dB b) t=Sh at*;generalize badM p F b.aD (dB b) t=z at*;generalize dB b=A at*;have Ul:=YP.e2.low;refine aM func39 ntmps39 ?_
  (have W:=Ul;repeat' (first|refine av fun K hK=>?_|refine au ?_|(with_reducible refine gR 1 ?_);refine dC 1 ([],[14],[16]) [] (bf 0 12) mixed ?_|(refine hK _ _ ?_;clear hK K)|(refine ar ?_ ?_<;>intro hc<;>try exact jz)|refine aV 3 ?_|refine aV 4 ?_|refine cp (Yd) ?_|refine cq (Yd) ?_|(refine nN (e:=[]) YP (fun j _ h=>(h rfl).elim) ?_)|refine cT Wq ?_|(refine bY ?_ ?_<;>intro hc<;>try exact jz)|refine aq ?_|exact jI|(clear hK K)))
  exact eD (e:=[]) (B:=[]) rfl Co YP.e2 (tl:=[(3,.var 30 (cn p)),(4,.var 49 (bu b))]) (fun _=>rfl) (dp jC (dp jC dK)) [.tmp 6]
 exact aC.xU key (.same _ rfl)
theorem Am{w:aU}(h:iW w):aC prog 31 [.agg (cn p),.agg (cU w)] (.agg (cU (VF p F w))):=by
 have V7:=h.c0;have U1:=h.c1;have hk:w.cur.toNat<w.l.length:=jB;have hb:=(h.b _ hk).ok;have XV:=Fk hp Uw hF hb w.time h.t;change aC _ _ _ (rI (comesB p F (curB w) w.time))at XV
 unfold VF;generalize comesB p F (curB w) w.time=z at*;refine bQ func31 ntmps31 ?_
 (have W:=jA V7 U1;repeat' (first|refine av fun K hK=>?_|refine au ?_|(with_reducible refine gR 1 ?_);refine dC 1 ([],[14],[]) [] (bf 0 12) mixed ?_|(refine hK _ _ ?_;clear hK K)|(refine ar ?_ ?_<;>intro hc<;>try exact jz)|refine aV 2 ?_|refine aV 3 ?_|refine cL 4 ?_|refine cq (XV) ?_|refine cp (XV) ?_|(refine bY ?_ ?_<;>intro hc<;>try exact jz)|refine aq ?_|exact jI|(clear hK K)))
 (refine ba [.cell 4 37] ?_;try simp only[go_sem])
theorem HJ{w:aU}(h:iW w)(t:Int)(ht:bD t):aC prog 18 [.agg (cn p),.agg (cU w),rI t] (.aQ [.agg (cU (goW p F w t).1),rI (goW p F w t).2]):=by
 have V7:=h.c0;have U1:=h.c1;have hk:w.cur.toNat<w.l.length:=jB;have XV:=Fk hp Uw hF (h.b _ hk).ok t ht;change aC _ _ _ (rI (comesB p F (curB w) t))at XV
 unfold goW;generalize comesB p F (curB w) t=z at*;by_cases c1:t<0
 ·rw[if_pos (.inl c1)];refine bQ func18 ntmps18 ?_
  (have W:=jA c1 (jA V7 (U1));repeat' (first|refine av fun K hK=>?_|refine au ?_|(with_reducible refine gR 1 ?_);refine dC 1 ([],[23],[]) [] (bf 0 19) mixed ?_|(refine hK _ _ ?_;clear hK K)|(refine ar ?_ ?_<;>intro hc<;>try exact jz)|refine aV 3 ?_|refine aV 4 ?_|refine cL 6 ?_|refine⟨rI 0,?_⟩|(refine bY ?_ ?_<;>intro hc<;>try exact jz)|refine aq ?_|exact jI|(clear hK K)))
  (refine ba [.cell 6 37,.tmp 7] ?_;try simp only[go_sem])
 by_cases c2:200<t
 ·rw[if_pos (.inr (.inl c2))];refine bQ func18 ntmps18 ?_
  (have W:=jA c1 (jA c2 (jA V7 (U1)));repeat' (first|refine av fun K hK=>?_|refine au ?_|(with_reducible refine gR 1 ?_);refine dC 1 ([],[23],[]) [] (bf 0 19) mixed ?_|(refine hK _ _ ?_;clear hK K)|(refine ar ?_ ?_<;>intro hc<;>try exact jz)|refine aV 3 ?_|refine aV 4 ?_|refine cL 6 ?_|refine⟨rI 0,?_⟩|(refine bY ?_ ?_<;>intro hc<;>try exact jz)|refine aq ?_|exact jI|(clear hK K)))
  (refine ba [.cell 6 37,.tmp 7] ?_;try simp only[go_sem])
 by_cases c3:z<t
 ·rw[if_pos (.inr (.inr c3))];refine bQ func18 ntmps18 ?_
  (have W:=jA c1 (jA c2 (jA c3 (jA V7 (U1))));repeat' (first|refine av fun K hK=>?_|refine au ?_|(with_reducible refine gR 1 ?_);refine dC 1 ([],[23],[]) [] (bf 0 19) mixed ?_|(refine hK _ _ ?_;clear hK K)|(refine ar ?_ ?_<;>intro hc<;>try exact jz)|refine aV 3 ?_|refine aV 4 ?_|refine cL 6 ?_|(first|refine cg (XV) ?_|refine qb (XV) ?_)|refine cq (XV) ?_|(refine bY ?_ ?_<;>intro hc<;>try exact jz)|refine aq ?_|exact jI|(clear hK K)))
  (refine ba [.cell 6 37,.tmp 7] ?_;try simp only[go_sem])
 ·rw[if_neg (by rintro(h|h|h);exact c1 h;exact c2 h;exact c3 h)];refine bQ func18 ntmps18 ?_
  (have W:=jA c1 (jA c2 (jA c3 (jA V7 (U1))));repeat' (first|refine av fun K hK=>?_|refine au ?_|(with_reducible refine gR 1 ?_);refine dC 1 ([],[23],[]) [] (bf 0 19) mixed ?_|(refine hK _ _ ?_;clear hK K)|(refine ar ?_ ?_<;>intro hc<;>try exact jz)|refine aV 3 ?_|refine aV 4 ?_|refine cL 6 ?_|(first|refine cg (XV) ?_|refine qb (XV) ?_)|refine cq (XV) ?_|(refine bY ?_ ?_<;>intro hc<;>try exact jz)|refine aq ?_|exact jI|(clear hK K)))
  (refine ba [.cell 6 37,.tmp 7] ?_;try simp only[go_sem])
theorem Jd{w:aU}(h:iW w)(nm:UI):aC prog 14 [.agg (cn p),.agg (cU w),rS nm] (.aQ [.agg (cU (switchW p F w nm).1),rI (switchW p F w nm).2]):=by
 have VB:=h.ln;have hf:=rK w nm jB;have hh:¬dw nm w.l 0<0->aC prog 31 [.agg (cn p),.agg (cU { w with cur:=dw nm w.l 0 })] (.agg (cU (VF p F { w with cur:=dw nm w.l 0 }))):=fun c=>by
  rcases rC nm w.l 0 with⟨e,_⟩|⟨j,h1,h2,_,_⟩
  ·rw[e]at c;omega
  ·exact Am hp Uw hF ⟨h.ln,by show 0<=dw nm w.l 0;omega,by show dw nm w.l 0<w.l.length;omega,h.b,h.t⟩
 unfold switchW;generalize dw nm w.l 0=k at*;by_cases c:k<0
 ·rw[if_pos c];refine bQ func14 ntmps14 ?_
  (have W:=c;repeat' (first|refine av fun K hK=>?_|refine au ?_|(refine hK _ _ ?_;clear hK K)|(refine ar ?_ ?_<;>intro hc<;>try exact jz)|refine aV 3 ?_|refine aV 4 ?_|refine cL 6 ?_|refine cp (hf) ?_|(refine bY ?_ ?_<;>intro hc<;>try exact jz)|refine aq ?_|exact jI|(clear hK K)))
  (refine ba [.cell 6 37,.tmp 7] ?_;try simp only[go_sem])
 ·rw[if_neg c];have hh:=hh c;generalize VF p F { w with cur:=k }=W2 at*;refine bQ func14 ntmps14 ?_
  (have W:=c;repeat' (first|refine av fun K hK=>?_|refine au ?_|(refine hK _ _ ?_;clear hK K)|(refine ar ?_ ?_<;>intro hc<;>try exact jz)|refine aV 3 ?_|refine aV 4 ?_|refine cL 6 ?_|refine cp (hf) ?_|refine cp (hh) ?_|(refine bY ?_ ?_<;>intro hc<;>try exact jz)|refine aq ?_|exact jI|(clear hK K)))
  (refine ba [.cell 6 37,.tmp 7] ?_;try simp only[go_sem])
end
def ze(l:List ak)(hl:l.length<=1000)(i:Nat):ab prog 33 [aP bu 4 l] [] (fun r l'=>r=.rs i l.length 4 l.length/\l'=[(i,.aG 49 4 (l.map bu))]):=by
 refine aM func33 ntmps33 ?_
 (repeat' (first|refine av fun K hK=>?_|refine au ?_|(refine hK _ _ ?_;clear hK K)|(refine ar ?_ ?_<;>intro hc<;>try exact jz)|(with_reducible refine fun(b:Bool) hb=>?_)|refine wb i ?_|(refine bY ?_ ?_<;>intro hc<;>try exact jz)|refine aq ?_|exact jI|(clear hK K)))
 ·have Vv:l=[]:=by simpa using hb hc
  subst Vv;exact xQ i 49 4 jC [.tmp 2] rfl rfl trivial
 ·(refine bW [.tmp 2] ?_ ?_<;>(try simp only[go_sem]))
def C3(w:aU)(b:ak)(k:Int)(hl:w.l.length<=100)(h0:0<=k)(h1:k<w.l.length):aC prog 35 [.agg (cU w),rI k,.agg (bu b)] (.agg (cU { w with l:=w.l.set k.toNat b })):=by
 have Uo:=ze w.l jB 1;obtain⟨l,c,t⟩:=w;obtain⟨n,rfl⟩:=Int.eq_ofNat_of_zero_le h0;simp only[cU]at*;have hn:n<l.length:=by simpa using h1
 refine bQ func35 ntmps35 ?_
 (have W:=hn;repeat' (first|refine av fun K hK=>?_|refine au ?_|(refine hK _ _ ?_;clear hK K)|(refine ar ?_ ?_<;>intro hc<;>try exact jz)|refine aV 3 ?_|refine aV 5 ?_|refine cL 6 ?_|refine cm (Uo) ?_|(refine bY ?_ ?_<;>intro hc<;>try exact jz)|refine aq ?_|exact jI|(clear hK K)))
 refine fF [.cell 6 37] ?_;exact bt.agg (ds:=[aP bu 4 (l.set n b),rI c,rI t]) ⟨cY.row (l.set n b) rfl rfl (by rw[List.length_set]),.same _ rfl,.same _ rfl,trivial⟩
variable{l:List ak}{k:Nat}
def uK{n:Nat}{b:ak}(hk:k<l.length):nth (l.set n b) k=if n=k then b else nth l k:=by
 unfold nth;rw[List.getD_eq_getElem?_getD,List.getD_eq_getElem?_getD,List.getElem?_set];by_cases c:n=k
 ·subst c;rw[if_pos rfl,if_pos rfl,if_pos hk];rfl
 ·rw[if_neg c,if_neg c]
theorem iW.set{w:aU}(h:iW w)(n:Nat){b:ak}(hb:BW b):iW { w with l:=w.l.set n b }:=
 ⟨by show(w.l.set n b).length<=100;rw[List.length_set];exact h.ln,h.c0,by show w.cur<(w.l.set n b).length;rw[List.length_set];exact h.c1,fun k hk=>by
  have hk:k<w.l.length:=by simpa using hk
  show BW (nth (w.l.set n b) k);rw[uK hk];split
  ·exact hb
  ·exact h.b k hk,h.t⟩
def rm(w:aU)(b:ak)(e:Int):aU×Int:=if e≠0 then(w,e)else({ w with l:=w.l.set w.cur.toNat b },0)
section
variable (p:af)(F:UG->MV->MV)
noncomputable def addW(w:aU)(nm:UI)(v:aj):aU×Int:=rm w (addB p F (curB w) ⟨w.time,nm,v⟩).1 (addB p F (curB w) ⟨w.time,nm,v⟩).2
noncomputable def rebaseW(w:aU)(i k:Int):aU×Int×Int:=
 if i<0\/k<0 then(w,0,60)else if i=k then(w,0,1)else if i=0 then(w,0,64)
 else if(rebaseB p F (nth w.l i.toNat) (nth w.l k.toNat)).2.2≠0 then(w,(rebaseB p F (nth w.l i.toNat) (nth w.l k.toNat)).2)
 else(if w.cur=i then VF p F { w with l:=w.l.set i.toNat (rebaseB p F (nth w.l i.toNat) (nth w.l k.toNat)).1 }else{ w with l:=w.l.set i.toNat (rebaseB p F (nth w.l i.toNat) (nth w.l k.toNat)).1 },0,0)
end
noncomputable def appendW(w:aU)(n:Int):aU×Int:=rm w (ot (curB w) n).1 (ot (curB w) n).2
def sM(ok:Bool)(w:aU)(old nm:UI):aU×Int:=
 if dw old w.l 0<0 then(w,60)else if ok=false then(w,1)else if 0<=dw nm w.l 0 then(w,61)
 else({ w with l:=w.l.set (dw old w.l 0).toNat { nth w.l (dw old w.l 0).toNat with name:=nm } },0)
variable{w:aU}
def Fe(h:iW w)(b:ak)(e:Int):aC prog 48 [.agg (cU w),.agg (bu b),rI e] (.aQ [.agg (cU (rm w b e).1),rI (rm w b e).2]):=by
 have hi:=C3 w b w.cur h.ln h.c0 h.c1;unfold rm;by_cases c:e=0
 ·rw[if_neg (fun h=>h c)];generalize ({ w with l:=w.l.set w.cur.toNat b }:aU)=W2 at*;refine bQ func48 ntmps48 ?_
  (have W:=c;repeat' (first|refine av fun K hK=>?_|refine au ?_|(refine hK _ _ ?_;clear hK K)|(refine ar ?_ ?_<;>intro hc<;>try exact jz)|refine aV 3 ?_|refine aV 4 ?_|refine cL 6 ?_|refine cp (hi) ?_|(refine bY ?_ ?_<;>intro hc<;>try exact jz)|refine aq ?_|exact jI|(clear hK K)))
  (refine ba [.cell 6 37,.tmp 7] ?_;try simp only[go_sem])
 ·rw[if_pos c];refine bQ func48 ntmps48 ?_
  (have W:=c;repeat' (first|refine av fun K hK=>?_|refine au ?_|(refine hK _ _ ?_;clear hK K)|(refine ar ?_ ?_<;>intro hc<;>try exact jz)|refine aV 3 ?_|refine aV 4 ?_|refine cL 6 ?_|(refine bY ?_ ?_<;>intro hc<;>try exact jz)|refine aq ?_|exact jI|(clear hK K)))
  (refine ba [.cell 6 37,.tmp 7] ?_;try simp only[go_sem])
def Sk(h:iW w)(n:Int):aC prog 23 [.agg (cU w),rI n] (.aQ [.agg (cU (appendW w n).1),rI (appendW w n).2]):=by
 have V7:=h.c0;have U1:=h.c1;have hk:w.cur.toNat<w.l.length:=jB;have h1:=Q3 (h.b _ hk).ok n;change aC _ _ _ (.aQ [.agg (bu (ot (curB w) n).1),rI (ot (curB w) n).2])at h1
 have h2:=fun b e=>Fe h b e
 unfold appendW;generalize ot (curB w) n=X at*;obtain⟨xb,xe⟩:=X;have h2:=h2 xb xe;simp only at h1 ⊢;generalize rm w xb xe=Y at*;refine bQ func23 ntmps23 ?_
 (have W:=jA V7 U1;repeat' (first|refine av fun K hK=>?_|refine au ?_|(refine hK _ _ ?_;clear hK K)|(refine ar ?_ ?_<;>intro hc<;>try exact jz)|refine aV 2 ?_|refine cL 4 ?_|refine cL 6 ?_|refine cp (h1) ?_|refine cp (h2) ?_|(refine bY ?_ ?_<;>intro hc<;>try exact jz)|refine aq ?_|exact jI|(clear hK K)))
 (refine ba [.cell 4 37,.tmp 5] ?_;try simp only[go_sem])
def ME(h:iW w)(old nm:UI):aC prog 16 [.agg (cU w),rS old,rS nm] (.aQ [.agg (cU (sM (fW nm) w old nm).1),rI (sM (fW nm) w old nm).2]):=by
 have VB:=h.ln;have f1:=rK w old jB;have f2:=rK w nm jB;have f3:=AA nm;have hi:=fun b=>C3 w b (dw old w.l 0) h.ln
 have hb:dw old w.l 0<w.l.length:=by
  rcases rC old w.l 0 with⟨e,_⟩|⟨j,h1,h2,_,_⟩
  ·rw[e];omega
  ·rw[h2];omega
 unfold sM;generalize dw old w.l 0=k at*;generalize dw nm w.l 0=m at*;generalize fW nm=ok at*;by_cases c1:k<0
 ·rw[if_pos c1];refine bQ func16 ntmps16 ?_
  (have W:=c1;repeat' (first|refine av fun K hK=>?_|refine au ?_|(refine hK _ _ ?_;clear hK K)|(refine ar ?_ ?_<;>intro hc<;>try exact jz)|refine aV 3 ?_|refine cL 6 ?_|refine cp (f1) ?_|(refine bY ?_ ?_<;>intro hc<;>try exact jz)|refine aq ?_|exact jI|(clear hK K)))
  (refine ba [.cell 6 37,.tmp 7] ?_;try simp only[go_sem])
 rw[if_neg c1];by_cases c2:ok=false
 ·subst c2;rw[if_pos rfl];refine bQ func16 ntmps16 ?_
  (have W:=c1;repeat' (first|refine av fun K hK=>?_|refine au ?_|(refine hK _ _ ?_;clear hK K)|(refine ar ?_ ?_<;>intro hc<;>try exact jz)|refine aV 3 ?_|refine cL 6 ?_|refine cp (f1) ?_|refine cp (f3) ?_|(refine bY ?_ ?_<;>intro hc<;>try exact jz)|refine aq ?_|exact jI|(clear hK K)))
  (refine ba [.cell 6 37,.tmp 7] ?_;try simp only[go_sem])
 have c2:ok=true:=by cases ok<;>simp_all
 subst c2;rw[if_neg jC];by_cases c3:0<=m
 ·rw[if_pos c3];have c3':m >= 0:=c3;refine bQ func16 ntmps16 ?_
  (have W:=jA c1 (c3');repeat' (first|refine av fun K hK=>?_|refine au ?_|(refine hK _ _ ?_;clear hK K)|(refine ar ?_ ?_<;>intro hc<;>try exact jz)|refine aV 3 ?_|refine cL 6 ?_|refine cp (f1) ?_|refine cp (f3) ?_|refine cp (f2) ?_|(refine bY ?_ ?_<;>intro hc<;>try exact jz)|refine aq ?_|exact jI|(clear hK K)))
  (refine ba [.cell 6 37,.tmp 7] ?_;try simp only[go_sem])
 ·rw[if_neg c3];have c3':¬m >= 0:=c3;obtain⟨n,rfl⟩:=Int.eq_ofNat_of_zero_le (show 0<=k from jB);have hn:n<w.l.length:=jB;have hi:=hi { nth w.l n with name:=nm } jB hb;simp only[Int.toNat_natCast]at hi ⊢;generalize ({ w with l:=w.l.set n { nth w.l n with name:=nm } }:aU)=W2 at*;refine bQ func16 ntmps16 ?_
  (have W:=jA c1 (jA c3' (hn));repeat' (first|refine av fun K hK=>?_|refine au ?_|(refine hK _ _ ?_;clear hK K)|(refine ar ?_ ?_<;>intro hc<;>try exact jz)|refine aV 3 ?_|refine cL 6 ?_|refine cL 9 ?_|refine cp (f1) ?_|refine cp (f3) ?_|refine cp (f2) ?_|refine cp (hi) ?_|(refine bY ?_ ?_<;>intro hc<;>try exact jz)|refine aq ?_|exact jI|(clear hK K)))
  (refine ba [.cell 6 37,.tmp 7] ?_;try simp only[go_sem])
section
variable {p:af}(hp:mJ p)(Uw:fw p){F:UG->MV->MV}(hF:bF p (bz p) F)
include hp Uw hF
theorem OM{w:aU}(h:iW w)(nm:UI){v:aj}(hv:bD v.n):aC prog 22 [.agg (cn p),.agg (cU w),rS nm,.agg (bV v)] (.aQ [.agg (cU (addW p F w nm v).1),rI (addW p F w nm v).2]):=by
 have V7:=h.c0;have U1:=h.c1;have hk:w.cur.toNat<w.l.length:=jB;have h1:=Me hp Uw hF (h.b _ hk).ok (x:=⟨w.time,nm,v⟩) hv;change aC _ _ _ (.aQ [.agg (bu (addB p F (curB w) ⟨w.time,nm,v⟩).1),rI (addB p F (curB w) ⟨w.time,nm,v⟩).2])at h1
 have h2:=fun b e=>Fe h b e
 unfold addW;generalize addB p F (curB w) ⟨w.time,nm,v⟩=X at*;obtain⟨xb,xe⟩:=X;have h2:=h2 xb xe;simp only at h1 ⊢;generalize rm w xb xe=Y at*;refine bQ func22 ntmps22 ?_
 (have W:=jA V7 U1;repeat' (first|refine av fun K hK=>?_|refine au ?_|(with_reducible refine gR 1 ?_);refine dC 1 ([],[],[25]) [16] (bf 0 19) mixed ?_|(refine hK _ _ ?_;clear hK K)|(refine ar ?_ ?_<;>intro hc<;>try exact jz)|refine aV 4 ?_|refine aV 5 ?_|refine aV 7 ?_|refine cL 8 ?_|refine cL 10 ?_|refine cN h1 ?_|refine cp (h2) ?_|(refine bY ?_ ?_<;>intro hc<;>try exact jz)|refine aq ?_|exact jI|(clear hK K)))
 (refine ba [.cell 8 37,.tmp 9] ?_;try simp only[go_sem])
theorem Lv{w:aU}(h:iW w)(a o:UI):aC prog 24 [.agg (cn p),.agg (cU w),rS a,rS o] (.aQ [.agg (cU (rebaseW p F w (dw a w.l 0) (dw o w.l 0)).1),rI (rebaseW p F w (dw a w.l 0) (dw o w.l 0)).2.1,rI (rebaseW p F w (dw a w.l 0) (dw o w.l 0)).2.2]):=by
 have VB:=h.ln;have f1:=rK w a jB;have f2:=rK w o jB;have hb:∀nm,dw nm w.l 0<w.l.length:=fun nm=>by
  rcases rC nm w.l 0 with⟨e,_⟩|⟨j,h1,h2,_,_⟩
  ·rw[e];omega
  ·rw[h2];omega
 have Wh:=hb a;have WA:=hb o;clear hb;generalize dw a w.l 0=i at*;generalize dw o w.l 0=k at*;unfold rebaseW;by_cases c1:i<0\/k<0
 ·rw[if_pos c1];have c1':(if i<k then i else k)<0:=by split<;>omega
  refine bQ func24 ntmps24 ?_
  (have W:=c1';repeat' (first|refine av fun K hK=>?_|refine au ?_|(with_reducible refine gR 1 ?_);refine dC 1 ([],[18,21],[]) [] (bf 0 8) mixed ?_|(with_reducible refine gR 8 ?_);refine dC 8 ([],[],[49]) [16] (bf 0 20) mixed ?_|(refine hK _ _ ?_;clear hK K)|(refine ar ?_ ?_<;>intro hc<;>try exact jz)|refine aV 4 ?_|refine aV 5 ?_|refine cL 8 ?_|refine cq (f1) ?_|refine cq (f2) ?_|(refine bY ?_ ?_<;>intro hc<;>try exact jz)|refine aq ?_|exact jI|(clear hK K)))
  (refine ba [.cell 8 37,.tmp 9,.tmp 10] ?_;try simp only[go_sem])
 rw[if_neg c1];obtain⟨ni,rfl⟩:=Int.eq_ofNat_of_zero_le (show 0<=i from jB);obtain⟨nk,rfl⟩:=Int.eq_ofNat_of_zero_le (show 0<=k from jB);have c1':¬(if(ni:Int)<nk then(ni:Int)else nk)<0:=by split<;>omega
 have hi:ni<w.l.length:=jB;have hk:nk<w.l.length:=jB;by_cases c2:ni=nk
 ·have c2':(ni:Int)=nk:=jB;rw[if_pos c2'];refine bQ func24 ntmps24 ?_
  (have W:=jA c1' (jA c2 (c2'));repeat' (first|refine av fun K hK=>?_|refine au ?_|(with_reducible refine gR 1 ?_);refine dC 1 ([],[18,21],[]) [] (bf 0 8) mixed ?_|(with_reducible refine gR 8 ?_);refine dC 8 ([],[],[49]) [16] (bf 0 20) mixed ?_|(refine hK _ _ ?_;clear hK K)|(refine ar ?_ ?_<;>intro hc<;>try exact jz)|refine aV 4 ?_|refine aV 5 ?_|refine cL 8 ?_|refine cL 13 ?_|refine cq (f1) ?_|refine cq (f2) ?_|(refine bY ?_ ?_<;>intro hc<;>try exact jz)|refine aq ?_|exact jI|(clear hK K)))
  (refine ba [.cell 8 37,.tmp 9,.tmp 10] ?_;try simp only[go_sem])
 have c2':¬(ni:Int)=nk:=jB;rw[if_neg c2'];by_cases c3:ni=0
 ·have c3':(ni:Int)=0:=jB;rw[if_pos c3'];refine bQ func24 ntmps24 ?_
  (have W:=jA c1' (jA c2 (jA c2' (jA c3 (c3'))));repeat' (first|refine av fun K hK=>?_|refine au ?_|(with_reducible refine gR 1 ?_);refine dC 1 ([],[18,21],[]) [] (bf 0 8) mixed ?_|(with_reducible refine gR 8 ?_);refine dC 8 ([],[],[49]) [16] (bf 0 20) mixed ?_|(refine hK _ _ ?_;clear hK K)|(refine ar ?_ ?_<;>intro hc<;>try exact jz)|refine aV 4 ?_|refine aV 5 ?_|refine cL 8 ?_|refine cL 13 ?_|refine cq (f1) ?_|refine cq (f2) ?_|(refine bY ?_ ?_<;>intro hc<;>try exact jz)|refine aq ?_|exact jI|(clear hK K)))
  (refine ba [.cell 8 37,.tmp 9,.tmp 10] ?_;try simp only[go_sem])
 have c3':¬(ni:Int)=0:=jB;rw[if_neg c3'];have h1:=SW hp Uw hF (h.b _ hi).ok (h.b _ hk).ok (by have:=(h.b _ hk).um;omega);have Vo:=fun b=>C3 w b ni VB jB jB
 have Zp:(rebaseB p F (nth w.l ni) (nth w.l nk)).2.2=0->BW (rebaseB p F (nth w.l ni) (nth w.l nk)).1:=by
  have g1:=h.b _ hi;have g2:=h.b _ hk;have g3:=g1.ok.kj g2.ok (by have:=g2.um;omega);unfold rebaseB;split
  ·intro h;cases h
  rename_i q;split
  ·intro h;cases h
  intro _;exact⟨g3,g2.i16,by show(dB (nth w.l nk)).length+(nth w.l ni).own.length<=8;omega⟩
 simp only[Int.toNat_natCast];generalize rebaseB p F (nth w.l ni) (nth w.l nk)=X at*;obtain⟨xb,xn,xe⟩:=X;simp only at h1 Zp ⊢;by_cases c4:xe=0
 rotate_left
 ·rw[if_pos c4];refine bQ func24 ntmps24 ?_
  (have W:=jA c1' (jA c2 (jA c2' (jA c3 (jA c3' (jA c4 (jA hi (hk)))))));repeat' (first|refine av fun K hK=>?_|refine au ?_|(with_reducible refine gR 1 ?_);refine dC 1 ([],[18,21],[]) [] (bf 0 8) mixed ?_|(with_reducible refine gR 8 ?_);refine dC 8 ([],[],[49]) [16] (bf 0 20) mixed ?_|(refine hK _ _ ?_;clear hK K)|(refine ar ?_ ?_<;>intro hc<;>try exact jz)|refine aV 4 ?_|refine aV 5 ?_|refine cL 8 ?_|refine cL 13 ?_|refine cq (f1) ?_|refine cq (f2) ?_|refine cN h1 ?_|(refine bY ?_ ?_<;>intro hc<;>try exact jz)|refine aq ?_|exact jI|(clear hK K)))
  (refine ba [.cell 8 37,.tmp 9,.tmp 10] ?_;try simp only[go_sem])
 rw[if_neg (fun h=>h c4)];have Vo:=Vo xb;simp only[Int.toNat_natCast]at Vo;have hw2:iW { w with l:=w.l.set ni xb }:=h.set ni (Zp c4);by_cases c5:w.cur=ni
 ·rw[if_pos c5];have hhe:=Am hp Uw hF hw2;have c5':({ w with l:=w.l.set ni xb }:aU).cur=ni:=c5;generalize ({ w with l:=w.l.set ni xb }:aU)=W2 at*;generalize VF p F W2=W3 at*;refine bQ func24 ntmps24 ?_
  (have W:=jA c1' (jA c2 (jA c2' (jA c3 (jA c3' (jA c4 (jA c5' (jA hi (hk))))))));repeat' (first|refine av fun K hK=>?_|refine au ?_|(with_reducible refine gR 1 ?_);refine dC 1 ([],[18,21],[]) [] (bf 0 8) mixed ?_|(with_reducible refine gR 8 ?_);refine dC 8 ([],[],[49]) [16] (bf 0 20) mixed ?_|(refine hK _ _ ?_;clear hK K)|(refine ar ?_ ?_<;>intro hc<;>try exact jz)|refine aV 4 ?_|refine aV 5 ?_|refine cL 8 ?_|refine cL 13 ?_|refine cq (f1) ?_|refine cq (f2) ?_|refine cN h1 ?_|refine cp (Vo) ?_|refine cp (hhe) ?_|(refine bY ?_ ?_<;>intro hc<;>try exact jz)|refine aq ?_|exact jI|(clear hK K)))
  (refine ba [.cell 8 37,.tmp 9,.tmp 10] ?_;try simp only[go_sem])
 ·rw[if_neg c5];have c5':¬({ w with l:=w.l.set ni xb }:aU).cur=ni:=c5;generalize ({ w with l:=w.l.set ni xb }:aU)=W2 at*;refine bQ func24 ntmps24 ?_
  (have W:=jA c1' (jA c2 (jA c2' (jA c3 (jA c3' (jA c4 (jA c5' (jA hi (hk))))))));repeat' (first|refine av fun K hK=>?_|refine au ?_|(with_reducible refine gR 1 ?_);refine dC 1 ([],[18,21],[]) [] (bf 0 8) mixed ?_|(with_reducible refine gR 8 ?_);refine dC 8 ([],[],[49]) [16] (bf 0 20) mixed ?_|(refine hK _ _ ?_;clear hK K)|(refine ar ?_ ?_<;>intro hc<;>try exact jz)|refine aV 4 ?_|refine aV 5 ?_|refine cL 8 ?_|refine cL 13 ?_|refine cq (f1) ?_|refine cq (f2) ?_|refine cN h1 ?_|refine cp (Vo) ?_|(refine bY ?_ ?_<;>intro hc<;>try exact jz)|refine aq ?_|exact jI|(clear hK K)))
  (refine ba [.cell 8 37,.tmp 9,.tmp 10] ?_;try simp only[go_sem])
end
def Tj{x:ak}:∀B:List ak,∃z,(x::B).drop B.length=[z]:=fun B=>by
 have h:((x::B).drop B.length).length=1:=by rw[List.length_drop];simp
 exact List.length_eq_one_iff.1 h
theorem DF(q:UO):∀l:List ak,aY q (l.map bu).flatten=true
 |[]=>rfl
 |x::l=>by rw[List.map_cons,List.flatten_cons,vQ,DF q l,Kh];rfl
def Nq(l:List ak):Go.Gd.Good 4 (l.map bu):=fun c hc=>by obtain⟨y,_,rfl⟩:=List.mem_map.1 hc;exact⟨rfl,rfl⟩
def KX(A B L:List ak)(x:ak)(hL:L=A++x::B)(h1000:L.length<=1000)(n k:Nat)(hn:n=A.length+B.length+1)(hk:k=A.length):ab prog 32 [.rs 1 n 4 n,rI k,rI (k+1)] [(1,.aG 49 4 (L.map bu))] (fun r l=>r=.rs 1 n 4 (n-1)/\l=[(1,.aG 49 4 ((A++B).map bu++[zB]))]):=by
 have Z7:L.length=n:=by rw[hL,List.length_append,List.length_cons];omega
 have Wp:(L.map bu).length=n:=by rw[List.length_map,Z7]
 have Vu:¬(k:Int)=k+1:=jB;have hkn:k<n:=jB;have hd1:List.drop (k+1) L=B:=by rw[hL,hk,<-List.drop_drop,List.drop_left];rfl
 have XU:List.take k L=A:=by rw[hL,hk];exact List.take_left
 refine ab.wG (i:=1) (css:=L.map bu) (X:=(A++B).map bu++[zB]) (l:=[(1,.aG 49 4 (L.map bu))]) jB rfl Wp.symm (fun j r h1 h2=>?_) (by rw[List.length_append,List.length_map,List.length_append];simp only[List.length_cons,List.length_nil];omega) ?_ ?_ fun c Yh=>?_
 ·simp only[aA]at h1;split at h1
  ·rename_i e;exact(h2 e).elim
  ·cases h1
 ·rw[List.flatten_append,vQ,DF];rfl
 ·intro y hy;rcases List.mem_append.1 hy with hy|hy
  ·obtain⟨z,_,rfl⟩:=List.mem_map.1 hy;rfl
  ·rw[List.mem_singleton.1 hy];rfl
 show ab _ _ _ [(1,.aG 49 4 (L.map bu++gj 4 (c-n)))] (fun r l'=>r=.rc 1 c 4 (n-1)/\l'=[(1,.aG 49 4 ((A++B).map bu++[zB]++gj 4 (c-n)))]);have VH:(gj 4 (c-n)).length=c-n:=z6;generalize gj 4 (c-n)=Sp at*;have Uo:c=(L.map bu++Sp).length:=by rw[List.length_append,Wp,VH];omega
 have WY:((L.map bu++Sp).drop (k+1)).take (n-(k+1))=B.map bu:=by rw[List.drop_append_of_le_length jB,<-List.map_drop,hd1];have h1:=List.take_left (l₁:=B.map bu) (l₂:=Sp);rwa [List.length_map,show B.length=n-(k+1) from jB]at h1
 have hgB:=Nq B;have Xq:(B.map bu).length=n-(k+1):=by rw[List.length_map];omega
 have Vw:k+(n-(k+1))=n-1:=jB;obtain⟨Z,hZ,hZl⟩:∃Z,dx (L.map bu++Sp) k (B.map bu)=(A++B).map bu++[Z]++Sp/\Z.length=4:=by
  obtain⟨z,hz⟩:=Tj (x:=x) B;refine⟨bu z,?_,rfl⟩;have e1:L.map bu++Sp=A.map bu++((x::B).map bu++Sp):=by rw[hL,List.map_append,List.append_assoc]
  have h1:(A.map bu++((x::B).map bu++Sp)).take k=A.map bu:=by have:=List.take_left (l₁:=A.map bu) (l₂:=(x::B).map bu++Sp);rwa [List.length_map,<-hk]at this
  have h2:(A.map bu++((x::B).map bu++Sp)).drop (k+(B.map bu).length)=[bu z]++Sp:=by have h3:=List.drop_left (l₁:=A.map bu) (l₂:=(x::B).map bu++Sp);rw[List.length_map,<-hk]at h3;rw[<-List.drop_drop,h3,List.length_map,List.drop_append_of_le_length jE,<-List.map_drop,hz];rfl
  unfold dx;rw[e1,h1,h2,List.map_append];simp
 have haK:c=((A++B).map bu++[Z]++Sp).length:=by rw[List.length_append,List.length_append,List.length_map,List.length_append,VH];simp only[List.length_cons,List.length_nil];omega
 have XJ:dx ((A++B).map bu++[Z]++Sp) (n-1) (List.replicate 1 zB)=(A++B).map bu++[zB]++Sp:=by
  have h1:((A++B).map bu++([Z]++Sp)).take (n-1)=(A++B).map bu:=by have:=List.take_left (l₁:=(A++B).map bu) (l₂:=[Z]++Sp);rwa [List.length_map,List.length_append,show A.length+B.length=n-1 from jB]at this
  have h2:((A++B).map bu++([Z]++Sp)).drop (n-1+1)=Sp:=by have h3:=List.drop_left (l₁:=(A++B).map bu) (l₂:=[Z]++Sp);rw[List.length_map,List.length_append,show A.length+B.length=n-1 from jB]at h3;rw[<-List.drop_drop,h3];rfl
  have e:(A++B).map bu++[Z]++Sp=(A++B).map bu++([Z]++Sp):=List.append_assoc _ _ _;unfold dx;rw[e,h1,List.length_replicate,h2];rfl
 have WG:n-(n-1)=1:=jB;simp only[List.map_append]at haK XJ;generalize Yc:L.map bu++Sp=R0 at*;refine aM func32 ntmps32 ?_;refine S ?_
 (have W:=jA hkn (jA Wp (jA Vu (jA Vw (WG))));repeat' (first|(refine Qq (zs:=Bp) (c:=(4:Nat)=4/\c=R0.length/\(k+1)+(n-(k+1))<=c) (ys:=B.map bu) rfl Uo jG jG jG rfl jC (by show some (_,(R0.drop (k+1)).take (n-(k+1)))=_;rw[WY]) ⟨rfl,Uo,jB⟩ hgB (by rw[Xq];omega) ?_;rw[Xq,Vw,hZ])|refine av fun K hK=>?_|refine au ?_|(with_reducible refine gR 5 ?_);refine dE 5 (bf 0 8) mixed ?_|(refine hK _ _ ?_;clear hK K)|(refine ar ?_ ?_<;>intro hc<;>try exact jz)|(refine DU (zs:=Bp) rfl haK jG jG jG rfl jC rfl jB ?_;rw[XJ])|(refine bY ?_ ?_<;>intro hc<;>try exact jz)|refine aq ?_|exact jI|(clear hK K)))
 (refine bW [.tmp 6] ?_ ?_<;>(try simp only[go_sem]))
def iU(l:List ak)(k:Nat):List ak:=l.take k++l.drop (k+1)
noncomputable def pruneW(p:af)(F:UG->MV->MV)(w:aU)(k:Int):aU×Int:=
 if k<0 then(w,60)else if k=0 then(w,64)
 else(if k<w.cur then{ w with l:=iU w.l k.toNat,cur:=w.cur-1 }else if w.cur=k then VF p F { w with l:=iU w.l k.toNat,cur:=0 }else{ w with l:=iU w.l k.toNat },0)
def vu{j:Nat}(hk:k<l.length)(hj:j<(iU l k).length):nth (iU l k) j=if j<k then nth l j else nth l (j+1):=by
 have I':(l.take k).length=k:=by rw[List.length_take];omega
 unfold iU nth;simp only[List.getD_eq_getElem?_getD];by_cases c:j<k
 ·rw[if_pos c,List.getElem?_append_left jB,List.getElem?_take,if_pos c]
 ·rw[if_neg c,List.getElem?_append_right jB,I',List.getElem?_drop,show k+1+(j-k)=j+1 from jB]
def qf(hk:k<l.length):(iU l k).length=l.length-1:=by unfold iU;rw[List.length_append,List.length_take,List.length_drop];omega
def iW.erase(h:iW w)(hk:k<w.l.length){c:Int}(h0:0<=c)(h1:c<w.l.length-1):iW { w with l:=iU w.l k,cur:=c }:=
 ⟨by show(iU w.l k).length<=100;rw[qf hk];have:=h.ln;omega,h0,by show c<(iU w.l k).length;rw[qf hk];omega,fun j hj=>by
  have hj:j<(iU w.l k).length:=hj;show BW (nth (iU w.l k) j);rw[vu hk hj];rw[qf hk]at hj;split
  ·exact h.b j jB
  ·exact h.b (j+1) jB,h.t⟩
section
variable {p:af}(hp:mJ p)(Uw:fw p){F:UG->MV->MV}(hF:bF p (bz p) F)
include hp Uw hF
theorem Jt{w:aU}(h:iW w)(nm:UI):aC prog 15 [.agg (cn p),.agg (cU w),rS nm] (.aQ [.agg (cU (pruneW p F w (dw nm w.l 0)).1),rI (pruneW p F w (dw nm w.l 0)).2]):=by
 have VB:=h.ln;have f1:=rK w nm jB;have hb:dw nm w.l 0=-1\/0<=dw nm w.l 0/\dw nm w.l 0<w.l.length:=by
  rcases rC nm w.l 0 with⟨e,_⟩|⟨j,h1,h2,_,_⟩
  ·exact .inl e
  ·exact .inr ⟨jB,jB⟩
 generalize dw nm w.l 0=i at*;unfold pruneW;rcases hb with rfl|⟨WU,Xc⟩
 ·rw[jP];refine bQ func15 ntmps15 ?_
  (repeat' (first|refine av fun K hK=>?_|refine au ?_|(refine hK _ _ ?_;clear hK K)|(refine ar ?_ ?_<;>intro hc<;>try exact jz)|refine aV 3 ?_|refine aV 4 ?_|refine cL 6 ?_|refine cp (f1) ?_|(refine bY ?_ ?_<;>intro hc<;>try exact jz)|refine aq ?_|exact jI|(clear hK K)))
  (refine ba [.cell 6 37,.tmp 7] ?_;try simp only[go_sem])
 rw[jN];obtain⟨k,rfl⟩:=Int.eq_ofNat_of_zero_le WU;have hkm:¬(k:Int)=-1:=jB;by_cases c0:k=0
 ·have c0':(k:Int)=0:=jB;rw[if_pos c0'];refine bQ func15 ntmps15 ?_
  (have W:=jA hkm (jA c0 (c0'));repeat' (first|refine av fun K hK=>?_|refine au ?_|(refine hK _ _ ?_;clear hK K)|(refine ar ?_ ?_<;>intro hc<;>try exact jz)|refine aV 3 ?_|refine aV 4 ?_|refine cL 6 ?_|refine cp (f1) ?_|(refine bY ?_ ?_<;>intro hc<;>try exact jz)|refine aq ?_|exact jI|(clear hK K)))
  (refine ba [.cell 6 37,.tmp 7] ?_;try simp only[go_sem])
 have c0':¬(k:Int)=0:=jB;rw[if_neg c0'];have hk:k<w.l.length:=jB;have Uo:=ze w.l jB 1;have hde:=KX (w.l.take k) (w.l.drop (k+1)) w.l (nth w.l k) (by have:=tS hk;rw[<-List.singleton_append,<-List.append_assoc,<-this,List.take_append_drop]) jB w.l.length k (by rw[List.length_take,List.length_drop];omega) (by rw[List.length_take];omega);have Wu:=qf hk;have her:w.l.take k++w.l.drop (k+1)=iU w.l k:=rfl;rw[her]at hde;have hhe:w.cur=k->aC prog 31 [.agg (cn p),.agg (cU { w with l:=iU w.l k,cur:=0 })] (.agg (cU (VF p F { w with l:=iU w.l k,cur:=0 }))):=fun c=>Am hp Uw hF (h.erase hk (c:=0) jB jB)
 simp only[Int.toNat_natCast];obtain⟨l,c,t⟩:=w;simp only at*;generalize iU l k=M at*;simp only[cU]at f1;have XG:c<(l.length:Int):=h.c1;by_cases c1:(k:Int)<c
 ·rw[if_pos c1];have c1':c>(k:Int):=c1;simp only[cU];refine bQ func15 ntmps15 ?_
  (have W:=jA hkm (jA c0 (jA c0' (c1')));repeat' (first|refine av fun K hK=>?_|refine au ?_|(refine hK _ _ ?_;clear hK K)|(refine ar ?_ ?_<;>intro hc<;>try exact jz)|refine aV 3 ?_|refine aV 4 ?_|refine cL 6 ?_|refine cp (f1) ?_|refine cm (Uo) ?_|refine cm (hde) ?_|(refine bY ?_ ?_<;>intro hc<;>try exact jz)|refine aq ?_|exact jI|(clear hK K)))
  refine fF [.cell 6 37,.tmp 7] ?_;exact bt.aQ (ds:=[.agg [aP bu 4 M,rI (c-1),rI t],rI 0]) ⟨bt.agg (ds:=[aP bu 4 M,rI (c-1),rI t]) ⟨cY.lw M [zB] rfl rfl (by rw[Wu];simp only[List.length_cons,List.length_nil];omega) jB,.same _ rfl,.same _ rfl,trivial⟩,.same _ rfl,trivial⟩
 rw[if_neg c1];have c1':¬c>(k:Int):=c1;by_cases c2:c=k
 ·rw[if_pos c2];have hh2:aC prog 31 [.agg (cn p),.agg [aP bu 4 M,rI 0,rI t]] (.agg (cU (VF p F ⟨M,0,t⟩))):=hhe c2;clear hhe;generalize VF p F ⟨M,0,t⟩=W3 at*;have c3:¬(k:Int)>k:=jB;subst c2;clear c1 c1';simp only[cU];refine bQ func15 ntmps15 ?_
  (have W:=jA hkm (jA c0 (jA c0' (c3)));repeat' (first|refine KN [1] 4 [aP bu 4 M,rI k,rI t] [(19,8)] [] ?_ (hc:=by exact⟨cY.lw M [zB] rfl rfl (by rw[Wu];simp only[List.length_cons,List.length_nil];omega) jB,.same _ rfl,.same _ rfl,trivial⟩)|refine av fun K hK=>?_|refine au ?_|(refine hK _ _ ?_;clear hK K)|(refine ar ?_ ?_<;>intro hc<;>try exact jz)|refine aV 3 ?_|refine aV 4 ?_|refine cL 6 ?_|refine cp (f1) ?_|refine cm (Uo) ?_|refine cm (hde) ?_|refine cp (hh2) ?_|(refine bY ?_ ?_<;>intro hc<;>try exact jz)|refine aq ?_|exact jI|(clear hK K)))
  (refine ba [.cell 6 37,.tmp 7] ?_;try simp only[go_sem])
  rfl
 ·rw[if_neg c2];simp only[cU];refine bQ func15 ntmps15 ?_
  (have W:=jA hkm (jA c0 (jA c0' (jA c1' (c2))));repeat' (first|refine av fun K hK=>?_|refine au ?_|(refine hK _ _ ?_;clear hK K)|(refine ar ?_ ?_<;>intro hc<;>try exact jz)|refine aV 3 ?_|refine aV 4 ?_|refine cL 6 ?_|refine cp (f1) ?_|refine cm (Uo) ?_|refine cm (hde) ?_|(refine bY ?_ ?_<;>intro hc<;>try exact jz)|refine aq ?_|exact jI|(clear hK K)))
  refine fF [.cell 6 37,.tmp 7] ?_;exact bt.aQ (ds:=[.agg [aP bu 4 M,rI c,rI t],rI 0]) ⟨bt.agg (ds:=[aP bu 4 M,rI c,rI t]) ⟨cY.lw M [zB] rfl rfl (by rw[Wu];simp only[List.length_cons,List.length_nil];omega) jB,.same _ rfl,.same _ rfl,trivial⟩,.same _ rfl,trivial⟩
end
end Go.Proofs.YtijdhbokcdpklaaGreatDoor
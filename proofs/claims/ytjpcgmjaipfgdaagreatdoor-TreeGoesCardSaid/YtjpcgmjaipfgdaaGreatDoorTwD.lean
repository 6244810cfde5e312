/- Lemmas. No conditions. -/
import Derived.Test.YtjpcgmjaipfgdaaGreatDoorBqL
set_option linter.all false
set_option maxHeartbeats 4000000
set_option maxRecDepth 10000
namespace Go.Gd
open Go
def dw(nm:TF):List ay->Int->Int
 |[],_=>-1
 |b::l,k=>if b.name=nm then k else dw nm l (k+1)
theorem oY(nm:TF):∀(l:List ay) (k:Int),(dw nm l k=-1/\∀j,j<l.length->(nth l j).name≠nm)\/∃j:Nat,j<l.length/\dw nm l k=k+j/\(nth l j).name=nm/\∀i,i<j->(nth l i).name≠nm
 |[],k=>.inl ⟨rfl,fun j h=>by simp at h⟩
 |b::l,k=>by
  show((if b.name=nm then k else dw nm l (k+1))=-1/\_)\/∃j:Nat,_/\(if b.name=nm then k else dw nm l (k+1))=k+j/\_;by_cases c:b.name=nm
  ·rw[if_pos c];exact .inr ⟨0,jE,jB,c,fun i h=>jB⟩
  ·rw[if_neg c];rcases oY nm l (k+1)with⟨e,h⟩|⟨j,h1,h2,h3,h4⟩
   ·refine .inl ⟨e,fun j hj=>?_⟩;cases j with
    |zero=>exact c
    |succ j=>exact h j (by simpa using hj)
   ·refine .inr ⟨j+1,by simpa using h1,by rw[h2];push_cast;omega,h3,fun i hi=>?_⟩;cases i with
    |zero=>exact c
    |succ i=>exact h4 i jB
variable{nm:TF}
def RE{l:List ay}{k:Nat}(hk:k<l.length)(h:(nth l k).name=nm)(Te:∀j,j<k->(nth l j).name≠nm):dw nm l 0=(k:Int):=by
 rcases oY nm l 0 with⟨_,h'⟩|⟨j,h1,h2,h3,h4⟩
 ·exact(h' k hk h).elim
 ·rw[h2];rcases Nat.lt_trichotomy j k with c|c|c
  ·exact(Te j c h3).elim
  ·omega
  ·exact(h4 k c h).elim
def Si{l:List ay}(Te:∀j,j<l.length->(nth l j).name≠nm):dw nm l 0=-1:=by
 rcases oY nm l 0 with⟨e,_⟩|⟨j,h1,_,h3,_⟩
 ·exact e
 ·exact(Te j h1 h3).elim
def Sub.Nr{x:Bool}{sz:Nat}{cs ds d d':TB}(h:nj cs ds):Sub (.sl x sz [cs] d) (.sl false sz [ds] d'):=fun w v hv=>by
 obtain⟨I',hg⟩:=h.get;cases hv with
 |sl _ _ _ a c vs hn hc hx Ti hb hH D' hr=>
  refine .sl false sz [ds] a c vs jE hc jE (fun l hl=>by rw[List.mem_singleton.1 hl,<-I'];exact Ti cs jE) hb hH D' fun i j u hi hu=>?_
  have VD:i=0:=by simpa using hi
  subst VD;have hu:ds[j]?=some u:=hu;have hj:j<cs.length:=by rw[I'];exact(List.getElem?_eq_some_iff.1 hu).1
  exact hg j cs[j] u (List.getElem?_eq_getElem hj) hu _ _ (hr 0 j cs[j] jE (List.getElem?_eq_getElem hj))
def aB.sub{P:TL}{f:FuncId}{args:TB}{r r':AV}(h:aB P f args r)(hs:Sub r r'):aB P f args r':=fun w vs h1 h2=> (h w vs h1 h2).mono fun _ _ ⟨v,r0,H',w',e0,e,⟨e1,e2⟩,g1,g2,g3⟩=>⟨v,r',H',w',e0,e,⟨rfl,e2⟩,g1,hs _ _ (e1 ▸ g2),g3⟩
def Cx:TJ:=[.string ⟨#[]⟩,.slice none 0 0,.slice none 0 0,.slice none 0 0]
abbrev zB:TB:=List.map AV.raw Cx
def cW.lm{D:TK}{H:Hp}{dd:TB}{i sz m n:Nat}{e:TG}{α:Type}{enc:α->TB}[he:bC enc sz](l:List α)(more:S9)(hD:D i=true)(hi:H.get i=some (.aF e sz (l.map enc++more)))(hm:m=l.length+more.length)(hn:n=l.length):cW D H (.rs i m sz n) (.sl false sz (l.map enc) dd):=
 .yY dd i sz m n e _ _ hD hi jF jB jF (fun ds V9=>by obtain⟨x,_,rfl⟩:=List.mem_map.1 V9;exact he.len x) (nt l) fun k j c d hk h1 h2=>by
  have Tv:k<l.length:=jB;have e1:(l.map enc++more).getD k []=enc l[k]:=by rw[List.getD_eq_getElem?_getD,List.getElem?_append_left (by simpa using Tv)];simp[Tv]
  have e2:(l.map enc).getD k []=enc l[k]:=by simp[Tv]
  rw[e1]at h1;rw[e2,h1]at h2;cases h2;exact .same c (pY (fun _ h=>by cases h) _ (k8 (he.free _) h1))
end Go.Gd
namespace Go.Proofs.YtjpcgmjaipfgdaaGreatDoor
open Go Go.Gd Tryz Go.Gd.MV
@[go_sem] def qb9(w c:aX):cS w++List.drop 3 (cS c)=cS w:=(rfl)
def Nu(nm:TF)(b:ay):ab prog 91 [.agg (bu b),.pt 3 0 0 0] [(3,.var 9 [rS nm])] (fun r l=>r=rB (decide (b.name=nm))/\l=[(3,.var 9 [rS nm])]):=by
 refine aL func91 ntmps91 ?_;refine S ?_
 (repeat' (first|refine aq fun K hK=>?_|refine au ?_|(refine hK _ _ ?_;clear hK K)|(refine ap ?_ ?_<;>intro hc<;>try exact jz)|refine bx 9 ?_|(refine bU ?_ ?_<;>intro hc<;>try exact jz)|refine ar ?_|exact jI|(clear hK K)))
 (refine aZ [.tmp 3] ?_;try simp only[go_sem])
def Q3(nm:TF)(L:List ay)(hL:L.length<=1000):ab prog 90 [aM bu 4 L,.dP 91 [.pt 3 0 0 0]] [(3,.var 9 [rS nm])] (fun r l=>r=rI (dw nm L 0)/\l=[(3,.var 9 [rS nm])]):=by
 suffices key:∀z,dw nm L 0=z->ab prog 90 [aM bu 4 L,.dP 91 [.pt 3 0 0 0]] [(3,.var 9 [rS nm])] (fun r l=>r=rI z/\l=[(3,.var 9 [rS nm])]) from key _ rfl
 intro z hz;refine aL func90 ntmps90 ?_;refine S ?_
 (repeat' (first|refine aq fun K hK=>?_|refine au ?_|(refine hK _ _ ?_;clear hK K)|(refine ap ?_ ?_<;>intro hc<;>try exact jz)|(refine bU ?_ ?_<;>intro hc<;>try exact jz)|refine ar ?_|exact jI|(clear hK K)))
 have Tk:=hK;clear hK;refine eu (S:=Nat) [(4,2),(8,11)] (fun k=>k<=L.length/\∀j,j<k->(nth L j).name≠nm) (fun k=>[(8,rI k)]) (fun _=>⟨[3],[(3,.var 9 [rS nm])]⟩) (fun k=>L.length-k) 0 ⟨Nat.zero_le _,fun j h=>jB⟩ (eD rfl cH) ?_;rintro k ⟨hk,Te⟩ Kr Tg;by_cases O':k<L.length
 ·have Tn:=Nu nm (nth L k);by_cases c:(nth L k).name=nm
  ·rw[decide_eq_true c]at Tn;have:=RE O' c Te;rw[hz]at this;subst this;refine S ?_
   (have W:=O';repeat' (first|refine aq fun K hK=>?_|refine au ?_|(refine hK _ _ ?_;clear hK K)|(refine ap ?_ ?_<;>intro hc<;>try exact jz)|(refine cl Tn ?_)|refine Tk _ _ ?_|(refine bU ?_ ?_<;>intro hc<;>try exact jz)|refine ar ?_|exact jI|(clear hK K)))
   (refine aZ [.tmp 4] ?_;try simp only[go_sem])
  ·rw[decide_eq_false c]at Tn;refine S ?_
   (have W:=O';repeat' (first|refine aq fun K hK=>?_|refine au ?_|(refine hK _ _ ?_;clear hK K)|(refine ap ?_ ?_<;>intro hc<;>try exact jz)|(refine cl Tn ?_)|refine Tk _ _ ?_|(refine bU ?_ ?_<;>intro hc<;>try exact jz)|refine ar ?_|exact jI|(clear hK K)))
   exact Tg _ _ (eJ (k+1) ⟨jB,fun j hj=>by
    by_cases e:j<k
    ·exact Te j e
    ·rw[show j=k from jB];exact c⟩ (by show L.length-(k+1)<L.length-k;omega) rfl cH)
 ·have:=Si (nm:=nm) (l:=L) fun j hj=>Te j jB
  rw[hz]at this;subst this;refine S ?_
  (have W:=O';repeat' (first|refine aq fun K hK=>?_|refine au ?_|(refine hK _ _ ?_;clear hK K)|(refine ap ?_ ?_<;>intro hc<;>try exact jz)|refine Tk _ _ ?_|(refine bU ?_ ?_<;>intro hc<;>try exact jz)|refine ar ?_|exact jI|(clear hK K)))
  (refine aZ [.tmp 4] ?_;try simp only[go_sem])
def su(w:aX)(nm:TF)(hL:w.l.length<=1000):aB prog 43 [.agg (cS w),rS nm] (rI (dw nm w.l 0)):=by
 have h:=Q3 nm w.l hL;generalize dw nm w.l 0=z at*;refine bM func43 ntmps43 ?_
 (repeat' (first|refine aq fun K hK=>?_|refine au ?_|(refine hK _ _ ?_;clear hK K)|(refine ap ?_ ?_<;>intro hc<;>try exact jz)|refine aV 2 ?_|refine aV 3 ?_|refine cm (h) ?_|(refine bU ?_ ?_<;>intro hc<;>try exact jz)|refine ar ?_|exact jI|(clear hK K)))
 (refine aZ [.tmp 4] ?_;try simp only[go_sem])
def tz:aX:=⟨[⟨(⟨#[109,97,105,110]⟩:TF),[],[],[]⟩],0,0⟩
def C4:aB prog 40 [] (.agg (cS tz)):=by
 refine aB.sub (r:=.agg [.sl true 4 [[.raw (.string (⟨#[109,97,105,110]⟩:TF)),.raw (.slice none 0 0),.raw (.slice none 0 0),.raw (.slice none 0 0)]] [],rI 0,rI 0]) ?_ (Dw (ds:=cS tz) ⟨Sub.Nr ⟨.refl _,.nil _ _,.nil _ _,.nil _ _,trivial⟩,.refl _,.refl _,trivial⟩);refine bM func40 ntmps40 ?_
 (repeat' (first|refine aq fun K hK=>?_|refine au ?_|(refine hK _ _ ?_;clear hK K)|(refine ap ?_ ?_<;>intro hc<;>try exact jz)|refine bY 0 ?_|(refine bU ?_ ?_<;>intro hc<;>try exact jz)|refine ar ?_|exact jI|(clear hK K)))
 (refine aZ [.cell 0 90] ?_;try simp only[go_sem])
structure BW(b:ay):Prop where
 ok:gW b
 i16:b.aR.length<=16
 s8:b.base.length+b.own.length<=8
def BW.qR{b:ay}(h:BW b):(fp b).length<=8:=by have:=h.s8;unfold fp;rw[zH];omega
structure fy(w:aX):Prop where
 ln:w.l.length<=100
 c0:0<=w.cur
 c1:w.cur<w.l.length
 b:∀k,k<w.l.length->BW (nth w.l k)
 t:cn w.time
section
variable (p:af)(F:TD->MV->MV)
noncomputable def comesB(b:ay)(t:Int):Int:=(atB p F b t).time
noncomputable def curB(w:aX):ay:=nth w.l w.cur.toNat
noncomputable def Uv(w:aX):aX:={ w with time:=comesB p F (curB w) w.time }
noncomputable def goW(w:aX)(t:Int):aX×Int:=if t<0\/200<t\/comesB p F (curB w) t<t then(w,63)else({ w with time:=t },0)
noncomputable def switchW(w:aX)(nm:TF):aX×Int:=if dw nm w.l 0<0 then(w,60)else(Uv p F { w with cur:=dw nm w.l 0 },0)
end
section
variable {p:af}(hp:mn p)(Tn:fq p){F:TD->MV->MV}(hF:bQ p (cf p) F)
include hp Tn hF
theorem F2{b:ay}(h:gW b)(t:Int)(ht:cn t):aB prog 97 [.agg (ci p),.agg (bu b),rI t] (rI (comesB p F b t)):=by
 have WX:=vK h;obtain⟨k,EE,XD,Va,_,_⟩:=AX hp hF (by have:=h.inl;omega) h.inr (xq h.kN) Tn (by have:=h.od;omega) t ht;have key:ab prog 97 [.agg (ci p),.agg (bu b),rI t] [] fun r l=>r=rI (comesB p F b t)/\l=EE:=by
  unfold comesB atB;generalize shotM p F b.aR (fp b) t=Sh at*;generalize badM p F b.aR (fp b) t=z at*;generalize fp b=A at*;have Ta:=XD.e2.low;refine aL func97 ntmps97 ?_
  (have W:=Ta;repeat' (first|refine aq fun K hK=>?_|refine au ?_|(with_reducible refine gR 1 ?_);refine dC 1 ([],[14],[16]) [] (bc 0 12) mixed ?_|(refine hK _ _ ?_;clear hK K)|(refine ap ?_ ?_<;>intro hc<;>try exact jz)|refine aV 3 ?_|refine aV 4 ?_|refine cp (WX) ?_|refine cq (WX) ?_|(refine nS (e:=[]) XD (fun j _ h=>(h rfl).elim) ?_)|refine cT Va ?_|(refine bU ?_ ?_<;>intro hc<;>try exact jz)|refine ar ?_|exact jI|(clear hK K)))
  exact dZ (e:=[]) (B:=[]) rfl AM XD.e2 (tl:=[(3,.var 32 (ci p)),(4,.var 52 (bu b))]) (fun _=>rfl) (dm jC (dm jC dz)) [.tmp 6]
 exact aB.wv key (.same _ rfl)
theorem Cv{w:aX}(h:fy w):aB prog 94 [.agg (ci p),.agg (cS w)] (.agg (cS (Uv p F w))):=by
 have U3:=h.c0;have TP:=h.c1;have hk:w.cur.toNat<w.l.length:=jB;have hb:=(h.b _ hk).ok;have WY:=F2 hp Tn hF hb w.time h.t;change aB _ _ _ (rI (comesB p F (curB w) w.time))at WY
 unfold Uv;generalize comesB p F (curB w) w.time=z at*;refine bM func94 ntmps94 ?_
 (have W:=jA U3 TP;repeat' (first|refine aq fun K hK=>?_|refine au ?_|(with_reducible refine gR 1 ?_);refine dC 1 ([],[14],[]) [] (bc 0 12) mixed ?_|(refine hK _ _ ?_;clear hK K)|(refine ap ?_ ?_<;>intro hc<;>try exact jz)|refine aV 2 ?_|refine aV 3 ?_|refine bY 4 ?_|refine cq (WY) ?_|refine cp (WY) ?_|(refine bU ?_ ?_<;>intro hc<;>try exact jz)|refine ar ?_|exact jI|(clear hK K)))
 (refine aZ [.cell 4 90] ?_;try simp only[go_sem])
theorem wA{w:aX}(h:fy w)(t:Int)(ht:cn t):aB prog 48 [.agg (ci p),.agg (cS w),rI t] (.aP [.agg (cS (goW p F w t).1),rI (goW p F w t).2]):=by
 have U3:=h.c0;have TP:=h.c1;have hk:w.cur.toNat<w.l.length:=jB;have WY:=F2 hp Tn hF (h.b _ hk).ok t ht;change aB _ _ _ (rI (comesB p F (curB w) t))at WY
 unfold goW;generalize comesB p F (curB w) t=z at*;by_cases c1:t<0
 ·rw[if_pos (.inl c1)];refine bM func48 ntmps48 ?_
  (have W:=jA c1 (jA U3 (TP));repeat' (first|refine aq fun K hK=>?_|refine au ?_|(with_reducible refine gR 1 ?_);refine dC 1 ([],[23],[]) [] (bc 0 19) mixed ?_|(refine hK _ _ ?_;clear hK K)|(refine ap ?_ ?_<;>intro hc<;>try exact jz)|refine aV 3 ?_|refine aV 4 ?_|refine bY 6 ?_|refine⟨rI 0,?_⟩|(refine bU ?_ ?_<;>intro hc<;>try exact jz)|refine ar ?_|exact jI|(clear hK K)))
  (refine aZ [.cell 6 90,.tmp 7] ?_;try simp only[go_sem])
 by_cases c2:200<t
 ·rw[if_pos (.inr (.inl c2))];refine bM func48 ntmps48 ?_
  (have W:=jA c1 (jA c2 (jA U3 (TP)));repeat' (first|refine aq fun K hK=>?_|refine au ?_|(with_reducible refine gR 1 ?_);refine dC 1 ([],[23],[]) [] (bc 0 19) mixed ?_|(refine hK _ _ ?_;clear hK K)|(refine ap ?_ ?_<;>intro hc<;>try exact jz)|refine aV 3 ?_|refine aV 4 ?_|refine bY 6 ?_|refine⟨rI 0,?_⟩|(refine bU ?_ ?_<;>intro hc<;>try exact jz)|refine ar ?_|exact jI|(clear hK K)))
  (refine aZ [.cell 6 90,.tmp 7] ?_;try simp only[go_sem])
 by_cases c3:z<t
 ·rw[if_pos (.inr (.inr c3))];refine bM func48 ntmps48 ?_
  (have W:=jA c1 (jA c2 (jA c3 (jA U3 (TP))));repeat' (first|refine aq fun K hK=>?_|refine au ?_|(with_reducible refine gR 1 ?_);refine dC 1 ([],[23],[]) [] (bc 0 19) mixed ?_|(refine hK _ _ ?_;clear hK K)|(refine ap ?_ ?_<;>intro hc<;>try exact jz)|refine aV 3 ?_|refine aV 4 ?_|refine bY 6 ?_|(first|refine cg (WY) ?_|refine tF (WY) ?_)|refine cq (WY) ?_|(refine bU ?_ ?_<;>intro hc<;>try exact jz)|refine ar ?_|exact jI|(clear hK K)))
  (refine aZ [.cell 6 90,.tmp 7] ?_;try simp only[go_sem])
 ·rw[if_neg (by rintro(h|h|h);exact c1 h;exact c2 h;exact c3 h)];refine bM func48 ntmps48 ?_
  (have W:=jA c1 (jA c2 (jA c3 (jA U3 (TP))));repeat' (first|refine aq fun K hK=>?_|refine au ?_|(with_reducible refine gR 1 ?_);refine dC 1 ([],[23],[]) [] (bc 0 19) mixed ?_|(refine hK _ _ ?_;clear hK K)|(refine ap ?_ ?_<;>intro hc<;>try exact jz)|refine aV 3 ?_|refine aV 4 ?_|refine bY 6 ?_|(first|refine cg (WY) ?_|refine tF (WY) ?_)|refine cq (WY) ?_|(refine bU ?_ ?_<;>intro hc<;>try exact jz)|refine ar ?_|exact jI|(clear hK K)))
  (refine aZ [.cell 6 90,.tmp 7] ?_;try simp only[go_sem])
theorem KT{w:aX}(h:fy w)(nm:TF):aB prog 46 [.agg (ci p),.agg (cS w),rS nm] (.aP [.agg (cS (switchW p F w nm).1),rI (switchW p F w nm).2]):=by
 have Uk:=h.ln;have hf:=su w nm jB;have hh:¬dw nm w.l 0<0->aB prog 94 [.agg (ci p),.agg (cS { w with cur:=dw nm w.l 0 })] (.agg (cS (Uv p F { w with cur:=dw nm w.l 0 }))):=fun c=>by
  rcases oY nm w.l 0 with⟨e,_⟩|⟨j,h1,h2,_,_⟩
  ·rw[e]at c;omega
  ·exact Cv hp Tn hF ⟨h.ln,by show 0<=dw nm w.l 0;omega,by show dw nm w.l 0<w.l.length;omega,h.b,h.t⟩
 unfold switchW;generalize dw nm w.l 0=k at*;by_cases c:k<0
 ·rw[if_pos c];refine bM func46 ntmps46 ?_
  (have W:=c;repeat' (first|refine aq fun K hK=>?_|refine au ?_|(refine hK _ _ ?_;clear hK K)|(refine ap ?_ ?_<;>intro hc<;>try exact jz)|refine aV 3 ?_|refine aV 4 ?_|refine bY 6 ?_|refine cp (hf) ?_|(refine bU ?_ ?_<;>intro hc<;>try exact jz)|refine ar ?_|exact jI|(clear hK K)))
  (refine aZ [.cell 6 90,.tmp 7] ?_;try simp only[go_sem])
 ·rw[if_neg c];have hh:=hh c;generalize Uv p F { w with cur:=k }=W2 at*;refine bM func46 ntmps46 ?_
  (have W:=c;repeat' (first|refine aq fun K hK=>?_|refine au ?_|(refine hK _ _ ?_;clear hK K)|(refine ap ?_ ?_<;>intro hc<;>try exact jz)|refine aV 3 ?_|refine aV 4 ?_|refine bY 6 ?_|refine cp (hf) ?_|refine cp (hh) ?_|(refine bU ?_ ?_<;>intro hc<;>try exact jz)|refine ar ?_|exact jI|(clear hK K)))
  (refine aZ [.cell 6 90,.tmp 7] ?_;try simp only[go_sem])
end
def zy(l:List ay)(hl:l.length<=1000)(i:Nat):ab prog 96 [aM bu 4 l] [] (fun r l'=>r=.rs i l.length 4 l.length/\l'=[(i,.aF 52 4 (l.map bu))]):=by
 refine aL func96 ntmps96 ?_
 (repeat' (first|refine aq fun K hK=>?_|refine au ?_|(refine hK _ _ ?_;clear hK K)|(refine ap ?_ ?_<;>intro hc<;>try exact jz)|(with_reducible refine fun(b:Bool) hb=>?_)|refine ve i ?_|(refine bU ?_ ?_<;>intro hc<;>try exact jz)|refine ar ?_|exact jI|(clear hK K)))
 ·have T5:l=[]:=by simpa using hb hc
  subst T5;exact wc i 52 4 jC [.tmp 2] rfl rfl trivial
 ·(refine bW [.tmp 2] ?_ ?_<;>(try simp only[go_sem]))
def BO(w:aX)(b:ay)(k:Int)(hl:w.l.length<=100)(h0:0<=k)(h1:k<w.l.length):aB prog 98 [.agg (cS w),rI k,.agg (bu b)] (.agg (cS { w with l:=w.l.set k.toNat b })):=by
 have Tc:=zy w.l jB 1;obtain⟨l,c,t⟩:=w;obtain⟨n,rfl⟩:=Int.eq_ofNat_of_zero_le h0;simp only[cS]at*;have hn:n<l.length:=by simpa using h1
 refine bM func98 ntmps98 ?_
 (have W:=hn;repeat' (first|refine aq fun K hK=>?_|refine au ?_|(refine hK _ _ ?_;clear hK K)|(refine ap ?_ ?_<;>intro hc<;>try exact jz)|refine aV 3 ?_|refine aV 5 ?_|refine bY 6 ?_|refine cm (Tc) ?_|(refine bU ?_ ?_<;>intro hc<;>try exact jz)|refine ar ?_|exact jI|(clear hK K)))
 refine fC [.cell 6 90] ?_;exact bt.agg (ds:=[aM bu 4 (l.set n b),rI c,rI t]) ⟨cW.row (l.set n b) rfl rfl (by rw[List.length_set]),.same _ rfl,.same _ rfl,trivial⟩
variable{l:List ay}
def QH{n k:Nat}{b:ay}(hk:k<l.length):nth (l.set n b) k=if n=k then b else nth l k:=by
 unfold nth;rw[List.getD_eq_getElem?_getD,List.getD_eq_getElem?_getD,List.getElem?_set];by_cases c:n=k
 ·subst c;rw[if_pos rfl,if_pos rfl,if_pos hk];rfl
 ·rw[if_neg c,if_neg c]
theorem fy.set{w:aX}(h:fy w)(n:Nat){b:ay}(hb:BW b):fy { w with l:=w.l.set n b }:=
 ⟨by show(w.l.set n b).length<=100;rw[List.length_set];exact h.ln,h.c0,by show w.cur<(w.l.set n b).length;rw[List.length_set];exact h.c1,fun k hk=>by
  have hk:k<w.l.length:=by simpa using hk
  show BW (nth (w.l.set n b) k);rw[QH hk];split
  ·exact hb
  ·exact h.b k hk,h.t⟩
def qV(w:aX)(b:ay)(e:Int):aX×Int:=if e≠0 then(w,e)else({ w with l:=w.l.set w.cur.toNat b },0)
section
variable (p:af)(F:TD->MV->MV)
noncomputable def addW(w:aX)(nm:TF)(v:aj):aX×Int:=qV w (addB p F (curB w) ⟨w.time,nm,v⟩).1 (addB p F (curB w) ⟨w.time,nm,v⟩).2
noncomputable def rebaseW(w:aX)(i k:Int):aX×Int×Int:=
 if i<0\/k<0 then(w,0,60)else if i=k then(w,0,1)else if i=0 then(w,0,64)
 else if(rebaseB p F (nth w.l i.toNat) (nth w.l k.toNat)).2.2≠0 then(w,(rebaseB p F (nth w.l i.toNat) (nth w.l k.toNat)).2)
 else(if w.cur=i then Uv p F { w with l:=w.l.set i.toNat (rebaseB p F (nth w.l i.toNat) (nth w.l k.toNat)).1 }else{ w with l:=w.l.set i.toNat (rebaseB p F (nth w.l i.toNat) (nth w.l k.toNat)).1 },0,0)
end
noncomputable def appendW(w:aX)(n:Int):aX×Int:=qV w (rE (curB w) n).1 (rE (curB w) n).2
def rM(ok:Bool)(w:aX)(old nm:TF):aX×Int:=
 if dw old w.l 0<0 then(w,60)else if ok=false then(w,1)else if 0<=dw nm w.l 0 then(w,61)
 else({ w with l:=w.l.set (dw old w.l 0).toNat { nth w.l (dw old w.l 0).toNat with name:=nm } },0)
variable{w:aX}
def I5(h:fy w)(b:ay)(e:Int):aB prog 138 [.agg (cS w),.agg (bu b),rI e] (.aP [.agg (cS (qV w b e).1),rI (qV w b e).2]):=by
 have hi:=BO w b w.cur h.ln h.c0 h.c1;unfold qV;by_cases c:e=0
 ·rw[if_neg (fun h=>h c)];generalize ({ w with l:=w.l.set w.cur.toNat b }:aX)=W2 at*;refine bM func138 ntmps138 ?_
  (have W:=c;repeat' (first|refine aq fun K hK=>?_|refine au ?_|(refine hK _ _ ?_;clear hK K)|(refine ap ?_ ?_<;>intro hc<;>try exact jz)|refine aV 3 ?_|refine aV 4 ?_|refine bY 6 ?_|refine cp (hi) ?_|(refine bU ?_ ?_<;>intro hc<;>try exact jz)|refine ar ?_|exact jI|(clear hK K)))
  (refine aZ [.cell 6 90,.tmp 7] ?_;try simp only[go_sem])
 ·rw[if_pos c];refine bM func138 ntmps138 ?_
  (have W:=c;repeat' (first|refine aq fun K hK=>?_|refine au ?_|(refine hK _ _ ?_;clear hK K)|(refine ap ?_ ?_<;>intro hc<;>try exact jz)|refine aV 3 ?_|refine aV 4 ?_|refine bY 6 ?_|(refine bU ?_ ?_<;>intro hc<;>try exact jz)|refine ar ?_|exact jI|(clear hK K)))
  (refine aZ [.cell 6 90,.tmp 7] ?_;try simp only[go_sem])
def Nf(h:fy w)(n:Int):aB prog 88 [.agg (cS w),rI n] (.aP [.agg (cS (appendW w n).1),rI (appendW w n).2]):=by
 have U3:=h.c0;have TP:=h.c1;have hk:w.cur.toNat<w.l.length:=jB;have h1:=RN (h.b _ hk).ok n;change aB _ _ _ (.aP [.agg (bu (rE (curB w) n).1),rI (rE (curB w) n).2])at h1
 have h2:=fun b e=>I5 h b e
 unfold appendW;generalize rE (curB w) n=X at*;obtain⟨xb,xe⟩:=X;have h2:=h2 xb xe;simp only at h1 ⊢;generalize qV w xb xe=Y at*;refine bM func88 ntmps88 ?_
 (have W:=jA U3 TP;repeat' (first|refine aq fun K hK=>?_|refine au ?_|(refine hK _ _ ?_;clear hK K)|(refine ap ?_ ?_<;>intro hc<;>try exact jz)|refine aV 2 ?_|refine bY 4 ?_|refine bY 6 ?_|refine cp (h1) ?_|refine cp (h2) ?_|(refine bU ?_ ?_<;>intro hc<;>try exact jz)|refine ar ?_|exact jI|(clear hK K)))
 (refine aZ [.cell 4 90,.tmp 5] ?_;try simp only[go_sem])
def Pq(h:fy w)(old nm:TF):aB prog 49 [.agg (cS w),rS old,rS nm] (.aP [.agg (cS (rM (iB nm) w old nm).1),rI (rM (iB nm) w old nm).2]):=by
 have Uk:=h.ln;have f1:=su w old jB;have f2:=su w nm jB;have f3:=Bt nm;have hi:=fun b=>BO w b (dw old w.l 0) h.ln
 have hb:dw old w.l 0<w.l.length:=by
  rcases oY old w.l 0 with⟨e,_⟩|⟨j,h1,h2,_,_⟩
  ·rw[e];omega
  ·rw[h2];omega
 unfold rM;generalize dw old w.l 0=k at*;generalize dw nm w.l 0=m at*;generalize iB nm=ok at*;by_cases c1:k<0
 ·rw[if_pos c1];refine bM func49 ntmps49 ?_
  (have W:=c1;repeat' (first|refine aq fun K hK=>?_|refine au ?_|(refine hK _ _ ?_;clear hK K)|(refine ap ?_ ?_<;>intro hc<;>try exact jz)|refine aV 3 ?_|refine bY 6 ?_|refine cp (f1) ?_|(refine bU ?_ ?_<;>intro hc<;>try exact jz)|refine ar ?_|exact jI|(clear hK K)))
  (refine aZ [.cell 6 90,.tmp 7] ?_;try simp only[go_sem])
 rw[if_neg c1];by_cases c2:ok=false
 ·subst c2;rw[if_pos rfl];refine bM func49 ntmps49 ?_
  (have W:=c1;repeat' (first|refine aq fun K hK=>?_|refine au ?_|(refine hK _ _ ?_;clear hK K)|(refine ap ?_ ?_<;>intro hc<;>try exact jz)|refine aV 3 ?_|refine bY 6 ?_|refine cp (f1) ?_|refine cp (f3) ?_|(refine bU ?_ ?_<;>intro hc<;>try exact jz)|refine ar ?_|exact jI|(clear hK K)))
  (refine aZ [.cell 6 90,.tmp 7] ?_;try simp only[go_sem])
 have c2:ok=true:=by cases ok<;>simp_all
 subst c2;rw[if_neg jC];by_cases c3:0<=m
 ·rw[if_pos c3];have c3':m >= 0:=c3;refine bM func49 ntmps49 ?_
  (have W:=jA c1 (c3');repeat' (first|refine aq fun K hK=>?_|refine au ?_|(refine hK _ _ ?_;clear hK K)|(refine ap ?_ ?_<;>intro hc<;>try exact jz)|refine aV 3 ?_|refine bY 6 ?_|refine cp (f1) ?_|refine cp (f3) ?_|refine cp (f2) ?_|(refine bU ?_ ?_<;>intro hc<;>try exact jz)|refine ar ?_|exact jI|(clear hK K)))
  (refine aZ [.cell 6 90,.tmp 7] ?_;try simp only[go_sem])
 ·rw[if_neg c3];have c3':¬m >= 0:=c3;obtain⟨n,rfl⟩:=Int.eq_ofNat_of_zero_le (show 0<=k from jB);have hn:n<w.l.length:=jB;have hi:=hi { nth w.l n with name:=nm } jB hb;simp only[Int.toNat_natCast]at hi ⊢;generalize ({ w with l:=w.l.set n { nth w.l n with name:=nm } }:aX)=W2 at*;refine bM func49 ntmps49 ?_
  (have W:=jA c1 (jA c3' (hn));repeat' (first|refine aq fun K hK=>?_|refine au ?_|(refine hK _ _ ?_;clear hK K)|(refine ap ?_ ?_<;>intro hc<;>try exact jz)|refine aV 3 ?_|refine bY 6 ?_|refine bY 9 ?_|refine cp (f1) ?_|refine cp (f3) ?_|refine cp (f2) ?_|refine cp (hi) ?_|(refine bU ?_ ?_<;>intro hc<;>try exact jz)|refine ar ?_|exact jI|(clear hK K)))
  (refine aZ [.cell 6 90,.tmp 7] ?_;try simp only[go_sem])
section
variable {p:af}(hp:mn p)(Tn:fq p){F:TD->MV->MV}(hF:bQ p (cf p) F)
include hp Tn hF
theorem QZ{w:aX}(h:fy w)(nm:TF){v:aj}(hv:cn v.n):aB prog 87 [.agg (ci p),.agg (cS w),rS nm,.agg (bS v)] (.aP [.agg (cS (addW p F w nm v).1),rI (addW p F w nm v).2]):=by
 have U3:=h.c0;have TP:=h.c1;have hk:w.cur.toNat<w.l.length:=jB;have h1:=M7 hp Tn hF (h.b _ hk).ok (x:=⟨w.time,nm,v⟩) hv;change aB _ _ _ (.aP [.agg (bu (addB p F (curB w) ⟨w.time,nm,v⟩).1),rI (addB p F (curB w) ⟨w.time,nm,v⟩).2])at h1
 have h2:=fun b e=>I5 h b e
 unfold addW;generalize addB p F (curB w) ⟨w.time,nm,v⟩=X at*;obtain⟨xb,xe⟩:=X;have h2:=h2 xb xe;simp only at h1 ⊢;generalize qV w xb xe=Y at*;refine bM func87 ntmps87 ?_
 (have W:=jA U3 TP;repeat' (first|refine aq fun K hK=>?_|refine au ?_|(with_reducible refine gR 1 ?_);refine dC 1 ([],[],[25]) [16] (bc 0 19) mixed ?_|(refine hK _ _ ?_;clear hK K)|(refine ap ?_ ?_<;>intro hc<;>try exact jz)|refine aV 4 ?_|refine aV 5 ?_|refine aV 7 ?_|refine bY 8 ?_|refine bY 10 ?_|refine cN h1 ?_|refine cp (h2) ?_|(refine bU ?_ ?_<;>intro hc<;>try exact jz)|refine ar ?_|exact jI|(clear hK K)))
 (refine aZ [.cell 8 90,.tmp 9] ?_;try simp only[go_sem])
theorem P9{w:aX}(h:fy w)(a o:TF):aB prog 89 [.agg (ci p),.agg (cS w),rS a,rS o] (.aP [.agg (cS (rebaseW p F w (dw a w.l 0) (dw o w.l 0)).1),rI (rebaseW p F w (dw a w.l 0) (dw o w.l 0)).2.1,rI (rebaseW p F w (dw a w.l 0) (dw o w.l 0)).2.2]):=by
 have Uk:=h.ln;have f1:=su w a jB;have f2:=su w o jB;have hb:∀nm,dw nm w.l 0<w.l.length:=fun nm=>by
  rcases oY nm w.l 0 with⟨e,_⟩|⟨j,h1,h2,_,_⟩
  ·rw[e];omega
  ·rw[h2];omega
 have UN:=hb a;have Vl:=hb o;clear hb;generalize dw a w.l 0=i at*;generalize dw o w.l 0=k at*;unfold rebaseW;by_cases c1:i<0\/k<0
 ·rw[if_pos c1];have c1':(if i<k then i else k)<0:=by split<;>omega
  refine bM func89 ntmps89 ?_
  (have W:=c1';repeat' (first|refine aq fun K hK=>?_|refine au ?_|(with_reducible refine gR 1 ?_);refine dC 1 ([],[18,21],[]) [] (bc 0 8) mixed ?_|(with_reducible refine gR 8 ?_);refine dC 8 ([],[],[49]) [16] (bc 0 20) mixed ?_|(refine hK _ _ ?_;clear hK K)|(refine ap ?_ ?_<;>intro hc<;>try exact jz)|refine aV 4 ?_|refine aV 5 ?_|refine bY 8 ?_|refine cq (f1) ?_|refine cq (f2) ?_|(refine bU ?_ ?_<;>intro hc<;>try exact jz)|refine ar ?_|exact jI|(clear hK K)))
  (refine aZ [.cell 8 90,.tmp 9,.tmp 10] ?_;try simp only[go_sem])
 rw[if_neg c1];obtain⟨ni,rfl⟩:=Int.eq_ofNat_of_zero_le (show 0<=i from jB);obtain⟨nk,rfl⟩:=Int.eq_ofNat_of_zero_le (show 0<=k from jB);have c1':¬(if(ni:Int)<nk then(ni:Int)else nk)<0:=by split<;>omega
 have hi:ni<w.l.length:=jB;have hk:nk<w.l.length:=jB;by_cases c2:ni=nk
 ·have c2':(ni:Int)=nk:=jB;rw[if_pos c2'];refine bM func89 ntmps89 ?_
  (have W:=jA c1' (jA c2 (c2'));repeat' (first|refine aq fun K hK=>?_|refine au ?_|(with_reducible refine gR 1 ?_);refine dC 1 ([],[18,21],[]) [] (bc 0 8) mixed ?_|(with_reducible refine gR 8 ?_);refine dC 8 ([],[],[49]) [16] (bc 0 20) mixed ?_|(refine hK _ _ ?_;clear hK K)|(refine ap ?_ ?_<;>intro hc<;>try exact jz)|refine aV 4 ?_|refine aV 5 ?_|refine bY 8 ?_|refine bY 13 ?_|refine cq (f1) ?_|refine cq (f2) ?_|(refine bU ?_ ?_<;>intro hc<;>try exact jz)|refine ar ?_|exact jI|(clear hK K)))
  (refine aZ [.cell 8 90,.tmp 9,.tmp 10] ?_;try simp only[go_sem])
 have c2':¬(ni:Int)=nk:=jB;rw[if_neg c2'];by_cases c3:ni=0
 ·have c3':(ni:Int)=0:=jB;rw[if_pos c3'];refine bM func89 ntmps89 ?_
  (have W:=jA c1' (jA c2 (jA c2' (jA c3 (c3'))));repeat' (first|refine aq fun K hK=>?_|refine au ?_|(with_reducible refine gR 1 ?_);refine dC 1 ([],[18,21],[]) [] (bc 0 8) mixed ?_|(with_reducible refine gR 8 ?_);refine dC 8 ([],[],[49]) [16] (bc 0 20) mixed ?_|(refine hK _ _ ?_;clear hK K)|(refine ap ?_ ?_<;>intro hc<;>try exact jz)|refine aV 4 ?_|refine aV 5 ?_|refine bY 8 ?_|refine bY 13 ?_|refine cq (f1) ?_|refine cq (f2) ?_|(refine bU ?_ ?_<;>intro hc<;>try exact jz)|refine ar ?_|exact jI|(clear hK K)))
  (refine aZ [.cell 8 90,.tmp 9,.tmp 10] ?_;try simp only[go_sem])
 have c3':¬(ni:Int)=0:=jB;rw[if_neg c3'];have h1:=Sn hp Tn hF (h.b _ hi).ok (h.b _ hk).ok (by have:=(h.b _ hk).qR;omega);have Uy:=fun b=>BO w b ni Uk jB jB
 have Yg:(rebaseB p F (nth w.l ni) (nth w.l nk)).2.2=0->BW (rebaseB p F (nth w.l ni) (nth w.l nk)).1:=by
  have g1:=h.b _ hi;have g2:=h.b _ hk;have g3:=g1.ok.jQ g2.ok (by have:=g2.qR;omega);unfold rebaseB;split
  ·intro h;cases h
  rename_i q;split
  ·intro h;cases h
  intro _;exact⟨g3,g2.i16,by show(fp (nth w.l nk)).length+(nth w.l ni).own.length<=8;omega⟩
 simp only[Int.toNat_natCast];generalize rebaseB p F (nth w.l ni) (nth w.l nk)=X at*;obtain⟨xb,xn,xe⟩:=X;simp only at h1 Yg ⊢;by_cases c4:xe=0
 rotate_left
 ·rw[if_pos c4];refine bM func89 ntmps89 ?_
  (have W:=jA c1' (jA c2 (jA c2' (jA c3 (jA c3' (jA c4 (jA hi (hk)))))));repeat' (first|refine aq fun K hK=>?_|refine au ?_|(with_reducible refine gR 1 ?_);refine dC 1 ([],[18,21],[]) [] (bc 0 8) mixed ?_|(with_reducible refine gR 8 ?_);refine dC 8 ([],[],[49]) [16] (bc 0 20) mixed ?_|(refine hK _ _ ?_;clear hK K)|(refine ap ?_ ?_<;>intro hc<;>try exact jz)|refine aV 4 ?_|refine aV 5 ?_|refine bY 8 ?_|refine bY 13 ?_|refine cq (f1) ?_|refine cq (f2) ?_|refine cN h1 ?_|(refine bU ?_ ?_<;>intro hc<;>try exact jz)|refine ar ?_|exact jI|(clear hK K)))
  (refine aZ [.cell 8 90,.tmp 9,.tmp 10] ?_;try simp only[go_sem])
 rw[if_neg (fun h=>h c4)];have Uy:=Uy xb;simp only[Int.toNat_natCast]at Uy;have hw2:fy { w with l:=w.l.set ni xb }:=h.set ni (Yg c4);by_cases c5:w.cur=ni
 ·rw[if_pos c5];have hhe:=Cv hp Tn hF hw2;have c5':({ w with l:=w.l.set ni xb }:aX).cur=ni:=c5;generalize ({ w with l:=w.l.set ni xb }:aX)=W2 at*;generalize Uv p F W2=W3 at*;refine bM func89 ntmps89 ?_
  (have W:=jA c1' (jA c2 (jA c2' (jA c3 (jA c3' (jA c4 (jA c5' (jA hi (hk))))))));repeat' (first|refine aq fun K hK=>?_|refine au ?_|(with_reducible refine gR 1 ?_);refine dC 1 ([],[18,21],[]) [] (bc 0 8) mixed ?_|(with_reducible refine gR 8 ?_);refine dC 8 ([],[],[49]) [16] (bc 0 20) mixed ?_|(refine hK _ _ ?_;clear hK K)|(refine ap ?_ ?_<;>intro hc<;>try exact jz)|refine aV 4 ?_|refine aV 5 ?_|refine bY 8 ?_|refine bY 13 ?_|refine cq (f1) ?_|refine cq (f2) ?_|refine cN h1 ?_|refine cp (Uy) ?_|refine cp (hhe) ?_|(refine bU ?_ ?_<;>intro hc<;>try exact jz)|refine ar ?_|exact jI|(clear hK K)))
  (refine aZ [.cell 8 90,.tmp 9,.tmp 10] ?_;try simp only[go_sem])
 ·rw[if_neg c5];have c5':¬({ w with l:=w.l.set ni xb }:aX).cur=ni:=c5;generalize ({ w with l:=w.l.set ni xb }:aX)=W2 at*;refine bM func89 ntmps89 ?_
  (have W:=jA c1' (jA c2 (jA c2' (jA c3 (jA c3' (jA c4 (jA c5' (jA hi (hk))))))));repeat' (first|refine aq fun K hK=>?_|refine au ?_|(with_reducible refine gR 1 ?_);refine dC 1 ([],[18,21],[]) [] (bc 0 8) mixed ?_|(with_reducible refine gR 8 ?_);refine dC 8 ([],[],[49]) [16] (bc 0 20) mixed ?_|(refine hK _ _ ?_;clear hK K)|(refine ap ?_ ?_<;>intro hc<;>try exact jz)|refine aV 4 ?_|refine aV 5 ?_|refine bY 8 ?_|refine bY 13 ?_|refine cq (f1) ?_|refine cq (f2) ?_|refine cN h1 ?_|refine cp (Uy) ?_|(refine bU ?_ ?_<;>intro hc<;>try exact jz)|refine ar ?_|exact jI|(clear hK K)))
  (refine aZ [.cell 8 90,.tmp 9,.tmp 10] ?_;try simp only[go_sem])
end
def M6{x:ay}:∀B:List ay,∃z,(x::B).drop B.length=[z]:=fun B=>by
 have h:((x::B).drop B.length).length=1:=by rw[List.length_drop];simp
 exact List.length_eq_one_iff.1 h
theorem HH(q:TK):∀l:List ay,aW q (l.map bu).flatten=true
 |[]=>rfl
 |x::l=>by rw[List.map_cons,List.flatten_cons,uD,HH q l,Em];rfl
def OE(l:List ay):Go.Gd.Good 4 (l.map bu):=fun c hc=>by obtain⟨y,_,rfl⟩:=List.mem_map.1 hc;exact⟨rfl,rfl⟩
def Qo(A B L:List ay)(x:ay)(hL:L=A++x::B)(h1000:L.length<=1000)(n k:Nat)(hn:n=A.length+B.length+1)(hk:k=A.length):ab prog 95 [.rs 1 n 4 n,rI k,rI (k+1)] [(1,.aF 52 4 (L.map bu))] (fun r l=>r=.rs 1 n 4 (n-1)/\l=[(1,.aF 52 4 ((A++B).map bu++[zB]))]):=by
 have YU:L.length=n:=by rw[hL,List.length_append,List.length_cons];omega
 have U':(L.map bu).length=n:=by rw[List.length_map,YU]
 have UD:¬(k:Int)=k+1:=jB;have Zl:k<n:=jB;have hd1:List.drop (k+1) L=B:=by rw[hL,hk,<-List.drop_drop,List.drop_left];rfl
 have WA:List.take k L=A:=by rw[hL,hk];exact List.take_left
 refine ab.wO (i:=1) (css:=L.map bu) (X:=(A++B).map bu++[zB]) (l:=[(1,.aF 52 4 (L.map bu))]) jB rfl U'.symm (fun j r h1 h2=>?_) (by rw[List.length_append,List.length_map,List.length_append];simp only[List.length_cons,List.length_nil];omega) ?_ ?_ fun c W5=>?_
 ·simp only[aA]at h1;split at h1
  ·rename_i e;exact(h2 e).elim
  ·cases h1
 ·rw[List.flatten_append,uD,HH];rfl
 ·intro y hy;rcases List.mem_append.1 hy with hy|hy
  ·obtain⟨z,_,rfl⟩:=List.mem_map.1 hy;rfl
  ·rw[List.mem_singleton.1 hy];rfl
 show ab _ _ _ [(1,.aF 52 4 (L.map bu++eW 4 (c-n)))] (fun r l'=>r=.rc 1 c 4 (n-1)/\l'=[(1,.aF 52 4 ((A++B).map bu++[zB]++eW 4 (c-n)))]);have Uq:(eW 4 (c-n)).length=c-n:=uB;generalize eW 4 (c-n)=Sp at*;have Tc:c=(L.map bu++Sp).length:=by rw[List.length_append,U',Uq];omega
 have VH:((L.map bu++Sp).drop (k+1)).take (n-(k+1))=B.map bu:=by rw[List.drop_append_of_le_length jB,<-List.map_drop,hd1];have h1:=List.take_left (l₁:=B.map bu) (l₂:=Sp);rwa [List.length_map,show B.length=n-(k+1) from jB]at h1
 have hgB:=OE B;have V6:(B.map bu).length=n-(k+1):=by rw[List.length_map];omega
 have Uf:k+(n-(k+1))=n-1:=jB;obtain⟨Z,hZ,hZl⟩:∃Z,dr (L.map bu++Sp) k (B.map bu)=(A++B).map bu++[Z]++Sp/\Z.length=4:=by
  obtain⟨z,hz⟩:=M6 (x:=x) B;refine⟨bu z,?_,rfl⟩;have e1:L.map bu++Sp=A.map bu++((x::B).map bu++Sp):=by rw[hL,List.map_append,List.append_assoc]
  have h1:(A.map bu++((x::B).map bu++Sp)).take k=A.map bu:=by have:=List.take_left (l₁:=A.map bu) (l₂:=(x::B).map bu++Sp);rwa [List.length_map,<-hk]at this
  have h2:(A.map bu++((x::B).map bu++Sp)).drop (k+(B.map bu).length)=[bu z]++Sp:=by have h3:=List.drop_left (l₁:=A.map bu) (l₂:=(x::B).map bu++Sp);rw[List.length_map,<-hk]at h3;rw[<-List.drop_drop,h3,List.length_map,List.drop_append_of_le_length jE,<-List.map_drop,hz];rfl
  unfold dr;rw[e1,h1,h2,List.map_append];simp
 have Z4:c=((A++B).map bu++[Z]++Sp).length:=by rw[List.length_append,List.length_append,List.length_map,List.length_append,Uq];simp only[List.length_cons,List.length_nil];omega
 have Wo:dr ((A++B).map bu++[Z]++Sp) (n-1) (List.replicate 1 zB)=(A++B).map bu++[zB]++Sp:=by
  have h1:((A++B).map bu++([Z]++Sp)).take (n-1)=(A++B).map bu:=by have:=List.take_left (l₁:=(A++B).map bu) (l₂:=[Z]++Sp);rwa [List.length_map,List.length_append,show A.length+B.length=n-1 from jB]at this
  have h2:((A++B).map bu++([Z]++Sp)).drop (n-1+1)=Sp:=by have h3:=List.drop_left (l₁:=(A++B).map bu) (l₂:=[Z]++Sp);rw[List.length_map,List.length_append,show A.length+B.length=n-1 from jB]at h3;rw[<-List.drop_drop,h3];rfl
  have e:(A++B).map bu++[Z]++Sp=(A++B).map bu++([Z]++Sp):=List.append_assoc _ _ _;unfold dr;rw[e,h1,List.length_replicate,h2];rfl
 have Vs:n-(n-1)=1:=jB;simp only[List.map_append]at Z4 Wo;generalize WW:L.map bu++Sp=R0 at*;refine aL func95 ntmps95 ?_;refine S ?_
 (have W:=jA Zl (jA U' (jA UD (jA Uf (Vs))));repeat' (first|(refine S2 (zs:=Cx) (c:=(4:Nat)=4/\c=R0.length/\(k+1)+(n-(k+1))<=c) (ys:=B.map bu) rfl Tc jG jG jG rfl jC (by show some (_,(R0.drop (k+1)).take (n-(k+1)))=_;rw[VH]) ⟨rfl,Tc,jB⟩ hgB (by rw[V6];omega) ?_;rw[V6,Uf,hZ])|refine aq fun K hK=>?_|refine au ?_|(with_reducible refine gR 5 ?_);refine dE 5 (bc 0 8) mixed ?_|(refine hK _ _ ?_;clear hK K)|(refine ap ?_ ?_<;>intro hc<;>try exact jz)|(refine D3 (zs:=Cx) rfl Z4 jG jG jG rfl jC rfl jB ?_;rw[Wo])|(refine bU ?_ ?_<;>intro hc<;>try exact jz)|refine ar ?_|exact jI|(clear hK K)))
 (refine bW [.tmp 6] ?_ ?_<;>(try simp only[go_sem]))
def mf(l:List ay)(k:Nat):List ay:=l.take k++l.drop (k+1)
noncomputable def pruneW(p:af)(F:TD->MV->MV)(w:aX)(k:Int):aX×Int:=
 if k<0 then(w,60)else if k=0 then(w,64)
 else(if k<w.cur then{ w with l:=mf w.l k.toNat,cur:=w.cur-1 }else if w.cur=k then Uv p F { w with l:=mf w.l k.toNat,cur:=0 }else{ w with l:=mf w.l k.toNat },0)
def Pv{k j:Nat}(hk:k<l.length)(hj:j<(mf l k).length):nth (mf l k) j=if j<k then nth l j else nth l (j+1):=by
 have I':(l.take k).length=k:=by rw[List.length_take];omega
 unfold mf nth;simp only[List.getD_eq_getElem?_getD];by_cases c:j<k
 ·rw[if_pos c,List.getElem?_append_left jB,List.getElem?_take,if_pos c]
 ·rw[if_neg c,List.getElem?_append_right jB,I',List.getElem?_drop,show k+1+(j-k)=j+1 from jB]
def yF{k:Nat}(hk:k<l.length):(mf l k).length=l.length-1:=by unfold mf;rw[List.length_append,List.length_take,List.length_drop];omega
def fy.erase(h:fy w){k:Nat}(hk:k<w.l.length){c:Int}(h0:0<=c)(h1:c<w.l.length-1):fy { w with l:=mf w.l k,cur:=c }:=
 ⟨by show(mf w.l k).length<=100;rw[yF hk];have:=h.ln;omega,h0,by show c<(mf w.l k).length;rw[yF hk];omega,fun j hj=>by
  have hj:j<(mf w.l k).length:=hj;show BW (nth (mf w.l k) j);rw[Pv hk hj];rw[yF hk]at hj;split
  ·exact h.b j jB
  ·exact h.b (j+1) jB,h.t⟩
section
variable {p:af}(hp:mn p)(Tn:fq p){F:TD->MV->MV}(hF:bQ p (cf p) F)
include hp Tn hF
theorem LL{w:aX}(h:fy w)(nm:TF):aB prog 47 [.agg (ci p),.agg (cS w),rS nm] (.aP [.agg (cS (pruneW p F w (dw nm w.l 0)).1),rI (pruneW p F w (dw nm w.l 0)).2]):=by
 have Uk:=h.ln;have f1:=su w nm jB;have hb:dw nm w.l 0=-1\/0<=dw nm w.l 0/\dw nm w.l 0<w.l.length:=by
  rcases oY nm w.l 0 with⟨e,_⟩|⟨j,h1,h2,_,_⟩
  ·exact .inl e
  ·exact .inr ⟨jB,jB⟩
 generalize dw nm w.l 0=i at*;unfold pruneW;rcases hb with rfl|⟨VD,VQ⟩
 ·rw[jP];refine bM func47 ntmps47 ?_
  (repeat' (first|refine aq fun K hK=>?_|refine au ?_|(refine hK _ _ ?_;clear hK K)|(refine ap ?_ ?_<;>intro hc<;>try exact jz)|refine aV 3 ?_|refine aV 4 ?_|refine bY 6 ?_|refine cp (f1) ?_|(refine bU ?_ ?_<;>intro hc<;>try exact jz)|refine ar ?_|exact jI|(clear hK K)))
  (refine aZ [.cell 6 90,.tmp 7] ?_;try simp only[go_sem])
 rw[jN];obtain⟨k,rfl⟩:=Int.eq_ofNat_of_zero_le VD;have hkm:¬(k:Int)=-1:=jB;by_cases c0:k=0
 ·have c0':(k:Int)=0:=jB;rw[if_pos c0'];refine bM func47 ntmps47 ?_
  (have W:=jA hkm (jA c0 (c0'));repeat' (first|refine aq fun K hK=>?_|refine au ?_|(refine hK _ _ ?_;clear hK K)|(refine ap ?_ ?_<;>intro hc<;>try exact jz)|refine aV 3 ?_|refine aV 4 ?_|refine bY 6 ?_|refine cp (f1) ?_|(refine bU ?_ ?_<;>intro hc<;>try exact jz)|refine ar ?_|exact jI|(clear hK K)))
  (refine aZ [.cell 6 90,.tmp 7] ?_;try simp only[go_sem])
 have c0':¬(k:Int)=0:=jB;rw[if_neg c0'];have hk:k<w.l.length:=jB;have Tc:=zy w.l jB 1;have hde:=Qo (w.l.take k) (w.l.drop (k+1)) w.l (nth w.l k) (by have:=ub hk;rw[<-List.singleton_append,<-List.append_assoc,<-this,List.take_append_drop]) jB w.l.length k (by rw[List.length_take,List.length_drop];omega) (by rw[List.length_take];omega);have Vk:=yF hk;have her:w.l.take k++w.l.drop (k+1)=mf w.l k:=rfl;rw[her]at hde;have hhe:w.cur=k->aB prog 94 [.agg (ci p),.agg (cS { w with l:=mf w.l k,cur:=0 })] (.agg (cS (Uv p F { w with l:=mf w.l k,cur:=0 }))):=fun c=>Cv hp Tn hF (h.erase hk (c:=0) jB jB)
 simp only[Int.toNat_natCast];obtain⟨l,c,t⟩:=w;simp only at*;generalize mf l k=M at*;simp only[cS]at f1;have V2:c<(l.length:Int):=h.c1;by_cases c1:(k:Int)<c
 ·rw[if_pos c1];have c1':c>(k:Int):=c1;simp only[cS];refine bM func47 ntmps47 ?_
  (have W:=jA hkm (jA c0 (jA c0' (c1')));repeat' (first|refine aq fun K hK=>?_|refine au ?_|(refine hK _ _ ?_;clear hK K)|(refine ap ?_ ?_<;>intro hc<;>try exact jz)|refine aV 3 ?_|refine aV 4 ?_|refine bY 6 ?_|refine cp (f1) ?_|refine cm (Tc) ?_|refine cm (hde) ?_|(refine bU ?_ ?_<;>intro hc<;>try exact jz)|refine ar ?_|exact jI|(clear hK K)))
  refine fC [.cell 6 90,.tmp 7] ?_;exact bt.aP (ds:=[.agg [aM bu 4 M,rI (c-1),rI t],rI 0]) ⟨bt.agg (ds:=[aM bu 4 M,rI (c-1),rI t]) ⟨cW.lm M [zB] rfl rfl (by rw[Vk];simp only[List.length_cons,List.length_nil];omega) jB,.same _ rfl,.same _ rfl,trivial⟩,.same _ rfl,trivial⟩
 rw[if_neg c1];have c1':¬c>(k:Int):=c1;by_cases c2:c=k
 ·rw[if_pos c2];have hh2:aB prog 94 [.agg (ci p),.agg [aM bu 4 M,rI 0,rI t]] (.agg (cS (Uv p F ⟨M,0,t⟩))):=hhe c2;clear hhe;generalize Uv p F ⟨M,0,t⟩=W3 at*;have c3:¬(k:Int)>k:=jB;subst c2;clear c1 c1';simp only[cS];refine bM func47 ntmps47 ?_
  (have W:=jA hkm (jA c0 (jA c0' (c3)));repeat' (first|refine Qs [1] 4 [aM bu 4 M,rI k,rI t] [(19,8)] [] ?_ (hc:=by exact⟨cW.lm M [zB] rfl rfl (by rw[Vk];simp only[List.length_cons,List.length_nil];omega) jB,.same _ rfl,.same _ rfl,trivial⟩)|refine aq fun K hK=>?_|refine au ?_|(refine hK _ _ ?_;clear hK K)|(refine ap ?_ ?_<;>intro hc<;>try exact jz)|refine aV 3 ?_|refine aV 4 ?_|refine bY 6 ?_|refine cp (f1) ?_|refine cm (Tc) ?_|refine cm (hde) ?_|refine cp (hh2) ?_|(refine bU ?_ ?_<;>intro hc<;>try exact jz)|refine ar ?_|exact jI|(clear hK K)))
  (refine aZ [.cell 6 90,.tmp 7] ?_;try simp only[go_sem])
  rfl
 ·rw[if_neg c2];simp only[cS];refine bM func47 ntmps47 ?_
  (have W:=jA hkm (jA c0 (jA c0' (jA c1' (c2))));repeat' (first|refine aq fun K hK=>?_|refine au ?_|(refine hK _ _ ?_;clear hK K)|(refine ap ?_ ?_<;>intro hc<;>try exact jz)|refine aV 3 ?_|refine aV 4 ?_|refine bY 6 ?_|refine cp (f1) ?_|refine cm (Tc) ?_|refine cm (hde) ?_|(refine bU ?_ ?_<;>intro hc<;>try exact jz)|refine ar ?_|exact jI|(clear hK K)))
  refine fC [.cell 6 90,.tmp 7] ?_;exact bt.aP (ds:=[.agg [aM bu 4 M,rI c,rI t],rI 0]) ⟨bt.agg (ds:=[aM bu 4 M,rI c,rI t]) ⟨cW.lm M [zB] rfl rfl (by rw[Vk];simp only[List.length_cons,List.length_nil];omega) jB,.same _ rfl,.same _ rfl,trivial⟩,.same _ rfl,trivial⟩
end
end Go.Proofs.YtjpcgmjaipfgdaaGreatDoor
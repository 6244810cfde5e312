/- Lemmas. No conditions. -/
import Derived.Test.YtjpcgmjaipfgdaaGreatDoorBqL
set_option linter.all false
set_option maxHeartbeats 4000000
set_option maxRecDepth 10000
namespace Go.Gd
open Go
def di(nm:TI):List ak->Int->Int
 |[],_=>-1
 |b::l,k=>if b.name=nm then k else di nm l (k+1)
theorem nZ(nm:TI):∀(l:List ak) (k:Int),(di nm l k=-1/\∀j,j<l.length->(nth l j).name≠nm)\/∃j:Nat,j<l.length/\di nm l k=k+j/\(nth l j).name=nm/\∀i,i<j->(nth l i).name≠nm
 |[],k=>.inl ⟨rfl,fun j h=>by simp at h⟩
 |b::l,k=>by
  show((if b.name=nm then k else di nm l (k+1))=-1/\_)\/∃j:Nat,_/\(if b.name=nm then k else di nm l (k+1))=k+j/\_;by_cases c:b.name=nm
  ·rw[if_pos c];exact .inr ⟨0,jE,jB,c,fun i h=>jB⟩
  ·rw[if_neg c];rcases nZ nm l (k+1)with⟨e,h⟩|⟨j,h1,h2,h3,h4⟩
   ·refine .inl ⟨e,fun j hj=>?_⟩;cases j with
    |zero=>exact c
    |succ j=>exact h j (by simpa using hj)
   ·refine .inr ⟨j+1,by simpa using h1,by rw[h2];push_cast;omega,h3,fun i hi=>?_⟩;cases i with
    |zero=>exact c
    |succ i=>exact h4 i jB
variable{nm:TI}
def Ei{l:List ak}{k:Nat}(hk:k<l.length)(h:(nth l k).name=nm)(TS:∀j,j<k->(nth l j).name≠nm):di nm l 0=(k:Int):=by
 rcases nZ nm l 0 with⟨_,h'⟩|⟨j,h1,h2,h3,h4⟩
 ·exact(h' k hk h).elim
 ·rw[h2];rcases Nat.lt_trichotomy j k with c|c|c
  ·exact(TS j c h3).elim
  ·omega
  ·exact(h4 k c h).elim
def BD{l:List ak}(TS:∀j,j<l.length->(nth l j).name≠nm):di nm l 0=-1:=by
 rcases nZ nm l 0 with⟨e,_⟩|⟨j,h1,_,h3,_⟩
 ·exact e
 ·exact(TS j h1 h3).elim
def Sub.ME{x:Bool}{sz:Nat}{cs ds d d':TE}(h:ng cs ds):Sub (.sl x sz [cs] d) (.sl false sz [ds] d'):=fun w v hv=>by
 obtain⟨I',hg⟩:=h.get;cases hv with
 |sl _ _ _ a c vs hn hc hx TU hb hH D' hr=>
  refine .sl false sz [ds] a c vs jE hc jE (fun l hl=>by rw[List.mem_singleton.1 hl,<-I'];exact TU cs jE) hb hH D' fun i j u hi hu=>?_
  have VY:i=0:=by simpa using hi
  subst VY;have hu:ds[j]?=some u:=hu;have hj:j<cs.length:=by rw[I'];exact(List.getElem?_eq_some_iff.1 hu).1
  exact hg j cs[j] u (List.getElem?_eq_getElem hj) hu _ _ (hr 0 j cs[j] jE (List.getElem?_eq_getElem hj))
def aB.sub{P:TO}{f:FuncId}{args:TE}{r r':AV}(h:aB P f args r)(hs:Sub r r'):aB P f args r':=fun w vs h1 h2=> (h w vs h1 h2).mono fun _ _ ⟨v,r0,H',w',e0,e,⟨e1,e2⟩,g1,g2,g3⟩=>⟨v,r',H',w',e0,e,⟨rfl,e2⟩,g1,hs _ _ (e1 ▸ g2),g3⟩
def Bj:TM:=[.string ⟨#[]⟩,.slice none 0 0,.slice none 0 0,.slice none 0 0]
abbrev zB:TE:=List.map AV.raw Bj
def cW.lE{D:TN}{H:Hp}{dd:TE}{i sz m n:Nat}{e:TJ}{α:Type}{enc:α->TE}[he:bC enc sz](l:List α)(more:TC)(hD:D i=true)(hi:H.get i=some (.aG e sz (l.map enc++more)))(hm:m=l.length+more.length)(hn:n=l.length):cW D H (.rs i m sz n) (.sl false sz (l.map enc) dd):=
 .yU dd i sz m n e _ _ hD hi jF jB jF (fun ds Wt=>by obtain⟨x,_,rfl⟩:=List.mem_map.1 Wt;exact he.len x) (mY l) fun k j c d hk h1 h2=>by
  have T4:k<l.length:=jB;have e1:(l.map enc++more).getD k []=enc l[k]:=by rw[List.getD_eq_getElem?_getD,List.getElem?_append_left (by simpa using T4)];simp[T4]
  have e2:(l.map enc).getD k []=enc l[k]:=by simp[T4]
  rw[e1]at h1;rw[e2,h1]at h2;cases h2;exact .same c (qu (fun _ h=>by cases h) _ (lm (he.free _) h1))
end Go.Gd
namespace Go.Proofs.YtjpcgmjaipfgdaaGreatDoor
open Go Go.Gd Tryz Go.Gd.MV
@[go_sem] def qcn(w c:aV):cS w++List.drop 3 (cS c)=cS w:=(rfl)
def Ql(nm:TI)(b:ak):ab prog 91 [.agg (bq b),.pt 3 0 0 0] [(3,.var 9 [rS nm])] (fun r l=>r=rB (decide (b.name=nm))/\l=[(3,.var 9 [rS nm])]):=by
 refine aM func91 ntmps91 ?_;refine S ?_
 (repeat' (first|refine aq fun K hK=>?_|refine ap ?_|(refine hK _ _ ?_;clear hK K)|(refine ao ?_ ?_<;>intro hc<;>try exact jz)|refine bx 9 ?_|(refine bF ?_ ?_<;>intro hc<;>try exact jz)|refine ar ?_|exact jI|(clear hK K)))
 (refine aY [.tmp 3] ?_;try simp only[go_sem])
def PR(nm:TI)(L:List ak)(hL:L.length<=1000):ab prog 90 [aO bq 4 L,.dP 91 [.pt 3 0 0 0]] [(3,.var 9 [rS nm])] (fun r l=>r=rI (di nm L 0)/\l=[(3,.var 9 [rS nm])]):=by
 suffices key:∀z,di nm L 0=z->ab prog 90 [aO bq 4 L,.dP 91 [.pt 3 0 0 0]] [(3,.var 9 [rS nm])] (fun r l=>r=rI z/\l=[(3,.var 9 [rS nm])]) from key _ rfl
 intro z hz;refine aM func90 ntmps90 ?_;refine S ?_
 (repeat' (first|refine aq fun K hK=>?_|refine ap ?_|(refine hK _ _ ?_;clear hK K)|(refine ao ?_ ?_<;>intro hc<;>try exact jz)|(refine bF ?_ ?_<;>intro hc<;>try exact jz)|refine ar ?_|exact jI|(clear hK K)))
 have TX:=hK;clear hK;refine dV (S:=Nat) [(4,2),(8,11)] (fun k=>k<=L.length/\∀j,j<k->(nth L j).name≠nm) (fun k=>[(8,rI k)]) (fun _=>⟨[3],[(3,.var 9 [rS nm])]⟩) (fun k=>L.length-k) 0 ⟨Nat.zero_le _,fun j h=>jB⟩ (dS rfl cv) ?_;rintro k ⟨hk,TS⟩ Kr TR;by_cases O':k<L.length
 ·have T0:=Ql nm (nth L k);by_cases c:(nth L k).name=nm
  ·rw[decide_eq_true c]at T0;have:=Ei O' c TS;rw[hz]at this;subst this;refine S ?_
   (have W:=O';repeat' (first|refine aq fun K hK=>?_|refine ap ?_|(refine hK _ _ ?_;clear hK K)|(refine ao ?_ ?_<;>intro hc<;>try exact jz)|(refine cl T0 ?_)|refine TX _ _ ?_|(refine bF ?_ ?_<;>intro hc<;>try exact jz)|refine ar ?_|exact jI|(clear hK K)))
   (refine aY [.tmp 4] ?_;try simp only[go_sem])
  ·rw[decide_eq_false c]at T0;refine S ?_
   (have W:=O';repeat' (first|refine aq fun K hK=>?_|refine ap ?_|(refine hK _ _ ?_;clear hK K)|(refine ao ?_ ?_<;>intro hc<;>try exact jz)|(refine cl T0 ?_)|refine TX _ _ ?_|(refine bF ?_ ?_<;>intro hc<;>try exact jz)|refine ar ?_|exact jI|(clear hK K)))
   exact TR _ _ (eu (k+1) ⟨jB,fun j hj=>by
    by_cases e:j<k
    ·exact TS j e
    ·rw[show j=k from jB];exact c⟩ (by show L.length-(k+1)<L.length-k;omega) rfl cv)
 ·have:=BD (nm:=nm) (l:=L) fun j hj=>TS j jB
  rw[hz]at this;subst this;refine S ?_
  (have W:=O';repeat' (first|refine aq fun K hK=>?_|refine ap ?_|(refine hK _ _ ?_;clear hK K)|(refine ao ?_ ?_<;>intro hc<;>try exact jz)|refine TX _ _ ?_|(refine bF ?_ ?_<;>intro hc<;>try exact jz)|refine ar ?_|exact jI|(clear hK K)))
  (refine aY [.tmp 4] ?_;try simp only[go_sem])
def re(w:aV)(nm:TI)(hL:w.l.length<=1000):aB prog 43 [.agg (cS w),rS nm] (rI (di nm w.l 0)):=by
 have h:=PR nm w.l hL;generalize di nm w.l 0=z at*;refine bG func43 ntmps43 ?_
 (repeat' (first|refine aq fun K hK=>?_|refine ap ?_|(refine hK _ _ ?_;clear hK K)|(refine ao ?_ ?_<;>intro hc<;>try exact jz)|refine aT 2 ?_|refine aT 3 ?_|refine cm (h) ?_|(refine bF ?_ ?_<;>intro hc<;>try exact jz)|refine ar ?_|exact jI|(clear hK K)))
 (refine aY [.tmp 4] ?_;try simp only[go_sem])
def tS:aV:=⟨[⟨(⟨#[109,97,105,110]⟩:TI),[],[],[]⟩],0,0⟩
def Hx:aB prog 40 [] (.agg (cS tS)):=by
 refine aB.sub (r:=.agg [.sl true 4 [[.raw (.string (⟨#[109,97,105,110]⟩:TI)),.raw (.slice none 0 0),.raw (.slice none 0 0),.raw (.slice none 0 0)]] [],rI 0,rI 0]) ?_ (I2 (ds:=cS tS) ⟨Sub.ME ⟨.refl _,.nil _ _,.nil _ _,.nil _ _,trivial⟩,.refl _,.refl _,trivial⟩);refine bG func40 ntmps40 ?_
 (repeat' (first|refine aq fun K hK=>?_|refine ap ?_|(refine hK _ _ ?_;clear hK K)|(refine ao ?_ ?_<;>intro hc<;>try exact jz)|refine cH 0 ?_|(refine bF ?_ ?_<;>intro hc<;>try exact jz)|refine ar ?_|exact jI|(clear hK K)))
 (refine aY [.cell 0 90] ?_;try simp only[go_sem])
structure BW(b:ak):Prop where
 ok:gJ b
 i16:b.aC.length<=16
 s8:b.base.length+b.own.length<=8
def BW.qZ{b:ak}(h:BW b):(eT b).length<=8:=by have:=h.s8;unfold eT;rw[zL];omega
structure fp(w:aV):Prop where
 ln:w.l.length<=100
 c0:0<=w.cur
 c1:w.cur<w.l.length
 b:∀k,k<w.l.length->BW (nth w.l k)
 t:cf w.time
section
variable (p:af)(F:TG->MV->MV)
noncomputable def comesB(b:ak)(t:Int):Int:=(atB p F b t).time
noncomputable def curB(w:aV):ak:=nth w.l w.cur.toNat
noncomputable def US(w:aV):aV:={ w with time:=comesB p F (curB w) w.time }
noncomputable def goW(w:aV)(t:Int):aV×Int:=if t<0\/200<t\/comesB p F (curB w) t<t then(w,63)else({ w with time:=t },0)
noncomputable def switchW(w:aV)(nm:TI):aV×Int:=if di nm w.l 0<0 then(w,60)else(US p F { w with cur:=di nm w.l 0 },0)
end
section
variable {p:af}(hp:mA p)(T0:fu p){F:TG->MV->MV}(hF:bQ p (ci p) F)
include hp T0 hF
theorem DV{b:ak}(h:gJ b)(t:Int)(ht:cf t):aB prog 97 [.agg (cd p),.agg (bq b),rI t] (rI (comesB p F b t)):=by
 have Xi:=vf h;obtain⟨k,EE,XV,Vw,_,_⟩:=AZ hp hF (by have:=h.inl;omega) h.inr (ya h.lJ) T0 (by have:=h.ou;omega) t ht;have key:ab prog 97 [.agg (cd p),.agg (bq b),rI t] [] fun r l=>r=rI (comesB p F b t)/\l=EE:=by
  unfold comesB atB;generalize shotM p F b.aC (eT b) t=Sh at*;generalize badM p F b.aC (eT b) t=z at*;generalize eT b=A at*;have Tu:=XV.e2.low;refine aM func97 ntmps97 ?_
  (have W:=Tu;repeat' (first|refine aq fun K hK=>?_|refine ap ?_|(with_reducible refine gR 1 ?_);refine dC 1 ([],[14],[16]) [] (aW 0 12) mixed ?_|(refine hK _ _ ?_;clear hK K)|(refine ao ?_ ?_<;>intro hc<;>try exact jz)|refine aT 3 ?_|refine aT 4 ?_|refine cp (Xi) ?_|refine cq (Xi) ?_|(refine nU (e:=[]) XV (fun j _ h=>(h rfl).elim) ?_)|refine cT Vw ?_|(refine bF ?_ ?_<;>intro hc<;>try exact jz)|refine ar ?_|exact jI|(clear hK K)))
  exact dY (e:=[]) (B:=[]) rfl AD XV.e2 (tl:=[(3,.var 32 (cd p)),(4,.var 52 (bq b))]) (fun _=>rfl) (dm jC (dm jC dD)) [.tmp 6]
 exact aB.ws key (.same _ rfl)
theorem Ab{w:aV}(h:fp w):aB prog 94 [.agg (cd p),.agg (cS w)] (.agg (cS (US p F w))):=by
 have Vk:=h.c0;have T9:=h.c1;have hk:w.cur.toNat<w.l.length:=jB;have hb:=(h.b _ hk).ok;have Xj:=DV hp T0 hF hb w.time h.t;change aB _ _ _ (rI (comesB p F (curB w) w.time))at Xj
 unfold US;generalize comesB p F (curB w) w.time=z at*;refine bG func94 ntmps94 ?_
 (have W:=jA Vk T9;repeat' (first|refine aq fun K hK=>?_|refine ap ?_|(with_reducible refine gR 1 ?_);refine dC 1 ([],[14],[]) [] (aW 0 12) mixed ?_|(refine hK _ _ ?_;clear hK K)|(refine ao ?_ ?_<;>intro hc<;>try exact jz)|refine aT 2 ?_|refine aT 3 ?_|refine cH 4 ?_|refine cq (Xj) ?_|refine cp (Xj) ?_|(refine bF ?_ ?_<;>intro hc<;>try exact jz)|refine ar ?_|exact jI|(clear hK K)))
 (refine aY [.cell 4 90] ?_;try simp only[go_sem])
theorem EW{w:aV}(h:fp w)(t:Int)(ht:cf t):aB prog 48 [.agg (cd p),.agg (cS w),rI t] (.aQ [.agg (cS (goW p F w t).1),rI (goW p F w t).2]):=by
 have Vk:=h.c0;have T9:=h.c1;have hk:w.cur.toNat<w.l.length:=jB;have Xj:=DV hp T0 hF (h.b _ hk).ok t ht;change aB _ _ _ (rI (comesB p F (curB w) t))at Xj
 unfold goW;generalize comesB p F (curB w) t=z at*;by_cases c1:t<0
 ·rw[if_pos (.inl c1)];refine bG func48 ntmps48 ?_
  (have W:=jA c1 (jA Vk (T9));repeat' (first|refine aq fun K hK=>?_|refine ap ?_|(with_reducible refine gR 1 ?_);refine dC 1 ([],[23],[]) [] (aW 0 19) mixed ?_|(refine hK _ _ ?_;clear hK K)|(refine ao ?_ ?_<;>intro hc<;>try exact jz)|refine aT 3 ?_|refine aT 4 ?_|refine cH 6 ?_|refine⟨rI 0,?_⟩|(refine bF ?_ ?_<;>intro hc<;>try exact jz)|refine ar ?_|exact jI|(clear hK K)))
  (refine aY [.cell 6 90,.tmp 7] ?_;try simp only[go_sem])
 by_cases c2:200<t
 ·rw[if_pos (.inr (.inl c2))];refine bG func48 ntmps48 ?_
  (have W:=jA c1 (jA c2 (jA Vk (T9)));repeat' (first|refine aq fun K hK=>?_|refine ap ?_|(with_reducible refine gR 1 ?_);refine dC 1 ([],[23],[]) [] (aW 0 19) mixed ?_|(refine hK _ _ ?_;clear hK K)|(refine ao ?_ ?_<;>intro hc<;>try exact jz)|refine aT 3 ?_|refine aT 4 ?_|refine cH 6 ?_|refine⟨rI 0,?_⟩|(refine bF ?_ ?_<;>intro hc<;>try exact jz)|refine ar ?_|exact jI|(clear hK K)))
  (refine aY [.cell 6 90,.tmp 7] ?_;try simp only[go_sem])
 by_cases c3:z<t
 ·rw[if_pos (.inr (.inr c3))];refine bG func48 ntmps48 ?_
  (have W:=jA c1 (jA c2 (jA c3 (jA Vk (T9))));repeat' (first|refine aq fun K hK=>?_|refine ap ?_|(with_reducible refine gR 1 ?_);refine dC 1 ([],[23],[]) [] (aW 0 19) mixed ?_|(refine hK _ _ ?_;clear hK K)|(refine ao ?_ ?_<;>intro hc<;>try exact jz)|refine aT 3 ?_|refine aT 4 ?_|refine cH 6 ?_|(first|refine cg (Xj) ?_|refine ug (Xj) ?_)|refine cq (Xj) ?_|(refine bF ?_ ?_<;>intro hc<;>try exact jz)|refine ar ?_|exact jI|(clear hK K)))
  (refine aY [.cell 6 90,.tmp 7] ?_;try simp only[go_sem])
 ·rw[if_neg (by rintro(h|h|h);exact c1 h;exact c2 h;exact c3 h)];refine bG func48 ntmps48 ?_
  (have W:=jA c1 (jA c2 (jA c3 (jA Vk (T9))));repeat' (first|refine aq fun K hK=>?_|refine ap ?_|(with_reducible refine gR 1 ?_);refine dC 1 ([],[23],[]) [] (aW 0 19) mixed ?_|(refine hK _ _ ?_;clear hK K)|(refine ao ?_ ?_<;>intro hc<;>try exact jz)|refine aT 3 ?_|refine aT 4 ?_|refine cH 6 ?_|(first|refine cg (Xj) ?_|refine ug (Xj) ?_)|refine cq (Xj) ?_|(refine bF ?_ ?_<;>intro hc<;>try exact jz)|refine ar ?_|exact jI|(clear hK K)))
  (refine aY [.cell 6 90,.tmp 7] ?_;try simp only[go_sem])
theorem SH{w:aV}(h:fp w)(nm:TI):aB prog 46 [.agg (cd p),.agg (cS w),rS nm] (.aQ [.agg (cS (switchW p F w nm).1),rI (switchW p F w nm).2]):=by
 have UE:=h.ln;have hf:=re w nm jB;have hh:¬di nm w.l 0<0->aB prog 94 [.agg (cd p),.agg (cS { w with cur:=di nm w.l 0 })] (.agg (cS (US p F { w with cur:=di nm w.l 0 }))):=fun c=>by
  rcases nZ nm w.l 0 with⟨e,_⟩|⟨j,h1,h2,_,_⟩
  ·rw[e]at c;omega
  ·exact Ab hp T0 hF ⟨h.ln,by show 0<=di nm w.l 0;omega,by show di nm w.l 0<w.l.length;omega,h.b,h.t⟩
 unfold switchW;generalize di nm w.l 0=k at*;by_cases c:k<0
 ·rw[if_pos c];refine bG func46 ntmps46 ?_
  (have W:=c;repeat' (first|refine aq fun K hK=>?_|refine ap ?_|(refine hK _ _ ?_;clear hK K)|(refine ao ?_ ?_<;>intro hc<;>try exact jz)|refine aT 3 ?_|refine aT 4 ?_|refine cH 6 ?_|refine cp (hf) ?_|(refine bF ?_ ?_<;>intro hc<;>try exact jz)|refine ar ?_|exact jI|(clear hK K)))
  (refine aY [.cell 6 90,.tmp 7] ?_;try simp only[go_sem])
 ·rw[if_neg c];have hh:=hh c;generalize US p F { w with cur:=k }=W2 at*;refine bG func46 ntmps46 ?_
  (have W:=c;repeat' (first|refine aq fun K hK=>?_|refine ap ?_|(refine hK _ _ ?_;clear hK K)|(refine ao ?_ ?_<;>intro hc<;>try exact jz)|refine aT 3 ?_|refine aT 4 ?_|refine cH 6 ?_|refine cp (hf) ?_|refine cp (hh) ?_|(refine bF ?_ ?_<;>intro hc<;>try exact jz)|refine ar ?_|exact jI|(clear hK K)))
  (refine aY [.cell 6 90,.tmp 7] ?_;try simp only[go_sem])
end
def yp(l:List ak)(hl:l.length<=1000)(i:Nat):ab prog 96 [aO bq 4 l] [] (fun r l'=>r=.rs i l.length 4 l.length/\l'=[(i,.aG 52 4 (l.map bq))]):=by
 refine aM func96 ntmps96 ?_
 (repeat' (first|refine aq fun K hK=>?_|refine ap ?_|(refine hK _ _ ?_;clear hK K)|(refine ao ?_ ?_<;>intro hc<;>try exact jz)|(with_reducible refine fun(b:Bool) hb=>?_)|refine uU i ?_|(refine bF ?_ ?_<;>intro hc<;>try exact jz)|refine ar ?_|exact jI|(clear hK K)))
 ·have Uq:l=[]:=by simpa using hb hc
  subst Uq;exact xt i 52 4 jC [.tmp 2] rfl rfl trivial
 ·(refine bV [.tmp 2] ?_ ?_<;>(try simp only[go_sem]))
def B9(w:aV)(b:ak)(k:Int)(hl:w.l.length<=100)(h0:0<=k)(h1:k<w.l.length):aB prog 98 [.agg (cS w),rI k,.agg (bq b)] (.agg (cS { w with l:=w.l.set k.toNat b })):=by
 have Tx:=yp w.l jB 1;obtain⟨l,c,t⟩:=w;obtain⟨n,rfl⟩:=Int.eq_ofNat_of_zero_le h0;simp only[cS]at*;have hn:n<l.length:=by simpa using h1
 refine bG func98 ntmps98 ?_
 (have W:=hn;repeat' (first|refine aq fun K hK=>?_|refine ap ?_|(refine hK _ _ ?_;clear hK K)|(refine ao ?_ ?_<;>intro hc<;>try exact jz)|refine aT 3 ?_|refine aT 5 ?_|refine cH 6 ?_|refine cm (Tx) ?_|(refine bF ?_ ?_<;>intro hc<;>try exact jz)|refine ar ?_|exact jI|(clear hK K)))
 refine fA [.cell 6 90] ?_;exact bu.agg (ds:=[aO bq 4 (l.set n b),rI c,rI t]) ⟨cW.row (l.set n b) rfl rfl (by rw[List.length_set]),.same _ rfl,.same _ rfl,trivial⟩
variable{l:List ak}
def rR{n k:Nat}{b:ak}(hk:k<l.length):nth (l.set n b) k=if n=k then b else nth l k:=by
 unfold nth;rw[List.getD_eq_getElem?_getD,List.getD_eq_getElem?_getD,List.getElem?_set];by_cases c:n=k
 ·subst c;rw[if_pos rfl,if_pos rfl,if_pos hk];rfl
 ·rw[if_neg c,if_neg c]
theorem fp.set{w:aV}(h:fp w)(n:Nat){b:ak}(hb:BW b):fp { w with l:=w.l.set n b }:=
 ⟨by show(w.l.set n b).length<=100;rw[List.length_set];exact h.ln,h.c0,by show w.cur<(w.l.set n b).length;rw[List.length_set];exact h.c1,fun k hk=>by
  have hk:k<w.l.length:=by simpa using hk
  show BW (nth (w.l.set n b) k);rw[rR hk];split
  ·exact hb
  ·exact h.b k hk,h.t⟩
def o8(w:aV)(b:ak)(e:Int):aV×Int:=if e≠0 then(w,e)else({ w with l:=w.l.set w.cur.toNat b },0)
section
variable (p:af)(F:TG->MV->MV)
noncomputable def addW(w:aV)(nm:TI)(v:aj):aV×Int:=o8 w (addB p F (curB w) ⟨w.time,nm,v⟩).1 (addB p F (curB w) ⟨w.time,nm,v⟩).2
noncomputable def rebaseW(w:aV)(i k:Int):aV×Int×Int:=
 if i<0\/k<0 then(w,0,60)else if i=k then(w,0,1)else if i=0 then(w,0,64)
 else if(rebaseB p F (nth w.l i.toNat) (nth w.l k.toNat)).2.2≠0 then(w,(rebaseB p F (nth w.l i.toNat) (nth w.l k.toNat)).2)
 else(if w.cur=i then US p F { w with l:=w.l.set i.toNat (rebaseB p F (nth w.l i.toNat) (nth w.l k.toNat)).1 }else{ w with l:=w.l.set i.toNat (rebaseB p F (nth w.l i.toNat) (nth w.l k.toNat)).1 },0,0)
end
noncomputable def appendW(w:aV)(n:Int):aV×Int:=o8 w (pd (curB w) n).1 (pd (curB w) n).2
def rf(ok:Bool)(w:aV)(old nm:TI):aV×Int:=
 if di old w.l 0<0 then(w,60)else if ok=false then(w,1)else if 0<=di nm w.l 0 then(w,61)
 else({ w with l:=w.l.set (di old w.l 0).toNat { nth w.l (di old w.l 0).toNat with name:=nm } },0)
variable{w:aV}
def IP(h:fp w)(b:ak)(e:Int):aB prog 138 [.agg (cS w),.agg (bq b),rI e] (.aQ [.agg (cS (o8 w b e).1),rI (o8 w b e).2]):=by
 have hi:=B9 w b w.cur h.ln h.c0 h.c1;unfold o8;by_cases c:e=0
 ·rw[if_neg (fun h=>h c)];generalize ({ w with l:=w.l.set w.cur.toNat b }:aV)=W2 at*;refine bG func138 ntmps138 ?_
  (have W:=c;repeat' (first|refine aq fun K hK=>?_|refine ap ?_|(refine hK _ _ ?_;clear hK K)|(refine ao ?_ ?_<;>intro hc<;>try exact jz)|refine aT 3 ?_|refine aT 4 ?_|refine cH 6 ?_|refine cp (hi) ?_|(refine bF ?_ ?_<;>intro hc<;>try exact jz)|refine ar ?_|exact jI|(clear hK K)))
  (refine aY [.cell 6 90,.tmp 7] ?_;try simp only[go_sem])
 ·rw[if_pos c];refine bG func138 ntmps138 ?_
  (have W:=c;repeat' (first|refine aq fun K hK=>?_|refine ap ?_|(refine hK _ _ ?_;clear hK K)|(refine ao ?_ ?_<;>intro hc<;>try exact jz)|refine aT 3 ?_|refine aT 4 ?_|refine cH 6 ?_|(refine bF ?_ ?_<;>intro hc<;>try exact jz)|refine ar ?_|exact jI|(clear hK K)))
  (refine aY [.cell 6 90,.tmp 7] ?_;try simp only[go_sem])
def JJ(h:fp w)(n:Int):aB prog 88 [.agg (cS w),rI n] (.aQ [.agg (cS (appendW w n).1),rI (appendW w n).2]):=by
 have Vk:=h.c0;have T9:=h.c1;have hk:w.cur.toNat<w.l.length:=jB;have h1:=RR (h.b _ hk).ok n;change aB _ _ _ (.aQ [.agg (bq (pd (curB w) n).1),rI (pd (curB w) n).2])at h1
 have h2:=fun b e=>IP h b e
 unfold appendW;generalize pd (curB w) n=X at*;obtain⟨xb,xe⟩:=X;have h2:=h2 xb xe;simp only at h1 ⊢;generalize o8 w xb xe=Y at*;refine bG func88 ntmps88 ?_
 (have W:=jA Vk T9;repeat' (first|refine aq fun K hK=>?_|refine ap ?_|(refine hK _ _ ?_;clear hK K)|(refine ao ?_ ?_<;>intro hc<;>try exact jz)|refine aT 2 ?_|refine cH 4 ?_|refine cH 6 ?_|refine cp (h1) ?_|refine cp (h2) ?_|(refine bF ?_ ?_<;>intro hc<;>try exact jz)|refine ar ?_|exact jI|(clear hK K)))
 (refine aY [.cell 4 90,.tmp 5] ?_;try simp only[go_sem])
def R5(h:fp w)(old nm:TI):aB prog 49 [.agg (cS w),rS old,rS nm] (.aQ [.agg (cS (rf (io nm) w old nm).1),rI (rf (io nm) w old nm).2]):=by
 have UE:=h.ln;have f1:=re w old jB;have f2:=re w nm jB;have f3:=AW nm;have hi:=fun b=>B9 w b (di old w.l 0) h.ln
 have hb:di old w.l 0<w.l.length:=by
  rcases nZ old w.l 0 with⟨e,_⟩|⟨j,h1,h2,_,_⟩
  ·rw[e];omega
  ·rw[h2];omega
 unfold rf;generalize di old w.l 0=k at*;generalize di nm w.l 0=m at*;generalize io nm=ok at*;by_cases c1:k<0
 ·rw[if_pos c1];refine bG func49 ntmps49 ?_
  (have W:=c1;repeat' (first|refine aq fun K hK=>?_|refine ap ?_|(refine hK _ _ ?_;clear hK K)|(refine ao ?_ ?_<;>intro hc<;>try exact jz)|refine aT 3 ?_|refine cH 6 ?_|refine cp (f1) ?_|(refine bF ?_ ?_<;>intro hc<;>try exact jz)|refine ar ?_|exact jI|(clear hK K)))
  (refine aY [.cell 6 90,.tmp 7] ?_;try simp only[go_sem])
 rw[if_neg c1];by_cases c2:ok=false
 ·subst c2;rw[if_pos rfl];refine bG func49 ntmps49 ?_
  (have W:=c1;repeat' (first|refine aq fun K hK=>?_|refine ap ?_|(refine hK _ _ ?_;clear hK K)|(refine ao ?_ ?_<;>intro hc<;>try exact jz)|refine aT 3 ?_|refine cH 6 ?_|refine cp (f1) ?_|refine cp (f3) ?_|(refine bF ?_ ?_<;>intro hc<;>try exact jz)|refine ar ?_|exact jI|(clear hK K)))
  (refine aY [.cell 6 90,.tmp 7] ?_;try simp only[go_sem])
 have c2:ok=true:=by cases ok<;>simp_all
 subst c2;rw[if_neg jC];by_cases c3:0<=m
 ·rw[if_pos c3];have c3':m >= 0:=c3;refine bG func49 ntmps49 ?_
  (have W:=jA c1 (c3');repeat' (first|refine aq fun K hK=>?_|refine ap ?_|(refine hK _ _ ?_;clear hK K)|(refine ao ?_ ?_<;>intro hc<;>try exact jz)|refine aT 3 ?_|refine cH 6 ?_|refine cp (f1) ?_|refine cp (f3) ?_|refine cp (f2) ?_|(refine bF ?_ ?_<;>intro hc<;>try exact jz)|refine ar ?_|exact jI|(clear hK K)))
  (refine aY [.cell 6 90,.tmp 7] ?_;try simp only[go_sem])
 ·rw[if_neg c3];have c3':¬m >= 0:=c3;obtain⟨n,rfl⟩:=Int.eq_ofNat_of_zero_le (show 0<=k from jB);have hn:n<w.l.length:=jB;have hi:=hi { nth w.l n with name:=nm } jB hb;simp only[Int.toNat_natCast]at hi ⊢;generalize ({ w with l:=w.l.set n { nth w.l n with name:=nm } }:aV)=W2 at*;refine bG func49 ntmps49 ?_
  (have W:=jA c1 (jA c3' (hn));repeat' (first|refine aq fun K hK=>?_|refine ap ?_|(refine hK _ _ ?_;clear hK K)|(refine ao ?_ ?_<;>intro hc<;>try exact jz)|refine aT 3 ?_|refine cH 6 ?_|refine cH 9 ?_|refine cp (f1) ?_|refine cp (f3) ?_|refine cp (f2) ?_|refine cp (hi) ?_|(refine bF ?_ ?_<;>intro hc<;>try exact jz)|refine ar ?_|exact jI|(clear hK K)))
  (refine aY [.cell 6 90,.tmp 7] ?_;try simp only[go_sem])
section
variable {p:af}(hp:mA p)(T0:fu p){F:TG->MV->MV}(hF:bQ p (ci p) F)
include hp T0 hF
theorem Me{w:aV}(h:fp w)(nm:TI){v:aj}(hv:cf v.n):aB prog 87 [.agg (cd p),.agg (cS w),rS nm,.agg (bS v)] (.aQ [.agg (cS (addW p F w nm v).1),rI (addW p F w nm v).2]):=by
 have Vk:=h.c0;have T9:=h.c1;have hk:w.cur.toNat<w.l.length:=jB;have h1:=Mz hp T0 hF (h.b _ hk).ok (x:=⟨w.time,nm,v⟩) hv;change aB _ _ _ (.aQ [.agg (bq (addB p F (curB w) ⟨w.time,nm,v⟩).1),rI (addB p F (curB w) ⟨w.time,nm,v⟩).2])at h1
 have h2:=fun b e=>IP h b e
 unfold addW;generalize addB p F (curB w) ⟨w.time,nm,v⟩=X at*;obtain⟨xb,xe⟩:=X;have h2:=h2 xb xe;simp only at h1 ⊢;generalize o8 w xb xe=Y at*;refine bG func87 ntmps87 ?_
 (have W:=jA Vk T9;repeat' (first|refine aq fun K hK=>?_|refine ap ?_|(with_reducible refine gR 1 ?_);refine dC 1 ([],[],[25]) [16] (aW 0 19) mixed ?_|(refine hK _ _ ?_;clear hK K)|(refine ao ?_ ?_<;>intro hc<;>try exact jz)|refine aT 4 ?_|refine aT 5 ?_|refine aT 7 ?_|refine cH 8 ?_|refine cH 10 ?_|refine cN h1 ?_|refine cp (h2) ?_|(refine bF ?_ ?_<;>intro hc<;>try exact jz)|refine ar ?_|exact jI|(clear hK K)))
 (refine aY [.cell 8 90,.tmp 9] ?_;try simp only[go_sem])
theorem N4{w:aV}(h:fp w)(a o:TI):aB prog 89 [.agg (cd p),.agg (cS w),rS a,rS o] (.aQ [.agg (cS (rebaseW p F w (di a w.l 0) (di o w.l 0)).1),rI (rebaseW p F w (di a w.l 0) (di o w.l 0)).2.1,rI (rebaseW p F w (di a w.l 0) (di o w.l 0)).2.2]):=by
 have UE:=h.ln;have f1:=re w a jB;have f2:=re w o jB;have hb:∀nm,di nm w.l 0<w.l.length:=fun nm=>by
  rcases nZ nm w.l 0 with⟨e,_⟩|⟨j,h1,h2,_,_⟩
  ·rw[e];omega
  ·rw[h2];omega
 have Vm:=hb a;have VG:=hb o;clear hb;generalize di a w.l 0=i at*;generalize di o w.l 0=k at*;unfold rebaseW;by_cases c1:i<0\/k<0
 ·rw[if_pos c1];have c1':(if i<k then i else k)<0:=by split<;>omega
  refine bG func89 ntmps89 ?_
  (have W:=c1';repeat' (first|refine aq fun K hK=>?_|refine ap ?_|(with_reducible refine gR 1 ?_);refine dC 1 ([],[18,21],[]) [] (aW 0 8) mixed ?_|(with_reducible refine gR 8 ?_);refine dC 8 ([],[],[49]) [16] (aW 0 20) mixed ?_|(refine hK _ _ ?_;clear hK K)|(refine ao ?_ ?_<;>intro hc<;>try exact jz)|refine aT 4 ?_|refine aT 5 ?_|refine cH 8 ?_|refine cq (f1) ?_|refine cq (f2) ?_|(refine bF ?_ ?_<;>intro hc<;>try exact jz)|refine ar ?_|exact jI|(clear hK K)))
  (refine aY [.cell 8 90,.tmp 9,.tmp 10] ?_;try simp only[go_sem])
 rw[if_neg c1];obtain⟨ni,rfl⟩:=Int.eq_ofNat_of_zero_le (show 0<=i from jB);obtain⟨nk,rfl⟩:=Int.eq_ofNat_of_zero_le (show 0<=k from jB);have c1':¬(if(ni:Int)<nk then(ni:Int)else nk)<0:=by split<;>omega
 have hi:ni<w.l.length:=jB;have hk:nk<w.l.length:=jB;by_cases c2:ni=nk
 ·have c2':(ni:Int)=nk:=jB;rw[if_pos c2'];refine bG func89 ntmps89 ?_
  (have W:=jA c1' (jA c2 (c2'));repeat' (first|refine aq fun K hK=>?_|refine ap ?_|(with_reducible refine gR 1 ?_);refine dC 1 ([],[18,21],[]) [] (aW 0 8) mixed ?_|(with_reducible refine gR 8 ?_);refine dC 8 ([],[],[49]) [16] (aW 0 20) mixed ?_|(refine hK _ _ ?_;clear hK K)|(refine ao ?_ ?_<;>intro hc<;>try exact jz)|refine aT 4 ?_|refine aT 5 ?_|refine cH 8 ?_|refine cH 13 ?_|refine cq (f1) ?_|refine cq (f2) ?_|(refine bF ?_ ?_<;>intro hc<;>try exact jz)|refine ar ?_|exact jI|(clear hK K)))
  (refine aY [.cell 8 90,.tmp 9,.tmp 10] ?_;try simp only[go_sem])
 have c2':¬(ni:Int)=nk:=jB;rw[if_neg c2'];by_cases c3:ni=0
 ·have c3':(ni:Int)=0:=jB;rw[if_pos c3'];refine bG func89 ntmps89 ?_
  (have W:=jA c1' (jA c2 (jA c2' (jA c3 (c3'))));repeat' (first|refine aq fun K hK=>?_|refine ap ?_|(with_reducible refine gR 1 ?_);refine dC 1 ([],[18,21],[]) [] (aW 0 8) mixed ?_|(with_reducible refine gR 8 ?_);refine dC 8 ([],[],[49]) [16] (aW 0 20) mixed ?_|(refine hK _ _ ?_;clear hK K)|(refine ao ?_ ?_<;>intro hc<;>try exact jz)|refine aT 4 ?_|refine aT 5 ?_|refine cH 8 ?_|refine cH 13 ?_|refine cq (f1) ?_|refine cq (f2) ?_|(refine bF ?_ ?_<;>intro hc<;>try exact jz)|refine ar ?_|exact jI|(clear hK K)))
  (refine aY [.cell 8 90,.tmp 9,.tmp 10] ?_;try simp only[go_sem])
 have c3':¬(ni:Int)=0:=jB;rw[if_neg c3'];have h1:=Lu hp T0 hF (h.b _ hi).ok (h.b _ hk).ok (by have:=(h.b _ hk).qZ;omega);have UW:=fun b=>B9 w b ni UE jB jB
 have Yw:(rebaseB p F (nth w.l ni) (nth w.l nk)).2.2=0->BW (rebaseB p F (nth w.l ni) (nth w.l nk)).1:=by
  have g1:=h.b _ hi;have g2:=h.b _ hk;have g3:=g1.ok.j9 g2.ok (by have:=g2.qZ;omega);unfold rebaseB;split
  ·intro h;cases h
  rename_i q;split
  ·intro h;cases h
  intro _;exact⟨g3,g2.i16,by show(eT (nth w.l nk)).length+(nth w.l ni).own.length<=8;omega⟩
 simp only[Int.toNat_natCast];generalize rebaseB p F (nth w.l ni) (nth w.l nk)=X at*;obtain⟨xb,xn,xe⟩:=X;simp only at h1 Yw ⊢;by_cases c4:xe=0
 rotate_left
 ·rw[if_pos c4];refine bG func89 ntmps89 ?_
  (have W:=jA c1' (jA c2 (jA c2' (jA c3 (jA c3' (jA c4 (jA hi (hk)))))));repeat' (first|refine aq fun K hK=>?_|refine ap ?_|(with_reducible refine gR 1 ?_);refine dC 1 ([],[18,21],[]) [] (aW 0 8) mixed ?_|(with_reducible refine gR 8 ?_);refine dC 8 ([],[],[49]) [16] (aW 0 20) mixed ?_|(refine hK _ _ ?_;clear hK K)|(refine ao ?_ ?_<;>intro hc<;>try exact jz)|refine aT 4 ?_|refine aT 5 ?_|refine cH 8 ?_|refine cH 13 ?_|refine cq (f1) ?_|refine cq (f2) ?_|refine cN h1 ?_|(refine bF ?_ ?_<;>intro hc<;>try exact jz)|refine ar ?_|exact jI|(clear hK K)))
  (refine aY [.cell 8 90,.tmp 9,.tmp 10] ?_;try simp only[go_sem])
 rw[if_neg (fun h=>h c4)];have UW:=UW xb;simp only[Int.toNat_natCast]at UW;have hw2:fp { w with l:=w.l.set ni xb }:=h.set ni (Yw c4);by_cases c5:w.cur=ni
 ·rw[if_pos c5];have hhe:=Ab hp T0 hF hw2;have c5':({ w with l:=w.l.set ni xb }:aV).cur=ni:=c5;generalize ({ w with l:=w.l.set ni xb }:aV)=W2 at*;generalize US p F W2=W3 at*;refine bG func89 ntmps89 ?_
  (have W:=jA c1' (jA c2 (jA c2' (jA c3 (jA c3' (jA c4 (jA c5' (jA hi (hk))))))));repeat' (first|refine aq fun K hK=>?_|refine ap ?_|(with_reducible refine gR 1 ?_);refine dC 1 ([],[18,21],[]) [] (aW 0 8) mixed ?_|(with_reducible refine gR 8 ?_);refine dC 8 ([],[],[49]) [16] (aW 0 20) mixed ?_|(refine hK _ _ ?_;clear hK K)|(refine ao ?_ ?_<;>intro hc<;>try exact jz)|refine aT 4 ?_|refine aT 5 ?_|refine cH 8 ?_|refine cH 13 ?_|refine cq (f1) ?_|refine cq (f2) ?_|refine cN h1 ?_|refine cp (UW) ?_|refine cp (hhe) ?_|(refine bF ?_ ?_<;>intro hc<;>try exact jz)|refine ar ?_|exact jI|(clear hK K)))
  (refine aY [.cell 8 90,.tmp 9,.tmp 10] ?_;try simp only[go_sem])
 ·rw[if_neg c5];have c5':¬({ w with l:=w.l.set ni xb }:aV).cur=ni:=c5;generalize ({ w with l:=w.l.set ni xb }:aV)=W2 at*;refine bG func89 ntmps89 ?_
  (have W:=jA c1' (jA c2 (jA c2' (jA c3 (jA c3' (jA c4 (jA c5' (jA hi (hk))))))));repeat' (first|refine aq fun K hK=>?_|refine ap ?_|(with_reducible refine gR 1 ?_);refine dC 1 ([],[18,21],[]) [] (aW 0 8) mixed ?_|(with_reducible refine gR 8 ?_);refine dC 8 ([],[],[49]) [16] (aW 0 20) mixed ?_|(refine hK _ _ ?_;clear hK K)|(refine ao ?_ ?_<;>intro hc<;>try exact jz)|refine aT 4 ?_|refine aT 5 ?_|refine cH 8 ?_|refine cH 13 ?_|refine cq (f1) ?_|refine cq (f2) ?_|refine cN h1 ?_|refine cp (UW) ?_|(refine bF ?_ ?_<;>intro hc<;>try exact jz)|refine ar ?_|exact jI|(clear hK K)))
  (refine aY [.cell 8 90,.tmp 9,.tmp 10] ?_;try simp only[go_sem])
end
def Nk{x:ak}:∀B:List ak,∃z,(x::B).drop B.length=[z]:=fun B=>by
 have h:((x::B).drop B.length).length=1:=by rw[List.length_drop];simp
 exact List.length_eq_one_iff.1 h
theorem Gb(q:TN):∀l:List ak,aX q (l.map bq).flatten=true
 |[]=>rfl
 |x::l=>by rw[List.map_cons,List.flatten_cons,uV,Gb q l,IC];rfl
def Tf(l:List ak):Go.Gd.Good 4 (l.map bq):=fun c hc=>by obtain⟨y,_,rfl⟩:=List.mem_map.1 hc;exact⟨rfl,rfl⟩
def Pe(A B L:List ak)(x:ak)(hL:L=A++x::B)(h1000:L.length<=1000)(n k:Nat)(hn:n=A.length+B.length+1)(hk:k=A.length):ab prog 95 [.rs 1 n 4 n,rI k,rI (k+1)] [(1,.aG 52 4 (L.map bq))] (fun r l=>r=.rs 1 n 4 (n-1)/\l=[(1,.aG 52 4 ((A++B).map bq++[zB]))]):=by
 have Zf:L.length=n:=by rw[hL,List.length_append,List.length_cons];omega
 have Vv:(L.map bq).length=n:=by rw[List.length_map,Zf]
 have UK:¬(k:Int)=k+1:=jB;have ZJ:k<n:=jB;have hd1:List.drop (k+1) L=B:=by rw[hL,hk,<-List.drop_drop,List.drop_left];rfl
 have WW:List.take k L=A:=by rw[hL,hk];exact List.take_left
 refine ab.wV (i:=1) (css:=L.map bq) (X:=(A++B).map bq++[zB]) (l:=[(1,.aG 52 4 (L.map bq))]) jB rfl Vv.symm (fun j r h1 h2=>?_) (by rw[List.length_append,List.length_map,List.length_append];simp only[List.length_cons,List.length_nil];omega) ?_ ?_ fun c Xm=>?_
 ·simp only[aA]at h1;split at h1
  ·rename_i e;exact(h2 e).elim
  ·cases h1
 ·rw[List.flatten_append,uV,Gb];rfl
 ·intro y hy;rcases List.mem_append.1 hy with hy|hy
  ·obtain⟨z,_,rfl⟩:=List.mem_map.1 hy;rfl
  ·rw[List.mem_singleton.1 hy];rfl
 show ab _ _ _ [(1,.aG 52 4 (L.map bq++gf 4 (c-n)))] (fun r l'=>r=.rc 1 c 4 (n-1)/\l'=[(1,.aG 52 4 ((A++B).map bq++[zB]++gf 4 (c-n)))]);have UM:(gf 4 (c-n)).length=c-n:=zM;generalize gf 4 (c-n)=Sp at*;have Tx:c=(L.map bq++Sp).length:=by rw[List.length_append,Vv,UM];omega
 have V3:((L.map bq++Sp).drop (k+1)).take (n-(k+1))=B.map bq:=by rw[List.drop_append_of_le_length jB,<-List.map_drop,hd1];have h1:=List.take_left (l₁:=B.map bq) (l₂:=Sp);rwa [List.length_map,show B.length=n-(k+1) from jB]at h1
 have hgB:=Tf B;have Wq:(B.map bq).length=n-(k+1):=by rw[List.length_map];omega
 have UB:k+(n-(k+1))=n-1:=jB;obtain⟨Z,hZ,hZl⟩:∃Z,du (L.map bq++Sp) k (B.map bq)=(A++B).map bq++[Z]++Sp/\Z.length=4:=by
  obtain⟨z,hz⟩:=Nk (x:=x) B;refine⟨bq z,?_,rfl⟩;have e1:L.map bq++Sp=A.map bq++((x::B).map bq++Sp):=by rw[hL,List.map_append,List.append_assoc]
  have h1:(A.map bq++((x::B).map bq++Sp)).take k=A.map bq:=by have:=List.take_left (l₁:=A.map bq) (l₂:=(x::B).map bq++Sp);rwa [List.length_map,<-hk]at this
  have h2:(A.map bq++((x::B).map bq++Sp)).drop (k+(B.map bq).length)=[bq z]++Sp:=by have h3:=List.drop_left (l₁:=A.map bq) (l₂:=(x::B).map bq++Sp);rw[List.length_map,<-hk]at h3;rw[<-List.drop_drop,h3,List.length_map,List.drop_append_of_le_length jE,<-List.map_drop,hz];rfl
  unfold du;rw[e1,h1,h2,List.map_append];simp
 have hah:c=((A++B).map bq++[Z]++Sp).length:=by rw[List.length_append,List.length_append,List.length_map,List.length_append,UM];simp only[List.length_cons,List.length_nil];omega
 have WK:du ((A++B).map bq++[Z]++Sp) (n-1) (List.replicate 1 zB)=(A++B).map bq++[zB]++Sp:=by
  have h1:((A++B).map bq++([Z]++Sp)).take (n-1)=(A++B).map bq:=by have:=List.take_left (l₁:=(A++B).map bq) (l₂:=[Z]++Sp);rwa [List.length_map,List.length_append,show A.length+B.length=n-1 from jB]at this
  have h2:((A++B).map bq++([Z]++Sp)).drop (n-1+1)=Sp:=by have h3:=List.drop_left (l₁:=(A++B).map bq) (l₂:=[Z]++Sp);rw[List.length_map,List.length_append,show A.length+B.length=n-1 from jB]at h3;rw[<-List.drop_drop,h3];rfl
  have e:(A++B).map bq++[Z]++Sp=(A++B).map bq++([Z]++Sp):=List.append_assoc _ _ _;unfold du;rw[e,h1,List.length_replicate,h2];rfl
 have VM:n-(n-1)=1:=jB;simp only[List.map_append]at hah WK;generalize Xh:L.map bq++Sp=R0 at*;refine aM func95 ntmps95 ?_;refine S ?_
 (have W:=jA ZJ (jA Vv (jA UK (jA UB (VM))));repeat' (first|(refine PZ (zs:=Bj) (c:=(4:Nat)=4/\c=R0.length/\(k+1)+(n-(k+1))<=c) (ys:=B.map bq) rfl Tx jG jG jG rfl jC (by show some (_,(R0.drop (k+1)).take (n-(k+1)))=_;rw[V3]) ⟨rfl,Tx,jB⟩ hgB (by rw[Wq];omega) ?_;rw[Wq,UB,hZ])|refine aq fun K hK=>?_|refine ap ?_|(with_reducible refine gR 5 ?_);refine dE 5 (aW 0 8) mixed ?_|(refine hK _ _ ?_;clear hK K)|(refine ao ?_ ?_<;>intro hc<;>try exact jz)|(refine DS (zs:=Bj) rfl hah jG jG jG rfl jC rfl jB ?_;rw[WK])|(refine bF ?_ ?_<;>intro hc<;>try exact jz)|refine ar ?_|exact jI|(clear hK K)))
 (refine bV [.tmp 6] ?_ ?_<;>(try simp only[go_sem]))
def jT(l:List ak)(k:Nat):List ak:=l.take k++l.drop (k+1)
noncomputable def pruneW(p:af)(F:TG->MV->MV)(w:aV)(k:Int):aV×Int:=
 if k<0 then(w,60)else if k=0 then(w,64)
 else(if k<w.cur then{ w with l:=jT w.l k.toNat,cur:=w.cur-1 }else if w.cur=k then US p F { w with l:=jT w.l k.toNat,cur:=0 }else{ w with l:=jT w.l k.toNat },0)
def vE{k j:Nat}(hk:k<l.length)(hj:j<(jT l k).length):nth (jT l k) j=if j<k then nth l j else nth l (j+1):=by
 have I':(l.take k).length=k:=by rw[List.length_take];omega
 unfold jT nth;simp only[List.getD_eq_getElem?_getD];by_cases c:j<k
 ·rw[if_pos c,List.getElem?_append_left jB,List.getElem?_take,if_pos c]
 ·rw[if_neg c,List.getElem?_append_right jB,I',List.getElem?_drop,show k+1+(j-k)=j+1 from jB]
def rF{k:Nat}(hk:k<l.length):(jT l k).length=l.length-1:=by unfold jT;rw[List.length_append,List.length_take,List.length_drop];omega
def fp.erase(h:fp w){k:Nat}(hk:k<w.l.length){c:Int}(h0:0<=c)(h1:c<w.l.length-1):fp { w with l:=jT w.l k,cur:=c }:=
 ⟨by show(jT w.l k).length<=100;rw[rF hk];have:=h.ln;omega,h0,by show c<(jT w.l k).length;rw[rF hk];omega,fun j hj=>by
  have hj:j<(jT w.l k).length:=hj;show BW (nth (jT w.l k) j);rw[vE hk hj];rw[rF hk]at hj;split
  ·exact h.b j jB
  ·exact h.b (j+1) jB,h.t⟩
section
variable {p:af}(hp:mA p)(T0:fu p){F:TG->MV->MV}(hF:bQ p (ci p) F)
include hp T0 hF
theorem KV{w:aV}(h:fp w)(nm:TI):aB prog 47 [.agg (cd p),.agg (cS w),rS nm] (.aQ [.agg (cS (pruneW p F w (di nm w.l 0)).1),rI (pruneW p F w (di nm w.l 0)).2]):=by
 have UE:=h.ln;have f1:=re w nm jB;have hb:di nm w.l 0=-1\/0<=di nm w.l 0/\di nm w.l 0<w.l.length:=by
  rcases nZ nm w.l 0 with⟨e,_⟩|⟨j,h1,h2,_,_⟩
  ·exact .inl e
  ·exact .inr ⟨jB,jB⟩
 generalize di nm w.l 0=i at*;unfold pruneW;rcases hb with rfl|⟨VY,Wc⟩
 ·rw[jP];refine bG func47 ntmps47 ?_
  (repeat' (first|refine aq fun K hK=>?_|refine ap ?_|(refine hK _ _ ?_;clear hK K)|(refine ao ?_ ?_<;>intro hc<;>try exact jz)|refine aT 3 ?_|refine aT 4 ?_|refine cH 6 ?_|refine cp (f1) ?_|(refine bF ?_ ?_<;>intro hc<;>try exact jz)|refine ar ?_|exact jI|(clear hK K)))
  (refine aY [.cell 6 90,.tmp 7] ?_;try simp only[go_sem])
 rw[jN];obtain⟨k,rfl⟩:=Int.eq_ofNat_of_zero_le VY;have hkm:¬(k:Int)=-1:=jB;by_cases c0:k=0
 ·have c0':(k:Int)=0:=jB;rw[if_pos c0'];refine bG func47 ntmps47 ?_
  (have W:=jA hkm (jA c0 (c0'));repeat' (first|refine aq fun K hK=>?_|refine ap ?_|(refine hK _ _ ?_;clear hK K)|(refine ao ?_ ?_<;>intro hc<;>try exact jz)|refine aT 3 ?_|refine aT 4 ?_|refine cH 6 ?_|refine cp (f1) ?_|(refine bF ?_ ?_<;>intro hc<;>try exact jz)|refine ar ?_|exact jI|(clear hK K)))
  (refine aY [.cell 6 90,.tmp 7] ?_;try simp only[go_sem])
 have c0':¬(k:Int)=0:=jB;rw[if_neg c0'];have hk:k<w.l.length:=jB;have Tx:=yp w.l jB 1;have hde:=Pe (w.l.take k) (w.l.drop (k+1)) w.l (nth w.l k) (by have:=tK hk;rw[<-List.singleton_append,<-List.append_assoc,<-this,List.take_append_drop]) jB w.l.length k (by rw[List.length_take,List.length_drop];omega) (by rw[List.length_take];omega);have VF:=rF hk;have her:w.l.take k++w.l.drop (k+1)=jT w.l k:=rfl;rw[her]at hde;have hhe:w.cur=k->aB prog 94 [.agg (cd p),.agg (cS { w with l:=jT w.l k,cur:=0 })] (.agg (cS (US p F { w with l:=jT w.l k,cur:=0 }))):=fun c=>Ab hp T0 hF (h.erase hk (c:=0) jB jB)
 simp only[Int.toNat_natCast];obtain⟨l,c,t⟩:=w;simp only at*;generalize jT l k=M at*;simp only[cS]at f1;have WH:c<(l.length:Int):=h.c1;by_cases c1:(k:Int)<c
 ·rw[if_pos c1];have c1':c>(k:Int):=c1;simp only[cS];refine bG func47 ntmps47 ?_
  (have W:=jA hkm (jA c0 (jA c0' (c1')));repeat' (first|refine aq fun K hK=>?_|refine ap ?_|(refine hK _ _ ?_;clear hK K)|(refine ao ?_ ?_<;>intro hc<;>try exact jz)|refine aT 3 ?_|refine aT 4 ?_|refine cH 6 ?_|refine cp (f1) ?_|refine cm (Tx) ?_|refine cm (hde) ?_|(refine bF ?_ ?_<;>intro hc<;>try exact jz)|refine ar ?_|exact jI|(clear hK K)))
  refine fA [.cell 6 90,.tmp 7] ?_;exact bu.aQ (ds:=[.agg [aO bq 4 M,rI (c-1),rI t],rI 0]) ⟨bu.agg (ds:=[aO bq 4 M,rI (c-1),rI t]) ⟨cW.lE M [zB] rfl rfl (by rw[VF];simp only[List.length_cons,List.length_nil];omega) jB,.same _ rfl,.same _ rfl,trivial⟩,.same _ rfl,trivial⟩
 rw[if_neg c1];have c1':¬c>(k:Int):=c1;by_cases c2:c=k
 ·rw[if_pos c2];have hh2:aB prog 94 [.agg (cd p),.agg [aO bq 4 M,rI 0,rI t]] (.agg (cS (US p F ⟨M,0,t⟩))):=hhe c2;clear hhe;generalize US p F ⟨M,0,t⟩=W3 at*;have c3:¬(k:Int)>k:=jB;subst c2;clear c1 c1';simp only[cS];refine bG func47 ntmps47 ?_
  (have W:=jA hkm (jA c0 (jA c0' (c3)));repeat' (first|refine Kg [1] 4 [aO bq 4 M,rI k,rI t] [(19,8)] [] ?_ (hc:=by exact⟨cW.lE M [zB] rfl rfl (by rw[VF];simp only[List.length_cons,List.length_nil];omega) jB,.same _ rfl,.same _ rfl,trivial⟩)|refine aq fun K hK=>?_|refine ap ?_|(refine hK _ _ ?_;clear hK K)|(refine ao ?_ ?_<;>intro hc<;>try exact jz)|refine aT 3 ?_|refine aT 4 ?_|refine cH 6 ?_|refine cp (f1) ?_|refine cm (Tx) ?_|refine cm (hde) ?_|refine cp (hh2) ?_|(refine bF ?_ ?_<;>intro hc<;>try exact jz)|refine ar ?_|exact jI|(clear hK K)))
  (refine aY [.cell 6 90,.tmp 7] ?_;try simp only[go_sem])
  rfl
 ·rw[if_neg c2];simp only[cS];refine bG func47 ntmps47 ?_
  (have W:=jA hkm (jA c0 (jA c0' (jA c1' (c2))));repeat' (first|refine aq fun K hK=>?_|refine ap ?_|(refine hK _ _ ?_;clear hK K)|(refine ao ?_ ?_<;>intro hc<;>try exact jz)|refine aT 3 ?_|refine aT 4 ?_|refine cH 6 ?_|refine cp (f1) ?_|refine cm (Tx) ?_|refine cm (hde) ?_|(refine bF ?_ ?_<;>intro hc<;>try exact jz)|refine ar ?_|exact jI|(clear hK K)))
  refine fA [.cell 6 90,.tmp 7] ?_;exact bu.aQ (ds:=[.agg [aO bq 4 M,rI c,rI t],rI 0]) ⟨bu.agg (ds:=[aO bq 4 M,rI c,rI t]) ⟨cW.lE M [zB] rfl rfl (by rw[VF];simp only[List.length_cons,List.length_nil];omega) jB,.same _ rfl,.same _ rfl,trivial⟩,.same _ rfl,trivial⟩
end
end Go.Proofs.YtjpcgmjaipfgdaaGreatDoor
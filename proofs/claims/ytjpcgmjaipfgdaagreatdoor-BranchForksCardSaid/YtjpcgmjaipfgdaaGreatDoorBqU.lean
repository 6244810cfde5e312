/- Lemmas. No conditions. -/
import Derived.Test.YtjpcgmjaipfgdaaGreatDoorBqL
set_option linter.all false
set_option maxHeartbeats 4000000
set_option maxRecDepth 10000
namespace Go.Gd
open Go
structure iL where
 name:ByteArray
 x:aw
 t:Int
 n:Int
 deriving Inhabited,DecidableEq
def gL(x:iL):UU:=[.raw (.string x.name),.raw (.int .i64 x.x.at_),.raw (.string x.x.name),.raw (.int .i64 x.x.v.ty),.raw (.int .i64 x.x.v.n),.raw (.string x.x.v.s),.raw (.int .i64 x.t),.raw (.int .i64 x.n)]
section
variable (x y:iL)
@[go_sem] def j4j:((gL x).length=8)/\((gL x).all AV.one=true):=by and_intros<;>(intros;rfl)
@[go_sem] def RO(q:U5):aY q (gL x)=true:=by simp[gL,aY,AV.all]
instance:bG gL 8:=⟨fun _=>rfl,fun _=>rfl,fun x=>RO x _⟩
@[go_sem] def j2N:((gL x).take 8=gL x)/\((gL x).getD 0 .any=.raw (.string x.name))/\(∀(v:U0),.raw (.string v)::List.drop 1 (gL x)=gL { x with name:=v })/\((gL x).getD 1 .any=.raw (.int .i64 x.x.at_))/\((gL x).getD 6 .any=.raw (.int .i64 x.t))/\((gL x).getD 7 .any=.raw (.int .i64 x.n))/\(((gL x).drop 1).take 5=bj x.x)/\(∀(v:aw),List.take 1 (gL x)++bj v++List.drop 6 (gL x)=gL { x with x:=v }):=by and_intros<;>(intros;rfl)
@[go_sem] def j2K:gL x++List.drop 8 (gL y)=gL x:=(rfl)
end
def mJ(s:U0):U0:=if 700<s.size then s.extract 0 700 else s
def Dt(s:U0):(mJ s).size<=1000000:=by
 unfold mJ;split
 ·rw[ByteArray.size_extract];omega
 ·omega
def yn(s:U0):U0:=if 20<s.size then s.extract 0 20 else s
def nj(x:aw):aw:={ x with name:=yn x.name,v:={ x.v with s:=if 60<x.v.s.size then x.v.s.extract 0 60 else x.v.s } }
def nY(l:List aw):List aw:=(l.take 10).map nj
def y8(l:List aw):(nY l).length<=10:=by unfold nY;simp;omega
def D6{l:List aw}{P:aw->Prop}(h:∀x∈l,P (nj x)):∀x∈nY l,P x:=fun x hx=>by obtain⟨y,hy,rfl⟩:=List.mem_map.1 hx;exact h y (List.mem_of_mem_take hy)
def kn(b:aE):aE:=⟨yn b.name,b.ax.take 20,nY b.base,nY b.own⟩
def nk(j:iL):iL:=⟨yn j.name,nj j.x,j.t,j.n⟩
end Go.Gd
namespace Go.Proofs.YtjpcgmjaipfgdaaGreatDoor
open Go Go.Gd Tryz
def yl{s:U0}(he:(ga s).2.2=0):po (ga s).1:=⟨yV he,MT he⟩
def oX(s:U0):aD prog 20 [rS s] (rS (mJ s)):=by
 refine cB func20 ntmps20 ?_
 (repeat' (first|refine ar fun K hK=>?_|refine av ?_|(refine hK _ _ ?_;clear hK K)|(refine au ?_ ?_<;>intro hc<;>try exact jz)|refine aq ?_|exact jI|(clear hK K)))
 ·(refine bq [.tmp 2] ?_;try simp only[go_sem])
  unfold mJ;rw[jP]
 ·(refine bq [.tmp 2] ?_;try simp only[go_sem])
  unfold mJ;rw[jN]
def DW(l:List aw):aD prog 65 [aM bj 5 l] (aM bj 5 (nY l)):=by
 refine cB func65 ntmps65 ?_
 (repeat' (first|refine ar fun K hK=>?_|refine av ?_|(refine hK _ _ ?_;clear hK K)|(refine au ?_ ?_<;>intro hc<;>try exact jz)|refine sV 0 ?_|refine aq ?_|exact jI|(clear hK K)))
 have Vc:=hK;clear hK;refine dJ (S:=Nat) [(3,3),(7,37)] (fun k=>k<=l.length/\k<=10) (fun k=>[(4,rI k),(3,.rs 0 k 5 k)]) (fun k=>⟨[],[(0,.aJ 56 5 (((l.take k).map nj).map bj))]⟩) (fun k=>10-k) 0 jB (dK rfl bU) ?_;rintro k ⟨hk,Vk⟩ Kr Vb;have We:(((l.take k).map nj).map bj).length=k:=by simp;omega
 by_cases D':k<l.length/\k<10
 ·obtain⟨h1,h2⟩:=D';have hex:((l.take (k+1)).map nj).map bj=((l.take k).map nj).map bj++[bj (nj (nth l k))]:=by
   rw[pj h1];simp
  have V7:nj (nth l k)={ nth l k with name:=if 20<(nth l k).name.size then(nth l k).name.extract 0 20 else(nth l k).name,v:={ (nth l k).v with s:=if 60<(nth l k).v.s.size then(nth l k).v.s.extract 0 60 else(nth l k).v.s } }:=rfl;by_cases c1:20<(nth l k).name.size<;>by_cases c2:60<(nth l k).v.s.size
  all_goals
   first|rw[if_pos c1]at V7|rw[if_neg c1]at V7
   first|rw[if_pos c2]at V7|rw[if_neg c2]at V7
   refine S ?_
   (have W:=jA h1 (jA h2 (jA We (jA c1 (c2))));repeat' (first|refine ar fun K hK=>?_|refine av ?_|(refine hK _ _ ?_;clear hK K)|(refine au ?_ ?_<;>intro hc<;>try exact jz)|refine cC 1 ?_|refine aq ?_|exact jI|(clear hK K)))
   refine Vb _ _ (nz [1] (k+1) ⟨jB,jB⟩ (by show 10-(k+1)<10-k;omega) rfl Sd ?_ iQ);show Hp.mk _ [(0,_)]=Hp.mk _ [(0,.aJ _ _ (((l.take (k+1)).map nj).map bj))];rw[hex,V7]
 ·have e:nY l=(l.take k).map nj:=by
   unfold nY;rcases Nat.lt_or_ge k 10 with h|h
   ·rw[List.take_of_length_le (i:=10) jB,List.take_of_length_le (i:=k) jB]
   ·rw[show k=10 from jB]
  rw[e];by_cases h1:k<l.length
  ·have h2:¬k<10:=fun h=>D' ⟨h1,h⟩
   refine S ?_
   (have W:=jA h1 (jA h2 (We));repeat' (first|refine ar fun K hK=>?_|refine av ?_|(refine hK _ _ ?_;clear hK K)|(refine au ?_ ?_<;>intro hc<;>try exact jz)|refine Vc _ _ ?_|refine aq ?_|exact jI|(clear hK K)))
   refine fy [.tmp 2] ?_;rw[e];show db _ _ (.rs 0 k 5 k) _;refine db.row (enc:=bj) ((l.take k).map nj) rfl rfl ?_;rw[List.length_map,List.length_take];omega
  ·(refine S ?_;try exact jI)
   (have W:=jA h1 We;repeat' (first|refine ar fun K hK=>?_|refine av ?_|(refine hK _ _ ?_;clear hK K)|(refine au ?_ ?_<;>intro hc<;>try exact jz)|refine Vc _ _ ?_|refine aq ?_|exact jI|(clear hK K)))
   refine fy [.tmp 2] ?_;rw[e];show db _ _ (.rs 0 k 5 k) _;refine db.row (enc:=bj) ((l.take k).map nj) rfl rfl ?_;rw[List.length_map,List.length_take];omega
def B6(b:aE):aD prog 21 [.agg (cr b)] (.agg (cr (kn b))):=by
 have h1:=DW b.base;have h2:=DW b.own;have V7:kn b=⟨if 20<b.name.size then b.name.extract 0 20 else b.name,if 20<b.ax.length then b.ax.take 20 else b.ax,nY b.base,nY b.own⟩:=by
  unfold kn yn;congr 1
  split
  ·rfl
  ·exact List.take_of_length_le jB
 generalize kn b=B at*;by_cases c1:20<b.name.size<;>by_cases c2:20<b.ax.length
 all_goals
  first|rw[if_pos c1]at V7|rw[if_neg c1]at V7
  first|rw[if_pos c2]at V7|rw[if_neg c2]at V7
  refine cB func21 ntmps21 ?_
  (have W:=jA c1 c2;repeat' (first|refine ar fun K hK=>?_|refine av ?_|(refine hK _ _ ?_;clear hK K)|(refine au ?_ ?_<;>intro hc<;>try exact jz)|refine bv 1 ?_|refine cC 2 ?_|refine cp (h1) ?_|refine cp (h2) ?_|refine aq ?_|exact jI|(clear hK K)))
  rw[V7]
  (refine bq [.cell 2 52] ?_;try simp only[go_sem])
def Df(j:iL):aD prog 23 [.agg (gL j)] (.agg (gL (nk j))):=by
 have h1:aD prog 65 [.sl true 5 [bj j.x] []] (aM bj 5 [nj j.x]):=sC (DW [j.x]) ⟨.lit 5 [bj j.x] _ _,trivial⟩;have V7:nk j=⟨if 20<j.name.size then j.name.extract 0 20 else j.name,nj j.x,j.t,j.n⟩:=rfl;generalize nk j=J at*;generalize hx:nj j.x=x at*;by_cases c1:20<j.name.size
 all_goals
  first|rw[if_pos c1]at V7|rw[if_neg c1]at V7
  refine cB func23 ntmps23 ?_
  (have W:=c1;repeat' (first|refine ar fun K hK=>?_|refine av ?_|(refine hK _ _ ?_;clear hK K)|(refine au ?_ ?_<;>intro hc<;>try exact jz)|refine bv 1 ?_|refine cC 2 ?_|refine cp (h1) ?_|refine aq ?_|exact jI|(clear hK K)))
  rw[V7]
  (refine bq [.cell 2 58] ?_;try simp only[go_sem])
def qO(x:aw)(L:List aw)(k:Nat):List aw:=if gK x L<k then L.take (gK x L)++x::(L.take k).drop (gK x L)else L.take k
def Pn(x:aw)(L:List aw):(if gK x L<L.length then qO x L L.length else qO x L L.length++[x])=hZ x L:=by
 rw[y0];unfold qO;have:=yk x L;split
 ·rw[List.take_length]
 ·rename_i h;rw[List.take_length,show gK x L=L.length from jB,List.take_length,List.drop_length]
def Qc(x:aw)(L:List aw)(k:Nat)(hk:k<=L.length):(qO x L k).length=if gK x L<k then k+1 else k:=by
 unfold qO;split
 ·rw[List.length_append,List.length_cons,List.length_drop,List.length_take,List.length_take];omega
 ·rw[List.length_take];omega
def Rr(L:List aw)(x:aw)(hL:L.length<=1000):aD prog 66 [aM bj 5 L,.agg (bj x)] (aM bj 5 (hZ x L)):=by
 have WM:=yk x L;have Vh:=Pn x L;have hbX:=GS x L;have VL:=E2 x L;have hol:=Qc x L;have haA:∀k,k<L.length->qO x L (k+1)=(if k=gK x L then qO x L k++[x]else qO x L k)++[nth L k]:=fun k hk=>by
  have WS:=pj hk;have V8:(L.take k).length=k:=by rw[List.length_take];omega
  unfold qO;rcases Nat.lt_trichotomy k (gK x L)with c|c|c
  ·rw[jN,jN,jN,WS]
  ·rw[jP,if_pos c,jN,<-c,WS];have:(L.take k++[nth L k]).drop k=[nth L k]:=by
    have:=List.drop_left (l₁:=L.take k) (l₂:=[nth L k]);rwa [V8]at this
   rw[this];simp
  ·rw[jP,jN,if_pos c,WS,List.drop_append_of_le_length jB];simp
 generalize gK x L=q at*;generalize hZ x L=R at*;generalize qO x L=O at*;have hO0:O 0=[]:=List.length_eq_zero_iff.1 (by rw[hol 0 (Nat.zero_le _),jN]);refine cB func66 ntmps66 ?_
 (repeat' (first|refine ar fun K hK=>?_|refine av ?_|(refine hK _ _ ?_;clear hK K)|(refine au ?_ ?_<;>intro hc<;>try exact jz)|refine bv 3 ?_|refine sV 2 ?_|refine aq ?_|exact jI|(clear hK K)))
 have Vc:=hK;clear hK;refine dJ (S:=Nat) [(5,3),(9,29)] (fun k=>k<=L.length) (fun k=>[(5,.rs 2 (O k).length 5 (O k).length),(6,rB (decide (q<k))),(7,rI k)]) (fun k=>⟨[],[(3,.var 56 (bj x)),(2,.aJ 56 5 ((O k).map bj))]⟩) (fun k=>L.length-k) 0 (Nat.zero_le _) ?_ ?_
 ·simp only[hO0,List.length_nil,List.map_nil];rw[decide_eq_false (show¬q<0 from jB)];exact dK rfl bU
 rintro k hk Kr Vb;have hlk:=hol k hk;by_cases D':k<L.length
 ·have Ya:=haA k D';generalize O k=O0 at*;rcases Nat.lt_trichotomy k q with c|c|c
  ·have hx:=hbX k c;rw[jN]at Ya hlk;rw[decide_eq_false (show¬q<k from jB)];generalize hy:nth L k=y at*;refine S ?_
   (have W:=jA D' (jA hy (hx));repeat' (first|refine ar fun K hK=>?_|refine av ?_|(with_reducible refine gR 6 ?_);refine dE 6 (bf 0 12) mixed ?_|(refine hK _ _ ?_;clear hK K)|(refine au ?_ ?_<;>intro hc<;>try exact jz)|refine aq ?_|exact jI|(clear hK K)))
   refine Vb _ _ (dT (k+1) jB (by show L.length-(k+1)<L.length-k;omega) ?_ ?_)
   ·simp only[Ya,List.map_append];rfl
   ·simp only[Ya,decide_eq_false (show¬q<k+1 from jB),List.length_append,List.length_cons,List.length_nil];exact bU
  ·have hx:=VL jB;rw[if_pos c]at Ya;rw[jN]at hlk;rw[decide_eq_false (show¬q<k from jB)];rw[<-c]at hx;generalize hy:nth L k=y at*;refine S ?_
   (have W:=jA D' (jA hy (hx));repeat' (first|refine ar fun K hK=>?_|refine av ?_|(with_reducible refine gR 6 ?_);refine dE 6 (bf 0 12) mixed ?_|(refine hK _ _ ?_;clear hK K)|(refine au ?_ ?_<;>intro hc<;>try exact jz)|refine aq ?_|exact jI|(clear hK K)))
   refine Vb _ _ (dT (k+1) jB (by show L.length-(k+1)<L.length-k;omega) ?_ ?_)
   ·simp only[Ya,List.map_append];rfl
   ·simp only[Ya,decide_eq_true (show q<k+1 from jB),List.length_append,List.length_cons,List.length_nil];exact bU
  ·rw[jN]at Ya;rw[if_pos c]at hlk;rw[decide_eq_true (show q<k from jB)];generalize hy:nth L k=y at*;refine S ?_
   (have W:=jA D' hy;repeat' (first|refine ar fun K hK=>?_|refine av ?_|(with_reducible refine gR 6 ?_);refine dE 6 (bf 0 12) mixed ?_|(refine hK _ _ ?_;clear hK K)|(refine au ?_ ?_<;>intro hc<;>try exact jz)|refine aq ?_|exact jI|(clear hK K)))
   refine Vb _ _ (dT (k+1) jB (by show L.length-(k+1)<L.length-k;omega) ?_ ?_)
   ·simp only[Ya,List.map_append];rfl
   ·simp only[Ya,decide_eq_true (show q<k+1 from jB),List.length_append,List.length_cons,List.length_nil];exact bU
 ·have Xz:k=L.length:=jB;subst Xz;generalize O L.length=O0 at*;by_cases c:q<L.length
  ·rw[if_pos c]at Vh hlk;rw[decide_eq_true c];subst Vh;refine S ?_
   (repeat' (first|refine ar fun K hK=>?_|refine av ?_|(refine hK _ _ ?_;clear hK K)|(refine au ?_ ?_<;>intro hc<;>try exact jz)|refine Vc _ _ ?_|refine aq ?_|exact jI|(clear hK K)))
   refine fy [.tmp 4] ?_;exact db.row O0 rfl rfl rfl
  ·rw[if_neg c]at Vh hlk;rw[decide_eq_false c];refine S ?_
   (repeat' (first|refine ar fun K hK=>?_|refine av ?_|(refine hK _ _ ?_;clear hK K)|(refine au ?_ ?_<;>intro hc<;>try exact jz)|refine Vc _ _ ?_|refine aq ?_|exact jI|(clear hK K)))
   refine fy [.tmp 4] ?_;rw[<-Vh];exact db.row (O0++[x]) rfl (by rw[List.map_append];rfl) (by rw[List.length_append];rfl)
def FQ(b:List aw)(hb:b.length<=500):aD prog 22 [.raw (.slice none 0 0),aM bj 5 b] (aM bj 5 (gP [] b)):=by
 refine cB func22 ntmps22 ?_
 (repeat' (first|refine ar fun K hK=>?_|refine av ?_|(refine hK _ _ ?_;clear hK K)|(refine au ?_ ?_<;>intro hc<;>try exact jz)|refine sV 2 ?_|refine aq ?_|exact jI|(clear hK K)))
 refine GC [2] [(7,3)] [(5,aM bj 5 ([]:List aw))] rfl Sd Sd iQ ?_
 (refine S ?_;try exact jI)
 have e0:aM bj 5 ([]:List aw)=aM bj 5 (gP [] (b.take 0)):=rfl;rw[e0];have Vc:=hK;clear hK;refine dJ (S:=Nat) [(5,2),(10,12)] (fun k=>k<=b.length) (fun k=>[(5,aM bj 5 (gP [] (b.take k))),(6,rI k)]) (fun k=>⟨[],[]⟩) (fun k=>b.length-k) 0 (Nat.zero_le _) (dK rfl bU) ?_;rintro k hk Kr Vb;by_cases D':k<b.length
 ·have hsn:gP [] (b.take (k+1))=hZ (nth b k) (gP [] (b.take k)):=by rw[pj D',Em]
  have O':=vF (b.take k) [];rw[List.length_take,List.length_nil]at O';generalize hM:gP [] (b.take k)=M at*;have VO:=Rr M (nth b k) jB;generalize hy:nth b k=y at*;refine S ?_
  (have W:=jA D' hy;repeat' (first|refine ar fun K hK=>?_|refine av ?_|(refine hK _ _ ?_;clear hK K)|(refine au ?_ ?_<;>intro hc<;>try exact jz)|refine cp (VO) ?_|refine aq ?_|exact jI|(clear hK K)))
  refine Vb _ _ (dT (k+1) jB (by show b.length-(k+1)<b.length-k;omega) rfl ?_);simp only[hsn];exact bU
 ·have Xz:k=b.length:=jB;subst Xz;rw[List.take_length];refine S ?_
  (repeat' (first|refine ar fun K hK=>?_|refine av ?_|(refine hK _ _ ?_;clear hK K)|(refine au ?_ ?_<;>intro hc<;>try exact jz)|refine Vc _ _ ?_|refine aq ?_|exact jI|(clear hK K)))
  (refine bq [.tmp 4] ?_;try simp only[go_sem])
end Go.Proofs.YtjpcgmjaipfgdaaGreatDoor
namespace Go.Proofs.YtjpcgmjaipfgdaaGreatDoor
open Go Go.Gd Tryz Go.Gd.MV
def Fg{α:Type}[Inhabited α](l:List α)(x:α):nth (l++[x]) ((l++[x]).length-1)=x:=by unfold nth;rw[List.length_append,List.getD_eq_getElem?_getD,List.getElem?_append_right jE];simp
structure BR(b:aE):Prop where
 inr:∀x∈b.ax,bz x
 pJ:∀x∈b.base,bz x.v.n
 vH:∀x∈b.own,bz x.v.n
structure JR(j:iL):Prop where
 at_:bz j.x.at_
 n_:bz j.x.v.n
 t:bz j.t
 n:bz j.n
def xk{b:aE}(h:BR b):gj (kn b):=
 ⟨by show(b.ax.take 20).length<=100;rw[List.length_take];omega,by have:=y8 b.base;show(nY b.base).length<=100;omega,by have:=y8 b.own;show(nY b.own).length<=100;omega,
   fun x hx=>h.inr x (List.mem_of_mem_take hx),D6 (P:=fun x=>bz x.v.n) fun x hx=>h.pJ x hx,D6 (P:=fun x=>bz x.v.n) fun x hx=>h.vH x hx⟩
def mV(b:aE):aE:=⟨b.name,b.ax,gP [] b.base,[]⟩
def GK{b:aE}(h:gj b):gj (mV b):=
 ⟨h.inl,by show(gP [] b.base).length<=100;rw[vF];have:=h.mB;simp only[List.length_nil];omega,Nat.zero_le _,h.inr,fun x hx=>by
  rcases CU.1 hx with hx|hx
  ·cases hx
  ·exact h.pJ x hx,fun x hx=>by cases hx⟩
def Ka{v:lC}(h1:v.aZ.length<=24)(h2:v.calls.length<=1000)(h3:∀c∈v.calls,c.vars.length<=100000):aD prog 25 [.agg (ig v),.agg (ig v)] (rB true):=by have:=JH v v jB h2 h3;rwa [decide_eq_true rfl]at this
@[go_sem] def j8S(b:aE):List.take 3 (cr b)++[.raw (.slice none 0 0)]++List.drop 4 (cr b)=[.raw (.string b.name),aM eI 1 b.ax,aM bj 5 b.base,.raw (.slice none 0 0)]:=(rfl)
abbrev pE(nm:U0)(inp:UY)(M:List aw):UU:=[.raw (.string nm),aM eI 1 inp,aM bj 5 M,.raw (.slice none 0 0)]
def yj{b:aE}(h:b.own=[]):Sub (.agg (pE b.name b.ax b.base)) (.agg (cr b)):=by obtain⟨nm,inp,base,own⟩:=b;have h:own=[]:=h;subst h;exact AN ⟨.refl _,.refl _,.refl _,.nil _ _,trivial⟩
end Go.Proofs.YtjpcgmjaipfgdaaGreatDoor
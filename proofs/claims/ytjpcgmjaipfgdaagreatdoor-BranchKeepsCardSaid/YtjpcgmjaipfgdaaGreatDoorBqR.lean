/- Lemmas. No conditions. -/
import Derived.Test.YtjpcgmjaipfgdaaGreatDoorBsD
set_option linter.all false
set_option maxHeartbeats 4000000
set_option maxRecDepth 10000
namespace Go.Proofs.YtjpcgmjaipfgdaaGreatDoor
open Go Go.Gd Tryz Go.Gd.MV
def rL{P:U6}{A:AS}{H:Hp}(i:Nat){t e:U1}{sz:Nat}{x:AV}{c:Prop}{ys:US}{zs:U4}{f:UR}{d:ir fun r H'=>eD A H H'/\f r H'}{q:Prop}(k:q)(ht:io P t=some e:=by(simp only[go_sem];rfl))(hs:dc P e=some sz:=by(simp only[go_sem];done))(hz:dM P e=some zs:=by(simp only[go_sem];rfl))(W7:zs.length=sz:=by rfl)(h0:0<sz:=by decide)
  (hx:tE H x=some (c,ys):=by rfl) (hc:c:=by trivial) (hg:Go.Gd.Good sz ys:=by(simp(disch:=first|omega|assumption|fail) only[go_sem];done)) (hr:room (jr P e) ys.length:=by(simp only[go_sem];omega)) (hi:H.get i=none:=by first|rfl|fail)
  (e:f (.rs i ys.length sz ys.length) (H.put i (.aJ e sz ys))=q:=by(simp(disch:=first|omega|assumption|fail) only[go_sem,ra,↓reduceIte,Int.reduceToNat,Nat.reduceMul,Nat.reduceAdd,Nat.reduceLeDiff,Nat.reduceSub,Nat.reduceEqDiff,Nat.reduceBEq];rfl)):pz P t t (.sl true sz [] []) x H (AP (fun r H'=>eD A H H'/\f r H') d):=SI (b:=true) (d:=d) i k ht hs hz W7 h0 hx hc hg hr hi e
def Et(l:List aw)(hl:l.length<=1000):aD prog 85 [aM bj 5 l,aM bj 5 l] (rB true):=by
 refine cB func85 ntmps85 ?_
 (repeat' (first|refine ar fun K hK=>?_|refine av ?_|(with_reducible refine gR 6 ?_);refine dE 6 (bf 0 9) mixed ?_|(refine hK _ _ ?_;clear hK K)|(refine au ?_ ?_<;>intro hc<;>try exact jz)|(refine gh ?_ ?_<;>intro hc<;>try exact jz)|refine aq ?_|exact jI|(clear hK K)))
 refine dJ (S:=Nat) [(4,2),(11,15)] (fun k=>k<=l.length) (fun k=>[(5,rI k)]) (fun _=>⟨[],[]⟩) (fun k=>l.length-k) 0 (Nat.zero_le _) (dK rfl bU) ?_;rintro k hk Kr Vb;by_cases D':k<l.length
 ·(refine S ?_;try exact jI)
  (have W:=D';repeat' (first|refine ar fun K hK=>?_|refine av ?_|(with_reducible refine gR 6 ?_);refine dE 6 (bf 0 9) mixed ?_|(refine hK _ _ ?_;clear hK K)|(refine au ?_ ?_<;>intro hc<;>try exact jz)|(refine gh ?_ ?_<;>intro hc<;>try exact jz)|refine aq ?_|exact jI|(clear hK K)))
  exact Vb _ _ (dT (k+1) jB (by show l.length-(k+1)<l.length-k;omega) rfl bU)
 ·(refine S ?_;try exact jI)
  (have W:=D';repeat' (first|refine ar fun K hK=>?_|refine av ?_|(with_reducible refine gR 6 ?_);refine dE 6 (bf 0 9) mixed ?_|(refine hK _ _ ?_;clear hK K)|(refine au ?_ ?_<;>intro hc<;>try exact jz)|(refine gh ?_ ?_<;>intro hc<;>try exact jz)|refine aq ?_|exact jI|(clear hK K)))
  (refine bq [.tmp 4] ?_;try simp only[go_sem])
def Q6{b:aE}(h:gj b):aD prog 37 [.agg (cr b),.agg (cr b)] (rB true):=by
 have h1:=Et b.base (by have:=h.mB;omega);have h2:=Et b.own (by have:=h.pM;omega);have h3:=h.inl;refine cB func37 ntmps37 ?_
 (repeat' (first|refine ar fun K hK=>?_|refine av ?_|(with_reducible refine gR 8 ?_);refine dE 8 (bf 0 11) mixed ?_|(refine hK _ _ ?_;clear hK K)|(refine au ?_ ?_<;>intro hc<;>try exact jz)|refine bv 2 ?_|refine bv 3 ?_|refine cp (h1) ?_|refine cp (h2) ?_|(refine gh ?_ ?_<;>intro hc<;>try exact jz)|refine aq ?_|exact jI|(clear hK K)))
 refine dJ (S:=Nat) [(4,1),(7,1),(40,18)] (fun k=>k<=b.ax.length) (fun k=>[(7,rI k)]) (fun _=>⟨[],[(2,.var 52 (cr b)),(3,.var 52 (cr b))]⟩) (fun k=>b.ax.length-k) 0 (Nat.zero_le _) (dK rfl bU) ?_;rintro k hk Kr Vb;by_cases D':k<b.ax.length
 ·(refine S ?_;try exact jI)
  (have W:=D';repeat' (first|refine ar fun K hK=>?_|refine av ?_|(with_reducible refine gR 8 ?_);refine dE 8 (bf 0 11) mixed ?_|(refine hK _ _ ?_;clear hK K)|(refine au ?_ ?_<;>intro hc<;>try exact jz)|(refine gh ?_ ?_<;>intro hc<;>try exact jz)|refine aq ?_|exact jI|(clear hK K)))
  exact Vb _ _ (dT (k+1) jB (by show b.ax.length-(k+1)<b.ax.length-k;omega) rfl bU)
 ·(refine S ?_;try exact jI)
  (have W:=D';repeat' (first|refine ar fun K hK=>?_|refine av ?_|(with_reducible refine gR 8 ?_);refine dE 8 (bf 0 11) mixed ?_|(refine hK _ _ ?_;clear hK K)|(refine au ?_ ?_<;>intro hc<;>try exact jz)|(refine gh ?_ ?_<;>intro hc<;>try exact jz)|refine aq ?_|exact jI|(clear hK K)))
  (refine bq [.tmp 4] ?_;try simp only[go_sem])
def Lo:gj bZ:=⟨jC,jC,jC,fun x hx=>(by cases hx),fun x hx=>(by cases hx),fun x hx=>(by cases hx)⟩
def PC(s:U0)(b0:aE)(j0:iL)(hb:BR b0)(hj:JR j0):aD prog 7 [rS s,.agg (cr b0),.agg (gL j0)] (rB true):=by
 have hs:=AF (mJ s) (Dt s);have hok:=@yl (mJ s);have W6:=@y5 (mJ s);generalize ga (mJ s)=R at hs hok W6;obtain⟨p,x,e⟩:=R;simp only at hs hok W6;by_cases he:e=0
 rotate_left
 ·refine cB func7 ntmps7 ?_
  (have W:=he;repeat' (first|refine ar fun K hK=>?_|refine av ?_|(with_reducible refine gR 7 ?_);refine dQ 7 mixed ?_|(refine hK _ _ ?_;clear hK K)|(refine au ?_ ?_<;>intro hc<;>try exact jz)|refine cp (oU) ?_|refine cp (oX _) ?_|refine bv 4 ?_|refine bv 5 ?_|refine cC 8 ?_|refine cp (hs) ?_|(refine gh ?_ ?_<;>intro hc<;>try exact jz)|refine aq ?_|exact jI|(clear hK K)))
  (refine bq [.tmp 6] ?_;try simp only[go_sem])
 have hp:po p:=hok he;have Vy:gG p:=W6 he;obtain⟨F,hF⟩:=yC hp.ok;have hl:=B6 b0;have YV:=Df j0;have hB:=xk hb;have ZC:bz (nk j0).x.v.n:=hj.n_;have hja:bz (nk j0).x.at_:=hj.at_;have hjt:bz (nk j0).t:=hj.t;have hjn:bz (nk j0).n:=hj.n;have Yr:(gb (kn b0)).length<=20:=by have h1:=y8 b0.base;have h2:=y8 b0.own;unfold gb;rw[vF];show(nY b0.base).length+(nY b0.own).length<=20;omega
 have hbY:(kn b0).ax.length<=20:=by show(b0.ax.take 20).length<=20;rw[List.length_take];omega
 generalize kn b0=b at*;generalize nk j0=j at*;have hsm:aD prog 37 [.agg (cr b),.agg [.raw (.string b.name),aM eI 1 b.ax,aM bj 5 b.base,aM bj 5 b.own]] (rB true):=Q6 hB;have Xf:=A6 hp Vy hF hB j.name ZC hja;have VO:=IC hp Vy hF hB j.name j.t j.n hjt;have had:=II hp Vy hF hB ZC;have Yn:=Uv hB j.n;have Wz:=hB.inl;have hbl:=hB.mB;have hol:=hB.pM;by_cases h1:16<=b.ax.length
 ·have e1:uq b j.n=(bZ,62):=by unfold uq;rw[if_pos h1]
  rw[e1]at Yn;have hrb:=Ey hp Vy hF hB Lo jC;have YX:(b.ax.length:Int) >= 16:=jB;refine cB func7 ntmps7 ?_
  (have W:=jA he (YX);repeat' (first|refine CR [1,2,3] 11 [.raw (.string b.name),aM eI 1 b.ax,aM bj 5 b.base,aM bj 5 b.own] [(33,15)] [] ?_|refine ar fun K hK=>?_|refine av ?_|(with_reducible refine gR 7 ?_);refine dC 7 ([],[],[38,42,46]) [15] [0,1,2,3,4,6,7,8,10,11,12,5,9,13,14,15,16] mixed ?_|(refine hK _ _ ?_;clear hK K)|(refine au ?_ ?_<;>intro hc<;>try exact jz)|refine cp (oU) ?_|refine cp (oX _) ?_|refine bv 4 ?_|refine bv 5 ?_|refine cC 8 ?_|refine cC 11 ?_|refine cC 12 ?_|refine rL 1 ?_|refine rL 2 ?_|refine rL 3 ?_|refine cp (hs) ?_|refine cp (hl) ?_|refine cp (YV) ?_|refine cp (Xf) ?_|refine cp (VO) ?_|refine cp (had) ?_|refine cp (Yn) ?_|refine cp (hrb) ?_|refine cp (hsm) ?_|(refine gh ?_ ?_<;>intro hc<;>try exact jz)|refine aq ?_|exact jI|(clear hK K)))
  (refine bq [.tmp 6] ?_;try simp only[go_sem])
 ·have e1:uq b j.n=(⟨b.name,b.ax++[j.n],b.base,b.own⟩,0):=by unfold uq;rw[if_neg h1]
  rw[e1]at Yn;have hBx:gj ⟨b.name,b.ax++[j.n],b.base,b.own⟩:=⟨by show(b.ax++[j.n]).length<=100;rw[List.length_append];simp only[List.length_cons,List.length_nil];omega,hB.mB,hB.pM,fun y hy=>by
   rcases List.mem_append.1 hy with hy|hy
   ·exact hB.inr y hy
   ·rw[List.mem_singleton.1 hy];exact hjn,hB.pJ,hB.vH⟩
  have hrb:=Ey hp Vy hF hB hBx (by show(gb b).length<=100;omega);obtain⟨hv,v1,v2,v3⟩:=qD hp Vy hF hB j.t hjt;have hw:=(qD hp Vy hF hBx j.t hjt).1;have hq:((gy p (atB p F b j.t)).status≠1->gy p (atB p F ⟨b.name,b.ax++[j.n],b.base,b.own⟩ j.t)=gy p (atB p F b j.t))/\((gy p (atB p F b j.t)).status=1->(gy p (atB p F b j.t)).in_<(gy p (atB p F ⟨b.name,b.ax++[j.n],b.base,b.own⟩ j.t)).in_):=by obtain⟨m1,m2⟩:=LV hp.ok hF hB.inr hB.nO hjn j.t;exact⟨fun h=>congrArg (fun m:MV=>gy p (m.da (bQ p))) (m1 h),m2⟩
  have hsv:=JH (gy p (atB p F b j.t)) (gy p (atB p F ⟨b.name,b.ax++[j.n],b.base,b.own⟩ j.t)) jB v2 v3;generalize gy p (atB p F b j.t)=V at*;generalize gy p (atB p F ⟨b.name,b.ax++[j.n],b.base,b.own⟩ j.t)=U at*;generalize (⟨b.name,b.ax++[j.n],b.base,b.own⟩:aE)=bx at*;by_cases c:V.status=1
  ·have XE:U.in_>V.in_:=hq.2 c;generalize decide (V=U)=like at hsv;clear hq;refine cB func7 ntmps7 ?_
   (have W:=jA he (jA c (XE));repeat' (first|refine CR [1,2,3] 11 [.raw (.string b.name),aM eI 1 b.ax,aM bj 5 b.base,aM bj 5 b.own] [(33,15)] [] ?_|refine ar fun K hK=>?_|refine av ?_|(with_reducible refine gR 7 ?_);refine dC 7 ([],[],[38,42,46]) [15] [0,1,2,3,4,6,7,8,10,11,12,5,9,13,14,15,16] mixed ?_|(refine hK _ _ ?_;clear hK K)|(refine au ?_ ?_<;>intro hc<;>try exact jz)|refine cp (oU) ?_|refine cp (oX _) ?_|refine bv 4 ?_|refine bv 5 ?_|refine cC 8 ?_|refine cC 11 ?_|refine cC 12 ?_|refine rL 1 ?_|refine rL 2 ?_|refine rL 3 ?_|refine cp (hs) ?_|refine cp (hl) ?_|refine cp (YV) ?_|refine cp (Xf) ?_|refine cp (VO) ?_|refine cp (had) ?_|refine cp (Yn) ?_|refine cp (hrb) ?_|refine cp (hsm) ?_|refine cC 15 ?_|refine cC 16 ?_|refine cp (hv) ?_|refine cp (hw) ?_|refine cp (hsv) ?_|(refine gh ?_ ?_<;>intro hc<;>try exact jz)|refine aq ?_|exact jI|(clear hK K)))
   (refine bq [.tmp 6] ?_;try simp only[go_sem])
  ·have hU:=hq.1 c;subst hU;rw[decide_eq_true rfl]at hsv;clear hq;refine cB func7 ntmps7 ?_
   (have W:=jA he c;repeat' (first|refine CR [1,2,3] 11 [.raw (.string b.name),aM eI 1 b.ax,aM bj 5 b.base,aM bj 5 b.own] [(33,15)] [] ?_|refine ar fun K hK=>?_|refine av ?_|(with_reducible refine gR 7 ?_);refine dC 7 ([],[],[38,42,46]) [15] [0,1,2,3,4,6,7,8,10,11,12,5,9,13,14,15,16] mixed ?_|(refine hK _ _ ?_;clear hK K)|(refine au ?_ ?_<;>intro hc<;>try exact jz)|refine cp (oU) ?_|refine cp (oX _) ?_|refine bv 4 ?_|refine bv 5 ?_|refine cC 8 ?_|refine cC 11 ?_|refine cC 12 ?_|refine rL 1 ?_|refine rL 2 ?_|refine rL 3 ?_|refine cp (hs) ?_|refine cp (hl) ?_|refine cp (YV) ?_|refine cp (Xf) ?_|refine cp (VO) ?_|refine cp (had) ?_|refine cp (Yn) ?_|refine cp (hrb) ?_|refine cp (hsm) ?_|refine cC 15 ?_|refine cC 16 ?_|refine cp (hv) ?_|refine cp (hw) ?_|refine cp (hsv) ?_|(refine gh ?_ ?_<;>intro hc<;>try exact jz)|refine aq ?_|exact jI|(clear hK K)))
   (refine bq [.tmp 6] ?_;try simp only[go_sem])
def P0(s:U0)(b:aE)(j:iL)(hb:BR b)(hj:JR j):aD prog 7 [rS s,.agg (cr b),.agg (gL j)] (rB true):=PC s b j hb hj
end Go.Proofs.YtjpcgmjaipfgdaaGreatDoor
/- Lemmas. No conditions. -/
import Derived.Test.YtjpcgmjaipfgdaaGreatDoorBsD
set_option linter.all false
set_option maxHeartbeats 4000000
set_option maxRecDepth 10000
namespace Go.Proofs.YtjpcgmjaipfgdaaGreatDoor
open Go Go.Gd Tryz Go.Gd.MV
def LA(s:U0)(b0:aE)(j0:iL)(hb:BR b0)(hj:JR j0):aD prog 5 [rS s,.agg (cr b0),.agg (gL j0)] (rB true):=by
 have hs:=AF (mJ s) (Dt s);have hok:=@yl (mJ s);have W6:=@y5 (mJ s);generalize ga (mJ s)=R at hs hok W6;obtain⟨p,x,e⟩:=R;simp only at hs hok W6;by_cases he:e=0
 rotate_left
 ·refine cB func5 ntmps5 ?_
  (have W:=he;repeat' (first|refine ar fun K hK=>?_|refine av ?_|(refine hK _ _ ?_;clear hK K)|(refine au ?_ ?_<;>intro hc<;>try exact jz)|refine cp (oU) ?_|refine cp (oX _) ?_|refine bv 4 ?_|refine bv 5 ?_|refine cC 8 ?_|refine cp (hs) ?_|refine aq ?_|exact jI|(clear hK K)))
  (refine bq [.tmp 6] ?_;try simp only[go_sem])
 have hp:po p:=hok he;have Vy:gG p:=W6 he;obtain⟨F,hF⟩:=yC hp.ok;have hl:=B6 b0;have YV:=Df j0;have hm:=FQ (kn b0).base (by have:=(xk hb).mB;omega);have hB:=GK (xk hb);have ZC:bz (nk j0).x.v.n:=hj.n_;have hja:bz (nk j0).x.at_:=hj.at_;have hSo:mb (mV (kn b0)).base:=Cr trivial;have WM:mV (kn b0)=⟨(kn b0).name,(kn b0).ax,gP [] (kn b0).base,[]⟩:=rfl;generalize kn b0=b1 at*;generalize nk j0=j at*;generalize gP [] b1.base=M at*;have ZD:(mV b1).own=[]:=by rw[WM]
 have YM:(mV b1).base=M:=by rw[WM]
 have hbi:(mV b1).ax=b1.ax:=by rw[WM]
 have Zv:(mV b1).name=b1.name:=by rw[WM]
 generalize mV b1=b at*;have Xf:=II hp Vy hF hB ZC;have Xf:=sC (args':=[_,.agg (pE b.name b.ax b.base),_]) Xf ⟨.refl _,yj ZD,.refl _,trivial⟩;rw[Zv,hbi,YM]at Xf;have ZB:=@Sm p hp.ok F hF b hB.inr hB.pJ ZD hSo j.x ZC;have VD:=@QC p F b j.x;generalize addB p F b j.x=Fk at*;obtain⟨Fb,Fe⟩:=Fk;simp only at Xf ZB VD;have hvB:∀t,bz t->aD prog 26 [.agg (cY p),.agg (pE b1.name b1.ax M),rI t] (.agg (ig (gy p (atB p F b t)))):=fun t ht=>by have:=sC (args':=[_,.agg (pE b.name b.ax b.base),_]) (qD hp Vy hF hB t ht).1 ⟨.refl _,yj ZD,.refl _,trivial⟩;rwa [Zv,hbi,YM]at this
 have hvS:∀t,bz t->aD prog 25 [.agg (ig (gy p (atB p F b t))),.agg (ig (gy p (atB p F b t)))] (rB true):=fun t ht=>by obtain⟨_,v1,v2,v3⟩:=qD hp Vy hF hB t ht;exact Ka v1 v2 v3
 have hMl:M.length<=100:=by rw[<-YM];exact hB.mB
 by_cases h1:Fe=0
 ·obtain⟨a0,a1,aF,aV⟩:=ZB h1;have hFb:gj Fb:=by
   rw[aF];exact⟨hB.inl,hB.mB,by show 1<=100;decide,hB.inr,hB.pJ,fun y hy=>by rw[List.mem_singleton.1 hy];exact ZC⟩
  have hvF:∀t,0<=t->t<j.x.at_->aD prog 26 [.agg (cY p),.agg (cr Fb),rI t] (.agg (ig (gy p (atB p F b t)))):=fun t t0 t1=>by have:=(qD hp Vy hF hFb t ⟨jB,jB⟩).1;rwa [aV t t0 t1]at this
  rw[Zv,hbi,YM]at aF;have f1:Fb.name=b1.name:=by rw[aF]
  have f2:Fb.own=[j.x]:=by rw[aF]
  have f3:Fb.base=M:=by rw[aF]
  clear aF ZB VD;refine cB func5 ntmps5 ?_
  (have W:=jA he (jA h1 (jA f1 (jA f2 (f3))));repeat' (first|refine ar fun K hK=>?_|refine av ?_|(with_reducible refine gR 12 ?_);refine dE 12 (bf 0 29) mixed ?_|(refine hK _ _ ?_;clear hK K)|(refine au ?_ ?_<;>intro hc<;>try exact jz)|refine cp (oU) ?_|refine cp (oX _) ?_|refine bv 4 ?_|refine bv 5 ?_|refine cC 8 ?_|refine cC 11 ?_|refine cp (hs) ?_|refine cp (hl) ?_|refine cp (hm) ?_|refine cp (YV) ?_|refine cp (Xf) ?_|refine aq ?_|exact jI|(clear hK K)))
  generalize U9:(if j.x.at_-10>0 then j.x.at_-10 else 0)=lo;have hbZ:0<=lo/\(lo<=j.x.at_):=by rw[<-U9];split<;>omega
  clear U9;have Vc:=hK;clear hK;refine dJ (S:=Nat) [(6,1),(13,2),(109,18)] (fun k=>lo+k<=j.x.at_) (fun k=>[(13,rI (lo+k))]) (fun _=>⟨[],[(4,.var 52 (pE b1.name b1.ax M)),(5,.var 58 (gL j)),(8,.var 32 (cY p)),(11,.var 52 (cr Fb))]⟩) (fun k=>(j.x.at_-lo).toNat-k) 0 jB (dK rfl bU) ?_;rintro k hk Kr Vb;by_cases D':lo+k<j.x.at_
  ·have g1:=hvF (lo+k) jB D';have g2:=hvB (lo+k) ⟨jB,jB⟩;have g3:=hvS (lo+k) ⟨jB,jB⟩;generalize gy p (atB p F b (lo+k))=V at*;refine S ?_
   (have W:=D';repeat' (first|refine ar fun K hK=>?_|refine av ?_|(with_reducible refine gR 17 ?_);refine dC 17 ([],[119,123,124],[]) [] (bf 0 10) mixed ?_|(refine hK _ _ ?_;clear hK K)|(refine au ?_ ?_<;>intro hc<;>try exact jz)|refine cq (g1) ?_|refine cq (g2) ?_|refine cq (g3) ?_|refine aq ?_|exact jI|(clear hK K)))
   exact Vb _ _ (dT (k+1) jB (by show(j.x.at_-lo).toNat-(k+1)<(j.x.at_-lo).toNat-k;omega) rfl bU)
  ·(refine S ?_;try exact jI)
   (have W:=D';repeat' (first|refine ar fun K hK=>?_|refine av ?_|(refine hK _ _ ?_;clear hK K)|(refine au ?_ ?_<;>intro hc<;>try exact jz)|refine Vc _ _ ?_|refine aq ?_|exact jI|(clear hK K)))
   (refine bq [.tmp 6] ?_;try simp only[go_sem])
 ·obtain⟨e1,e2⟩:=VD h1;subst e1;have q1:bZ.name=⟨#[]⟩:=rfl;have q2:bZ.ax.length=0:=rfl;rw[YM,ZD]at e2;have e3:(Fe=1\/Fe=65)\/Fe=62/\(M.length:Int) >= 8:=by
   rcases e2 with h|⟨h,h'⟩|h
   ·exact .inl (.inl h)
   ·exact .inr ⟨h,by simp only[List.length_nil]at h';omega⟩
   ·exact .inl (.inr h)
  clear ZB VD hvB hvS hSo e2;have fin:aD prog 5 [rS s,.agg (cr b0),.agg (gL j0)] (rB true):=by
   rcases e3 with(h|h)|⟨h,h8⟩
   ·subst h;refine cB func5 ntmps5 ?_
    (have W:=jA he (jA q1 (q2));repeat' (first|refine ar fun K hK=>?_|refine av ?_|(refine hK _ _ ?_;clear hK K)|(refine au ?_ ?_<;>intro hc<;>try exact jz)|refine cp (oU) ?_|refine cp (oX _) ?_|refine bv 4 ?_|refine bv 5 ?_|refine cC 8 ?_|refine cC 11 ?_|refine cp (hs) ?_|refine cp (hl) ?_|refine cp (hm) ?_|refine cp (YV) ?_|refine cp (Xf) ?_|refine aq ?_|exact jI|(clear hK K)))
    (refine bq [.tmp 6] ?_;try simp only[go_sem])
   ·subst h;refine cB func5 ntmps5 ?_
    (have W:=jA he (jA q1 (q2));repeat' (first|refine ar fun K hK=>?_|refine av ?_|(refine hK _ _ ?_;clear hK K)|(refine au ?_ ?_<;>intro hc<;>try exact jz)|refine cp (oU) ?_|refine cp (oX _) ?_|refine bv 4 ?_|refine bv 5 ?_|refine cC 8 ?_|refine cC 11 ?_|refine cp (hs) ?_|refine cp (hl) ?_|refine cp (hm) ?_|refine cp (YV) ?_|refine cp (Xf) ?_|refine aq ?_|exact jI|(clear hK K)))
    (refine bq [.tmp 6] ?_;try simp only[go_sem])
   ·subst h;refine cB func5 ntmps5 ?_
    (have W:=jA he (jA q1 (jA q2 (h8)));repeat' (first|refine ar fun K hK=>?_|refine av ?_|(refine hK _ _ ?_;clear hK K)|(refine au ?_ ?_<;>intro hc<;>try exact jz)|refine cp (oU) ?_|refine cp (oX _) ?_|refine bv 4 ?_|refine bv 5 ?_|refine cC 8 ?_|refine cC 11 ?_|refine cp (hs) ?_|refine cp (hl) ?_|refine cp (hm) ?_|refine cp (YV) ?_|refine cp (Xf) ?_|refine aq ?_|exact jI|(clear hK K)))
    (refine bq [.tmp 6] ?_;try simp only[go_sem])
  exact fin
def Pw(s:U0)(b:aE)(j:iL)(hb:BR b)(hj:JR j):aD prog 5 [rS s,.agg (cr b),.agg (gL j)] (rB true):=LA s b j hb hj
end Go.Proofs.YtjpcgmjaipfgdaaGreatDoor
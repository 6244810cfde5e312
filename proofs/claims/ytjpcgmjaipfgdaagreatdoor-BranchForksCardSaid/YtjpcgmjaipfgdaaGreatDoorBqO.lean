/- Lemmas. No conditions. -/
import Derived.Test.YtjpcgmjaipfgdaaGreatDoorBsD
set_option linter.all false
set_option maxHeartbeats 4000000
set_option maxRecDepth 10000
namespace Go.Proofs.YtjpcgmjaipfgdaaGreatDoor
open Go Go.Gd Tryz Go.Gd.MV
def QJ(s:U0)(b0:aE)(j0:iL)(hb:BR b0)(hj:JR j0):aD prog 4 [rS s,.agg (cr b0),.agg (gL j0)] (rB true):=by
 have hs:=AF (mJ s) (Dt s);have hok:=@yl (mJ s);have W6:=@y5 (mJ s);generalize ga (mJ s)=R at hs hok W6;obtain⟨p,x,e⟩:=R;simp only at hs hok W6;by_cases he:e=0
 rotate_left
 ·refine cB func4 ntmps4 ?_
  (have W:=he;repeat' (first|refine ar fun K hK=>?_|refine av ?_|(refine hK _ _ ?_;clear hK K)|(refine au ?_ ?_<;>intro hc<;>try exact jz)|refine cp (oU) ?_|refine cp (oX _) ?_|refine bv 4 ?_|refine bv 5 ?_|refine cC 8 ?_|refine cp (hs) ?_|refine aq ?_|exact jI|(clear hK K)))
  (refine bq [.tmp 6] ?_;try simp only[go_sem])
 have hp:po p:=hok he;have Vy:gG p:=W6 he;obtain⟨F,hF⟩:=yC hp.ok;have hl:=B6 b0;have YV:=Df j0;have hm:=FQ (kn b0).base (by have:=(xk hb).mB;omega);have hB:=GK (xk hb);have ZC:bz (nk j0).x.v.n:=hj.n_;have hja:bz (nk j0).x.at_:=hj.at_;have hjt:bz (nk j0).t:=hj.t;have hjn:bz (nk j0).n:=hj.n;have hbY:(mV (kn b0)).ax.length<=20:=by show(b0.ax.take 20).length<=20;rw[List.length_take];omega
 have hSo:mb (mV (kn b0)).base:=Cr trivial;have WM:mV (kn b0)=⟨(kn b0).name,(kn b0).ax,gP [] (kn b0).base,[]⟩:=rfl;generalize kn b0=b1 at*;generalize nk j0=j at*;generalize gP [] b1.base=M at*;have ZD:(mV b1).own=[]:=by rw[WM]
 have YM:(mV b1).base=M:=by rw[WM]
 have hbi:(mV b1).ax=b1.ax:=by rw[WM]
 have Zv:(mV b1).name=b1.name:=by rw[WM]
 generalize mV b1=b at*;have Xf:=A6 hp Vy hF hB j.name ZC hja;have VO:=IC hp Vy hF hB j.name j.t j.n hjt;have Xf:=sC (args':=[_,.agg (pE b.name b.ax b.base),_,_]) Xf ⟨.refl _,yj ZD,.refl _,.refl _,trivial⟩;have VO:=sC (args':=[_,.agg (pE b.name b.ax b.base),_,_,_]) VO ⟨.refl _,yj ZD,.refl _,.refl _,.refl _,trivial⟩;rw[Zv,hbi,YM]at Xf VO;have ZB:=@Uc p hp.ok F hF b hB.inr hB.pJ ZD hSo j.name (nP j.name) j.x ZC;have hii:=@RW p hp.ok F hF b hB.inr hB.pJ ZD hSo j.name (nP j.name) j.t j.n hjn;generalize forkB p F (nP j.name) b j.name j.x=Fk at*;generalize inputB p F (nP j.name) b j.name j.t j.n=In at*;obtain⟨Fb,Fe⟩:=Fk;obtain⟨Ib,Ie⟩:=In;simp only at Xf VO ZB hii;have hsub:b=⟨b1.name,b1.ax,M,[]⟩:=WM;have hvB:∀t,bz t->aD prog 26 [.agg (cY p),.agg (pE b1.name b1.ax M),rI t] (.agg (ig (gy p (atB p F b t)))):=fun t ht=>by have:=sC (args':=[_,.agg (pE b.name b.ax b.base),_]) (qD hp Vy hF hB t ht).1 ⟨.refl _,yj ZD,.refl _,trivial⟩;rwa [Zv,hbi,YM]at this
 have hvS:∀t,bz t->aD prog 25 [.agg (ig (gy p (atB p F b t))),.agg (ig (gy p (atB p F b t)))] (rB true):=fun t ht=>by obtain⟨_,v1,v2,v3⟩:=qD hp Vy hF hB t ht;exact Ka v1 v2 v3
 have hI:Ie=0->0<=j.t/\j.t<=200/\(∀t,0<=t->t<=j.t->aD prog 26 [.agg (cY p),.agg (cr Ib),rI t] (.agg (ig (gy p (atB p F b t)))))/\Ib.own=[]/\(¬(Ib.ax.length:Int)=0/\0<Ib.ax.length/\Ib.ax.length<=1000)/\nth Ib.ax (Ib.ax.length-1)=j.n:=fun h2=>by
  obtain⟨c0,c1,⟨q,cI⟩,cV⟩:=hii h2;have hIb:gj Ib:=by
   rw[cI];refine⟨?_,Nat.le_trans (yv b.base j.t) hB.mB,Nat.zero_le _,fun y hy=>?_,fun y hy=>hB.pJ y (vm hy).1,fun y hy=>by cases hy⟩
   ·have:=hB.inl;show(b.ax.take q++[j.n]).length<=100;rw[List.length_append,List.length_take];simp only[List.length_cons,List.length_nil];omega
   ·rcases List.mem_append.1 hy with hy|hy
    ·exact hB.inr y (List.mem_of_mem_take hy)
    ·rw[List.mem_singleton.1 hy];exact hjn
  have WO:Ib.ax.length=(b.ax.take q).length+1:=by rw[cI];simp
  have Vn:=hIb.inl;refine⟨c0,c1,fun t t0 t1=>?_,by rw[cI],⟨jB,jB,jB⟩,by rw[cI];exact Fg _ _⟩;have:=(qD hp Vy hF hIb t ⟨jB,jB⟩).1;rwa [cV t t0 t1]at this
 clear hii;by_cases h1:Fe=0
 ·obtain⟨a0,a1,aF,aA,aV⟩:=ZB h1;have hFb:gj Fb:=by
   rw[aF];exact⟨hB.inl,Nat.le_trans (yv b.base j.x.at_) hB.mB,by show 1<=100;decide,hB.inr,fun y hy=>hB.pJ y (vm hy).1,fun y hy=>by rw[List.mem_singleton.1 hy];exact ZC⟩
  have hvF:∀t,0<=t->t<j.x.at_->aD prog 26 [.agg (cY p),.agg (cr Fb),rI t] (.agg (ig (gy p (atB p F b t)))):=fun t t0 t1=>by have:=(qD hp Vy hF hFb t ⟨jB,jB⟩).1;rwa [aV t t0 t1]at this
  have Yr:=wI hFb;rw[aA]at Yr;refine cB func4 ntmps4 ?_
  (have W:=jA he h1;repeat' (first|refine ar fun K hK=>?_|refine av ?_|(refine hK _ _ ?_;clear hK K)|(refine au ?_ ?_<;>intro hc<;>try exact jz)|refine cp (oU) ?_|refine cp (oX _) ?_|refine bv 4 ?_|refine bv 5 ?_|refine cC 8 ?_|refine cC 11 ?_|refine cp (hs) ?_|refine cp (hl) ?_|refine cp (hm) ?_|refine cp (YV) ?_|refine cp (Xf) ?_|refine aq ?_|exact jI|(clear hK K)))
  generalize U9:(if j.x.at_-12>0 then j.x.at_-12 else 0)=lo;have hbZ:0<=lo/\lo<=j.x.at_:=by rw[<-U9];split<;>omega
  clear U9;have Vc:=hK;clear hK;have X9:=hK;clear hK;refine dJ (S:=Nat) [(6,1),(14,2),(59,16)] (fun k=>lo+k<=j.x.at_) (fun k=>[(14,rI (lo+k))]) (fun _=>⟨[],[(4,.var 52 (pE b1.name b1.ax M)),(5,.var 58 (gL j)),(8,.var 32 (cY p)),(11,.var 52 (cr Fb))]⟩) (fun k=>(j.x.at_-lo).toNat-k) 0 jB (dK rfl bU) ?_;rintro k hk Kr Vb;by_cases D':lo+k<j.x.at_
  ·have g1:=hvF (lo+k) jB D';have g2:=hvB (lo+k) ⟨jB,jB⟩;have g3:=hvS (lo+k) ⟨jB,jB⟩;generalize gy p (atB p F b (lo+k))=V at*;refine S ?_
   (have W:=D';repeat' (first|refine ar fun K hK=>?_|refine av ?_|(with_reducible refine gR 15 ?_);refine dC 15 ([],[67,71,72],[]) [] (bf 0 10) mixed ?_|(refine hK _ _ ?_;clear hK K)|(refine au ?_ ?_<;>intro hc<;>try exact jz)|refine cq (g1) ?_|refine cq (g2) ?_|refine cq (g3) ?_|refine aq ?_|exact jI|(clear hK K)))
   exact Vb _ _ (dT (k+1) jB (by show(j.x.at_-lo).toNat-(k+1)<(j.x.at_-lo).toNat-k;omega) rfl bU)
  ·generalize dh b.base j.x.at_=U at*;have hUl:U.length<=100:=by rw[aF]at hFb;exact hFb.mB
   have Xp:nth (U++[j.x]) ((U++[j.x]).length-1)=j.x:=Fg U j.x;have hlz:¬(((U++[j.x]).length:Nat):Int)=0:=by rw[List.length_append];simp;omega
   have hlr:(U++[j.x]).length<=200:=by rw[List.length_append];simp;omega
   have hlp:0<(U++[j.x]).length:=by rw[List.length_append];simp
   generalize U++[j.x]=UX at*;have hFs:Fb=⟨j.name,b.ax,U,[j.x]⟩:=aF;have f1:Fb.name=j.name:=by rw[hFs]
   have f2:Fb.own=[j.x]:=by rw[hFs]
   clear hFs aF;by_cases h2:Ie=0
   ·obtain⟨c0,c1,hvI,hIo,hIl,hIn⟩:=hI h2;refine S ?_
    (have W:=jA D' (jA Xp (jA hlz (jA h2 (jA f1 (f2)))));repeat' (first|refine ar fun K hK=>?_|refine av ?_|(with_reducible refine gR 19 ?_);refine dE 19 (bf 0 27) mixed ?_|(refine hK _ _ ?_;clear hK K)|(refine au ?_ ?_<;>intro hc<;>try exact jz)|refine cp (Yr) ?_|refine cC 17 ?_|refine cp (VO) ?_|refine Vc _ _ ?_|refine X9 _ _ ?_|refine aq ?_|exact jI|(clear hK K)))
    generalize V6:(if j.t-12>0 then j.t-12 else 0)=lo2;have hb4:0<=lo2/\lo2<=j.t:=by rw[<-V6];split<;>omega
    clear V6;have Vc:=hK;clear hK;have X9:=hK;clear hK;refine dJ (S:=Nat) [(6,1),(19,2),(122,17)] (fun k=>lo2+k<=j.t+1) (fun k=>[(19,rI (lo2+k))]) (fun _=>⟨[],[(4,.var 52 (pE b1.name b1.ax M)),(5,.var 58 (gL j)),(8,.var 32 (cY p)),(11,.var 52 (cr Fb)),(17,.var 52 (cr Ib))]⟩) (fun k=>(j.t+1-lo2).toNat-k) 0 jB (dK rfl bU) ?_;rintro k2 Vk Kr Vb;by_cases Yc:lo2+k2<=j.t
    ·have g1:=hvI (lo2+k2) jB Yc;have g2:=hvB (lo2+k2) ⟨jB,jB⟩;have g3:=hvS (lo2+k2) ⟨jB,jB⟩;generalize gy p (atB p F b (lo2+k2))=V at*;refine S ?_
     (have W:=Yc;repeat' (first|refine ar fun K hK=>?_|refine av ?_|(with_reducible refine gR 26 ?_);refine dC 26 ([],[131,135,136],[]) [] (bf 0 10) mixed ?_|(refine hK _ _ ?_;clear hK K)|(refine au ?_ ?_<;>intro hc<;>try exact jz)|refine cq (g1) ?_|refine cq (g2) ?_|refine cq (g3) ?_|refine aq ?_|exact jI|(clear hK K)))
     exact Vb _ _ (dT (k2+1) jB (by show(j.t+1-lo2).toNat-(k2+1)<(j.t+1-lo2).toNat-k2;omega) rfl bU)
    ·(refine S ?_;try exact jI)
     (have W:=jA Yc (jA hIo (jA hIl (hIn)));repeat' (first|refine ar fun K hK=>?_|refine av ?_|(with_reducible refine gR 29 ?_);refine dE 29 (bf 0 17) mixed ?_|(refine hK _ _ ?_;clear hK K)|(refine au ?_ ?_<;>intro hc<;>try exact jz)|refine Vc _ _ ?_|refine X9 _ _ ?_|refine aq ?_|exact jI|(clear hK K)))
     (refine bq [.tmp 6] ?_;try simp only[go_sem])
   ·(refine S ?_;try exact jI)
    (have W:=jA D' (jA Xp (jA hlz (jA h2 (jA f1 (f2)))));repeat' (first|refine ar fun K hK=>?_|refine av ?_|(with_reducible refine gR 19 ?_);refine dE 19 (bf 0 27) mixed ?_|(refine hK _ _ ?_;clear hK K)|(refine au ?_ ?_<;>intro hc<;>try exact jz)|refine cp (Yr) ?_|refine cC 17 ?_|refine cp (VO) ?_|refine Vc _ _ ?_|refine X9 _ _ ?_|refine aq ?_|exact jI|(clear hK K)))
    (refine bq [.tmp 6] ?_;try simp only[go_sem])
 by_cases h2:Ie=0
 ·obtain⟨c0,c1,hvI,hIo,hIl,hIn⟩:=hI h2;refine cB func4 ntmps4 ?_
  (have W:=jA he (jA h1 (h2));repeat' (first|refine ar fun K hK=>?_|refine av ?_|(refine hK _ _ ?_;clear hK K)|(refine au ?_ ?_<;>intro hc<;>try exact jz)|refine cp (oU) ?_|refine cp (oX _) ?_|refine bv 4 ?_|refine bv 5 ?_|refine cC 8 ?_|refine cC 11 ?_|refine cC 17 ?_|refine cp (hs) ?_|refine cp (hl) ?_|refine cp (hm) ?_|refine cp (YV) ?_|refine cp (Xf) ?_|refine cp (VO) ?_|refine aq ?_|exact jI|(clear hK K)))
  generalize V6:(if j.t-12>0 then j.t-12 else 0)=lo2;have hb4:0<=lo2/\lo2<=j.t:=by rw[<-V6];split<;>omega
  clear V6;have Vc:=hK;clear hK;have X9:=hK;clear hK;refine dJ (S:=Nat) [(6,1),(19,2),(122,17)] (fun k=>lo2+k<=j.t+1) (fun k=>[(19,rI (lo2+k))]) (fun _=>⟨[],[(4,.var 52 (pE b1.name b1.ax M)),(5,.var 58 (gL j)),(8,.var 32 (cY p)),(11,.var 52 (cr Fb)),(17,.var 52 (cr Ib))]⟩) (fun k=>(j.t+1-lo2).toNat-k) 0 jB (dK rfl bU) ?_;rintro k2 Vk Kr Vb;by_cases Yc:lo2+k2<=j.t
  ·have g1:=hvI (lo2+k2) jB Yc;have g2:=hvB (lo2+k2) ⟨jB,jB⟩;have g3:=hvS (lo2+k2) ⟨jB,jB⟩;generalize gy p (atB p F b (lo2+k2))=V at*;refine S ?_
   (have W:=Yc;repeat' (first|refine ar fun K hK=>?_|refine av ?_|(with_reducible refine gR 26 ?_);refine dC 26 ([],[131,135,136],[]) [] (bf 0 10) mixed ?_|(refine hK _ _ ?_;clear hK K)|(refine au ?_ ?_<;>intro hc<;>try exact jz)|refine cq (g1) ?_|refine cq (g2) ?_|refine cq (g3) ?_|refine aq ?_|exact jI|(clear hK K)))
   exact Vb _ _ (dT (k2+1) jB (by show(j.t+1-lo2).toNat-(k2+1)<(j.t+1-lo2).toNat-k2;omega) rfl bU)
  ·(refine S ?_;try exact jI)
   (have W:=jA Yc (jA hIo (jA hIl (hIn)));repeat' (first|refine ar fun K hK=>?_|refine av ?_|(with_reducible refine gR 29 ?_);refine dE 29 (bf 0 17) mixed ?_|(refine hK _ _ ?_;clear hK K)|(refine au ?_ ?_<;>intro hc<;>try exact jz)|refine Vc _ _ ?_|refine X9 _ _ ?_|refine aq ?_|exact jI|(clear hK K)))
   (refine bq [.tmp 6] ?_;try simp only[go_sem])
 ·refine cB func4 ntmps4 ?_
  (have W:=jA he (jA h1 (h2));repeat' (first|refine ar fun K hK=>?_|refine av ?_|(refine hK _ _ ?_;clear hK K)|(refine au ?_ ?_<;>intro hc<;>try exact jz)|refine cp (oU) ?_|refine cp (oX _) ?_|refine bv 4 ?_|refine bv 5 ?_|refine cC 8 ?_|refine cC 11 ?_|refine cC 17 ?_|refine cp (hs) ?_|refine cp (hl) ?_|refine cp (hm) ?_|refine cp (YV) ?_|refine cp (Xf) ?_|refine cp (VO) ?_|refine aq ?_|exact jI|(clear hK K)))
  (refine bq [.tmp 6] ?_;try simp only[go_sem])
def Tt(s:U0)(b:aE)(j:iL)(hb:BR b)(hj:JR j):aD prog 4 [rS s,.agg (cr b),.agg (gL j)] (rB true):=QJ s b j hb hj
end Go.Proofs.YtjpcgmjaipfgdaaGreatDoor
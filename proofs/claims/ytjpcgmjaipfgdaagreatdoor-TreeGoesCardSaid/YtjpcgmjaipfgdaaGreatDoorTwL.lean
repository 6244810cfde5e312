/- Lemmas. No conditions. -/
import Derived.Test.YtjpcgmjaipfgdaaGreatDoorTwT
set_option linter.all false
set_option maxHeartbeats 4000000
set_option maxRecDepth 10000
namespace Go.Proofs.YtjpcgmjaipfgdaaGreatDoor
open Go Go.Gd Tryz Go.Gd.MV
def SV(s:TF)(l:List mO)(t:Int)(hl:∀x∈l,OR x)(ht:0<=t/\t<256):aB prog 10 [rS s,aM ii 7 l,.raw (.int .u8 t)] (rB true):=by
 have hs:=Eu (rF s) (Ng s);have hok:=@IG (rF s);have Y1:=@GZ (rF s);generalize fY (rF s)=R at hs hok Y1;obtain⟨p,x,e⟩:=R;simp only at hs hok Y1;by_cases he:e=0
 rotate_left
 ·refine bM func10 ntmps10 ?_
  (have W:=he;repeat' (first|refine aq fun K hK=>?_|refine au ?_|(with_reducible refine gR 9 ?_);refine dQ 9 mixed ?_|(refine hK _ _ ?_;clear hK K)|(refine ap ?_ ?_<;>intro hc<;>try exact jz)|refine cp (F0) ?_|refine cp (DX _) ?_|refine bY 8 ?_|refine cp (hs) ?_|(refine bU ?_ ?_<;>intro hc<;>try exact jz)|refine ar ?_|exact jI|(clear hK K)))
  (refine aZ [.tmp 6] ?_;try simp only[go_sem])
 have hp:mn p:=hok he;have Tn:fq p:=Y1 he;obtain⟨F,hF⟩:=Gm hp.ok;have hW:=DN hp.ok hF (l:=l) fun x hx=>⟨(hl x hx).n,(hl x hx).v⟩
 have hD:∀k,k<l.length->aB prog 42 [.agg (ci p),.agg (cS (woodsW p F l k)),.agg (ii (ri (nth l k)))] (.aP [.agg (cS (woodsW p F l (k+1))),rI (doesW p F (woodsW p F l k) (ri (nth l k))).2.1,rI (doesW p F (woodsW p F l k) (ri (nth l k))).2.2]):=fun k hk=>by have hx:=hl _ (fh hk);exact NE hp Tn hF (hW k jB) (ri (nth l k)) hx.k0 hx.n hx.v
 have Z3:aB prog 40 [] (.agg (cS (woodsW p F l 0))):=C4;obtain⟨n,Wu,Uf,W8⟩:∃n:Int,0<=n/\n<=220/\t.tmod 221=n:=⟨t % 221,jB,jB,Int.tmod_eq_emod_of_nonneg ht.1⟩;have hG:=fun k hk=>wA hp Tn hF (w:=woodsW p F l k) (hW k hk) n ⟨jB,jB⟩
 have WZ:=fun k hk=>wA hp Tn hF (w:=woodsW p F l k) (hW k hk) (n+1) ⟨jB,jB⟩
 have XE:=fun k hk=>wA hp Tn hF (w:=woodsW p F l k) (hW k hk) (-1) ⟨jC,jC⟩
 have X9:=fun k hk=>PX (w:=woodsW p F l k) (hW k hk)
 have hGo:=fun k=>HX p F (woodsW p F l k) n
 have haE:=fun k=>HX p F (woodsW p F l k) (n+1)
 have hGn:=fun k hk=>Jm hp.ok hF (hW k hk) Wu
 have hGm:∀k,goW p F (woodsW p F l k) (-1)=(woodsW p F l k,63):=fun k=>by unfold goW;rw[if_pos (.inl jC)]
 generalize woodsW p F l=W9 at*;refine bM func10 ntmps10 ?_
 (have W:=he;repeat' (first|refine aq fun K hK=>?_|refine au ?_|(with_reducible refine gR 9 ?_);refine dC 9 ([],[52,53],[]) [] (bc 0 13) mixed ?_|(refine hK _ _ ?_;clear hK K)|(refine ap ?_ ?_<;>intro hc<;>try exact jz)|refine cp (F0) ?_|refine cp (DX _) ?_|refine bY 8 ?_|refine bY 11 ?_|refine cp (hs) ?_|refine cp (Z3) ?_|(refine bU ?_ ?_<;>intro hc<;>try exact jz)|refine ar ?_|exact jI|(clear hK K)))
 have Tk:=hK;clear hK;refine eu (S:=Nat) [(12,1),(35,22)] (fun k=>k<=l.length/\k<=16) (fun k=>[(12,rI k)]) (fun k=>⟨[],[(8,.var 32 (ci p)),(11,.var 90 (cS (W9 k)))]⟩) (fun k=>16-k) 0 ⟨Nat.zero_le _,Nat.zero_le _⟩ (eD rfl cH) ?_;rintro k ⟨hk,Tl⟩ Kr Tg;by_cases O':k<l.length/\k<16
 ·obtain⟨h1,h2⟩:=O';have ho:=Rm (nth l k);have hd:=hD k h1;refine S ?_
  (have W:=jA h1 h2;repeat' (first|refine aq fun K hK=>?_|refine au ?_|(with_reducible refine gR 9 ?_);refine dC 9 ([],[52,53],[]) [] (bc 0 13) mixed ?_|(refine hK _ _ ?_;clear hK K)|(refine ap ?_ ?_<;>intro hc<;>try exact jz)|refine cq (ho) ?_|refine cq (hd) ?_|refine Tk _ _ ?_|(refine bU ?_ ?_<;>intro hc<;>try exact jz)|refine ar ?_|exact jI|(clear hK K)))
  exact Tg _ _ (eJ (k+1) ⟨jB,jB⟩ (by show 16-(k+1)<16-k;omega) rfl cH)
 ·have hq:¬k<l.length\/k<l.length/\¬k<16:=jB;have hG:=hG k hk;have WZ:=WZ k hk;have XE:=XE k hk;have X9:=X9 k hk;rw[hGm k]at XE;simp only at XE;have XS:=hGn k hk;rcases hGo k with g|⟨g,g1⟩
  ·have XS:=XS g;rw[g]at hG;rw[XS]at WZ;simp only at hG WZ;generalize W9 k=w at*;rcases hq with h1|⟨h1,h2⟩
   ·(refine S ?_;try exact jI)
    (have W:=jA h1 W8;repeat' (first|refine aq fun K hK=>?_|refine au ?_|(with_reducible refine gR 9 ?_);refine dC 9 ([],[52,53],[]) [] (bc 0 13) mixed ?_|(refine hK _ _ ?_;clear hK K)|(refine ap ?_ ?_<;>intro hc<;>try exact jz)|refine bY 14 ?_|refine bY 16 ?_|refine bY 18 ?_|refine cp (hG) ?_|refine cp (WZ) ?_|refine cp (XE) ?_|refine cp (X9) ?_|refine Tk _ _ ?_|(refine bU ?_ ?_<;>intro hc<;>try exact jz)|refine ar ?_|exact jI|(clear hK K)))
    (refine aZ [.tmp 6] ?_;try simp only[go_sem])
   ·(refine S ?_;try exact jI)
    (have W:=jA h1 (jA h2 (W8));repeat' (first|refine aq fun K hK=>?_|refine au ?_|(with_reducible refine gR 9 ?_);refine dC 9 ([],[52,53],[]) [] (bc 0 13) mixed ?_|(refine hK _ _ ?_;clear hK K)|(refine ap ?_ ?_<;>intro hc<;>try exact jz)|refine bY 14 ?_|refine bY 16 ?_|refine bY 18 ?_|refine cp (hG) ?_|refine cp (WZ) ?_|refine cp (XE) ?_|refine cp (X9) ?_|refine Tk _ _ ?_|(refine bU ?_ ?_<;>intro hc<;>try exact jz)|refine ar ?_|exact jI|(clear hK K)))
    (refine aZ [.tmp 6] ?_;try simp only[go_sem])
  ·rw[g]at hG;simp only at hG;have hX:∃x f,goW p F (W9 k) (n+1)=(x,f)/\(f≠0\/f=0/\x.time=n+1):=by
    rcases haE k with g|⟨g,_⟩
    ·exact⟨_,_,g,.inl jC⟩
    ·exact⟨_,_,g,.inr ⟨rfl,rfl⟩⟩
   obtain⟨x1,f1,e1,hf1⟩:=hX;rw[e1]at WZ;simp only at WZ;have WB:n<=200:=g1;have hwt:∃w,W9 k=w:=⟨_,rfl⟩;obtain⟨w,hw⟩:=hwt;rw[hw]at hG WZ XE X9 ⊢;have Tc:({ ({ w with time:=n }:aX)with time:=w.time }:aX)=w:=rfl;rcases hq with h1|⟨h1,h2⟩<;>rcases hf1 with c1|⟨c1,c2⟩
   ·(refine S ?_;try exact jI)
    (have W:=jA h1 (jA W8 (jA c1 (WB)));repeat' (first|refine aq fun K hK=>?_|refine au ?_|(with_reducible refine gR 9 ?_);refine dC 9 ([],[52,53],[]) [] (bc 0 13) mixed ?_|(refine hK _ _ ?_;clear hK K)|(refine ap ?_ ?_<;>intro hc<;>try exact jz)|refine bY 14 ?_|refine bY 16 ?_|refine bY 18 ?_|refine bY 21 ?_|refine cp (hG) ?_|refine cp (WZ) ?_|refine cp (XE) ?_|refine cp (X9) ?_|refine Tk _ _ ?_|(refine bU ?_ ?_<;>intro hc<;>try exact jz)|refine ar ?_|exact jI|(clear hK K)))
    (refine aZ [.tmp 6] ?_;try simp only[go_sem])
   ·(refine S ?_;try exact jI)
    (have W:=jA h1 (jA W8 (jA c1 (jA c2 (WB))));repeat' (first|refine aq fun K hK=>?_|refine au ?_|(with_reducible refine gR 9 ?_);refine dC 9 ([],[52,53],[]) [] (bc 0 13) mixed ?_|(refine hK _ _ ?_;clear hK K)|(refine ap ?_ ?_<;>intro hc<;>try exact jz)|refine bY 14 ?_|refine bY 16 ?_|refine bY 18 ?_|refine bY 21 ?_|refine cp (hG) ?_|refine cp (WZ) ?_|refine cp (XE) ?_|refine cp (X9) ?_|refine Tk _ _ ?_|(refine bU ?_ ?_<;>intro hc<;>try exact jz)|refine ar ?_|exact jI|(clear hK K)))
    (refine aZ [.tmp 6] ?_;try simp only[go_sem])
   ·(refine S ?_;try exact jI)
    (have W:=jA h1 (jA h2 (jA W8 (jA c1 (WB))));repeat' (first|refine aq fun K hK=>?_|refine au ?_|(with_reducible refine gR 9 ?_);refine dC 9 ([],[52,53],[]) [] (bc 0 13) mixed ?_|(refine hK _ _ ?_;clear hK K)|(refine ap ?_ ?_<;>intro hc<;>try exact jz)|refine bY 14 ?_|refine bY 16 ?_|refine bY 18 ?_|refine bY 21 ?_|refine cp (hG) ?_|refine cp (WZ) ?_|refine cp (XE) ?_|refine cp (X9) ?_|refine Tk _ _ ?_|(refine bU ?_ ?_<;>intro hc<;>try exact jz)|refine ar ?_|exact jI|(clear hK K)))
    (refine aZ [.tmp 6] ?_;try simp only[go_sem])
   ·(refine S ?_;try exact jI)
    (have W:=jA h1 (jA h2 (jA W8 (jA c1 (jA c2 (WB)))));repeat' (first|refine aq fun K hK=>?_|refine au ?_|(with_reducible refine gR 9 ?_);refine dC 9 ([],[52,53],[]) [] (bc 0 13) mixed ?_|(refine hK _ _ ?_;clear hK K)|(refine ap ?_ ?_<;>intro hc<;>try exact jz)|refine bY 14 ?_|refine bY 16 ?_|refine bY 18 ?_|refine bY 21 ?_|refine cp (hG) ?_|refine cp (WZ) ?_|refine cp (XE) ?_|refine cp (X9) ?_|refine Tk _ _ ?_|(refine bU ?_ ?_<;>intro hc<;>try exact jz)|refine ar ?_|exact jI|(clear hK K)))
    (refine aZ [.tmp 6] ?_;try simp only[go_sem])
end Go.Proofs.YtjpcgmjaipfgdaaGreatDoor
/- Lemmas. No conditions. -/
import Derived.Test.YtijdhbokcdpklaaGreatDoorTwS
set_option linter.all false
set_option maxHeartbeats 4000000
set_option maxRecDepth 10000
namespace Go.Gd
open Go
structure OR(o:nj):Prop where
 k0:0<=o.kind
 k1:o.kind<256
 n:bD o.n
 v:bD o.v.n
end Go.Gd
namespace Go.Proofs.YtijdhbokcdpklaaGreatDoor
open Go Go.Gd Tryz Go.Gd.MV
def QJ(s:UI)(l:List nj)(n:Int)(hl:∀x∈l,OR x)(hn:bD n):aC prog 3 [rS s,aP iq 7 l,rI n] (rB true):=by
 have hs:=JS (qP s) (RC s);have hok:=@IA (qP s);have hae:=@Fv (qP s);generalize gh (qP s)=R at hs hok hae;obtain⟨p,x,e⟩:=R;simp only at hs hok hae;by_cases he:e=0
 rotate_left
 ·refine bQ func3 ntmps3 ?_
  (have W:=he;repeat' (first|refine av fun K hK=>?_|refine au ?_|(with_reducible refine gR 9 ?_);refine dQ 9 mixed ?_|(refine hK _ _ ?_;clear hK K)|(refine ar ?_ ?_<;>intro hc<;>try exact jz)|refine cp (Hv) ?_|refine cp (IE _) ?_|refine cL 8 ?_|refine cp (hs) ?_|(refine bY ?_ ?_<;>intro hc<;>try exact jz)|refine aq ?_|exact jI|(clear hK K)))
  (refine ba [.tmp 6] ?_;try simp only[go_sem])
 have hp:mJ p:=hok he;have Uw:fw p:=hae he;obtain⟨F,hF⟩:=Gj hp.ok;have hW:=GZ hp.ok hF (l:=l) fun x hx=>⟨(hl x hx).n,(hl x hx).v⟩
 have hD:∀k,k<l.length->aC prog 9 [.agg (cn p),.agg (cU (woodsW p F l k)),.agg (iq (rM (nth l k)))] (.aQ [.agg (cU (woodsW p F l (k+1))),rI (doesW p F (woodsW p F l k) (rM (nth l k))).2.1,rI (doesW p F (woodsW p F l k) (rM (nth l k))).2.2]):=fun k hk=>by have hx:=hl _ (ff hk);exact Ue hp Uw hF (hW k jB).j.ok (rM (nth l k)) hx.k0 hx.n hx.v
 have hnw:aC prog 8 [] (.agg (cU (woodsW p F l 0))):=Iu;have hZ:∀k,k<=l.length->∃w,w=woodsW p F l k/\WI p F w:=fun k hk=>⟨_,rfl,hW k hk⟩
 generalize woodsW p F l=Wl at*;refine bQ func3 ntmps3 ?_
 (have W:=he;repeat' (first|(with_reducible refine gR 10 ?_);refine sS [] ?_|refine av fun K hK=>?_|refine au ?_|(with_reducible refine gR 9 ?_);refine dC 9 ([],[51,52],[]) [] (bf 0 13) mixed ?_|(refine hK _ _ ?_;clear hK K)|(refine ar ?_ ?_<;>intro hc<;>try exact jz)|refine cp (Hv) ?_|refine cp (IE _) ?_|refine cL 8 ?_|refine cL 11 ?_|refine cp (hs) ?_|refine cp (hnw) ?_|(refine bY ?_ ?_<;>intro hc<;>try exact jz)|refine aq ?_|exact jI|(clear hK K)))
 have Ux:=hK;clear hK;refine eN (S:=Nat) [(12,1),(34,22)] (fun k=>k<=l.length/\k<=16) (fun k=>[(12,rI k)]) (fun k=>⟨[],[(8,.var 30 (cn p)),(11,.var 37 (cU (Wl k)))]⟩) (fun k=>16-k) 0 ⟨Nat.zero_le _,Nat.zero_le _⟩ (eR rfl cH) ?_;rintro k ⟨hk,Uy⟩ Kr Ut;by_cases O':k<l.length/\k<16
 ·obtain⟨h1,h2⟩:=O';have ho:=Rh (nth l k);have hd:=hD k h1;refine S ?_
  (have W:=jA h1 h2;repeat' (first|(with_reducible refine gR 10 ?_);refine sS [] ?_|refine av fun K hK=>?_|refine au ?_|(with_reducible refine gR 9 ?_);refine dC 9 ([],[51,52],[]) [] (bf 0 13) mixed ?_|(refine hK _ _ ?_;clear hK K)|(refine ar ?_ ?_<;>intro hc<;>try exact jz)|refine cq (ho) ?_|refine cq (hd) ?_|refine Ux _ _ ?_|(refine bY ?_ ?_<;>intro hc<;>try exact jz)|refine aq ?_|exact jI|(clear hK K)))
  exact Ut _ _ (eQ (k+1) ⟨jB,jB⟩ (by show 16-(k+1)<16-k;omega) rfl cH)
 have hex:((k<l.length)=False)\/((k<l.length)=True/\(k<16)=False):=by
  by_cases c:k<l.length
  ·exact .inr ⟨eq_true c,eq_false jB⟩
  ·exact .inl (eq_false c)
 obtain⟨w,hw,hI⟩:=hZ k hk;rw[<-hw];have hSm:=TF hI.j.ok;have h8:=hI.j.l8;have h8':¬(w.l.length:Int)>8:=jB;have hbp:(w.l.length:Int)<=8:=jB;have XR:=rK w (⟨#[122,122]⟩:UI) jB;by_cases hz:dw (⟨#[122,122]⟩:UI) w.l 0<0
 rotate_left
 ·have U':dw (⟨#[122,122]⟩:UI) w.l 0 >= 0:=jB;rcases hex with h1|h1
  all_goals
   refine S ?_
   (have W:=jA h1 (jA h8' (jA hbp (U')));repeat' (first|(with_reducible refine gR 10 ?_);refine sS [] ?_|refine av fun K hK=>?_|refine au ?_|(with_reducible refine gR 9 ?_);refine dC 9 ([],[51,52],[]) [] (bf 0 13) mixed ?_|(refine hK _ _ ?_;clear hK K)|(refine ar ?_ ?_<;>intro hc<;>try exact jz)|(first|refine cg (XR) ?_|refine qb (XR) ?_)|refine cq (XR) ?_|refine Ux _ _ ?_|(refine bY ?_ ?_<;>intro hc<;>try exact jz)|refine aq ?_|exact jI|(clear hK K)))
   (refine ba [.tmp 6] ?_;try simp only[go_sem])
 have U':¬dw (⟨#[122,122]⟩:UI) w.l 0 >= 0:=jB;have Vo:=GB hp Uw hF hI.j.ok (⟨#[122,122]⟩:UI) n;have V7:=hI.j.c0;have U1:=hI.j.c1;rcases QW hp.ok hF hI (nm:=(⟨#[122,122]⟩:UI)) jC hz n with g|⟨x,g,hx⟩
 ·rw[g]at Vo;simp only at Vo;rcases hex with h1|h1
  all_goals
   refine S ?_
   (have W:=jA h1 (jA h8' (jA U' (jA V7 (U1))));repeat' (first|(with_reducible refine gR 10 ?_);refine sS [] ?_|refine av fun K hK=>?_|refine au ?_|(with_reducible refine gR 9 ?_);refine dC 9 ([],[51,52],[]) [] (bf 0 13) mixed ?_|(refine hK _ _ ?_;clear hK K)|(refine ar ?_ ?_<;>intro hc<;>try exact jz)|refine cL 14 ?_|(first|refine cg (XR) ?_|refine qb (XR) ?_)|refine cq (XR) ?_|refine cp (Vo) ?_|refine cp (hSm) ?_|refine Ux _ _ ?_|(refine bY ?_ ?_<;>intro hc<;>try exact jz)|refine aq ?_|exact jI|(clear hK K)))
   (refine ba [.tmp 6] ?_;try simp only[go_sem])
 ·rw[g]at Vo;simp only at Vo;have hX:=F9 hp.ok hF hI (nm:=(⟨#[122,122]⟩:UI)) hn;rw[g]at hX;obtain⟨b1,b2⟩:=P1 hp.ok hF hI hx hz;have haL:iW { w with l:=w.l++[x] }:=⟨hX.j.ok.ln,hI.j.c0,by show w.cur<((w.l++[x]).length:Nat);simp;omega,hX.j.ok.b,hI.j.ok.t⟩;have hsw:=Jd hp Uw hF hX.j.ok (curB w).name;have hpr:=Jt hp Uw hF haL (⟨#[122,122]⟩:UI);rw[b1]at hsw;simp only at hpr;rw[b2]at hpr;simp only at hsw hpr;unfold curB at hsw;have V0:(w.l++[x]).length=w.l.length+1:=jE;clear hX b1 b2 haL g;obtain⟨Y,hY⟩:∃Y:aU,Y={ w with l:=w.l++[x] }:=⟨_,rfl⟩;obtain⟨X,hXe⟩:∃X:aU,X={ w with l:=w.l++[x],cur:=w.l.length }:=⟨_,rfl⟩;have x1:X.cur=w.l.length:=by rw[hXe]
  have x2:(X.l.length:Int)=(w.l.length:Int)+1:=by rw[hXe];show((w.l++[x]).length:Int)=_;omega
  have x3:X.time=w.time:=by rw[hXe]
  rw[<-hXe]at Vo hsw;rw[<-hY]at hsw hpr;rcases hex with h1|h1
  all_goals
   refine S ?_
   (have W:=jA h1 (jA h8' (jA U' (jA V7 (jA U1 (jA x1 (jA x2 (x3)))))));repeat' (first|(with_reducible refine gR 10 ?_);refine sS [] ?_|refine av fun K hK=>?_|refine au ?_|(with_reducible refine gR 9 ?_);refine dC 9 ([],[51,52],[]) [] (bf 0 13) mixed ?_|(refine hK _ _ ?_;clear hK K)|(refine ar ?_ ?_<;>intro hc<;>try exact jz)|refine cL 14 ?_|refine cL 17 ?_|refine cL 19 ?_|(first|refine cg (XR) ?_|refine qb (XR) ?_)|refine cq (XR) ?_|refine cp (Vo) ?_|refine cp (hsw) ?_|refine cp (hpr) ?_|refine cp (hSm) ?_|refine Ux _ _ ?_|(refine bY ?_ ?_<;>intro hc<;>try exact jz)|refine aq ?_|exact jI|(clear hK K)))
   (refine ba [.tmp 6] ?_;try simp only[go_sem])
end Go.Proofs.YtijdhbokcdpklaaGreatDoor
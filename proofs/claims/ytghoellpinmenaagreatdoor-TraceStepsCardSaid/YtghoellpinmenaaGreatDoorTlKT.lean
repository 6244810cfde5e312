/- Lemmas. No conditions. -/
import Derived.Test.YtghoellpinmenaaGreatDoorTlD
set_option linter.all false
set_option maxHeartbeats 4000000
set_option maxRecDepth 10000
namespace Go.Proofs.YtghoellpinmenaaGreatDoor
open Go Go.Gd
def NP(s:P0)(inp:PY)(l:List ba)(t:Int)(hi:∀x∈inp,bn x)(hv:∀x∈l,bn x.v.n)(hw:∀x∈l,bn x.at_)(ht:bn t):aA Tryz.prog 6 [rS s,.agg [ax eI 1 inp,ax dw 5 l],rI t] (rB true):=by
 have hs:=te (jK s) (uy s);have hok:=@uG (jK s);generalize fJ (jK s)=R at hs hok;obtain⟨p,x,e⟩:=R;simp only at hs hok;have TM:=vr l;have S2:=xt l;have RV:=xa hv;generalize kz l=E at*;by_cases he:e=0
 rotate_left
 ·refine bI Tryz.func6 Tryz.ntmps6 ?_
  (have W:=he;repeat' (first|refine aq fun K hK=>?_|refine am ?_|(with_reducible refine gR 19 ?_);refine dE 19 (au 0 10) mixed ?_|(refine hK _ _ ?_;clear hK K)|(refine ao ?_ ?_<;>intro hc<;>try exact jz)|refine cp (k7) ?_|refine cp (ld _) ?_|refine bx 5 ?_|refine al 0 ?_|refine cp (hs) ?_|(refine cn ?_ ?_<;>intro hc<;>try exact jz)|refine ap ?_|exact jI|(clear hK K)))
  (refine aY [.tmp 6] ?_;try simp only[go_sem])
 have hp:qq p:=hok he;have Ra:=u7 inp;have Ro:=ur hi;have hl:(fG inp).length<=1000:=jB;have QT:=nw hp hl Ro (E:=E) jB RV t ht;have Qn:=(ri hp.ok hl Ro RV t).eb.inv.fits hp.ok;by_cases hr:t<0\/200<=t
 ·have Uq:0<=dB t/\dB t<=200:=by unfold dB;omega
  have Q3:=nw hp hl Ro (E:=E) jB RV (dB t) (by unfold bn;omega);rw[Mx]at Q3;have hq:(t<0/\True/\dB t=0)\/(¬t<0/\200<t/\dB t=200)\/(¬t<0/\t=200/\dB t=200):=by
   by_cases h1:t<0
   ·exact .inl ⟨h1,trivial,by unfold dB;omega⟩
   ·by_cases h2:t=200
    ·exact .inr (.inr ⟨h1,h2,by unfold dB;omega⟩)
    ·exact .inr (.inl ⟨h1,jB,by unfold dB;omega⟩)
  generalize er p (fG inp) E t=T at*;obtain⟨T1,T2⟩:=T;have QO:=qO T1 T1 Qn;rw[decide_eq_true rfl]at QO;simp only at QT Q3;rcases hq with⟨q1,q2,q3⟩|⟨q1,q2,q3⟩|⟨q1,q2,q3⟩<;>rw[q3]at Q3
  all_goals
   try(have q4:¬0>t:=jB)
   refine bI Tryz.func6 Tryz.ntmps6 ?_
   (have W:=jA he (jA q1 (q2));repeat' (first|refine aq fun K hK=>?_|refine am ?_|(with_reducible refine gR 19 ?_);refine dE 19 (au 0 10) mixed ?_|(refine hK _ _ ?_;clear hK K)|(refine ao ?_ ?_<;>intro hc<;>try exact jz)|refine cp (k7) ?_|refine cp (ld _) ?_|refine bx 5 ?_|refine al 0 ?_|refine al 1 ?_|refine al 2 ?_|refine cp (n8 _) ?_|refine cp (TM) ?_|refine cp (QT) ?_|refine cp (Q3) ?_|refine cp (QO) ?_|refine cq (QO) ?_|refine cp (hs) ?_|(refine cn ?_ ?_<;>intro hc<;>try exact jz)|refine ap ?_|exact jI|(clear hK K)))
   (refine aY [.tmp 6] ?_;try simp only[go_sem])
 have q1:¬t<0:=jB;have q2:¬t >= 200:=jB;refine bI Tryz.func6 Tryz.ntmps6 ?_
 (have W:=jA he (jA q1 (q2));repeat' (first|refine aq fun K hK=>?_|refine am ?_|(with_reducible refine gR 19 ?_);refine dE 19 (au 0 10) mixed ?_|(refine hK _ _ ?_;clear hK K)|(refine ao ?_ ?_<;>intro hc<;>try exact jz)|refine cp (k7) ?_|refine cp (ld _) ?_|refine bx 5 ?_|refine al 0 ?_|refine al 1 ?_|refine al 2 ?_|refine cp (n8 _) ?_|refine cp (TM) ?_|refine cp (QT) ?_|refine cp (hs) ?_|(refine cn ?_ ?_<;>intro hc<;>try exact jz)|refine ap ?_|exact jI|(clear hK K)))
 have M':=hK;clear hK;generalize hT:er p (fG inp) E t=T at*;obtain⟨T1,T2⟩:=T;simp only at Qn;refine de (S:=Nat) [(6,1),(17,1),(72,15)] (fun k=>k<=E.length/\∀j,j<k->(nth E j).at_≠t+1) (fun k=>[(17,rI k)]) (fun k=>⟨[],[(5,.var 47 [ax eI 1 inp,ax dw 5 l]),(0,.var 29 (bp p)),(1,.var 39 (bv T1))]⟩) (fun k=>E.length-k) 0 ⟨Nat.zero_le _,fun j h=>jB⟩ (dc rfl bK) ?_;rintro k ⟨hk,Qe⟩ Kr P9;by_cases Qd:k<E.length
 ·have SQ:(k:Int)<(E.length:Int):=jB;by_cases c:(nth E k).at_=t+1
  ·(refine S ?_;try exact jI)
   (have W:=jA SQ c;repeat' (first|refine aq fun K hK=>?_|refine am ?_|(with_reducible refine gR 19 ?_);refine dE 19 (au 0 10) mixed ?_|(refine hK _ _ ?_;clear hK K)|(refine ao ?_ ?_<;>intro hc<;>try exact jz)|refine M' _ _ ?_|(refine cn ?_ ?_<;>intro hc<;>try exact jz)|refine ap ?_|exact jI|(clear hK K)))
   (refine aY [.tmp 6] ?_;try simp only[go_sem])
  ·(refine S ?_;try exact jI)
   (have W:=jA SQ c;repeat' (first|refine aq fun K hK=>?_|refine am ?_|(with_reducible refine gR 19 ?_);refine dE 19 (au 0 10) mixed ?_|(refine hK _ _ ?_;clear hK K)|(refine ao ?_ ?_<;>intro hc<;>try exact jz)|refine M' _ _ ?_|(refine cn ?_ ?_<;>intro hc<;>try exact jz)|refine ap ?_|exact jI|(clear hK K)))
   exact P9 _ _ (dI (k+1) ⟨jB,fun j hj=>by
    by_cases e:j<k
    ·exact Qe j e
    ·rw[show j=k from jB];exact c⟩ (by show E.length-(k+1)<E.length-k;omega) rfl bK)
 ·have SQ:¬(k:Int)<(E.length:Int):=jB;obtain⟨m1,m2⟩:=IJ hp.ok hl Ro RV (t:=t) jB jB fun j hj=>Qe j jB
  have Q3:=nw hp hl Ro (E:=E) jB RV (t+1) (by unfold bn;omega);have Su:=ri hp.ok hl Ro RV t;have Si:=GH hp.ok Su.eb jC (fG inp) hl;rw[hT]at m1 m2 Su Si;simp only at m1 m2 Su Si;generalize er p (fG inp) E (t+1)=U at*;obtain⟨U1,U2⟩:=U;simp only at m1 m2 Q3;by_cases c:T1.time<t
  ·rw[m1 c]at Q3;have QO:=qO T1 T1 Qn;rw[decide_eq_true rfl]at QO;refine S ?_
   (have W:=jA SQ c;repeat' (first|refine aq fun K hK=>?_|refine am ?_|(with_reducible refine gR 19 ?_);refine dE 19 (au 0 10) mixed ?_|(refine hK _ _ ?_;clear hK K)|(refine ao ?_ ?_<;>intro hc<;>try exact jz)|refine al 1 ?_|refine al 2 ?_|refine cp (Q3) ?_|refine cp (Si) ?_|(first|refine cg (Si) ?_|refine ma (Si) ?_)|refine cq (Si) ?_|refine cp (QO) ?_|(first|refine cg (QO) ?_|refine ma (QO) ?_)|refine cq (QO) ?_|refine M' _ _ ?_|(refine cn ?_ ?_<;>intro hc<;>try exact jz)|refine ap ?_|exact jI|(clear hK K)))
   (refine aY [.tmp 6] ?_;try simp only[go_sem])
  ·rw[m2 c]at Q3;have QO:=qO (dO p T1 (fG inp)) (dO p T1 (fG inp)) ((yv hp.ok Su.eb hl Ro).inv.fits hp.ok);rw[decide_eq_true rfl]at QO;generalize dO p T1 (fG inp)=V at*;refine S ?_
   (have W:=jA SQ c;repeat' (first|refine aq fun K hK=>?_|refine am ?_|(with_reducible refine gR 19 ?_);refine dE 19 (au 0 10) mixed ?_|(refine hK _ _ ?_;clear hK K)|(refine ao ?_ ?_<;>intro hc<;>try exact jz)|refine al 1 ?_|refine al 2 ?_|refine cp (Q3) ?_|refine cp (Si) ?_|(first|refine cg (Si) ?_|refine ma (Si) ?_)|refine cq (Si) ?_|refine cp (QO) ?_|(first|refine cg (QO) ?_|refine ma (QO) ?_)|refine cq (QO) ?_|refine M' _ _ ?_|(refine cn ?_ ?_<;>intro hc<;>try exact jz)|refine ap ?_|exact jI|(clear hK K)))
   (refine aY [.tmp 6] ?_;try simp only[go_sem])
def Nw(s:P0)(c:PY×List ba)(a:Int)(hc:(∀x∈c.1,bn x)/\∀x∈c.2,bn x.v.n/\bn x.at_)(ha:bn a):aA Tryz.prog 6 [rS s,.agg (sH c),rI a] (rB true):=
 NP s c.1 c.2 a hc.1 (fun x hx=>(hc.2 x hx).1) (fun x hx=>(hc.2 x hx).2) ha
end Go.Proofs.YtghoellpinmenaaGreatDoor
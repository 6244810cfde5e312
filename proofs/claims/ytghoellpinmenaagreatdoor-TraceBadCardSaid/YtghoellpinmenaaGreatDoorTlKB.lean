/- Lemmas. No conditions. -/
import Derived.Test.YtghoellpinmenaaGreatDoorTlD
set_option linter.all false
set_option maxHeartbeats 4000000
set_option maxRecDepth 10000
namespace Go.Proofs.YtghoellpinmenaaGreatDoor
open Go Go.Gd
def Oz(s:P0)(inp:PY)(l:List ba)(a:Int)(hi:∀x∈inp,bn x)(hv:∀x∈l,bn x.v.n)(hw:∀x∈l,bn x.at_)(ha:0<=a/\a<256):aA Tryz.prog 4 [rS s,.agg [ax eI 1 inp,ax dw 5 l],.raw (.int .u8 a)] (rB true):=by
 have hs:=te (jK s) (uy s);have hok:=@uG (jK s);obtain⟨n,Rw,ea⟩:=xE 101 jC ha;have ea:a.tmod 101=(n:Int):=ea;generalize fJ (jK s)=R at hs hok;obtain⟨p,x,e⟩:=R;simp only at hs hok;by_cases he:e=0
 rotate_left
 ·refine bI Tryz.func4 Tryz.ntmps4 ?_
  (have W:=he;repeat' (first|refine aq fun K hK=>?_|refine am ?_|(with_reducible refine gR 13 ?_);refine dL 13 [] [11] (au 0 14) mixed ?_|(refine hK _ _ ?_;clear hK K)|(refine ao ?_ ?_<;>intro hc<;>try exact jz)|refine cp (k7) ?_|refine cp (ld _) ?_|refine bx 5 ?_|refine al 0 ?_|refine cp (hs) ?_|(refine cn ?_ ?_<;>intro hc<;>try exact jz)|refine ap ?_|exact jI|(clear hK K)))
  (refine aY [.tmp 6] ?_;try simp only[go_sem])
 have hp:qq p:=hok he;have Ra:=u7 inp;have Ro:=ur hi;have hl:(fG inp).length<=1000:=jB;have S2:=xt l;have RV:=xa hv;have TL:bn (n:Int):=by unfold bn;omega
 have QT:=nw hp hl Ro (E:=kz l) jB RV n TL;obtain⟨b0,b1,b2⟩:=L7 hp.ok hl Ro RV (t:=n) jB jB;have Qn:=(ri hp.ok hl Ro RV n).eb.inv.fits hp.ok;generalize hT:er p (fG inp) (kz l) n=T at*;obtain⟨T1,T2⟩:=T;simp only at*;by_cases hz:T2=0
 ·refine bI Tryz.func4 Tryz.ntmps4 ?_
  (have W:=jA he (jA ea (hz));repeat' (first|refine aq fun K hK=>?_|refine am ?_|(with_reducible refine gR 13 ?_);refine dL 13 [] [11] (au 0 14) mixed ?_|(refine hK _ _ ?_;clear hK K)|(refine ao ?_ ?_<;>intro hc<;>try exact jz)|refine cp (k7) ?_|refine cp (ld _) ?_|refine bx 5 ?_|refine al 0 ?_|refine al 1 ?_|refine cp (n8 _) ?_|refine cp (vr _) ?_|refine cp (QT) ?_|refine cp (hs) ?_|(refine cn ?_ ?_<;>intro hc<;>try exact jz)|refine ap ?_|exact jI|(clear hK K)))
  (refine aY [.tmp 6] ?_;try simp only[go_sem])
 ·obtain⟨c1,c2,c3⟩:=b2 hz;have RL:((kz l).take (T2-1).toNat).length<=1000:=by rw[List.length_take];omega
  have VB:∀k,k<((kz l).take (T2-1).toNat).length->bn (nth ((kz l).take (T2-1).toNat) k).v.n:=fun k hk=>by rw[List.length_take]at hk;rw[uf jB];exact RV k jB
  have Q3:=nw hp hl Ro (E:=(kz l).take (T2-1).toNat) RL VB n TL;rw[c1]at Q3;have TM:=vr l;have QO:=qO T1 T1 Qn;rw[decide_eq_true rfl]at QO;generalize kz l=E at*;refine bI Tryz.func4 Tryz.ntmps4 ?_
  (have W:=jA he (jA ea (jA hz (jA b0 (jA b1 (jA c2 (c3))))));repeat' (first|refine aq fun K hK=>?_|refine am ?_|(with_reducible refine gR 13 ?_);refine dL 13 [] [11] (au 0 14) mixed ?_|(refine hK _ _ ?_;clear hK K)|(refine ao ?_ ?_<;>intro hc<;>try exact jz)|refine cp (k7) ?_|refine cp (ld _) ?_|refine bx 5 ?_|refine al 0 ?_|refine al 1 ?_|refine al 2 ?_|refine cp (n8 _) ?_|refine cp (TM) ?_|refine cp (QT) ?_|refine cp (Q3) ?_|refine cp (QO) ?_|refine cq (QO) ?_|refine cp (hs) ?_|(refine cn ?_ ?_<;>intro hc<;>try exact jz)|refine ap ?_|exact jI|(clear hK K)))
  (refine aY [.tmp 6] ?_;try simp only[go_sem])
def JK(s:P0)(c:PY×List ba)(a:Int)(hc:(∀x∈c.1,bn x)/\∀x∈c.2,bn x.v.n/\bn x.at_)(ha:0<=a/\a<256):aA Tryz.prog 4 [rS s,.agg (sH c),.raw (.int .u8 a)] (rB true):=
 Oz s c.1 c.2 a hc.1 (fun x hx=>(hc.2 x hx).1) (fun x hx=>(hc.2 x hx).2) ha
end Go.Proofs.YtghoellpinmenaaGreatDoor
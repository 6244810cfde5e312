/- Lemmas. No conditions. -/
import Derived.Test.YtghoellpinmenaaGreatDoorTlM
set_option linter.all false
set_option maxHeartbeats 4000000
set_option maxRecDepth 10000
namespace Go.Proofs.YtghoellpinmenaaGreatDoor
open Go Go.Gd Tryz
def HD(s:P0)(inp:PY)(a:Int)(hi:∀x∈inp,bn x)(ha:0<=a/\a<256):aA prog 3 [rS s,ax eI 1 inp,.raw (.int .u8 a)] (rB true):=by
 have hs:=te (jK s) (uy s);have hok:=@uG (jK s);obtain⟨n,Rw,ea⟩:=xE 151 jC ha;have ea:a.tmod 151=(n:Int):=ea;generalize fJ (jK s)=R at hs hok;obtain⟨p,x,e⟩:=R;simp only at hs hok;by_cases he:e=0
 rotate_left
 ·refine bI func3 ntmps3 ?_
  (have W:=he;repeat' (first|refine aq fun K hK=>?_|refine am ?_|(with_reducible refine gR 8 ?_);refine dE 8 (au 0 14) mixed ?_|(refine hK _ _ ?_;clear hK K)|(refine ao ?_ ?_<;>intro hc<;>try exact jz)|refine cp (k7) ?_|refine cp (ld _) ?_|refine bx 5 ?_|refine al 0 ?_|refine cp (hs) ?_|(refine cn ?_ ?_<;>intro hc<;>try exact jz)|refine ap ?_|exact jI|(clear hK K)))
  (refine aY [.tmp 6] ?_;try simp only[go_sem])
 have hp:qq p:=hok he;have Ra:=u7 inp;have Ro:=ur hi;have hl:(fG inp).length<=1000:=jB;have TL:bn (n:Int):=by unfold bn;omega
 have Qe:∀k,k<([]:List ba).length->bn (nth ([]:List ba) k).v.n:=fun k hk=>by simp at hk
 have QT:=xL (args':=[.agg (bp p),ax eI 1 (fG inp),.raw (.slice none 0 0),rI n]) (nw hp hl Ro (E:=[]) jE Qe n TL) ⟨.refl _,.refl _,.nil _ _,.refl _,trivial⟩;rw[Jp hp.ok hl Ro jB]at QT;have Xb:=PD hp.ok (fG inp) hl Ro n jB;have Qn:=(zd hp.ok hl Ro n).inv.fits hp.ok;have QO:=qO (oz p (fG inp) n) (oz p (fG inp) n) Qn;rw[decide_eq_true rfl]at QO;generalize oz p (fG inp) n=T at*;refine bI func3 ntmps3 ?_
 (have W:=jA he ea;repeat' (first|refine aq fun K hK=>?_|refine am ?_|(with_reducible refine gR 8 ?_);refine dC 8 ([],[47],[]) [] (au 0 14) mixed ?_|(refine hK _ _ ?_;clear hK K)|(refine ao ?_ ?_<;>intro hc<;>try exact jz)|refine cp (k7) ?_|refine cp (ld _) ?_|refine al 0 ?_|refine al 1 ?_|refine al 2 ?_|refine cp (n8 _) ?_|refine cp (QT) ?_|refine cp (Xb) ?_|(first|refine cg (Xb) ?_|refine ma (Xb) ?_)|refine cq (Xb) ?_|refine cp (QO) ?_|(first|refine cg (QO) ?_|refine ma (QO) ?_)|refine cq (QO) ?_|refine cp (hs) ?_|(refine cn ?_ ?_<;>intro hc<;>try exact jz)|refine ap ?_|exact jI|(clear hK K)))
 (refine aY [.tmp 6] ?_;try simp only[go_sem])
end Go.Proofs.YtghoellpinmenaaGreatDoor
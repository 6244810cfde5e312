/- Lemmas. No conditions. -/
import Derived.Test.YtghoellpinmenaaGreatDoorTlD
set_option linter.all false
set_option maxHeartbeats 4000000
set_option maxRecDepth 10000
namespace Go.Proofs.YtghoellpinmenaaGreatDoor
open Go Go.Gd
def KQ(a b:Int):bn (nT BinOp.xor IntKind.i64 a b):=by unfold nT;simp only;generalize (BitVec.ofInt IntKind.i64.bits a ^^^ BitVec.ofInt IntKind.i64.bits b).toNat=n;rw[IntKind.wrap_i64];unfold bn;omega
def NE(s:P0)(inp:PY)(l:List ba)(a:Int)(hi:∀x∈inp,bn x)(hv:∀x∈l,bn x.v.n)(hw:∀x∈l,bn x.at_)(ha:0<=a/\a<256):aA Tryz.prog 5 [rS s,.agg [ax eI 1 inp,ax dw 5 l],.raw (.int .u8 a)] (rB true):=by
 have hs:=te (jK s) (uy s);have hok:=@uG (jK s);obtain⟨n,Rw,ea⟩:=xE 101 jC ha;have ea:a.tmod 101=(n:Int):=ea;generalize fJ (jK s)=R at hs hok;obtain⟨p,x,e⟩:=R;simp only at hs hok;have TM:=vr l;have S2:=xt l;have RV:=xa hv;generalize kz l=E at*;by_cases he:e=0
 rotate_left
 ·refine bI Tryz.func5 Tryz.ntmps5 ?_
  (have W:=he;repeat' (first|refine aq fun K hK=>?_|refine am ?_|(refine hK _ _ ?_;clear hK K)|(refine ao ?_ ?_<;>intro hc<;>try exact jz)|refine cp (k7) ?_|refine cp (ld _) ?_|refine bx 5 ?_|refine al 0 ?_|refine cp (hs) ?_|(refine cn ?_ ?_<;>intro hc<;>try exact jz)|refine ap ?_|exact jI|(clear hK K)))
  (refine aY [.tmp 6] ?_;try simp only[go_sem])
 have hp:qq p:=hok he;have Ra:=u7 inp;have Ro:=ur hi;have hl:(fG inp).length<=1000:=jB;have TL:bn (n:Int):=by unfold bn;omega
 by_cases h0:E.length<1
 ·have WM:(E.length:Int)<1:=jB;refine bI Tryz.func5 Tryz.ntmps5 ?_
  (have W:=jA he (jA ea (WM));repeat' (first|refine aq fun K hK=>?_|refine am ?_|(refine hK _ _ ?_;clear hK K)|(refine ao ?_ ?_<;>intro hc<;>try exact jz)|refine cp (k7) ?_|refine cp (ld _) ?_|refine bx 5 ?_|refine al 0 ?_|refine cp (n8 _) ?_|refine cp (TM) ?_|refine cp (hs) ?_|(refine cn ?_ ?_<;>intro hc<;>try exact jz)|refine ap ?_|exact jI|(clear hK K)))
  (refine aY [.tmp 6] ?_;try simp only[go_sem])
 have WM:¬(E.length:Int)<1:=jB;have Uh:0<E.length:=jB;have hx:=RV 0 Uh;generalize Vu:nth E 0=x0 at*;have hy:=KQ x0.v.n 1;obtain⟨y,VC⟩:∃y:ba,{ x0 with v:={ x0.v with n:=nT BinOp.xor IntKind.i64 x0.v.n 1 } }=y:=⟨_,rfl⟩;have ZY:y.at_=x0.at_:=by rw[<-VC]
 have ZZ:y.name=x0.name:=by rw[<-VC]
 have Z0:y.v.ty=x0.v.ty:=by rw[<-VC]
 have Z1:bn y.v.n:=by rw[<-VC];exact hy
 have r1:∀k,k < [x0].length->bn (nth [x0] k).v.n:=fun k hk=>by
  have:k=0:=by simpa using hk
  subst this;exact hx
 have r2:∀{z:ba},bn z.v.n->∀k,k < [z,x0].length->bn (nth [z,x0] k).v.n:=fun hz k hk=>by
  match k,hk with
  |0,_=>exact hz
  |1,_=>exact hx
 have c1:=xL (args':=[.agg (bp p),ax eI 1 (fG inp),.sl true 5 [dw x0] [],rI n]) (nw hp hl Ro (E:=[x0]) jE r1 n TL) ⟨.refl _,.refl _,.lit _ _ _ _,.refl _,trivial⟩;have c2:=xL (args':=[.agg (bp p),ax eI 1 (fG inp),.sl true 5 [dw y,dw x0] [],rI n]) (nw hp hl Ro (E:=[y,x0]) jE (r2 Z1) n TL) ⟨.refl _,.refl _,.lit _ _ _ _,.refl _,trivial⟩;have c3:=xL (args':=[.agg (bp p),ax eI 1 (fG inp),.sl true 5 [dw x0,dw x0] [],rI n]) (nw hp hl Ro (E:=[x0,x0]) jE (r2 hx) n TL) ⟨.refl _,.refl _,.lit _ _ _ _,.refl _,trivial⟩;have t2:=CD hp.ok hl Ro (x:=x0) (y:=y) ZY ZZ Z0 hx (t:=n) jB jB;have t3:=CD hp.ok hl Ro (x:=x0) (y:=x0) rfl rfl rfl hx (t:=n) jB jB;have Qn:=(ri hp.ok hl Ro r1 n).eb.inv.fits hp.ok;generalize er p (fG inp) [x0] n=T1 at*;generalize er p (fG inp) [y,x0] n=T2 at*;generalize er p (fG inp) [x0,x0] n=T3 at*;obtain⟨T1,i⟩:=T1;obtain⟨T2,k⟩:=T2;obtain⟨T3,j⟩:=T3;simp only at*;have s3:=qO T1 T3 Qn;have s2:=qO T1 T2 Qn;have hq:∃b3 b2:Bool,aA Tryz.prog 14 [.agg (bv T1),.agg (bv T3)] (rB b3)/\aA Tryz.prog 14 [.agg (bv T1),.agg (bv T2)] (rB b2)/\(i=0->b3=true/\j=0)/\(i=0->k=0->b2=true):=by
  refine⟨_,_,s3,s2,fun hz=>?_,fun hz hk=>?_⟩
  ·have:=t3 hz (.inr trivial);cases this;exact⟨decide_eq_true rfl,rfl⟩
  ·have:=t2 hz (.inl hk);cases this;exact decide_eq_true rfl
 clear s3 s2 t2 t3;obtain⟨b3,b2,s3,s2,q3,q2⟩:=hq;by_cases hz:i=0
 ·obtain⟨q3,q4⟩:=q3 hz;have q2:=q2 hz;subst q3 q4;by_cases hk:k=0
  ·have q2:=q2 hk;subst q2;refine bI Tryz.func5 Tryz.ntmps5 ?_
   (have W:=jA he (jA ea (jA WM (jA Uh (jA Vu (jA VC (jA hz (hk)))))));repeat' (first|refine aq fun K hK=>?_|refine am ?_|(refine hK _ _ ?_;clear hK K)|(refine ao ?_ ?_<;>intro hc<;>try exact jz)|refine cp (k7) ?_|refine cp (ld _) ?_|refine bx 5 ?_|refine al 0 ?_|refine al 1 ?_|refine al 2 ?_|refine al 3 ?_|refine al 4 ?_|refine al 6 ?_|refine cp (n8 _) ?_|(refine wh rfl ?_;refine S ?_)|refine cp (TM) ?_|refine cp (c1) ?_|refine cp (c2) ?_|refine cp (c3) ?_|refine cp (s2) ?_|refine cp (s3) ?_|refine cp (hs) ?_|(refine cn ?_ ?_<;>intro hc<;>try exact jz)|refine ap ?_|exact jI|(clear hK K)))
   (refine aY [.tmp 6] ?_;try simp only[go_sem])
  ·refine bI Tryz.func5 Tryz.ntmps5 ?_
   (have W:=jA he (jA ea (jA WM (jA Uh (jA Vu (jA VC (jA hz (hk)))))));repeat' (first|refine aq fun K hK=>?_|refine am ?_|(refine hK _ _ ?_;clear hK K)|(refine ao ?_ ?_<;>intro hc<;>try exact jz)|refine cp (k7) ?_|refine cp (ld _) ?_|refine bx 5 ?_|refine al 0 ?_|refine al 1 ?_|refine al 2 ?_|refine al 3 ?_|refine al 4 ?_|refine al 6 ?_|refine cp (n8 _) ?_|(refine wh rfl ?_;refine S ?_)|refine cp (TM) ?_|refine cp (c1) ?_|refine cp (c2) ?_|refine cp (c3) ?_|refine cp (s2) ?_|refine cq (s2) ?_|refine cp (s3) ?_|refine cp (hs) ?_|(refine cn ?_ ?_<;>intro hc<;>try exact jz)|refine ap ?_|exact jI|(clear hK K)))
   (refine aY [.tmp 6] ?_;try simp only[go_sem])
 ·refine bI Tryz.func5 Tryz.ntmps5 ?_
  (have W:=jA he (jA ea (jA WM (jA Uh (jA Vu (jA VC (hz))))));repeat' (first|refine aq fun K hK=>?_|refine am ?_|(refine hK _ _ ?_;clear hK K)|(refine ao ?_ ?_<;>intro hc<;>try exact jz)|refine cp (k7) ?_|refine cp (ld _) ?_|refine bx 5 ?_|refine al 0 ?_|refine al 1 ?_|refine al 2 ?_|refine al 3 ?_|refine al 4 ?_|refine al 6 ?_|refine cp (n8 _) ?_|(refine wh rfl ?_;refine S ?_)|refine cp (TM) ?_|refine cp (c1) ?_|refine cp (c2) ?_|refine cp (c3) ?_|refine cp (s2) ?_|refine cq (s2) ?_|refine cp (s3) ?_|refine cp (hs) ?_|(refine cn ?_ ?_<;>intro hc<;>try exact jz)|refine ap ?_|exact jI|(clear hK K)))
  (refine aY [.tmp 6] ?_;try simp only[go_sem])
def Ov(s:P0)(c:PY×List ba)(a:Int)(hc:(∀x∈c.1,bn x)/\∀x∈c.2,bn x.v.n/\bn x.at_)(ha:0<=a/\a<256):aA Tryz.prog 5 [rS s,.agg (sH c),.raw (.int .u8 a)] (rB true):=
 NE s c.1 c.2 a hc.1 (fun x hx=>(hc.2 x hx).1) (fun x hx=>(hc.2 x hx).2) ha
end Go.Proofs.YtghoellpinmenaaGreatDoor
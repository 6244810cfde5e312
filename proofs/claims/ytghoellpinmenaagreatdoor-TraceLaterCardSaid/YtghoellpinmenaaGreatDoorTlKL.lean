/- Lemmas. No conditions. -/
import Derived.Test.YtghoellpinmenaaGreatDoorTlD
set_option linter.all false
set_option maxHeartbeats 4000000
set_option maxRecDepth 10000
namespace Go.Gd
open Go
def q8(E:List ba):Prop:=∀j,j<E.length-1->(nth E j).at_<=(nth E (j+1)).at_
instance (E:List ba):Decidable (q8 E):=inferInstanceAs (Decidable (∀j,j<E.length-1->(nth E j).at_<=(nth E (j+1)).at_))
theorem CX:∀(E:List ba),q8 E->vP E
 |[],_=>trivial
 |[x],_=>⟨fun y h=>(by cases h),trivial⟩
 |x::y::l,h=>⟨fun z hz=>by cases hz;exact h 0 jE,CX (y::l) fun j hj=>h (j+1) (by simp at hj ⊢;omega)⟩
@[go_sem] def j2d(t:Int):gz [] t=[]:=(rfl)
def Am(x y:ba):Int:=if x.at_<y.at_ then -1 else if y.at_<x.at_ then 1 else 0
end Go.Gd
namespace Go.Proofs.YtghoellpinmenaaGreatDoor
open Go Go.Gd
def Lm(x y:ba):aA Tryz.prog 40 [.agg (dw x),.agg (dw y)] (rI (Am x y)):=by
 unfold Am;by_cases h1:x.at_<y.at_
 ·rw[if_pos h1];refine bI Tryz.func40 Tryz.ntmps40 ?_
  (have W:=h1;repeat' (first|refine aq fun K hK=>?_|refine am ?_|(refine hK _ _ ?_;clear hK K)|(refine ao ?_ ?_<;>intro hc<;>try exact jz)|refine bx 0 ?_|refine bx 1 ?_|(refine cn ?_ ?_<;>intro hc<;>try exact jz)|refine ap ?_|exact jI|(clear hK K)))
  (refine aY [.tmp 4] ?_;try simp only[go_sem])
 ·rw[if_neg h1];by_cases h2:y.at_<x.at_
  ·rw[if_pos h2];refine bI Tryz.func40 Tryz.ntmps40 ?_
   (have W:=jA h1 h2;repeat' (first|refine aq fun K hK=>?_|refine am ?_|(refine hK _ _ ?_;clear hK K)|(refine ao ?_ ?_<;>intro hc<;>try exact jz)|refine bx 0 ?_|refine bx 1 ?_|(refine cn ?_ ?_<;>intro hc<;>try exact jz)|refine ap ?_|exact jI|(clear hK K)))
   (refine aY [.tmp 4] ?_;try simp only[go_sem])
  ·rw[if_neg h2];refine bI Tryz.func40 Tryz.ntmps40 ?_
   (have W:=jA h1 h2;repeat' (first|refine aq fun K hK=>?_|refine am ?_|(refine hK _ _ ?_;clear hK K)|(refine ao ?_ ?_<;>intro hc<;>try exact jz)|refine bx 0 ?_|refine bx 1 ?_|(refine cn ?_ ?_<;>intro hc<;>try exact jz)|refine ap ?_|exact jI|(clear hK K)))
   (refine aY [.tmp 4] ?_;try simp only[go_sem])
def Lu(E:List ba)(hl:E.length<=1000):aA Tryz.prog 39 [ax dw 5 E,.raw (.func (.func 40) #[] #[])] (rB (decide (q8 E))):=by
 suffices key:∀b:Bool,(q8 E<->b=true)->aA Tryz.prog 39 [ax dw 5 E,.raw (.func (.func 40) #[] #[])] (rB b) from key _ jE
 intro b hb;refine bI Tryz.func39 Tryz.ntmps39 ?_
 (repeat' (first|refine aq fun K hK=>?_|refine am ?_|(with_reducible refine gR 4 ?_);refine dE 4 (au 0 12) mixed ?_|(refine hK _ _ ?_;clear hK K)|(refine ao ?_ ?_<;>intro hc<;>try exact jz)|(refine cn ?_ ?_<;>intro hc<;>try exact jz)|refine ap ?_|exact jI|(clear hK K)))
 have M':=hK;clear hK;refine de (S:=Int) [(4,2),(9,16)] (fun i=>-1<=i/\i<=(E.length:Int)-1/\∀j:Nat,i<=j->j<E.length-1->(nth E j).at_<=(nth E (j+1)).at_) (fun i=>[(5,rI i)]) (fun _=>⟨[],[]⟩) (fun i=>i.toNat) ((E.length:Int)-1) ⟨jB,jB,fun j h1 h2=>jB⟩ (dc rfl bK) ?_;rintro i ⟨Sr,So,Qe⟩ Kr P9;by_cases h0:0<i
 ·obtain⟨m,rfl⟩:∃m:Nat,i=(m:Int)+1:=⟨(i-1).toNat,jB⟩;have TV:=Lm (nth E (m+1)) (nth E m);have e1:((m:Int)+1).toNat=m+1:=jB;have e2:((m:Int)+1-1).toNat=m:=jB;have g1:m+1<E.length:=jB;have g2:m<E.length:=jB;unfold Am at TV;by_cases h1:(nth E (m+1)).at_<(nth E m).at_
  ·rw[if_pos h1]at TV;have XE:b=false:=by
    cases b
    ·rfl
    ·have:=(hb.2 rfl) m jB;omega
   subst XE;refine S ?_
   (have W:=jA h0 (jA e1 (jA e2 (jA g1 (g2))));repeat' (first|refine aq fun K hK=>?_|refine am ?_|(with_reducible refine gR 4 ?_);refine dE 4 (au 0 12) mixed ?_|(refine hK _ _ ?_;clear hK K)|(refine ao ?_ ?_<;>intro hc<;>try exact jz)|refine cp (TV) ?_|refine M' _ _ ?_|(refine cn ?_ ?_<;>intro hc<;>try exact jz)|refine ap ?_|exact jI|(clear hK K)))
   (refine aY [.tmp 4] ?_;try simp only[go_sem])
  ·have W1:∃z:Int,0<=z/\aA Tryz.prog 40 [.agg (dw (nth E (m+1))),.agg (dw (nth E m))] (rI z):=by
    rw[if_neg h1]at TV;split at TV
    ·exact⟨1,jC,TV⟩
    ·exact⟨0,jC,TV⟩
   obtain⟨z,hz,TV⟩:=W1;have SG:¬z<0:=jB;refine S ?_
   (have W:=jA h0 (jA e1 (jA e2 (jA g1 (jA g2 (SG)))));repeat' (first|refine aq fun K hK=>?_|refine am ?_|(with_reducible refine gR 4 ?_);refine dE 4 (au 0 12) mixed ?_|(refine hK _ _ ?_;clear hK K)|(refine ao ?_ ?_<;>intro hc<;>try exact jz)|refine cp (TV) ?_|refine M' _ _ ?_|(refine cn ?_ ?_<;>intro hc<;>try exact jz)|refine ap ?_|exact jI|(clear hK K)))
   refine P9 _ _ (dI ((m:Int)) ⟨jB,jB,fun j h2 h3=>?_⟩ (by show(m:Int).toNat<((m:Int)+1).toNat;omega) rfl bK);by_cases e:j=m
   ·subst e;omega
   ·exact Qe j jB h3
 ·have Z2:b=true:=hb.1 fun j hj=>Qe j jB hj
  subst Z2;refine S ?_
  (have W:=h0;repeat' (first|refine aq fun K hK=>?_|refine am ?_|(with_reducible refine gR 4 ?_);refine dE 4 (au 0 12) mixed ?_|(refine hK _ _ ?_;clear hK K)|(refine ao ?_ ?_<;>intro hc<;>try exact jz)|refine M' _ _ ?_|(refine cn ?_ ?_<;>intro hc<;>try exact jz)|refine ap ?_|exact jI|(clear hK K)))
  (refine aY [.tmp 4] ?_;try simp only[go_sem])
def K1(E:List ba)(hl:E.length<=1000):aA Tryz.prog 18 [ax dw 5 E] (rB (decide (q8 E))):=by
 have h:=Lu E hl;generalize decide (q8 E)=b at*;refine bI Tryz.func18 Tryz.ntmps18 ?_
 (repeat' (first|refine aq fun K hK=>?_|refine am ?_|(refine hK _ _ ?_;clear hK K)|(refine ao ?_ ?_<;>intro hc<;>try exact jz)|refine cp (h) ?_|(refine cn ?_ ?_<;>intro hc<;>try exact jz)|refine ap ?_|exact jI|(clear hK K)))
 (refine aY [.tmp 2] ?_;try simp only[go_sem])
def I4(s:P0)(inp:PY)(l:List ba)(a:Int)(hi:∀x∈inp,bn x)(hv:∀x∈l,bn x.v.n)(hw:∀x∈l,bn x.at_)(ha:0<=a/\a<256):aA Tryz.prog 7 [rS s,.agg [ax eI 1 inp,ax dw 5 l],.raw (.int .u8 a)] (rB true):=by
 have hs:=te (jK s) (uy s);have hok:=@uG (jK s);obtain⟨n,Rw,ea⟩:=xE 101 jC ha;have ea:a.tmod 101=(n:Int):=ea;generalize fJ (jK s)=R at hs hok;obtain⟨p,x,e⟩:=R;simp only at hs hok;have TM:=vr l;have S2:=xt l;have RV:=xa hv;generalize kz l=E at*;have Xa:=K1 E jB;by_cases he:e=0
 rotate_left
 ·refine bI Tryz.func7 Tryz.ntmps7 ?_
  (have W:=he;repeat' (first|refine aq fun K hK=>?_|refine am ?_|(with_reducible refine gR 23 ?_);refine dL 23 [] [11] (au 0 14) mixed ?_|(refine hK _ _ ?_;clear hK K)|(refine ao ?_ ?_<;>intro hc<;>try exact jz)|refine cp (k7) ?_|refine cp (ld _) ?_|refine bx 5 ?_|refine al 0 ?_|refine cp (hs) ?_|(refine cn ?_ ?_<;>intro hc<;>try exact jz)|refine ap ?_|exact jI|(clear hK K)))
  (refine aY [.tmp 6] ?_;try simp only[go_sem])
 have hp:qq p:=hok he;have Ra:=u7 inp;have Ro:=ur hi;have hl:(fG inp).length<=1000:=jB;have TL:bn (n:Int):=by unfold bn;omega
 by_cases ho:q8 E
 rotate_left
 ·rw[decide_eq_false ho]at Xa;refine bI Tryz.func7 Tryz.ntmps7 ?_
  (have W:=jA he ea;repeat' (first|refine aq fun K hK=>?_|refine am ?_|(with_reducible refine gR 23 ?_);refine dL 23 [] [11] (au 0 14) mixed ?_|(refine hK _ _ ?_;clear hK K)|(refine ao ?_ ?_<;>intro hc<;>try exact jz)|refine cp (k7) ?_|refine cp (ld _) ?_|refine bx 5 ?_|refine al 0 ?_|refine cp (n8 _) ?_|refine cp (TM) ?_|refine cp (Xa) ?_|refine cp (hs) ?_|(refine cn ?_ ?_<;>intro hc<;>try exact jz)|refine ap ?_|exact jI|(clear hK K)))
  (refine aY [.tmp 6] ?_;try simp only[go_sem])
 rw[decide_eq_true ho]at Xa;have QT:=nw hp hl Ro (E:=E) jB RV n TL;have VK:(gz E n).length<=1000:=Nat.le_trans (List.length_filter_le _ _) jB;have VB:∀k,k<(gz E n).length->bn (nth (gz E n) k).v.n:=fun k hk=>by have h1:=(List.mem_filter.1 (dZ hk)).1;obtain⟨j,hj,e⟩:=List.getElem_of_mem h1;have:=RV j hj;rw[gD hj,e]at this;exact this
 have Q3:=nw hp hl Ro (E:=gz E n) VK VB n TL;rw[IM hp.ok hl Ro RV jB jB (CX E ho)]at Q3;have Qr:=Ki hp.ok hl Ro RV (t:=n) jB jB;have Qn:=(ri hp.ok hl Ro RV n).eb.inv.fits hp.ok;have Sr:=(ri hp.ok hl Ro RV n).eb.inv.iS;have So:=(ri hp.ok hl Ro RV n).q.jd;have UG:=nw hp (inp:=(fG inp).take (er p (fG inp) E n).1.in_.toNat) (by rw[List.length_take];omega) (fun x hx=>Ro x (List.mem_of_mem_take hx)) (E:=E) jB RV n TL;generalize hT:er p (fG inp) E n=T at*;obtain⟨T1,T2⟩:=T;simp only at QT Q3 UG Qr Qn Sr So;have QO:=qO T1 T1 Qn;rw[decide_eq_true rfl]at QO;refine bI Tryz.func7 Tryz.ntmps7 ?_
 (have W:=jA he ea;repeat' (first|refine aq fun K hK=>?_|refine am ?_|(with_reducible refine gR 23 ?_);refine dL 23 [] [11] (au 0 14) mixed ?_|(refine hK _ _ ?_;clear hK K)|(refine ao ?_ ?_<;>intro hc<;>try exact jz)|refine cp (k7) ?_|refine cp (ld _) ?_|refine bx 5 ?_|refine al 0 ?_|refine cp (n8 _) ?_|refine cp (TM) ?_|refine cp (Xa) ?_|refine cp (hs) ?_|refine lb 3 ?_|(refine cn ?_ ?_<;>intro hc<;>try exact jz)|refine ap ?_|exact jI|(clear hK K)))
 have M':=hK;clear hK;refine de (S:=Nat) [(14,2),(48,20)] (fun k=>k<=E.length) (fun k=>[(15,rI k),(14,.rs 3 (gz (E.take k) n).length 5 (gz (E.take k) n).length)]) (fun k=>⟨[],[(5,.var 47 [ax eI 1 inp,ax dw 5 l]),(0,.var 29 (bp p)),(3,.aG 52 5 ((gz (E.take k) n).map dw))]⟩) (fun k=>E.length-k) 0 (Nat.zero_le _) (dc rfl bK) ?_;rintro k hk Kr P9;have Rc:((gz (E.take k) n).map dw).length=(gz (E.take k) n).length:=jE;have Xk:(gz (E.take k) n).length<=1000:=Nat.le_trans (List.length_filter_le _ _) (by rw[List.length_take];omega);by_cases Qd:k<E.length
 ·have SQ:(k:Int)<(E.length:Int):=jB;have J':gz (E.take (k+1)) n=gz (E.take k) n++gz [nth E k] n:=by
   rw[qF Qd];unfold gz;rw[List.filter_append]
  by_cases c:(nth E k).at_<=(n:Int)
  ·have h1:gz [nth E k] n=[nth E k]:=by unfold gz;rw[List.filter_cons_of_pos (by simpa using c)];rfl
   rw[h1]at J';refine S ?_
   (have W:=jA SQ (jA c (Rc));repeat' (first|refine aq fun K hK=>?_|refine am ?_|(with_reducible refine gR 23 ?_);refine dL 23 [] [11] (au 0 14) mixed ?_|(refine hK _ _ ?_;clear hK K)|(refine ao ?_ ?_<;>intro hc<;>try exact jz)|refine M' _ _ ?_|(refine cn ?_ ?_<;>intro hc<;>try exact jz)|refine ap ?_|exact jI|(clear hK K)))
   refine P9 _ _ (dI (k+1) jB (by show E.length-(k+1)<E.length-k;omega) ?_ (by simp only[go_sem,gU,Nat.reduceAdd,AV.raw.injEq,Value.int.injEq,Value.slice.injEq,Value.pointer.injEq,AV.rs.injEq,J',List.length_append,List.length_cons,List.length_nil];try omega));show Hp.mk _ _=Hp.mk _ [_,_,(3,.aG _ _ ((gz (E.take (k+1)) n).map dw))];rw[J',List.map_append];rfl
  ·have h1:gz [nth E k] n=[]:=by unfold gz;rw[List.filter_cons_of_neg (by simpa using c)];rfl
   rw[h1,List.append_nil]at J';refine S ?_
   (have W:=jA SQ (jA c (Rc));repeat' (first|refine aq fun K hK=>?_|refine am ?_|(with_reducible refine gR 23 ?_);refine dL 23 [] [11] (au 0 14) mixed ?_|(refine hK _ _ ?_;clear hK K)|(refine ao ?_ ?_<;>intro hc<;>try exact jz)|refine M' _ _ ?_|(refine cn ?_ ?_<;>intro hc<;>try exact jz)|refine ap ?_|exact jI|(clear hK K)))
   refine P9 _ _ (dI (k+1) jB (by show E.length-(k+1)<E.length-k;omega) ?_ (by simp only[go_sem,gU,Nat.reduceAdd,AV.raw.injEq,Value.int.injEq,Value.slice.injEq,Value.pointer.injEq,AV.rs.injEq,J'];try omega));show Hp.mk _ _=Hp.mk _ [_,_,(3,.aG _ _ ((gz (E.take (k+1)) n).map dw))];rw[J']
 ·have RT:k=E.length:=jB;subst RT;rw[List.take_length]at Rc Xk ⊢;refine S ?_
  (have W:=Rc;repeat' (first|refine aq fun K hK=>?_|refine am ?_|(with_reducible refine gR 23 ?_);refine dL 23 [] [11] (au 0 14) mixed ?_|(refine hK _ _ ?_;clear hK K)|(refine ao ?_ ?_<;>intro hc<;>try exact jz)|(refine cn ?_ ?_<;>intro hc<;>try exact jz)|refine ap ?_|exact jI|(clear hK K)))
  refine M' _ _ ?_;refine Dk [3] [(47,1)] [(14,ax dw 5 (gz E n))] rfl (by first|rfl|(refine S ?_;try exact jI)) ⟨.inr rfl,.inr rfl,.inl rfl,trivial⟩ gJ ?_;by_cases h0:T1.status=0
  ·rw[Qr h0]at UG;have Tb:¬((fG inp).length:Int)<T1.in_:=jB;have Xy:T1.in_<=((fG inp).length:Int):=jB;refine S ?_
   (have W:=jA h0 (jA Sr (jA Tb (Xy)));repeat' (first|refine aq fun K hK=>?_|refine am ?_|(with_reducible refine gR 23 ?_);refine dL 23 [] [11] (au 0 14) mixed ?_|(refine hK _ _ ?_;clear hK K)|(refine ao ?_ ?_<;>intro hc<;>try exact jz)|refine al 1 ?_|refine al 2 ?_|refine al 4 ?_|refine cp (QT) ?_|refine cp (Q3) ?_|refine cp (UG) ?_|refine cp (QO) ?_|(first|refine cg (QO) ?_|refine ma (QO) ?_)|refine cq (QO) ?_|(refine cn ?_ ?_<;>intro hc<;>try exact jz)|refine ap ?_|exact jI|(clear hK K)))
   (refine aY [.tmp 6] ?_;try simp only[go_sem])
  ·(refine S ?_;try exact jI)
   (have W:=h0;repeat' (first|refine aq fun K hK=>?_|refine am ?_|(with_reducible refine gR 23 ?_);refine dL 23 [] [11] (au 0 14) mixed ?_|(refine hK _ _ ?_;clear hK K)|(refine ao ?_ ?_<;>intro hc<;>try exact jz)|refine al 1 ?_|refine al 2 ?_|refine al 4 ?_|refine cp (QT) ?_|refine cp (Q3) ?_|refine cp (UG) ?_|refine cp (QO) ?_|(first|refine cg (QO) ?_|refine ma (QO) ?_)|refine cq (QO) ?_|(refine cn ?_ ?_<;>intro hc<;>try exact jz)|refine ap ?_|exact jI|(clear hK K)))
   (refine aY [.tmp 6] ?_;try simp only[go_sem])
def Nj(s:P0)(c:PY×List ba)(a:Int)(hc:(∀x∈c.1,bn x)/\∀x∈c.2,bn x.v.n/\bn x.at_)(ha:0<=a/\a<256):aA Tryz.prog 7 [rS s,.agg (sH c),.raw (.int .u8 a)] (rB true):=
 I4 s c.1 c.2 a hc.1 (fun x hx=>(hc.2 x hx).1) (fun x hx=>(hc.2 x hx).2) ha
end Go.Proofs.YtghoellpinmenaaGreatDoor
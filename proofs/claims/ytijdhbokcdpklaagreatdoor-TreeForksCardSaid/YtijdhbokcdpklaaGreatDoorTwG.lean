/- Lemmas. No conditions. -/
import Derived.Test.YtijdhbokcdpklaaGreatDoorTwD
set_option linter.all false
set_option maxHeartbeats 4000000
set_option maxRecDepth 10000
namespace Go.Gd
open Go
theorem Kc{x:aB}{t:Int}(h:x.at_<=t):∀{l:List aB},km l->ci (gJ x l) t=gJ x (ci l t)
 |[],_=>by show ci [x] t=[x];unfold ci;rw[List.filter_cons_of_pos (by simpa using h)];rfl
 |y::l,hs=>by
  unfold gJ;by_cases c:x.at_<y.at_
  ·rw[if_pos c];by_cases d:y.at_<=t
   ·unfold ci;rw[List.filter_cons_of_pos (by simpa using h),List.filter_cons_of_pos (by simpa using d)];simp only;rw[if_pos c]
   ·have:=(Cn (t:=t) l y hs jB).1;unfold ci at this ⊢;rw[List.filter_cons_of_pos (by simpa using h),List.filter_cons_of_neg (by simpa using d),this]
  ·rw[if_neg c];have:=Kc h (l:=l) hs.2;unfold ci at this ⊢;rw[List.filter_cons_of_pos jF,List.filter_cons_of_pos jF,this];simp only;rw[if_neg c]
theorem AJ{t:Int}:∀{b a:List aB},km a->ci (gY a b) t=gY (ci a t) (ci b t)
 |[],a,_=>by show ci (gY a []) t=gY (ci a t) [];unfold gY;rfl
 |x::b,a,h=>by
  have ih:=AJ (t:=t) (b:=b) (xO x h);have e1:gY a (x::b)=gY (gJ x a) b:=by rw[gY]
  rw[e1,ih];by_cases c:x.at_<=t
  ·have e2:ci (x::b) t=x::ci b t:=by unfold ci;rw[List.filter_cons_of_pos (by simpa using c)]
   rw[e2,Kc c h];conv=>rhs;rw[gY]
  ·have e2:ci (x::b) t=ci b t:=by unfold ci;rw[List.filter_cons_of_neg (by simpa using c)]
   rw[e2,zI jB]
def uV{l:List ak}{b:ak}{k:Nat}(hk:k<l.length+1):nth (l++[b]) k=if k<l.length then nth l k else b:=by
 unfold nth;rw[List.getD_eq_getElem?_getD,List.getD_eq_getElem?_getD];by_cases c:k<l.length
 ·rw[if_pos c,List.getElem?_append_left c]
 ·rw[if_neg c,List.getElem?_append_right jB,show k-l.length=0 from jB];rfl
def BS{x:aB}(h:lN x=true):0<=x.at_/\x.at_<=200:=by unfold lN at h;simp only[Bool.and_eq_true,decide_eq_true_eq]at h;exact⟨jB,jB⟩
def Pb{b:ak}{x:aB}:x∈dB b<->x∈b.base\/x∈b.own:=zL
end Go.Gd
namespace Go.Proofs.YtijdhbokcdpklaaGreatDoor
open Go Go.Gd Tryz Go.Gd.MV
def o9(w:aU)(nm:UI)(x:ak)(e:Int):aU×Int:=
 if 0<=dw nm w.l 0 then(w,61)else if 8<=w.l.length then(w,62)else if e≠0 then(w,e)else({ w with l:=w.l++[x],cur:=w.l.length },0)
section
variable {p:af}(hp:mJ p)(Uw:fw p){F:UG->MV->MV}(hF:bF p (bz p) F)
include hp Uw hF
theorem SB{b:ak}(h:ie b)(nm:UI){x:aB}(hx:bD x.v.n)(hxa:bD x.at_):ab prog 40 [.agg (bu b),.pt 5 0 0 0,.pt 7 0 0 0,.pt 12 0 0 0] [(5,.var 30 (cn p)),(7,.var 9 [rS nm]),(12,.var 87 (bA x))] (fun r l=>r=.aQ [.agg (bu (forkB p F (fW nm) b nm x).1),rI (forkB p F (fW nm) b nm x).2]/\l=[(5,.var 30 (cn p)),(7,.var 9 [rS nm]),(12,.var 87 (bA x))]):=by
 have hf:=TU hp Uw hF h nm hx hxa;generalize forkB p F (fW nm) b nm x=X at*;obtain⟨xb,xe⟩:=X;simp only at hf ⊢;refine aM func40 ntmps40 ?_;refine S ?_
 (repeat' (first|refine av fun K hK=>?_|refine au ?_|(refine hK _ _ ?_;clear hK K)|(refine ar ?_ ?_<;>intro hc<;>try exact jz)|refine bx 20 ?_|refine al 21 ?_|refine cp (hf) ?_|(refine bY ?_ ?_<;>intro hc<;>try exact jz)|refine aq ?_|exact jI|(clear hK K)))
 (refine ba [.cell 5 49,.tmp 6] ?_;try simp only[go_sem])
end
def SQ{p:af}{w:aU}(h:iW w)(nm nm2:UI)(x:aB)(xb:ak)(xe:Int)(Uo:ab prog 40 [.agg (bu (curB w)),.pt 5 0 0 0,.pt 7 0 0 0,.pt 12 0 0 0] [(5,.var 30 (cn p)),(7,.var 9 [rS nm2]),(12,.var 87 (bA x))] (fun r l=>r=.aQ [.agg (bu xb),rI xe]/\l=[(5,.var 30 (cn p)),(7,.var 9 [rS nm2]),(12,.var 87 (bA x))])) :
  ab prog 27 [.agg (cU w),rS nm,.dW 40 [.pt 5 0 0 0,.pt 7 0 0 0,.pt 12 0 0 0]] [(5,.var 30 (cn p)),(7,.var 9 [rS nm2]),(12,.var 87 (bA x))] (fun r l=>r=.aQ [.agg (cU (o9 w nm xb xe).1),rI (o9 w nm xb xe).2]/\l=[(5,.var 30 (cn p)),(7,.var 9 [rS nm2]),(12,.var 87 (bA x))]):=by
 have VB:=h.ln;have V7:=h.c0;have U1:=h.c1;have f1:=rK w nm jB;have Yh:=ze w.l jB 1;change ab _ _ [.agg (bu (nth w.l w.cur.toNat)),_,_,_] _ _ at Uo
 unfold o9;generalize dw nm w.l 0=i at*;by_cases c1:0<=i
 ·rw[if_pos c1];have c1':i >= 0:=c1;refine aM func27 ntmps27 ?_;refine S ?_
  (have W:=c1';repeat' (first|refine av fun K hK=>?_|refine au ?_|(with_reducible refine gR 8 ?_);refine dC 8 ([],[],[39]) [] [0,1,3,4,2,5,6,7] mixed ?_|(refine hK _ _ ?_;clear hK K)|(refine ar ?_ ?_<;>intro hc<;>try exact jz)|refine bx 20 ?_|refine al 21 ?_|refine cp (f1) ?_|(refine bY ?_ ?_<;>intro hc<;>try exact jz)|refine aq ?_|exact jI|(clear hK K)))
  (refine ba [.cell 6 37,.tmp 7] ?_;try simp only[go_sem])
 rw[if_neg c1];have c1':¬i >= 0:=c1;by_cases c2:8<=w.l.length
 ·rw[if_pos c2];have c2':(w.l.length:Int) >= 8:=jB;refine aM func27 ntmps27 ?_;refine S ?_
  (have W:=jA c1' (c2');repeat' (first|refine av fun K hK=>?_|refine au ?_|(with_reducible refine gR 8 ?_);refine dC 8 ([],[],[39]) [] [0,1,3,4,2,5,6,7] mixed ?_|(refine hK _ _ ?_;clear hK K)|(refine ar ?_ ?_<;>intro hc<;>try exact jz)|refine bx 20 ?_|refine al 21 ?_|refine cp (f1) ?_|(refine bY ?_ ?_<;>intro hc<;>try exact jz)|refine aq ?_|exact jI|(clear hK K)))
  (refine ba [.cell 6 37,.tmp 7] ?_;try simp only[go_sem])
 rw[if_neg c2];have c2':¬(w.l.length:Int) >= 8:=jB;by_cases c3:xe=0
 rotate_left
 ·rw[if_pos c3];refine aM func27 ntmps27 ?_;refine S ?_
  (have W:=jA c1' (jA c2' (jA c3 (jA V7 (U1))));repeat' (first|refine av fun K hK=>?_|refine au ?_|(with_reducible refine gR 8 ?_);refine dC 8 ([],[],[39]) [] [0,1,3,4,2,5,6,7] mixed ?_|(refine hK _ _ ?_;clear hK K)|(refine ar ?_ ?_<;>intro hc<;>try exact jz)|refine bx 20 ?_|refine al 21 ?_|refine al 22 ?_|(refine cl Uo ?_)|refine cp (f1) ?_|(refine bY ?_ ?_<;>intro hc<;>try exact jz)|refine aq ?_|exact jI|(clear hK K)))
  (refine ba [.cell 6 37,.tmp 7] ?_;try simp only[go_sem])
 ·rw[if_neg (fun h=>h c3)];subst c3;obtain⟨l,c,t⟩:=w;simp only at*;simp only[cU]at f1 ⊢;refine aM func27 ntmps27 ?_;refine S ?_
  (have W:=jA c1' (jA c2' (jA V7 (U1)));repeat' (first|refine av fun K hK=>?_|refine au ?_|(with_reducible refine gR 8 ?_);refine dC 8 ([],[],[39]) [] [0,1,3,4,2,5,6,7] mixed ?_|(refine hK _ _ ?_;clear hK K)|(refine ar ?_ ?_<;>intro hc<;>try exact jz)|refine bx 20 ?_|refine al 21 ?_|refine al 22 ?_|(refine cl Uo ?_)|refine cN Yh ?_|refine cp (f1) ?_|(refine bY ?_ ?_<;>intro hc<;>try exact jz)|refine aq ?_|exact jI|(clear hK K)))
  refine fF [.cell 6 37,.tmp 7] ?_;exact bt.aQ (ds:=[.agg [aP bu 4 (l++[xb]),rI l.length,rI t],rI 0]) ⟨bt.agg (ds:=[aP bu 4 (l++[xb]),rI l.length,rI t]) ⟨cY.row (l++[xb]) rfl (by rw[List.map_append];rfl) (by rw[List.length_append];rfl),(by rw[show(((l.length+1:Nat):Int)-1)=(l.length:Int) from jB];exact .same _ rfl),.same _ rfl,trivial⟩,.same _ rfl,trivial⟩
noncomputable def forkW(p:af)(F:UG->MV->MV)(w:aU)(nm va:UI)(v:aj):aU×Int:=
 o9 w nm (forkB p F (fW nm) (curB w) nm ⟨w.time,va,v⟩).1 (forkB p F (fW nm) (curB w) nm ⟨w.time,va,v⟩).2
section
variable {p:af}(hp:mJ p)(Uw:fw p){F:UG->MV->MV}(hF:bF p (bz p) F)
include hp Uw hF
theorem FW{w:aU}(h:iW w)(nm va:UI){v:aj}(hv:bD v.n):aC prog 19 [.agg (cn p),.agg (cU w),rS nm,rS va,.agg (bV v)] (.aQ [.agg (cU (forkW p F w nm va v).1),rI (forkW p F w nm va v).2]):=by
 have hk:w.cur.toNat<w.l.length:=by have:=h.c0;have:=h.c1;omega
 have h1:=SQ (p:=p) h nm nm ⟨w.time,va,v⟩ _ _ (SB hp Uw hF (h.b _ hk).ok nm (x:=⟨w.time,va,v⟩) hv h.t);have h1:ab prog 27 [.agg (cU w),rS nm,.dW 40 [.pt 5 0 0 0,.pt 7 0 0 0,.pt 12 0 0 0]] [(5,.var 30 (cn p)),(7,.var 9 [.raw (.string nm)]),(12,.var 87 (.raw (.int .i64 w.time)::.raw (.string va)::bV v))] (fun r l=>r=.aQ [.agg (cU (forkW p F w nm va v).1),rI (forkW p F w nm va v).2]/\l=[(5,.var 30 (cn p)),(7,.var 9 [.raw (.string nm)]),(12,.var 87 (.raw (.int .i64 w.time)::.raw (.string va)::bV v))]):=h1;generalize forkW p F w nm va v=Y at*;obtain⟨yw,ye⟩:=Y;simp only at h1 ⊢;refine bQ func19 ntmps19 ?_
 (repeat' (first|refine av fun K hK=>?_|refine au ?_|(refine hK _ _ ?_;clear hK K)|(refine ar ?_ ?_<;>intro hc<;>try exact jz)|refine aV 5 ?_|refine aV 6 ?_|refine aV 7 ?_|refine aV 9 ?_|refine cL 10 ?_|refine cL 12 ?_|refine cm (h1) ?_|(refine bY ?_ ?_<;>intro hc<;>try exact jz)|refine aq ?_|exact jI|(clear hK K)))
 (refine ba [.cell 10 37,.tmp 11] ?_;try simp only[go_sem])
end
def Qj{p:af}{w:aU}(h:iW w)(nm nm2:UI)(w2:aU)(n:Int)(xb:ak)(xe:Int)(Uo:ab prog 28 [.agg (bu (curB w)),.pt 4 0 0 0,.pt 6 0 0 0,.pt 5 0 0 0,.pt 7 0 0 0] [(4,.var 30 (cn p)),(5,.var 37 (cU w2)),(6,.var 9 [rS nm2]),(7,.var 3 [rI n])] (fun r l=>r=.aQ [.agg (bu xb),rI xe]/\l=[(4,.var 30 (cn p)),(5,.var 37 (cU w2)),(6,.var 9 [rS nm2]),(7,.var 3 [rI n])])) :
  ab prog 27 [.agg (cU w),rS nm,.dW 28 [.pt 4 0 0 0,.pt 6 0 0 0,.pt 5 0 0 0,.pt 7 0 0 0]] [(4,.var 30 (cn p)),(5,.var 37 (cU w2)),(6,.var 9 [rS nm2]),(7,.var 3 [rI n])] (fun r l=>r=.aQ [.agg (cU (o9 w nm xb xe).1),rI (o9 w nm xb xe).2]/\l=[(4,.var 30 (cn p)),(5,.var 37 (cU w2)),(6,.var 9 [rS nm2]),(7,.var 3 [rI n])]):=by
 have VB:=h.ln;have V7:=h.c0;have U1:=h.c1;have f1:=rK w nm jB;have Yh:=ze w.l jB 1;change ab _ _ [.agg (bu (nth w.l w.cur.toNat)),_,_,_,_] _ _ at Uo
 unfold o9;generalize dw nm w.l 0=i at*;by_cases c1:0<=i
 ·rw[if_pos c1];have c1':i >= 0:=c1;refine aM func27 ntmps27 ?_;refine S ?_
  (have W:=c1';repeat' (first|refine av fun K hK=>?_|refine au ?_|(with_reducible refine gR 8 ?_);refine dC 8 ([],[],[39]) [] [0,1,3,4,2,5,6,7] mixed ?_|(refine hK _ _ ?_;clear hK K)|(refine ar ?_ ?_<;>intro hc<;>try exact jz)|refine bx 20 ?_|refine al 21 ?_|refine cp (f1) ?_|(refine bY ?_ ?_<;>intro hc<;>try exact jz)|refine aq ?_|exact jI|(clear hK K)))
  (refine ba [.cell 6 37,.tmp 7] ?_;try simp only[go_sem])
 rw[if_neg c1];have c1':¬i >= 0:=c1;by_cases c2:8<=w.l.length
 ·rw[if_pos c2];have c2':(w.l.length:Int) >= 8:=jB;refine aM func27 ntmps27 ?_;refine S ?_
  (have W:=jA c1' (c2');repeat' (first|refine av fun K hK=>?_|refine au ?_|(with_reducible refine gR 8 ?_);refine dC 8 ([],[],[39]) [] [0,1,3,4,2,5,6,7] mixed ?_|(refine hK _ _ ?_;clear hK K)|(refine ar ?_ ?_<;>intro hc<;>try exact jz)|refine bx 20 ?_|refine al 21 ?_|refine cp (f1) ?_|(refine bY ?_ ?_<;>intro hc<;>try exact jz)|refine aq ?_|exact jI|(clear hK K)))
  (refine ba [.cell 6 37,.tmp 7] ?_;try simp only[go_sem])
 rw[if_neg c2];have c2':¬(w.l.length:Int) >= 8:=jB;by_cases c3:xe=0
 rotate_left
 ·rw[if_pos c3];refine aM func27 ntmps27 ?_;refine S ?_
  (have W:=jA c1' (jA c2' (jA c3 (jA V7 (U1))));repeat' (first|refine av fun K hK=>?_|refine au ?_|(with_reducible refine gR 8 ?_);refine dC 8 ([],[],[39]) [] [0,1,3,4,2,5,6,7] mixed ?_|(refine hK _ _ ?_;clear hK K)|(refine ar ?_ ?_<;>intro hc<;>try exact jz)|refine bx 20 ?_|refine al 21 ?_|refine al 22 ?_|(refine cl Uo ?_)|refine cp (f1) ?_|(refine bY ?_ ?_<;>intro hc<;>try exact jz)|refine aq ?_|exact jI|(clear hK K)))
  (refine ba [.cell 6 37,.tmp 7] ?_;try simp only[go_sem])
 ·rw[if_neg (fun h=>h c3)];subst c3;obtain⟨l,c,t⟩:=w;simp only at*;simp only[cU]at f1 Uo ⊢;refine aM func27 ntmps27 ?_;refine S ?_
  (have W:=jA c1' (jA c2' (jA V7 (U1)));repeat' (first|refine av fun K hK=>?_|refine au ?_|(with_reducible refine gR 8 ?_);refine dC 8 ([],[],[39]) [] [0,1,3,4,2,5,6,7] mixed ?_|(refine hK _ _ ?_;clear hK K)|(refine ar ?_ ?_<;>intro hc<;>try exact jz)|refine bx 20 ?_|refine al 21 ?_|refine al 22 ?_|(refine cl Uo ?_)|refine cN Yh ?_|refine cp (f1) ?_|(refine bY ?_ ?_<;>intro hc<;>try exact jz)|refine aq ?_|exact jI|(clear hK K)))
  refine fF [.cell 6 37,.tmp 7] ?_;exact bt.aQ (ds:=[.agg [aP bu 4 (l++[xb]),rI l.length,rI t],rI 0]) ⟨bt.agg (ds:=[aP bu 4 (l++[xb]),rI l.length,rI t]) ⟨cY.row (l++[xb]) rfl (by rw[List.map_append];rfl) (by rw[List.length_append];rfl),(by rw[show(((l.length+1:Nat):Int)-1)=(l.length:Int) from jB];exact .same _ rfl),.same _ rfl,trivial⟩,.same _ rfl,trivial⟩
noncomputable def inputW(p:af)(F:UG->MV->MV)(w:aU)(nm:UI)(n:Int):aU×Int:=
 o9 w nm (inputB p F (fW nm) (curB w) nm w.time n).1 (inputB p F (fW nm) (curB w) nm w.time n).2
section
variable {p:af}(hp:mJ p)(Uw:fw p){F:UG->MV->MV}(hF:bF p (bz p) F)
include hp Uw hF
theorem RY{b:ak}(h:ie b)(nm:UI)(w:aU)(n:Int)(ht:bD w.time):ab prog 28 [.agg (bu b),.pt 4 0 0 0,.pt 6 0 0 0,.pt 5 0 0 0,.pt 7 0 0 0] [(4,.var 30 (cn p)),(5,.var 37 (cU w)),(6,.var 9 [rS nm]),(7,.var 3 [rI n])] (fun r l=>r=.aQ [.agg (bu (inputB p F (fW nm) b nm w.time n).1),rI (inputB p F (fW nm) b nm w.time n).2]/\l=[(4,.var 30 (cn p)),(5,.var 37 (cU w)),(6,.var 9 [rS nm]),(7,.var 3 [rI n])]):=by
 have hf:=NJ hp Uw hF h nm w.time n ht;generalize inputB p F (fW nm) b nm w.time n=X at*;obtain⟨xb,xe⟩:=X;simp only at hf ⊢;refine aM func28 ntmps28 ?_;refine S ?_
 (repeat' (first|refine av fun K hK=>?_|refine au ?_|(refine hK _ _ ?_;clear hK K)|(refine ar ?_ ?_<;>intro hc<;>try exact jz)|refine bx 20 ?_|refine al 21 ?_|refine cp (hf) ?_|(refine bY ?_ ?_<;>intro hc<;>try exact jz)|refine aq ?_|exact jI|(clear hK K)))
 (refine ba [.cell 6 49,.tmp 7] ?_;try simp only[go_sem])
theorem GB{w:aU}(h:iW w)(nm:UI)(n:Int):aC prog 12 [.agg (cn p),.agg (cU w),rS nm,rI n] (.aQ [.agg (cU (inputW p F w nm n).1),rI (inputW p F w nm n).2]):=by
 have hk:w.cur.toNat<w.l.length:=by have:=h.c0;have:=h.c1;omega
 have h1:ab prog 27 [.agg (cU w),rS nm,.dW 28 [.pt 4 0 0 0,.pt 6 0 0 0,.pt 5 0 0 0,.pt 7 0 0 0]] [(4,.var 30 (cn p)),(5,.var 37 (cU w)),(6,.var 9 [rS nm]),(7,.var 3 [rI n])] (fun r l=>r=.aQ [.agg (cU (inputW p F w nm n).1),rI (inputW p F w nm n).2]/\l=[(4,.var 30 (cn p)),(5,.var 37 (cU w)),(6,.var 9 [rS nm]),(7,.var 3 [rI n])]):=Qj (p:=p) h nm nm w n _ _ (RY hp Uw hF (h.b _ hk).ok nm w n h.t);generalize inputW p F w nm n=Y at*;obtain⟨yw,ye⟩:=Y;simp only at h1 ⊢;refine bQ func12 ntmps12 ?_
 (repeat' (first|refine av fun K hK=>?_|refine au ?_|(refine hK _ _ ?_;clear hK K)|(refine ar ?_ ?_<;>intro hc<;>try exact jz)|refine aV 4 ?_|refine aV 5 ?_|refine aV 6 ?_|refine aV 7 ?_|refine cL 8 ?_|refine cm (h1) ?_|(refine bY ?_ ?_<;>intro hc<;>try exact jz)|refine aq ?_|exact jI|(clear hK K)))
 (refine ba [.cell 8 37,.tmp 9] ?_;try simp only[go_sem])
end
section
variable {p:af}(hs:fX p){F:UG->MV->MV}(hF:bF p (bz p) F){inp:UG}(hi:∀x∈inp,bD x){E:List aB}(hE:∀x∈E,bD x.v.n)
include hF hi hE
theorem H5{T T':Int}(hT:T<=200)(hT':T'<=T):∀(n n':Nat) (s:MV) (k:Nat) (b:Bool),IM p inp s->s.time<=T'->T-s.time<n->T'-s.time<n'->T'<=(cZ MV.time (F inp) (dv p (bz p)) E T n s k b).1.time->(cZ MV.time (F inp) (dv p (bz p)) E T' n' s k b).1.time=T'
 |0,_,s,k,b,_,_,h,_,_=>by omega
 |_,0,s,k,b,_,_,_,h,_=>jB
 |n+1,n'+1,s,k,b,h,ht,h1,h2,h3=>by
  have W7:=mh hE;obtain⟨a1,a2,_⟩:=na (mW hF hi W7) (E.length+1) s k b h;unfold cZ at h3 ⊢;generalize cv MV.time (dv p (bz p)) E (E.length+1) s k b=Q at*;obtain⟨c1,c2⟩:=pi hF hi a1;by_cases c:Q.1.time=T'
  ·rw[if_pos c];exact c
  have c':¬Q.1.time=T:=jB;rw[if_neg c']at h3;rw[if_neg c];by_cases d:(F inp Q.1).time=Q.1.time
  ·rw[if_pos d]at h3;have h3:T'<=(F inp Q.1).time:=h3;omega
  ·rw[if_neg d]at h3;rw[if_neg d];have h4:(F inp Q.1).time=Q.1.time+1:=c2.elim (fun e=>(d e).elim) fun e=>e.1
   exact H5 hT hT' n n' _ Q.2.1 Q.2.2 c1 jB jB jB h3
theorem JN{T':Int}(hT:T'+1<=200):∀(n n':Nat) (s:MV) (k:Nat) (b:Bool),IM p inp s->s.time<=T'->T'+1-s.time<n->T'-s.time<n'->((cZ MV.time (F inp) (dv p (bz p)) E (T'+1) n s k b).1.time=T'+1<->(cZ MV.time (F inp) (dv p (bz p)) E T' n' s k b).1.time=T'/\(F inp (cZ MV.time (F inp) (dv p (bz p)) E T' n' s k b).1).time=T'+1)
 |0,_,s,k,b,_,_,h,_=>by omega
 |_,0,s,k,b,_,_,_,h=>jB
 |n+1,n'+1,s,k,b,h,ht,h1,h2=>by
  have W7:=mh hE;obtain⟨a1,a2,_⟩:=na (mW hF hi W7) (E.length+1) s k b h;unfold cZ;generalize cv MV.time (dv p (bz p)) E (E.length+1) s k b=Q at*;obtain⟨c1,c2⟩:=pi hF hi a1;have c':¬Q.1.time=T'+1:=jB;rw[if_neg c'];by_cases c:Q.1.time=T'
  ·rw[if_pos c];by_cases d:(F inp Q.1).time=Q.1.time
   ·rw[if_pos d];show(F inp Q.1).time=T'+1<->_;exact⟨fun e=>jB,fun e=>jB⟩
   ·rw[if_neg d];have h4:(F inp Q.1).time=Q.1.time+1:=c2.elim (fun e=>(d e).elim) fun e=>e.1
    refine⟨fun _=>⟨c,jB⟩,fun _=>?_⟩;obtain⟨n2,rfl⟩:∃n2,n=n2+1:=⟨n-1,jB⟩;obtain⟨b1,b2,_⟩:=na (mW hF hi W7) (E.length+1) (F inp Q.1) Q.2.1 Q.2.2 c1;unfold cZ;rw[jP];omega
  ·rw[if_neg c];by_cases d:(F inp Q.1).time=Q.1.time
   ·rw[if_pos d,if_pos d];show(F inp Q.1).time=T'+1<->(F inp Q.1).time=T'/\_;exact⟨fun e=>jB,fun e=>by have:=e.1;omega⟩
   ·rw[if_neg d,if_neg d];have h4:(F inp Q.1).time=Q.1.time+1:=c2.elim (fun e=>(d e).elim) fun e=>e.1
    exact JN hT n n' _ Q.2.1 Q.2.2 c1 jB jB jB
theorem EM{T:Int}(hT:T<=200):∀(n:Nat) (s:MV) (k:Nat) (b:Bool),IM p inp s->s.time<=T->(nth E k).at_<s.time->(cZ MV.time (F inp) (dv p (bz p)) E T n s k b).2.1=k
 |0,s,k,b,_,_,_=>rfl
 |n+1,s,k,b,h,ht,h1=>by
  have Um:cv MV.time (dv p (bz p)) E (E.length+1) s k b=(s,k,b):=by unfold cv;rw[if_neg (fun e=>by have:=e.2.2;omega)]
  unfold cZ;rw[Um];obtain⟨c1,c2⟩:=pi hF hi h;show(if s.time=T then(s,k,b)else if(F inp s).time=s.time then(F inp s,k,b)else cZ MV.time (F inp) (dv p (bz p)) E T n (F inp s) k b).2.1=k;split
  ·rfl
  split
  ·rfl
  ·exact EM hT n _ k b c1 jB jB
theorem DP{T T':Int}(hT:T<=200)(hT':T'<=T):∀(n n':Nat) (s:MV) (k:Nat) (b:Bool),IM p inp s->s.time<=T'->T-s.time<n->T'-s.time<n'->(cZ MV.time (F inp) (dv p (bz p)) E T n s k b).2.1=E.length->(cZ MV.time (F inp) (dv p (bz p)) E T' n' s k b).1.time=T'->(cZ MV.time (F inp) (dv p (bz p)) E T' n' s k b).2.1<E.length->T'<(nth E (cZ MV.time (F inp) (dv p (bz p)) E T' n' s k b).2.1).at_
 |0,_,s,k,b,_,_,h,_,_,_,_=>by omega
 |_,0,s,k,b,_,_,_,h,_,_,_=>jB
 |n+1,n'+1,s,k,b,h,ht,h1,h2,h3,h4,h5=>by
  have W7:=mh hE;obtain⟨a1,a2,_⟩:=na (mW hF hi W7) (E.length+1) s k b h;unfold cZ at h3 h4 h5 ⊢;generalize cv MV.time (dv p (bz p)) E (E.length+1) s k b=Q at*;obtain⟨c1,c2⟩:=pi hF hi a1;by_cases c:Q.1.time=T'
  ·rw[if_pos c]at h4 h5 ⊢;refine Int.not_le.1 fun Uq=>?_
   by_cases c':Q.1.time=T
   ·rw[if_pos c']at h3;omega
   rw[if_neg c']at h3;by_cases d:(F inp Q.1).time=Q.1.time
   ·rw[if_pos d]at h3;have h3:Q.2.1=E.length:=h3;omega
   ·rw[if_neg d]at h3;have h6:(F inp Q.1).time=Q.1.time+1:=c2.elim (fun e=>(d e).elim) fun e=>e.1
    rw[EM hF hi hE hT n _ Q.2.1 Q.2.2 c1 jB jB]at h3;omega
  ·have c':¬Q.1.time=T:=jB;rw[if_neg c']at h3;rw[if_neg c]at h4 h5 ⊢;by_cases d:(F inp Q.1).time=Q.1.time
   ·rw[if_pos d]at h4;have h4:(F inp Q.1).time=T':=h4;omega
   ·rw[if_neg d]at h3 h4 h5 ⊢;have h6:(F inp Q.1).time=Q.1.time+1:=c2.elim (fun e=>(d e).elim) fun e=>e.1
    exact DP hT hT' n n' _ Q.2.1 Q.2.2 c1 jB jB jB h3 h4 h5
theorem E9{T T':Int}(hT':T'<=T):∀(n n':Nat) (s:MV) (k:Nat) (b:Bool),IM p inp s->s.time<=T'->T-s.time<n->(cZ MV.time (F inp) (dv p (bz p)) E T' n' s k b).2.1<=(cZ MV.time (F inp) (dv p (bz p)) E T n s k b).2.1
 |0,_,s,k,b,_,_,h=>by omega
 |n,0,s,k,b,_,_,h=>xd _ _ _ _ _
 |n+1,n'+1,s,k,b,h,ht,h1=>by
  have W7:=mh hE;obtain⟨a1,a2,_⟩:=na (mW hF hi W7) (E.length+1) s k b h;unfold cZ;generalize cv MV.time (dv p (bz p)) E (E.length+1) s k b=Q at*;obtain⟨c1,c2⟩:=pi hF hi a1;by_cases c:Q.1.time=T'
  ·rw[if_pos c];split
   ·exact Nat.le_refl _
   split
   ·exact Nat.le_refl _
   ·exact xd _ _ _ _ _
  ·have c':¬Q.1.time=T:=jB;rw[if_neg c,if_neg c'];by_cases d:(F inp Q.1).time=Q.1.time
   ·rw[if_pos d,if_pos d];exact Nat.le_refl _
   ·rw[if_neg d,if_neg d];have h6:(F inp Q.1).time=Q.1.time+1:=c2.elim (fun e=>(d e).elim) fun e=>e.1
    exact E9 hT' n n' _ Q.2.1 Q.2.2 c1 jB jB
theorem G4{T:Int}(h1:T<=200){y:Int}(hy:bD y):∀(n:Nat) (s:MV) (k:Nat) (b:Bool),IM p inp s->s.time<=T->(cZ MV.time (F inp) (dv p (bz p)) E T n s k b).2.1<=(cZ MV.time (F (inp++[y])) (dv p (bz p)) E T n s k b).2.1
 |0,s,k,b,_,_=>Nat.le_refl _
 |n+1,s,k,b,h,ht=>by
  have Vi:∀x∈inp++[y],bD x:=fun x hx=>(List.mem_append.1 hx).elim (hi x) (fun hx=>by rw[List.mem_singleton.1 hx];exact hy)
  have W7:=mh hE;obtain⟨a1,a2,_⟩:=na (mW hF hi W7) (E.length+1) s k b h;unfold cZ;generalize cv MV.time (dv p (bz p)) E (E.length+1) s k b=Q at*;by_cases c:Q.1.time=T
  ·rw[if_pos c,if_pos c];exact Nat.le_refl _
  rw[if_neg c,if_neg c];obtain⟨c1,c2⟩:=pi hF hi a1;by_cases d:(F inp Q.1).time=Q.1.time
  ·rw[if_pos d];show Q.2.1<=_;split
   ·exact Nat.le_refl _
   ·exact xd _ _ _ _ _
  ·rw[if_neg d];have h4:(F inp Q.1).time=Q.1.time+1/\(F inp Q.1).status≠1:=c2.elim (fun e=>(d e).elim) fun e=>⟨e.1,e.2.1⟩
   have e:F (inp++[y]) Q.1=F inp Q.1:=Dx hF hi Vi a1.mi a1.i0 h4.2 (JI c1.i1);rw[e,if_neg d];exact G4 h1 hy n _ Q.2.1 Q.2.2 c1 jB
include hs
theorem Gr(t:Int):0<=(runM p F inp E t).1.time:=(rh hs hF hi hE t).1.t0
variable{t:Int}
theorem QY{t':Int}(h0:0<=t')(ht:t'<=(runM p F inp E t).1.time):(runM p F inp E t').1.time=t':=by obtain⟨a,b,_⟩:=pE hs inp;have hf:=(rh hs hF hi hE t).2;obtain⟨c0,c1⟩:=Ai t;have e2:=sN (t:=t') h0 jB;unfold runM at ht ⊢;rw[e2];exact H5 hF hi hE c1 (by unfold runM at hf;omega) ((dL t-(m0V p).time).toNat+1) _ (m0V p) 0 false a jB jB jB ht
theorem Jy(h0:0<=t)(h1:t+1<=200):(runM p F inp E (t+1)).1.time=t+1<->(runM p F inp E t).1.time=t/\(F inp (runM p F inp E t).1).time=t+1:=by obtain⟨a,b,_⟩:=pE hs inp;have e1:=sN (t:=t) h0 jB;have e2:=sN (t:=t+1) jB h1;unfold runM;rw[e1,e2];exact JN hF hi hE h1 _ _ (m0V p) 0 false a jB jB jB
theorem I9:(runM p F inp E 0).1.time=0:=by have h1:=(rh hs hF hi hE 0).2;have h2:=Gr hs hF hi hE 0;have:dL 0=0:=jC;omega
theorem En{E':List aB}(W7:∀x∈E',bD x.v.n)(hS:km E)(hS':km E')(h0:0<=t)(h1:t<=200)(e:ci E (t-1)=ci E' (t-1))(h:(runM p F inp E t).1.time=t):(runM p F inp E' t).1.time=t:=by
 by_cases c:t=0
 ·subst c;exact I9 hs hF hi W7
 obtain⟨u,rfl⟩:∃u,t=u+1:=⟨t-1,jB⟩;have hu:u+1-1=u:=jB;rw[hu]at e;have hr:=F1 hs hF hi hE W7 hS hS' (t:=u) jB jB e;have h2:=(Jy hs hF hi hE (t:=u) jB h1).1 h;refine(Jy hs hF hi W7 (t:=u) jB h1).2 ?_;rw[<-hr];exact h2
theorem zQ(hm:∀x∈E,x.at_<=200):badM p F inp E 200=0<->(runM p F inp E 200).2.1=E.length:=by
 obtain⟨a,b,_⟩:=pE hs inp;have e1:dL 200=200:=jC;have hk:(runM p F inp E 200).2.1<=E.length:=by unfold runM;rw[e1];exact(sF (mW hF hi (mh hE)) jC _ (m0V p) 0 false a jB (Nat.zero_le _)).2.1
 unfold badM l5;rw[e1];by_cases c:(runM p F inp E 200).2.1<E.length
 ·rw[if_pos ⟨c,hm _ (ff c)⟩];exact⟨fun e=>jB,fun e=>jB⟩
 ·rw[if_neg (fun h=>c h.1)];exact⟨fun _=>jB,fun _=>rfl⟩
theorem KD(hm:∀x∈E,x.at_<=200){y:Int}(hy:bD y)(h:badM p F inp E 200=0):badM p F (inp++[y]) E 200=0:=by
 have Vi:∀x∈inp++[y],bD x:=fun x hx=>(List.mem_append.1 hx).elim (hi x) (fun hx=>by rw[List.mem_singleton.1 hx];exact hy)
 obtain⟨a,b,_⟩:=pE hs inp;obtain⟨a',_,_⟩:=pE hs (inp++[y]);have h1:=(zQ hs hF hi hE hm).1 h;refine(zQ hs hF Vi hE hm).2 ?_;have e1:dL 200=200:=jC;have h2:=G4 hF hi hE (T:=200) jC hy ((200-(m0V p).time).toNat+1) (m0V p) 0 false a jB;have hk:=(sF (mW hF Vi (mh hE)) (t:=200) jC ((200-(m0V p).time).toNat+1) (m0V p) 0 false a' jB (Nat.zero_le _)).2.1;unfold runM at h1 ⊢;rw[e1]at h1 ⊢;omega
theorem Nr(hm:∀x∈E,x.at_<=200)(hS:km E)(h0:0<=t)(ht:t<=200){inp':UG}(Vi:∀x∈inp',bD x)(h:badM p F inp E 200=0)(hr:(runM p F inp E t).1.time=t)(ha:fu (runM p F inp E t).1.in_ inp inp'):badM p F inp' (ci E t) 200=0:=by
 obtain⟨K,h2,h3,h4⟩:=B5 (t:=t) E hS;obtain⟨a,b,_⟩:=pE hs inp;obtain⟨a',_,_⟩:=pE hs inp';have ec:=sN h0 ht;have e1:dL 200=200:=jC;have h1:=(zQ hs hF hi hE hm).1 h;have hEe:∀x∈ci E t,bD x.v.n:=fun x hx=>hE x (rW hx).1
 have Uq:=Cs (mW hF hi (mh hE)) ht h4 ((t-(m0V p).time).toNat+1) (m0V p) 0 false a jB (Nat.zero_le _);have Wn:=AR (tm:=MV.time) (st:=F inp) (se:=dv p (bz p)) (E:=E) h2 (t:=t) ((t-(m0V p).time).toNat+1) (m0V p) 0 false false (Nat.zero_le _) (fun _=>rfl) Uq;refine(zQ hs hF Vi hEe fun x hx=>hm x (rW hx).1).2 ?_;have hEk:∀x∈E.take K,bD x.v.n:=fun x hx=>hE x (List.mem_of_mem_take hx)
 unfold runM at h1 hr ha ⊢;rw[e1]at h1 ⊢;rw[ec]at hr ha;have UX:=DP hF hi hE (T:=200) jC ht ((200-(m0V p).time).toNat+1) ((t-(m0V p).time).toNat+1) (m0V p) 0 false a jB jB jB h1 hr;rw[h3];have Wd:=B7 hF hi (mh hEk) ht Vi ((t-(m0V p).time).toNat+1) (m0V p) 0 false a jB (.inl (by rw[Wn.1];exact hr)) (by rw[Wn.1];exact ha);have hmo:=E9 hF Vi hEk ht ((200-(m0V p).time).toNat+1) ((t-(m0V p).time).toNat+1) (m0V p) 0 false a' jB jB;have XA:=(sF (mW hF Vi (mh hEk)) (t:=200) jC ((200-(m0V p).time).toNat+1) (m0V p) 0 false a' jB (Nat.zero_le _)).2.1;rw[Wd,Wn.2]at hmo;have I':(E.take K).length=K:=by rw[List.length_take];omega
 have hge:K<=(cZ MV.time (F inp) (dv p (bz p)) E t ((t-(m0V p).time).toNat+1) (m0V p) 0 false).2.1:=by
  refine Nat.le_of_not_lt fun O'=>?_
  have hx:=UX jB;have Vl:nth E (cZ MV.time (F inp) (dv p (bz p)) E t ((t-(m0V p).time).toNat+1) (m0V p) 0 false).2.1∈ci E t:=by rw[h3,<-zK O'];exact ff jB
  have:=(rW Vl).2;omega
 rw[I']at XA ⊢;omega
end
def UN(l:List ak):Prop:=∀i j,i<l.length->j<l.length->(nth l i).name=(nth l j).name->i=j
variable{l:List ak}
def UN.find(h:UN l){j:Nat}(hj:j<l.length):dw (nth l j).name l 0=(j:Int):=J8 hj rfl fun i hi e=>by have:=h i j jB hj e;omega
theorem UN.set{l:List ak}(h:UN l){n:Nat}{b:ak}(hu:∀j,j<l.length->j≠n->(nth l j).name≠b.name):UN (l.set n b):=fun i j hi hj e=>by
 have hi:i<l.length:=by simpa using hi
 have hj:j<l.length:=by simpa using hj
 rw[uK hi,uK hj]at e;by_cases c:n=i<;>by_cases d:n=j
 ·omega
 ·rw[if_pos c,if_neg d]at e;exact(hu j hj (fun h=>d h.symm) e.symm).elim
 ·rw[if_neg c,if_pos d]at e;exact(hu i hi (fun h=>c h.symm) e).elim
 ·rw[if_neg c,if_neg d]at e;exact h i j hi hj e
def UN.app(h:UN l){b:ak}(hu:∀j,j<l.length->(nth l j).name≠b.name):UN (l++[b]):=fun i j hi hj e=>by
 have hi:i<l.length+1:=by simpa using hi
 have hj:j<l.length+1:=by simpa using hj
 rw[uV hi,uV hj]at e;by_cases c:i<l.length<;>by_cases d:j<l.length
 ·rw[if_pos c,if_pos d]at e;exact h i j c d e
 ·rw[if_pos c,if_neg d]at e;exact(hu i c e).elim
 ·rw[if_neg c,if_pos d]at e;exact(hu j d e.symm).elim
 ·omega
def UN.erase(h:UN l){n:Nat}(hn:n<l.length):UN (iU l n):=fun i j hi hj e=>by
 rw[vu hn hi,vu hn hj]at e;rw[qf hn]at hi hj;by_cases c:i<n<;>by_cases d:j<n
 ·rw[if_pos c,if_pos d]at e;exact h i j jB jB e
 ·rw[if_pos c,if_neg d]at e;have:=h i (j+1) jB jB e;omega
 ·rw[if_neg c,if_pos d]at e;have:=h (i+1) j jB jB e;omega
 ·rw[if_neg c,if_neg d]at e;have:=h (i+1) (j+1) jB jB e;omega
structure BI(p:af)(F:List Int->MV->MV)(b:ak):Prop where
 w:BW b
 s:km b.base
 so:km b.own
 nm:fW b.name=true
 mb:∀x∈b.base,lN x=true
 mo:∀x∈b.own,lN x=true
 bad:badB p F b=0
section
variable {p:af}{F:UG->MV->MV}{b:ak}
def BI.qU(h:BI p F b):∀x∈dB b,lN x=true:=fun x hx=>(Pb.1 hx).elim (h.mb x) (h.mo x)
def BI.xp(h:BI p F b):∀x∈dB b,x.at_<=200:=fun x hx=>(BS (h.qU x hx)).2
def BI.lI(h:BI p F b):km (dB b):=Cy h.s
variable{nm:UI}
def BI.bS(h:BI p F b)(hn:fW nm=true):BI p F { b with name:=nm }:=
 ⟨⟨⟨h.w.ok.inl,h.w.ok.rN,h.w.ok.oY,h.w.ok.inr,h.w.ok.wH,h.w.ok.uU⟩,h.w.i16,h.w.s8⟩,h.s,h.so,hn,h.mb,h.mo,h.bad⟩
def HT{ok:Bool}{x:aB}(e:(forkB p F ok b nm x).2=0):(forkB p F ok b nm x).1=⟨nm,b.aD,ci (dB b) x.at_,[x]⟩/\(ci (dB b) x.at_).length<8/\ok=true/\lN x=true/\badB p F ⟨nm,b.aD,ci (dB b) x.at_,[x]⟩=0:=by
 unfold forkB at e ⊢;split at e
 ·cases e
 rename_i c1;split at e
 ·cases e
 split at e
 ·cases e
 unfold fineB at e ⊢;split at e
 ·cases e
 rename_i c2 c3 c4;rw[if_neg c1,if_neg c2,if_neg c3,if_neg c4];refine⟨rfl,jB,?_,?_,Classical.not_not.1 c4⟩
 ·cases ok
  ·exact(c1 (.inl rfl)).elim
  ·rfl
 ·cases hm:lN x
  ·exact(c1 (.inr hm)).elim
  ·rfl
def AB{ok:Bool}{t n:Int}(e:(inputB p F ok b nm t n).2=0):(inputB p F ok b nm t n).1=⟨nm,b.aD.take (atB p F b t).in_.toNat++[n],ci (dB b) t,[]⟩/\(atB p F b t).in_<16/\ok=true/\0<=t/\t<=200/\¬(atB p F b t).time<t:=by
 unfold inputB at e ⊢;split at e
 ·cases e
 rename_i c1;split at e
 ·cases e
 split at e
 ·cases e
 rename_i c2 c3;rw[if_neg c1,if_neg c2,if_neg c3];refine⟨rfl,jB,?_,jB,jB,c2⟩;cases ok
 ·exact(c1 (.inl rfl)).elim
 ·rfl
def HU{x:aB}(e:(addB p F b x).2=0):(addB p F b x).1={ b with own:=gJ x b.own }/\b.base.length+b.own.length<8/\lN x=true/\badB p F { b with own:=gJ x b.own }=0:=by
 unfold addB at e ⊢;split at e
 ·cases e
 rename_i c1;split at e
 ·cases e
 unfold fineB at e ⊢;split at e
 ·cases e
 rename_i c2 c3;rw[if_neg c1,if_neg c2,if_neg c3];refine⟨rfl,jB,?_,Classical.not_not.1 c3⟩;cases hm:lN x
 ·exact(c1 hm).elim
 ·rfl
def E2{n:Int}(e:(ot b n).2=0):(ot b n).1={ b with aD:=b.aD++[n] }/\b.aD.length<16:=by
 unfold ot at e ⊢;split at e
 ·cases e
 rename_i c1;rw[if_neg c1];exact⟨rfl,jB⟩
def EY{a o:ak}(e:(rebaseB p F a o).2.2=0):(rebaseB p F a o).1=⟨a.name,o.aD,dB o,a.own⟩/\(dB o).length+a.own.length<=8/\badB p F ⟨a.name,o.aD,dB o,a.own⟩=0:=by
 unfold rebaseB at e ⊢;split at e
 ·cases e
 rename_i c1;split at e
 ·cases e
 rename_i c2;rw[if_neg c1,if_neg c2];exact⟨rfl,jB,Classical.not_not.1 c2⟩
end
section
variable {p:af}(hs:fX p){F:UG->MV->MV}(hF:bF p (bz p) F){b:ak}(h:BI p F b)
include h
variable{nm:UI}{x:aB}
theorem R3(hx:bD x.v.n)(e:(forkB p F (fW nm) b nm x).2=0):BI p F (forkB p F (fW nm) b nm x).1:=by obtain⟨e1,e2,e3,e4,e5⟩:=HT e;rw[e1];exact⟨⟨h.w.ok.early x.at_ jB nm hx,h.w.i16,by show(ci (dB b) x.at_).length+1<=8;omega⟩,wT h.lI,⟨fun y hy=>by simp at hy,trivial⟩,e3,fun y hy=>h.qU y (rW hy).1,fun y hy=>by rw[List.mem_singleton.1 hy];exact e4,e5⟩
theorem PH(hx:bD x.v.n)(e:(addB p F b x).2=0):BI p F (addB p F b x).1:=by
 obtain⟨e1,e2,e3,e4⟩:=HU e;rw[e1];have hl:=Go.Gd.iE x b.own;exact⟨⟨h.w.ok.ins jB hx,h.w.i16,by show b.base.length+(gJ x b.own).length<=8;omega⟩,h.s,xO x h.so,h.nm,h.mb,fun y hy=>by
  rcases u7.1 hy with rfl|hy
  ·exact e3
  ·exact h.mo y hy,e4⟩
theorem KF{o:ak}(ho:BI p F o)(e:(rebaseB p F b o).2.2=0):BI p F (rebaseB p F b o).1:=by obtain⟨e1,e2,e3⟩:=EY e;rw[e1];exact⟨⟨h.w.ok.kj ho.w.ok jB,ho.w.i16,e2⟩,ho.lI,h.so,h.nm,ho.qU,h.mo,e3⟩
include hs hF
variable{t n:Int}
theorem Se(hn:bD n)(e:(inputB p F (fW nm) b nm t n).2=0):BI p F (inputB p F (fW nm) b nm t n).1:=by
 obtain⟨e1,e2,e3,e4,e5,e6⟩:=AB e;rw[e1];have hf:=rh hs hF h.w.ok.inr h.w.ok.fx t;have Vo:(atB p F b t).in_=(runM p F b.aD (dB b) t).1.in_:=rfl;have Xn:(atB p F b t).time=(runM p F b.aD (dB b) t).1.time:=rfl;rw[Xn]at e6;rw[Vo]at e2 ⊢;have Vi:∀x∈b.aD.take (runM p F b.aD (dB b) t).1.in_.toNat++[n],bD x:=fun x hx=>(List.mem_append.1 hx).elim (fun hx=>h.w.ok.inr x (List.mem_of_mem_take hx)) (fun hx=>by rw[List.mem_singleton.1 hx];exact hn)
 have V0:(b.aD.take (runM p F b.aD (dB b) t).1.in_.toNat++[n]).length<=16:=by rw[List.length_append,List.length_take];simp only[List.length_cons,List.length_nil];omega
 have Wu:=A4 (dB b) t;have h8:=h.w.um;refine⟨⟨⟨Nat.le_trans V0 jC,by show(ci (dB b) t).length<=100;omega,by show 0<=100;decide,Vi,fun y hy=>h.w.ok.fx y (rW hy).1,fun y hy=>(by cases hy)⟩,V0,by show(ci (dB b) t).length+0<=8;omega⟩,wT h.lI,trivial,e3,fun y hy=>h.qU y (rW hy).1,fun y hy=>(by cases hy),?_⟩;show badM p F _ (ci (dB b) t) 200=0;refine Nr hs hF h.w.ok.inr h.w.ok.fx h.xp h.lI e4 e5 Vi h.bad ?_ (Eh hf.1.i1);have h2:=hf.2;rw[sN e4 e5]at h2;omega
theorem QZ(hn:bD n)(e:(ot b n).2=0):BI p F (ot b n).1:=by
 obtain⟨e1,e2⟩:=E2 e;rw[e1];have Vi:∀x∈b.aD++[n],bD x:=fun x hx=>(List.mem_append.1 hx).elim (h.w.ok.inr x) (fun hx=>by rw[List.mem_singleton.1 hx];exact hn)
 have V0:(b.aD++[n]).length<=16:=by rw[List.length_append];simp only[List.length_cons,List.length_nil];omega
 exact⟨⟨⟨Nat.le_trans V0 jC,h.w.ok.rN,h.w.ok.oY,Vi,h.w.ok.wH,h.w.ok.uU⟩,V0,h.w.s8⟩,h.s,h.so,h.nm,h.mb,h.mo,KD hs hF h.w.ok.inr h.w.ok.fx h.xp hn h.bad⟩
theorem Rp(t:Int):0<=comesB p F b t/\comesB p F b t<=dL t/\comesB p F b t<=200:=by have h1:=Gr hs hF h.w.ok.inr h.w.ok.fx t;have h2:=(rh hs hF h.w.ok.inr h.w.ok.fx t).2;have h3:=Ai t;show 0<=(runM p F b.aD (dB b) t).1.time/\(runM p F b.aD (dB b) t).1.time<=dL t/\(runM p F b.aD (dB b) t).1.time<=200;omega
theorem F7{t':Int}(h0:0<=t')(ht:t'<=comesB p F b t):comesB p F b t'=t':=QY hs hF h.w.ok.inr h.w.ok.fx h0 ht
theorem TJ(hx:bD x.v.n)(hm:lN x=true)(e:comesB p F b x.at_=x.at_):comesB p F ⟨nm,b.aD,ci (dB b) x.at_,[x]⟩ x.at_=x.at_:=by
 obtain⟨h0,h1⟩:=BS hm;refine En hs hF h.w.ok.inr (E:=dB b) h.w.ok.fx (E':=gJ x (ci (dB b) x.at_)) (fun y hy=>?_) h.lI (xO x (wT h.lI)) h0 h1 ?_ e
 ·rcases u7.1 hy with rfl|hy
  ·exact hx
  ·exact h.w.ok.fx y (rW hy).1
 ·rw[zI jB,GC jB]
theorem N0(hx:bD x.v.n)(hm:lN x=true)(e:comesB p F b x.at_=x.at_):comesB p F { b with own:=gJ x b.own } x.at_=x.at_:=by
 obtain⟨h0,h1⟩:=BS hm;refine En hs hF h.w.ok.inr (E:=gY b.base b.own) h.w.ok.fx (E':=gY b.base (gJ x b.own)) (fun y hy=>?_) h.lI (Cy h.s) h0 h1 ?_ e
 ·rcases zL.1 hy with hy|hy
  ·exact h.w.ok.wH y hy
  rcases u7.1 hy with rfl|hy
  ·exact hx
  ·exact h.w.ok.uU y hy
 ·rw[AJ h.s,AJ h.s,zI jB]
theorem PZ(hn:bD n)(h0:0<=t)(h1:t<=200)(e:comesB p F b t=t):comesB p F { b with aD:=b.aD++[n] } t=t:=by
 have Vi:∀x∈b.aD++[n],bD x:=fun x hx=>(List.mem_append.1 hx).elim (h.w.ok.inr x) (fun hx=>by rw[List.mem_singleton.1 hx];exact hn)
 have hf:=rh hs hF h.w.ok.inr h.w.ok.fx t;have e:(runM p F b.aD (dB b) t).1.time=t:=e;have hr:=Ik hs hF h.w.ok.inr h.w.ok.fx h0 (Int.le_refl t) h1 jB Vi (JI hf.1.i1);show(runM p F (b.aD++[n]) (dB b) t).1.time=t;rw[hr.1];exact hr.2
theorem Lp(hn:bD n)(h0:0<=t)(h1:t<=200)(e:comesB p F b t=t):comesB p F ⟨nm,b.aD.take (atB p F b t).in_.toNat++[n],ci (dB b) t,[]⟩ t=t:=by
 have hf:=rh hs hF h.w.ok.inr h.w.ok.fx t;have e:(runM p F b.aD (dB b) t).1.time=t:=e;show(runM p F (b.aD.take (runM p F b.aD (dB b) t).1.in_.toNat++[n]) (ci (dB b) t) t).1.time=t;have Vi:∀x∈b.aD.take (runM p F b.aD (dB b) t).1.in_.toNat++[n],bD x:=fun x hx=>(List.mem_append.1 hx).elim (fun hx=>h.w.ok.inr x (List.mem_of_mem_take hx)) (fun hx=>by rw[List.mem_singleton.1 hx];exact hn)
 have hr:=Ik hs hF h.w.ok.inr h.w.ok.fx h0 (Int.le_refl t) h1 jB Vi (Eh hf.1.i1);rw[F1 hs hF Vi (fun y hy=>h.w.ok.fx y (rW hy).1) h.w.ok.fx (wT h.lI) h.lI h0 h1 (GC (Int.le_refl t) _),hr.1];exact hr.2
end
end Go.Proofs.YtijdhbokcdpklaaGreatDoor
/- Lemmas. No conditions. -/
import Derived.Test.YtfkgcobaheegbaaGreatDoorSoH
set_option linter.all false
set_option maxHeartbeats 4000000
namespace Go.Gd
open Go
structure Lw(R R':RS):Prop where
 nf:R'.nf<=R.nf
 low:∀k,k+1<R'.nf->nth R'.aK k=nth R.aK k
 len:R'.aK.length=R.aK.length
 st:R'.status=R.status\/(R'.status=2/\R'.nf=0)
theorem Lw.refl(R:RS):Lw R R:=⟨Nat.le_refl _,fun _ _=>rfl,rfl,.inl rfl⟩
theorem Lw.trans{a b c:RS}(h:Lw a b)(k:Lw b c):Lw a c:=⟨Nat.le_trans k.nf h.nf,fun i hi=>(k.low i hi).trans (h.low i (by have:=k.nf;omega)),k.len.trans h.len,by
 rcases k.st with e|e
 ·rcases h.st with e'|e'
  ·exact .inl (e.trans e')
  ·exact .inr ⟨e.trans e'.1,by have:=k.nf;omega⟩
 ·exact .inr e⟩
variable{R:RS}
theorem Br(h:R.nf<=R.aK.length)(h1:1<=R.nf)(f:aI):Lw R (R.aQ (R.nf-1) f):=⟨Nat.le_refl _,fun k hk=>by have hk:k+1<R.nf:=hk;rw[RS.bh jB,jN],RS.bB.symm,.inl rfl⟩
theorem wC(h:R.nf<=R.aK.length)(h1:1<=R.nf):Lw R R.on:=Br h h1 _
theorem zE(h:R.nf<=R.aK.length)(h1:1<=R.nf)(p:ab)(a:Int)(v:ak):Lw R (R.store p a v):=
 (Br h h1 _).trans (wC (R:=R.fS p a v) (by show R.nf<=(R.aK.set _ _).length;simpa using h) h1)
theorem Fq(h:R.nf<=R.aK.length)(h1:1<=R.nf)(b:Int):Lw R (R.bs b):=Br h h1 _
theorem E3(R:RS):Lw R R.pop:=⟨Nat.sub_le _ _,fun _ _=>rfl,rfl,.inl rfl⟩
theorem GM(h:R.nf<=R.aK.length)(p:ab)(v:ak):Lw R (R.bL p v):=by
 unfold RS.bL;split
 ·rename_i e;exact⟨Nat.sub_le _ _,fun _ _=>rfl,rfl,.inr ⟨rfl,by show R.nf-1=0;omega⟩⟩
 ·have h1:1<=R.pop.nf:=by show 1<=R.nf-1;omega
  have h2:R.pop.nf<=R.pop.aK.length:=by show R.nf-1<=R.aK.length;omega
  split
  ·exact(E3 R).trans (zE h2 h1 _ _ _)
  ·exact(E3 R).trans (wC h2 h1)
theorem uk(p:ab):∀(n:Nat) (R:RS),R.nf<=R.aK.length->(R.status≠2->1<=R.nf)->Lw R (jL p n R)
 |0,R,_,_=>Lw.refl R
 |n+1,R,h,h1=>by
  unfold jL;split
  ·exact Lw.refl R
  rename_i e;have hn:=h1 e;split
  ·have ht:=GM h p (vZ (nth p.aa.ao R.ah.fn.toNat).ret);refine ht.trans (uk p n _ (by have:=ht.nf;have:=ht.len;omega) fun e2=>?_);unfold RS.bL at e2 ⊢;split
   ·rename_i e3;rw[if_pos e3]at e2;exact(e2 rfl).elim
   ·split<;>(show 1<=R.nf-1;omega)
  split
  ·exact Lw.refl R
  ·have hc:Lw R R.cut:=⟨Nat.le_refl _,fun k hk=>by
    have hk:k+1<R.nf:=hk;show nth (R.aK.set _ _) k=_;rw[Go.Gd.bh _ _ _ _ jB,jN],by show(R.aK.set _ _).length=_;simp,.inl rfl⟩
   exact hc.trans (uk p n _ (by show R.nf<=(R.aK.set _ _).length;simpa using h) h1)
def Cz(p:ab)(a:Int):Prop:=1<=(ai p a).l.length/\(ai p (nth (ai p a).l 0)).kind=21
structure Mv(p:ab)(inp:List Int)(a:Int)(R R':RS):Prop where
 out:∃o:List ByteArray,R'.ax=R.ax++o/\o.length<=1
 hl:R.heap.length<=R'.heap.length
 len:∀k,k<R.heap.length->(nth R'.heap k).length=(nth R.heap k).length
 i0:R.in_<=R'.in_
 i1:R'.in_=R.in_\/R'.in_<=inp.length
 nf:R'.nf<=R.nf\/(R'.nf<=R.nf+1/\Cz p a)
 low:∀k,k+1<R.nf->k+1<R'.nf->nth R'.aK k=nth R.aK k
 st:R'.status=R.status\/(R'.status=2/\R'.nf=0)
 aZ:R'.aZ=R.aZ
theorem Mv.refl(p:ab)(inp:List Int)(a:Int)(R:RS):Mv p inp a R R:=⟨⟨[],jE⟩,Nat.le_refl _,fun _ _=>rfl,Int.le_refl _,.inl rfl,.inl jl,fun _ _ _=>rfl,.inl rfl,rfl⟩
theorem Mv.lw{p:ab}{inp:List Int}{a:Int}{R1 R2:RS}(h:Mv p inp a R R1)(k:Lw R1 R2)(c:Kept R1 R2):Mv p inp a R R2:=
 ⟨by rw[c.ax];exact h.out,by rw[c.heap];exact h.hl,by rw[c.heap];exact h.len,by rw[c.in_];exact h.i0,by rw[c.in_];exact h.i1,by have:=k.nf;exact h.nf.elim (fun e=>.inl jB) fun e=>.inr ⟨jB,e.2⟩,
  fun i h1 h2=>(k.low i h2).trans (h.low i h1 (by have:=k.nf;omega)),by
   rcases k.st with e|e
   ·rcases h.st with e'|e'
    ·exact .inl (e.trans e')
    ·exact .inr ⟨e.trans e'.1,by have:=k.nf;omega⟩
   ·exact .inr e,c.aZ.trans h.aZ⟩
theorem AF(R:RS)(p:ab)(a:Int)(v:ak):Kept R (R.store p a v):=⟨rfl,rfl,rfl,rfl,rfl⟩
theorem Eb(R:RS)(p:ab)(inp:List Int)(a x:Int)(hf:R.nf=R.aK.length)(hc:Cz p a):Mv p inp a R (R.call p x).1:=by
 unfold RS.call;simp only;split
 ·exact Mv.refl _ _ _ R
 split
 ·exact Mv.refl _ _ _ R
 ·refine⟨⟨[],by simp[RS.push]⟩,Nat.le_refl _,fun _ _=>rfl,Int.le_refl _,.inl rfl,.inr ⟨Nat.le_refl _,hc⟩,fun k h1 h2=>?_,.inl rfl,rfl⟩;show nth (R.aK++[_]) k=_;rw[my jB]
theorem Lx(R:RS)(p:ab)(inp:List Int)(a x:Int):Mv p inp a R (R.fresh p x).1:=by
 unfold RS.fresh;simp only;split
 ·exact Mv.refl _ _ _ R
 split
 ·exact Mv.refl _ _ _ R
 split
 ·exact Mv.refl _ _ _ R
 ·refine⟨⟨[],jE⟩,by show _<=(R.heap++[_]).length;simp,fun k hk=>?_,Int.le_refl _,.inl rfl,.inl jl,fun _ _ _=>rfl,.inl rfl,rfl⟩;show(nth (R.heap++[_]) k).length=_;rw[my hk]
theorem JE(R:RS)(p:ab)(x:Int):(R.fresh p x).1.nf=R.nf/\(R.fresh p x).1.aK=R.aK:=by
 unfold RS.fresh;simp only
 (repeat' split)<;>exact⟨rfl,rfl⟩
theorem MY(R:RS)(p:ab)(inp:List Int)(a:Int)(h:R.nf<=R.aK.length)(h1:1<=R.nf):Mv p inp a R (R.put p a).1:=by
 unfold RS.put;simp only;split
 ·exact Mv.refl _ _ _ R
 split
 ·exact Mv.refl _ _ _ R
 split
 ·exact Mv.refl _ _ _ R
 ·have hm:∀(i:Nat) (j:Nat) (y:Int),Mv p inp a R { R with heap:=R.heap.set i ((nth R.heap i).set j y) }:=fun i j y=>by
   refine⟨⟨[],jE⟩,by show _<=(R.heap.set _ _).length;simp,fun k hk=>?_,Int.le_refl _,.inl rfl,.inl jl,fun _ _ _=>rfl,.inl rfl,rfl⟩;show(nth (R.heap.set _ _) k).length=_;by_cases e:i<R.heap.length
   ·rw[Go.Gd.bh _ _ _ _ e];split
    ·rename_i e2;subst e2;simp
    ·rfl
   ·rw[List.set_eq_of_length_le jB]
  exact(hm _ _ _).lw (wC (by exact h) h1) ⟨rfl,rfl,rfl,rfl,rfl⟩
end Go.Gd
namespace Go.Proofs.YtfkgcobaheegbaaGreatDoor
open Go Go.Gd
variable{p:ab}{inp:List Int}
theorem Ah(hs:dx p){R:RS}(h:bF p R)(hw:¬jo p R.st (cu p R.st) inp):Mv p inp (cu p R.st) R (R.bT p (cu p R.st) inp).1:=by
 obtain⟨s0,s1,s2,_⟩:=h.stmt hs;have sh:=(hs.ok.aa.shape _ s1);have hnf:=h.inv.ok.nf;have h1:=h.one;have hful:=h.full;generalize hnode:cu p R.st=node at*;have hR:=Mv.refl p inp node R;have hon:Mv p inp node R R.on:=hR.lw (wC hnf h1) ⟨rfl,rfl,rfl,rfl,rfl⟩;have hst:∀v,Mv p inp node R (R.store p node v):=fun v=>hR.lw (zE hnf h1 _ _ _) (AF _ _ _ _)
 have hdp:∀b,Mv p inp node R (R.bs b):=fun b=>hR.lw (Fq hnf h1 _) ⟨rfl,rfl,rfl,rfl,rfl⟩
 have hod:∀b,Mv p inp node R (R.on.bs b):=fun b=>hon.lw (Fq (R:=R.on) (by show R.nf<=(R.aK.set _ _).length;simpa using hnf) h1 _) ⟨rfl,rfl,rfl,rfl,rfl⟩
 have htl:∀v,Mv p inp node R (R.bL p v):=fun v=>hR.lw (GM hnf p v) (zo _ _ _)
 unfold RS.bT;simp only;split
 ·rename_i e;obtain⟨a,ha,hr⟩:=sh.1.right e;have hla:(ai p node).l=[a]:=ha;have hx:nth (ai p node).l 0=a:=by rw[hla];rfl
  unfold RS.right;simp only[hx];split
  ·rename_i e1;exact Eb R p inp node a hful ⟨by rw[hla];simp,by rw[hx];exact e1⟩
  split
  ·rename_i e2;have hin:¬((inp.length:Int)<=R.in_):=fun hle=>hw ⟨e,by rw[hx];exact e2,hle⟩
   have hm:Mv p inp node R { R with in_:=R.in_+1 }:=⟨⟨[],jE⟩,Nat.le_refl _,fun _ _=>rfl,by show R.in_<=R.in_+1;omega,.inr (by show R.in_+1<=_;omega),.inl jl,fun _ _ _=>rfl,.inl rfl,rfl⟩;exact hm.lw (zE (by exact hnf) (by exact h1) _ _ _) (AF _ _ _ _)
  split
  ·have hf:=Lx R p inp node a;obtain⟨f1,f2⟩:=JE R p a;split
   ·exact hf.lw (zE (by rw[f1,f2];exact hnf) (by rw[f1];exact h1) _ _ _) (AF _ _ _ _)
   ·exact hf
  split
  ·exact hst _
  ·exact hR
 split
 ·rename_i e1;obtain⟨a,ha,hr⟩:=sh.1.nL e1;have hla:(ai p node).l=[a]:=ha;have hx:nth (ai p node).l 0=a:=by rw[hla];rfl
  rw[hx];exact Eb R p inp node a hful ⟨by rw[hla];simp,by rw[hx];exact hr⟩
 split
 ·exact MY R p inp node hnf h1
 split
 ·split
  ·exact htl _
  split
  ·exact hR
  ·exact htl _
 split
 ·exact hR
 split
 ·split
  ·exact hR
  ·have hm:∀t,Mv p inp node R { R with ax:=R.ax++[t] }:=fun t=>⟨⟨[t],rfl,Nat.le_refl _⟩,Nat.le_refl _,fun _ _=>rfl,Int.le_refl _,.inl rfl,.inl jl,fun _ _ _=>rfl,.inl rfl,rfl⟩
   exact(hm _).lw (wC (by exact hnf) (by exact h1)) ⟨rfl,rfl,rfl,rfl,rfl⟩
 split
 ·(repeat' split)<;>first|exact hod _|exact hon
 split
 ·split
  ·exact hdp _
  ·exact hon
 ·exact hR
structure vC(inp:List Int)(s:aJ):Prop where
 s0:0<=s.status
 s3:s.status<=3
 none:s.status=2->s.aq.length=0
 aZ:s.status=3<->s.aZ≠0
 gw:s.in_<=inp.length
structure nK(p:ab)(inp:List Int)(s b:aJ):Prop where
 out:∃o:List ByteArray,b.ax=s.ax++o/\o.length<=1
 hl:s.heap.length<=b.heap.length
 len:∀k,k<s.heap.length->(nth b.heap k).length=(nth s.heap k).length
 i0:s.in_<=b.in_
 nf:b.aq.length<=s.aq.length\/(b.aq.length<=s.aq.length+1/\Cz p (dK p s)/\0<=dK p b/\(s.status≠2/\s.status≠3))
 low:∀k,k+1<s.aq.length->k+1<b.aq.length->nth b.aq k=nth s.aq k
 t0:s.time<=b.time
 t1:b.time<=s.time+1
 still:s.status=2\/s.status=3->b=s
 go:¬(s.status=2\/s.status=3)->b.status≠1->b.time=s.time+1
theorem nK.refl(p:ab)(inp:List Int)(s:aJ)(h:s.status=2\/s.status=3):nK p inp s s:=
 ⟨⟨[],jE⟩,Nat.le_refl _,fun _ _=>rfl,Int.le_refl _,.inl jl,fun _ _ _=>rfl,Int.le_refl _,jB,fun _=>rfl,fun h'=>(h' h).elim⟩
variable{s:aJ}
theorem DO(hs:dx p){n:Nat}(h:lA p n s)(hn:inp.length<=1000)(hq:vC inp s):vC inp (dn p s inp)/\nK p inp s (dn p s inp):=by
 have hb:=FU hs h.inv hn;generalize hbe:dn p s inp=b at hb ⊢;unfold dn at hbe;by_cases h0:dK p s<0
 ·rw[if_pos h0]at hbe;subst hbe;refine⟨hq,nK.refl p inp s ?_⟩;apply Classical.byContradiction;intro hh;have hd:=h.inv.gM (fun e=>hh (.inl e)) 0 jC;obtain⟨s0,_⟩:=hd.stmt hs;rw[RS.fy]at s0;unfold dK at h0;rw[if_neg hh]at h0;have:cu p { s with status:=0 }=cu p s:=rfl;omega
 rw[if_neg h0]at hbe;have h2:¬(s.status=2\/s.status=3):=fun hh=>h0 (by unfold dK;rw[if_pos hh];decide)
 have ht0:s.aZ=0:=Classical.byContradiction fun e=>h2 (.inr (hq.aZ.2 e))
 by_cases hw:jo p s (dK p s) inp
 ·rw[if_pos hw]at hbe;subst hbe;refine⟨⟨by show(0:Int)<=1;decide,by show(1:Int)<=3;decide,fun e=>absurd e (by show¬((1:Int)=2);decide),⟨fun e=>absurd e (by show¬((1:Int)=3);decide),fun e=>(e ht0).elim⟩,hq.gw⟩,
   ⟨⟨[],jE⟩,Nat.le_refl _,fun _ _=>rfl,Int.le_refl _,.inl jl,fun _ _ _=>rfl,Int.le_refl _,by show s.time<=s.time+1;omega,fun e=>(h2 e).elim,fun _ e=>(e rfl).elim⟩⟩
 rw[if_neg hw]at hbe;simp only at hbe;have hd:=h.inv.gM (fun hh=>h2 (.inl hh)) 0 jC;have hst:(RS.of { s with status:=0 }).st={ s with status:=0 }:=RS.fy _;have hat:cu p (RS.of { s with status:=0 }).st=dK p s:=by rw[RS.fy];unfold dK;rw[if_neg h2];rfl
 have hm:=Ah hs hd (inp:=inp) (by rw[hat,hst];exact hw);have ha:=fun e=>hd.bT hs hn (by rw[hat,hst];exact hw) e
 rw[hat]at hm ha;generalize (RS.of { s with status:=0 }).bT p (dK p s) inp=X at*;by_cases hz:X.2=0
 rotate_left
 ·rw[if_pos hz]at hbe;subst hbe;exact⟨⟨by show(0:Int)<=3;decide,by show(3:Int)<=3;decide,fun e=>absurd e (by show¬((3:Int)=2);decide),⟨fun _=>hz,fun _=>rfl⟩,hq.gw⟩,
   ⟨⟨[],jE⟩,Nat.le_refl _,fun _ _=>rfl,Int.le_refl _,.inl jl,fun _ _ _=>rfl,by show s.time<=s.time+1;omega,by show s.time+1<=s.time+1;omega,fun e=>(h2 e).elim,fun _ _=>rfl⟩⟩
 rw[if_neg (fun e=>e hz)]at hbe;have hA:=ha hz;have hI2:cO p { X.1 with time:=s.time+1 }:=⟨⟨hA.inv.ok.nf,hA.inv.ok.jp⟩,hA.inv.aK,hA.inv.fr,hA.inv.busy,hA.inv.go⟩;have hlw:=uk p (RS.left { X.1 with time:=s.time+1 }+1) { X.1 with time:=s.time+1 } hI2.ok.nf hI2.go;have hkp:=oa p (RS.left { X.1 with time:=s.time+1 }+1) { X.1 with time:=s.time+1 };have hok:(RS.settle { X.1 with time:=s.time+1 } p).nf<=(RS.settle { X.1 with time:=s.time+1 } p).aK.length:=(sM (RS.left { X.1 with time:=s.time+1 }+1) { X.1 with time:=s.time+1 } hI2 jB).1.ok.nf;have hX:Mv p inp (dK p s) (RS.of { s with status:=0 }) { X.1 with time:=s.time+1 }:=⟨hm.out,hm.hl,hm.len,hm.i0,hm.i1,hm.nf,hm.low,hm.st,hm.aZ⟩;have hm2:=hX.lw hlw hkp;have htm:b.time=s.time+1:=by rw[<-hbe];exact hkp.time
 change (RS.settle { X.1 with time:=s.time+1 } p).st=b at hbe
 change Mv p inp (dK p s) _ (RS.settle { X.1 with time:=s.time+1 } p)at hm2
 generalize RS.settle { X.1 with time:=s.time+1 } p=T at*;have hfl:b.aq.length=T.nf:=by rw[<-hbe];show(T.aK.take T.nf).length=_;simp;omega
 have hfk:∀k,k<T.nf->nth b.aq k=nth T.aK k:=fun k hk=>by rw[<-hbe];exact cd _ _ _ hk
 have hsl:(RS.of { s with status:=0 }).nf=s.aq.length:=rfl;have hbst:b.status=T.status:=by rw[<-hbe];rfl
 have hbtr:b.aZ=T.aZ:=by rw[<-hbe];rfl
 have hbin:b.in_=T.in_:=by rw[<-hbe];rfl
 have hbhp:b.heap=T.heap:=by rw[<-hbe];rfl
 have hbou:b.ax=T.ax:=by rw[<-hbe];rfl
 have hst2:T.status=0\/(T.status=2/\T.nf=0):=hm2.st;have htr2:T.aZ=s.aZ:=hm2.aZ;refine⟨⟨by rw[hbst];rcases hst2 with e|e<;>omega,by rw[hbst];rcases hst2 with e|e<;>omega,fun e=>?_,?_,?_⟩,⟨by rw[hbou];exact hm2.out,by rw[hbhp];exact hm2.hl,by rw[hbhp];exact hm2.len,by rw[hbin];exact hm2.i0,?_,fun k k1 k2=>?_,jB,jB,fun e=>(h2 e).elim,fun _ _=>htm⟩⟩
 ·rw[hbst]at e;rw[hfl];rcases hst2 with e'|e'<;>omega
 ·rw[hbst,hbtr,htr2,ht0];rcases hst2 with e|e<;>(constructor<;>intro e'<;>omega)
 ·rw[hbin];rcases hm2.i1 with e|e
  ·rw[e];exact hq.gw
  ·exact e
 ·rw[hfl];rcases hm2.nf with e|⟨e1,e2⟩
  ·exact .inl e
  by_cases hle:T.nf<=s.aq.length
  ·exact .inl hle
  refine .inr ⟨e1,e2,?_,fun e=>h2 (.inl e),fun e=>h2 (.inr e)⟩;have hne:¬(b.status=2\/b.status=3):=by rw[hbst];rcases hst2 with e|e<;>omega
  have hdb:=hb.gM (fun hh=>hne (.inl hh)) 0 jC;obtain⟨s0,_⟩:=hdb.stmt hs;rw[RS.fy]at s0;unfold dK;rw[if_neg hne];exact s0
 ·rw[hfl]at k2;rw[hfk k jB,hm2.low k (by rw[hsl];exact k1) k2];rfl
theorem Ac(hs:dx p)(inp:List Int):vC inp (ot p):=by
 rw[FM];have hI:=(th hs).inv;have hlw:=uk p ((gO p).left+1) (gO p) hI.ok.nf hI.go;have hkp:=oa p ((gO p).left+1) (gO p);have hok:((gO p).settle p).nf<=((gO p).settle p).aK.length:=(sM ((gO p).left+1) (gO p) hI jB).1.ok.nf;change Lw _ ((gO p).settle p)at hlw
 change Kept _ ((gO p).settle p)at hkp
 generalize (gO p).settle p=T at*;have h0:T.status=0\/(T.status=2/\T.nf=0):=hlw.st;have ht:T.aZ=0:=hkp.aZ;have hi:T.in_=0:=hkp.in_;refine⟨by show 0<=T.status;omega,by show T.status<=3;omega,fun e=>?_,?_,by show T.in_<=_;omega⟩
 ·show(T.aK.take T.nf).length=0;have e:T.status=2:=e;have:T.nf=0:=jB;rw[this];rfl
 ·show T.status=3<->T.aZ≠0;constructor<;>intro e<;>omega
theorem yB{p:ab}(hs:dx p){inp:List Int}(hn:inp.length<=1000)(hi:∀x∈inp,cY x):∀n,vC inp (bI p inp n)
 |0=>Ac hs inp
 |n+1=>(DO hs (uA hs hn hi n) hn (yB hs hn hi n)).1
theorem Jr{R:RS}{a:Int}(x:Int)(hi0:0<=R.in_)(hw:kJ p a->(ai p (nth (ai p a).l 0)).kind=19->R.in_<inp.length):R.bT p a (inp++[x])=R.bT p a inp:=by
 unfold RS.bT;simp only;by_cases e:(ai p a).kind=10\/(ai p a).kind=11
 rotate_left
 ·rw[if_neg e,if_neg e]
 rw[if_pos e,if_pos e];unfold RS.right;simp only;by_cases e1:(ai p (nth (ai p a).l 0)).kind=21
 ·rw[if_pos e1,if_pos e1]
 rw[if_neg e1,if_neg e1];by_cases e2:(ai p (nth (ai p a).l 0)).kind=19
 ·rw[if_pos e2,if_pos e2];have hlt:=hw e e2;rw[show nth (inp++[x]) R.in_.toNat=nth inp R.in_.toNat from my jB]
 ·rw[if_neg e2,if_neg e2]
theorem LO(hI:cI p s)(x:Int)(hw:¬dK p s<0->¬jo p s (dK p s) inp):dn p s (inp++[x])=dn p s inp:=by
 unfold dn;by_cases h0:dK p s<0
 ·rw[if_pos h0,if_pos h0]
 rw[if_neg h0,if_neg h0];have hw:=hw h0;have hw2:¬jo p s (dK p s) (inp++[x]):=fun⟨a,b,c⟩=>hw ⟨a,b,by simp at c;omega⟩
 rw[if_neg hw,if_neg hw2];rw[Jr (R:=RS.of { s with status:=0 }) x hI.gK fun a b=>by
  have:¬((inp.length:Int)<=s.in_):=fun c=>hw ⟨a,b,c⟩
  show s.in_<_;omega]
def WQ(p:ab)(inp:List Int)(s:aJ):Prop:=s.status=1->jo p s (dK p s) inp
theorem HC(p:ab)(s:aJ)(h:¬(s.status=2\/s.status=3))(c:Int)(hc:c=0\/c=1):dK p { s with status:=c }=dK p s:=by unfold dK;rw[if_neg h,if_neg (by show¬(c=2\/c=3);omega)];rfl
theorem B0(hs:dx p)(hI:cI p s)(h:¬(s.status=2\/s.status=3)):¬dK p s<0:=fun h0=>by have hd:=hI.gM (fun e=>h (.inl e)) 0 jC;obtain⟨s0,_⟩:=hd.stmt hs;rw[RS.fy]at s0;unfold dK at h0;rw[if_neg h]at h0;have:cu p { s with status:=0 }=cu p s:=rfl;omega
theorem E6(n:Nat)(R:RS)(hI:cO p R)(h:R.status=0):(jL p n R).status=0\/(jL p n R).status=2:=by
 have:=(uk p n R hI.ok.nf hI.go).st;rcases this with e|e
 ·exact .inl (e.trans h)
 ·exact .inr e.1
theorem uU(hs:dx p)(hI:cI p s)(hn:inp.length<=1000) :
  ((s.status=2\/s.status=3)/\dn p s inp=s)\/(¬(s.status=2\/s.status=3)/\jo p s (dK p s) inp/\dn p s inp={ s with status:=1 })\/
   (¬(s.status=2\/s.status=3)/\¬jo p s (dK p s) inp/\(dn p s inp).status≠1/\(dn p s inp).time=s.time+1):=by
 by_cases h2:s.status=2\/s.status=3
 ·refine .inl ⟨h2,?_⟩;unfold dn;rw[if_pos (by unfold dK;rw[if_pos h2];decide)]
 have h0:=B0 hs hI h2;by_cases hw:jo p s (dK p s) inp
 ·refine .inr (.inl ⟨h2,hw,?_⟩);unfold dn;rw[if_neg h0,if_pos hw]
 refine .inr (.inr ⟨h2,hw,?_⟩);have hd:=hI.gM (fun hh=>h2 (.inl hh)) 0 jC;have hst:(RS.of { s with status:=0 }).st={ s with status:=0 }:=RS.fy _;have hat:cu p (RS.of { s with status:=0 }).st=dK p s:=by rw[RS.fy];unfold dK;rw[if_neg h2];rfl
 have hm:=Ah hs hd (inp:=inp) (by rw[hat,hst];exact hw);have ha:=fun e=>hd.bT hs hn (by rw[hat,hst];exact hw) e
 rw[hat]at hm ha;unfold dn;rw[if_neg h0,if_neg hw];simp only;generalize (RS.of { s with status:=0 }).bT p (dK p s) inp=X at*;by_cases hz:X.2=0
 rotate_left
 ·rw[if_pos hz];exact⟨by show¬((3:Int)=1);decide,rfl⟩
 rw[if_neg (fun e=>e hz)];have hA:=ha hz;have hI2:cO p { X.1 with time:=s.time+1 }:=⟨⟨hA.inv.ok.nf,hA.inv.ok.jp⟩,hA.inv.aK,hA.inv.fr,hA.inv.busy,hA.inv.go⟩;have hlw:=(uk p (RS.left { X.1 with time:=s.time+1 }+1) { X.1 with time:=s.time+1 } hI2.ok.nf hI2.go).st;have hkp:=oa p (RS.left { X.1 with time:=s.time+1 }+1) { X.1 with time:=s.time+1 };have hX:X.1.status=0\/(X.1.status=2/\X.1.nf=0):=hm.st;refine⟨?_,hkp.time⟩;show¬((jL p (RS.left { X.1 with time:=s.time+1 }+1) { X.1 with time:=s.time+1 }).status=1);rcases hlw with e|e
 ·rw[e];show¬(X.1.status=1);omega
 ·rw[e.1];decide
theorem Ao{p:ab}(hs:dx p){inp:List Int}(hn:inp.length<=1000)(hi:∀x∈inp,cY x):∀n,WQ p inp (bI p inp n)/\((bI p inp n).status=0->(bI p inp n).time=n)
 |0=>by
  have hq:=Ac hs inp;have hI:=(th hs).inv;have h:=E6 (p:=p) ((gO p).left+1) (gO p) hI rfl;have hkp:=oa p ((gO p).left+1) (gO p);refine⟨fun e=>?_,fun _=>?_⟩
  ·exfalso;have e:(jL p ((gO p).left+1) (gO p)).status=1:=e;omega
  ·exact hkp.time
 |n+1=>by
  obtain⟨h1,h2⟩:=Ao hs hn hi n;have hg:=uA hs hn hi n;have hq:=yB hs hn hi n;show WQ p inp (dn p (bI p inp n) inp)/\((dn p (bI p inp n) inp).status=0->(dn p (bI p inp n) inp).time=((n+1:Nat):Int));generalize bI p inp n=s at*;rcases uU hs hg.inv hn with⟨a,b⟩|⟨a,b,c⟩|⟨a,b,c,d⟩
  ·rw[b];exact⟨h1,fun e=>jB⟩
  ·rw[c];refine⟨fun _=>?_,fun e=>absurd e (by show¬((1:Int)=0);decide)⟩;rw[HC p s a 1 (.inr rfl)];exact b
  ·refine⟨fun e=>(c e).elim,fun e=>?_⟩;have h3:s.status=0:=by
    have:=hq.s0;have:=hq.s3;have:s.status≠1:=fun e1=>b (h1 e1)
    omega
   rw[d,h2 h3];push_cast;rfl
theorem Fl{p:ab}(hs:dx p){inp:List Int}(hn:inp.length<=1000)(hi:∀x∈inp,cY x)(x:Int):∀n,(bI p inp n).status≠1->bI p (inp++[x]) n=bI p inp n
 |0,_=>rfl
 |n+1,h=>by
  obtain⟨h1,_⟩:=Ao hs hn hi n;have hg:=uA hs hn hi n;have h:(dn p (bI p inp n) inp).status≠1:=h;have hc:=uU hs hg.inv hn;have hn1:(bI p inp n).status≠1:=fun e=>by
   rcases hc with⟨a,b⟩|⟨a,b,c⟩|⟨a,b,c,d⟩
   ·omega
   ·rw[c]at h;exact h rfl
   ·exact b (h1 e)
  show dn p (bI p (inp++[x]) n) (inp++[x])=dn p (bI p inp n) inp;rw[Fl hs hn hi x n hn1];refine LO hg.inv x fun h0 hw=>?_
  rcases hc with⟨a,b⟩|⟨a,b,c⟩|⟨a,b,c,d⟩
  ·exact h0 (by unfold dK;rw[if_pos a];decide)
  ·rw[c]at h;exact h rfl
  ·exact b hw
theorem Lb(h:s.status=1):{ s with status:=1 }=s:=by cases s;simp only at h;subst h;rfl
theorem Ee{p:ab}(hs:dx p){inp:List Int}(hn:inp.length<=1000)(hi:∀x∈inp,cY x):∀n,(bI p inp n).status=1->∃m:Nat,m<=n/\(bI p inp m).status=0/\(m:Int)=(bI p inp n).time/\bI p inp n={ bI p inp m with status:=1 }/\jo p (bI p inp m) (dK p (bI p inp m)) inp
 |0,h=>by exfalso;have h':=E6 (p:=p) ((gO p).left+1) (gO p) (th hs).inv rfl;have e:(jL p ((gO p).left+1) (gO p)).status=1:=h;omega
 |n+1,h=>by
  obtain⟨h1,h2⟩:=Ao hs hn hi n;have hg:=uA hs hn hi n;have hq:=yB hs hn hi n;have h:(dn p (bI p inp n) inp).status=1:=h;rcases uU hs hg.inv hn with⟨a,b⟩|⟨a,b,c⟩|⟨a,b,c,d⟩
  ·rw[b]at h;omega
  ·by_cases e1:(bI p inp n).status=1
   ·obtain⟨m,g1,g2,g3,g4,g5⟩:=Ee hs hn hi n e1;have e:bI p inp (n+1)=bI p inp n:=by
     show dn p (bI p inp n) inp=_;rw[c,Lb e1]
    rw[e];exact⟨m,jB,g2,g3,g4,g5⟩
   ·have e0:(bI p inp n).status=0:=by have:=hq.s0;have:=hq.s3;omega
    refine⟨n,jB,e0,?_,c,b⟩;show(n:Int)=(dn p (bI p inp n) inp).time;rw[c];exact(h2 e0).symm
  ·exact(c h).elim
theorem Lh(p:ab)(t:aJ)(h:t.status=0)(inp:List Int)(h0:¬dK p t<0):dn p { t with status:=1 } inp=dn p t inp:=by have e:=HC p t jB 1 (.inr rfl);unfold dn;rw[e,if_neg h0,if_neg h0];rfl
theorem Lv(hs:dx p)(hI:cI p s)(hn:inp.length<=1000)(h2:¬(s.status=2\/s.status=3))(hls:kJ p (dK p s))(hk:(ai p (nth (ai p (dK p s)).l 0)).kind=19)(hlt:s.in_<inp.length):(dn p s inp).status≠1/\(dn p s inp).in_=s.in_+1:=by
 have hw:¬jo p s (dK p s) inp:=fun⟨_,_,c⟩=>jB
 have h0:=B0 hs hI h2;rcases uU hs hI hn with⟨a,b⟩|⟨a,b,c⟩|⟨a,b,c,d⟩
 ·exact(h2 a).elim
 ·exact(hw b).elim
 refine⟨c,?_⟩;clear c d;unfold dn;rw[if_neg h0,if_neg hw];have e:(RS.of { s with status:=0 }).bT p (dK p s) inp=(({ RS.of { s with status:=0 }with in_:=s.in_+1 }:RS).store p (dK p s) (vI (nth inp s.in_.toNat)),0):=by unfold RS.bT;simp only;rw[if_pos (show(ai p (dK p s)).kind=10\/(ai p (dK p s)).kind=11 from hls)];unfold RS.right;simp only;rw[jN,if_pos hk];rfl
 simp only;rw[e,if_neg (fun h=>h rfl)];exact(oa p _ _).in_
theorem I9(hs:dx p)(hn:inp.length<1000)(hi:∀x∈inp,cY x)(x:Int)(n:Nat)(h:(bI p inp n).status=1):(bI p inp n).in_=inp.length/\(dn p (bI p inp n) (inp++[x])).status≠1/\(dn p (bI p inp n) (inp++[x])).in_=(inp++[x]).length/\∃m:Nat,m<=n+1/\(bI p inp n).time+1=m/\bI p (inp++[x]) m=dn p (bI p inp n) (inp++[x]):=by
 obtain⟨m,g1,g2,g3,g4,g5⟩:=Ee hs jB hi n h;have hm:=Fl hs jB hi x m jB;have hg:=uA hs (show inp.length<=1000 from jB) hi m;have hq:=yB hs (show inp.length<=1000 from jB) hi m;have h2:¬((bI p inp m).status=2\/(bI p inp m).status=3):=jB;have h0:=B0 hs hg.inv h2;have hin:(bI p inp m).in_=inp.length:=by have:=hq.gw;have:=g5.2.2;omega
 have e:dn p (bI p inp n) (inp++[x])=dn p (bI p inp m) (inp++[x]):=by rw[g4];exact Lh p _ g2 _ h0
 obtain⟨t1,t2⟩:=Lv hs hg.inv (inp:=inp++[x]) jF h2 g5.1 g5.2.1 jF;refine⟨by rw[g4];exact hin,by rw[e];exact t1,by rw[e,t2,hin];simp,m+1,jB,by rw[<-g3];push_cast;rfl,?_⟩;rw[e];show dn p (bI p (inp++[x]) m) (inp++[x])=_;rw[hm]
end Go.Proofs.YtfkgcobaheegbaaGreatDoor

/- Lemmas. No conditions. -/
import Derived.Test.YtfkgcobaheegbaaGreatDoorSoH
set_option linter.all false
set_option maxHeartbeats 4000000
namespace Go.Gd
open Go
structure Lw(R R':RS):Prop where
 nf:R'.nf<=R.nf
 low:∀k,k+1<R'.nf->nth R'.aJ k=nth R.aJ k
 len:R'.aJ.length=R.aJ.length
 st:R'.status=R.status\/(R'.status=2/\R'.nf=0)
theorem Lw.refl(R:RS):Lw R R:=⟨Nat.le_refl _,fun _ _=>rfl,rfl,.inl rfl⟩
theorem Lw.trans{a b c:RS}(h:Lw a b)(k:Lw b c):Lw a c:=⟨Nat.le_trans k.nf h.nf,fun i hi=>(k.low i hi).trans (h.low i (by have:=k.nf;omega)),k.len.trans h.len,by
 rcases k.st with e|e
 ·rcases h.st with e'|e'
  ·exact .inl (e.trans e')
  ·exact .inr ⟨e.trans e'.1,by have:=k.nf;omega⟩
 ·exact .inr e⟩
variable{R:RS}
theorem BN(h:R.nf<=R.aJ.length)(h1:1<=R.nf)(f:aI):Lw R (R.aQ (R.nf-1) f):=⟨Nat.le_refl _,fun k hk=>by
 have hk:k+1<R.nf:=hk;rw[RS.bc jB,jN],RS.bB.symm,.inl rfl⟩
theorem wE(h:R.nf<=R.aJ.length)(h1:1<=R.nf):Lw R R.on:=BN h h1 _
theorem xj(h:R.nf<=R.aJ.length)(h1:1<=R.nf)(p:ab)(a:Int)(v:ak):Lw R (R.store p a v):=
 (BN h h1 _).trans (wE (R:=R.fC p a v) (by show R.nf<=(R.aJ.set _ _).length;simpa using h) h1)
theorem CQ(h:R.nf<=R.aJ.length)(h1:1<=R.nf)(b:Int):Lw R (R.bq b):=BN h h1 _
theorem Ga(R:RS):Lw R R.pop:=⟨Nat.sub_le _ _,fun _ _=>rfl,rfl,.inl rfl⟩
theorem DV(h:R.nf<=R.aJ.length)(p:ab)(v:ak):Lw R (R.bI p v):=by
 unfold RS.bI;split
 ·rename_i e
  exact⟨Nat.sub_le _ _,fun _ _=>rfl,rfl,.inr ⟨rfl,by show R.nf-1=0;omega⟩⟩
 ·have h1:1<=R.pop.nf:=by show 1<=R.nf-1;omega
  have h2:R.pop.nf<=R.pop.aJ.length:=by show R.nf-1<=R.aJ.length;omega
  split
  ·exact(Ga R).trans (xj h2 h1 _ _ _)
  ·exact(Ga R).trans (wE h2 h1)
theorem vl(p:ab):∀(n:Nat) (R:RS),R.nf<=R.aJ.length->(R.status≠2->1<=R.nf)->Lw R (lB p n R)
 |0,R,_,_=>Lw.refl R
 |n+1,R,h,h1=>by
  unfold lB;split
  ·exact Lw.refl R
  rename_i e;have hn:=h1 e;split
  ·have ht:=DV h p (vZ (nth p.aa.ap R.ah.fn.toNat).ret)
   refine ht.trans (vl p n _ (by have:=ht.nf;have:=ht.len;omega) fun e2=>?_);unfold RS.bI at e2 ⊢;split
   ·rename_i e3;rw[if_pos e3]at e2;exact(e2 rfl).elim
   ·split<;>(show 1<=R.nf-1;omega)
  split
  ·exact Lw.refl R
  ·have hc:Lw R R.cut:=⟨Nat.le_refl _,fun k hk=>by
    have hk:k+1<R.nf:=hk;show nth (R.aJ.set _ _) k=_;rw[Go.Gd.bc _ _ _ _ jB,jN],by show(R.aJ.set _ _).length=_;simp,.inl rfl⟩
   exact hc.trans (vl p n _ (by show R.nf<=(R.aJ.set _ _).length;simpa using h) h1)
def Ag(p:ab)(a:Int):Prop:=1<=(ai p a).l.length/\(ai p (nth (ai p a).l 0)).kind=21
structure Mv(p:ab)(inp:List Int)(a:Int)(R R':RS):Prop where
 out:∃o:List ByteArray,R'.ay=R.ay++o/\o.length<=1
 hl:R.heap.length<=R'.heap.length
 len:∀k,k<R.heap.length->(nth R'.heap k).length=(nth R.heap k).length
 i0:R.in_<=R'.in_
 i1:R'.in_=R.in_\/R'.in_<=inp.length
 nf:R'.nf<=R.nf\/(R'.nf<=R.nf+1/\Ag p a)
 low:∀k,k+1<R.nf->k+1<R'.nf->nth R'.aJ k=nth R.aJ k
 st:R'.status=R.status\/(R'.status=2/\R'.nf=0)
 bn:R'.bn=R.bn
theorem Mv.refl(p:ab)(inp:List Int)(a:Int)(R:RS):Mv p inp a R R:=⟨⟨[],jE⟩,Nat.le_refl _,fun _ _=>rfl,Int.le_refl _,.inl rfl,.inl jl,fun _ _ _=>rfl,.inl rfl,rfl⟩
theorem Mv.lw{p:ab}{inp:List Int}{a:Int}{R1 R2:RS}(h:Mv p inp a R R1)(k:Lw R1 R2)(c:Kept R1 R2):Mv p inp a R R2:=
 ⟨by rw[c.ay];exact h.out,by rw[c.heap];exact h.hl,by rw[c.heap];exact h.len,by rw[c.in_];exact h.i0,by rw[c.in_];exact h.i1,by have:=k.nf;exact h.nf.elim (fun e=>.inl jB) fun e=>.inr ⟨jB,e.2⟩,
  fun i h1 h2=>(k.low i h2).trans (h.low i h1 (by have:=k.nf;omega)),by
   rcases k.st with e|e
   ·rcases h.st with e'|e'
    ·exact .inl (e.trans e')
    ·exact .inr ⟨e.trans e'.1,by have:=k.nf;omega⟩
   ·exact .inr e,c.bn.trans h.bn⟩
theorem Bk(R:RS)(p:ab)(a:Int)(v:ak):Kept R (R.store p a v):=⟨rfl,rfl,rfl,rfl,rfl⟩
theorem E4(R:RS)(p:ab)(inp:List Int)(a x:Int)(hf:R.nf=R.aJ.length)(hc:Ag p a):Mv p inp a R (R.call p x).1:=by
 unfold RS.call;simp only;split
 ·exact Mv.refl _ _ _ R
 split
 ·exact Mv.refl _ _ _ R
 ·refine⟨⟨[],by simp[RS.push]⟩,Nat.le_refl _,fun _ _=>rfl,Int.le_refl _,.inl rfl,.inr ⟨Nat.le_refl _,hc⟩,fun k h1 h2=>?_,.inl rfl,rfl⟩
  show nth (R.aJ++[_]) k=_;rw[mS jB]
theorem OG(R:RS)(p:ab)(inp:List Int)(a x:Int):Mv p inp a R (R.fresh p x).1:=by
 unfold RS.fresh;simp only;split
 ·exact Mv.refl _ _ _ R
 split
 ·exact Mv.refl _ _ _ R
 split
 ·exact Mv.refl _ _ _ R
 ·refine⟨⟨[],jE⟩,by show _<=(R.heap++[_]).length;simp,fun k hk=>?_,Int.le_refl _,.inl rfl,.inl jl,fun _ _ _=>rfl,.inl rfl,rfl⟩
  show(nth (R.heap++[_]) k).length=_;rw[mS hk]
theorem PO(R:RS)(p:ab)(x:Int):(R.fresh p x).1.nf=R.nf/\(R.fresh p x).1.aJ=R.aJ:=by
 unfold RS.fresh;simp only
 (repeat' split)<;>exact⟨rfl,rfl⟩
theorem Lr(R:RS)(p:ab)(inp:List Int)(a:Int)(h:R.nf<=R.aJ.length)(h1:1<=R.nf):Mv p inp a R (R.put p a).1:=by
 unfold RS.put;simp only;split
 ·exact Mv.refl _ _ _ R
 split
 ·exact Mv.refl _ _ _ R
 split
 ·exact Mv.refl _ _ _ R
 ·have hm:∀(i:Nat) (j:Nat) (y:Int),Mv p inp a R { R with heap:=R.heap.set i ((nth R.heap i).set j y) }:=fun i j y=>by
   refine⟨⟨[],jE⟩,by show _<=(R.heap.set _ _).length;simp,fun k hk=>?_,Int.le_refl _,.inl rfl,.inl jl,fun _ _ _=>rfl,.inl rfl,rfl⟩;show(nth (R.heap.set _ _) k).length=_;by_cases e:i<R.heap.length
   ·rw[Go.Gd.bc _ _ _ _ e]
    split
    ·rename_i e2;subst e2;simp
    ·rfl
   ·rw[List.set_eq_of_length_le jB]
  exact(hm _ _ _).lw (wE (by exact h) h1) ⟨rfl,rfl,rfl,rfl,rfl⟩
end Go.Gd
namespace Go.Proofs.YtfkgcobaheegbaaGreatDoor
open Go Go.Gd
variable{inp:List Int}
theorem Hu{p:ab}(hs:dT p){R:RS}(h:bE p R)(hw:¬mf p R.st (cn p R.st) inp):Mv p inp (cn p R.st) R (R.cr p (cn p R.st) inp).1:=by
 obtain⟨s0,s1,s2,_⟩:=h.stmt hs;have sh:=(hs.ok.aa.shape _ s1);have hnf:=h.inv.ok.nf;have h1:=h.one;have hful:=h.full;generalize hnode:cn p R.st=node at*;have hR:=Mv.refl p inp node R;have hon:Mv p inp node R R.on:=hR.lw (wE hnf h1) ⟨rfl,rfl,rfl,rfl,rfl⟩;have hst:∀v,Mv p inp node R (R.store p node v):=fun v=>hR.lw (xj hnf h1 _ _ _) (Bk _ _ _ _)
 have hdp:∀b,Mv p inp node R (R.bq b):=fun b=>hR.lw (CQ hnf h1 _) ⟨rfl,rfl,rfl,rfl,rfl⟩
 have hod:∀b,Mv p inp node R (R.on.bq b):=fun b=>hon.lw (CQ (R:=R.on) (by show R.nf<=(R.aJ.set _ _).length;simpa using hnf) h1 _) ⟨rfl,rfl,rfl,rfl,rfl⟩
 have htl:∀v,Mv p inp node R (R.bI p v):=fun v=>hR.lw (DV hnf p v) (yN _ _ _)
 unfold RS.cr;simp only;split
 ·rename_i e
  obtain⟨a,ha,hr⟩:=sh.1.right e;have hla:(ai p node).l=[a]:=ha;have hx:nth (ai p node).l 0=a:=by rw[hla];rfl
  unfold RS.right;simp only[hx];split
  ·rename_i e1
   exact E4 R p inp node a hful ⟨by rw[hla];simp,by rw[hx];exact e1⟩
  split
  ·rename_i e2
   have hin:¬((inp.length:Int)<=R.in_):=fun hle=>hw ⟨e,by rw[hx];exact e2,hle⟩
   have hm:Mv p inp node R { R with in_:=R.in_+1 }:=⟨⟨[],jE⟩,Nat.le_refl _,fun _ _=>rfl,by show R.in_<=R.in_+1;omega,.inr (by show R.in_+1<=_;omega),.inl jl,fun _ _ _=>rfl,.inl rfl,rfl⟩;exact hm.lw (xj (by exact hnf) (by exact h1) _ _ _) (Bk _ _ _ _)
  split
  ·have hf:=OG R p inp node a
   obtain⟨f1,f2⟩:=PO R p a;split
   ·exact hf.lw (xj (by rw[f1,f2];exact hnf) (by rw[f1];exact h1) _ _ _) (Bk _ _ _ _)
   ·exact hf
  split
  ·exact hst _
  ·exact hR
 split
 ·rename_i e1
  obtain⟨a,ha,hr⟩:=sh.1.mR e1;have hla:(ai p node).l=[a]:=ha;have hx:nth (ai p node).l 0=a:=by rw[hla];rfl
  rw[hx];exact E4 R p inp node a hful ⟨by rw[hla];simp,by rw[hx];exact hr⟩
 split
 ·exact Lr R p inp node hnf h1
 split
 ·split
  ·exact htl _
  split
  ·exact hR
  ·exact htl _
 split
 ·exact hR
 split
 ·split
  ·exact hR
  ·have hm:∀t,Mv p inp node R { R with ay:=R.ay++[t] }:=fun t=>⟨⟨[t],rfl,Nat.le_refl _⟩,Nat.le_refl _,fun _ _=>rfl,Int.le_refl _,.inl rfl,.inl jl,fun _ _ _=>rfl,.inl rfl,rfl⟩
   exact(hm _).lw (wE (by exact hnf) (by exact h1)) ⟨rfl,rfl,rfl,rfl,rfl⟩
 split
 ·(repeat' split)<;>first|exact hod _|exact hon
 split
 ·split
  ·exact hdp _
  ·exact hon
 ·exact hR
structure wR(inp:List Int)(s:aK):Prop where
 s0:0<=s.status
 s3:s.status<=3
 none:s.status=2->s.ao.length=0
 bn:s.status=3<->s.bn≠0
 gG:s.in_<=inp.length
structure nr(p:ab)(inp:List Int)(s b:aK):Prop where
 out:∃o:List ByteArray,b.ay=s.ay++o/\o.length<=1
 hl:s.heap.length<=b.heap.length
 len:∀k,k<s.heap.length->(nth b.heap k).length=(nth s.heap k).length
 i0:s.in_<=b.in_
 nf:b.ao.length<=s.ao.length\/(b.ao.length<=s.ao.length+1/\Ag p (fG p s)/\0<=fG p b/\(s.status≠2/\s.status≠3))
 low:∀k,k+1<s.ao.length->k+1<b.ao.length->nth b.ao k=nth s.ao k
 t0:s.time<=b.time
 t1:b.time<=s.time+1
 still:s.status=2\/s.status=3->b=s
 go:¬(s.status=2\/s.status=3)->b.status≠1->b.time=s.time+1
theorem nr.refl(p:ab)(inp:List Int)(s:aK)(h:s.status=2\/s.status=3):nr p inp s s:=
 ⟨⟨[],jE⟩,Nat.le_refl _,fun _ _=>rfl,Int.le_refl _,.inl jl,fun _ _ _=>rfl,Int.le_refl _,jB,fun _=>rfl,fun h'=>(h' h).elim⟩
theorem PE{p:ab}(hs:dT p){n:Nat}{s:aK}(h:lz p n s)(hn:inp.length<=1000)(hq:wR inp s):wR inp (hZ p s inp)/\nr p inp s (hZ p s inp):=by
 have hb:=E5 hs h.inv hn;generalize hbe:hZ p s inp=b at hb ⊢;unfold hZ at hbe;by_cases h0:fG p s<0
 ·rw[if_pos h0]at hbe
  subst hbe;refine⟨hq,nr.refl p inp s ?_⟩;apply Classical.byContradiction;intro hh;have hd:=h.inv.iE (fun e=>hh (.inl e)) 0 jC;obtain⟨s0,_⟩:=hd.stmt hs;rw[RS.fW]at s0;unfold fG at h0;rw[if_neg hh]at h0;have:cn p { s with status:=0 }=cn p s:=rfl;omega
 rw[if_neg h0]at hbe;have h2:¬(s.status=2\/s.status=3):=fun hh=>h0 (by unfold fG;rw[if_pos hh];decide)
 have ht0:s.bn=0:=Classical.byContradiction fun e=>h2 (.inr (hq.bn.2 e))
 by_cases hw:mf p s (fG p s) inp
 ·rw[if_pos hw]at hbe
  subst hbe;refine⟨⟨by show(0:Int)<=1;decide,by show(1:Int)<=3;decide,fun e=>absurd e (by show¬((1:Int)=2);decide),⟨fun e=>absurd e (by show¬((1:Int)=3);decide),fun e=>(e ht0).elim⟩,hq.gG⟩,
   ⟨⟨[],jE⟩,Nat.le_refl _,fun _ _=>rfl,Int.le_refl _,.inl jl,fun _ _ _=>rfl,Int.le_refl _,by show s.time<=s.time+1;omega,fun e=>(h2 e).elim,fun _ e=>(e rfl).elim⟩⟩
 rw[if_neg hw]at hbe;simp only at hbe;have hd:=h.inv.iE (fun hh=>h2 (.inl hh)) 0 jC;have hst:(RS.of { s with status:=0 }).st={ s with status:=0 }:=RS.fW _;have hat:cn p (RS.of { s with status:=0 }).st=fG p s:=by rw[RS.fW];unfold fG;rw[if_neg h2];rfl
 have hm:=Hu hs hd (inp:=inp) (by rw[hat,hst];exact hw);have ha:=fun e=>hd.cr hs hn (by rw[hat,hst];exact hw) e
 rw[hat]at hm ha;generalize (RS.of { s with status:=0 }).cr p (fG p s) inp=X at*;by_cases hz:X.2=0
 rotate_left
 ·rw[if_pos hz]at hbe
  subst hbe;exact⟨⟨by show(0:Int)<=3;decide,by show(3:Int)<=3;decide,fun e=>absurd e (by show¬((3:Int)=2);decide),⟨fun _=>hz,fun _=>rfl⟩,hq.gG⟩,
   ⟨⟨[],jE⟩,Nat.le_refl _,fun _ _=>rfl,Int.le_refl _,.inl jl,fun _ _ _=>rfl,by show s.time<=s.time+1;omega,by show s.time+1<=s.time+1;omega,fun e=>(h2 e).elim,fun _ _=>rfl⟩⟩
 rw[if_neg (fun e=>e hz)]at hbe;have hA:=ha hz;have hI2:cS p { X.1 with time:=s.time+1 }:=⟨⟨hA.inv.ok.nf,hA.inv.ok.jp⟩,hA.inv.aJ,hA.inv.fr,hA.inv.busy,hA.inv.go⟩;have hlw:=vl p (RS.left { X.1 with time:=s.time+1 }+1) { X.1 with time:=s.time+1 } hI2.ok.nf hI2.go;have hkp:=qe p (RS.left { X.1 with time:=s.time+1 }+1) { X.1 with time:=s.time+1 };have hok:(RS.settle { X.1 with time:=s.time+1 } p).nf<=(RS.settle { X.1 with time:=s.time+1 } p).aJ.length:=(rp (RS.left { X.1 with time:=s.time+1 }+1) { X.1 with time:=s.time+1 } hI2 jB).1.ok.nf;have hX:Mv p inp (fG p s) (RS.of { s with status:=0 }) { X.1 with time:=s.time+1 }:=⟨hm.out,hm.hl,hm.len,hm.i0,hm.i1,hm.nf,hm.low,hm.st,hm.bn⟩;have hm2:=hX.lw hlw hkp;have htm:b.time=s.time+1:=by rw[<-hbe];exact hkp.time
 change (RS.settle { X.1 with time:=s.time+1 } p).st=b at hbe
 change Mv p inp (fG p s) _ (RS.settle { X.1 with time:=s.time+1 } p)at hm2
 generalize RS.settle { X.1 with time:=s.time+1 } p=T at*;have hfl:b.ao.length=T.nf:=by rw[<-hbe];show(T.aJ.take T.nf).length=_;simp;omega
 have hfk:∀k,k<T.nf->nth b.ao k=nth T.aJ k:=fun k hk=>by rw[<-hbe];exact ca _ _ _ hk
 have hsl:(RS.of { s with status:=0 }).nf=s.ao.length:=rfl;have hbst:b.status=T.status:=by rw[<-hbe];rfl
 have hbtr:b.bn=T.bn:=by rw[<-hbe];rfl
 have hbin:b.in_=T.in_:=by rw[<-hbe];rfl
 have hbhp:b.heap=T.heap:=by rw[<-hbe];rfl
 have hbou:b.ay=T.ay:=by rw[<-hbe];rfl
 have hst2:T.status=0\/(T.status=2/\T.nf=0):=hm2.st;have htr2:T.bn=s.bn:=hm2.bn;refine⟨⟨by rw[hbst];rcases hst2 with e|e<;>omega,by rw[hbst];rcases hst2 with e|e<;>omega,fun e=>?_,?_,?_⟩,⟨by rw[hbou];exact hm2.out,by rw[hbhp];exact hm2.hl,by rw[hbhp];exact hm2.len,by rw[hbin];exact hm2.i0,?_,fun k k1 k2=>?_,jB,jB,fun e=>(h2 e).elim,fun _ _=>htm⟩⟩
 ·rw[hbst]at e;rw[hfl];rcases hst2 with e'|e'<;>omega
 ·rw[hbst,hbtr,htr2,ht0]
  rcases hst2 with e|e<;>(constructor<;>intro e'<;>omega)
 ·rw[hbin]
  rcases hm2.i1 with e|e
  ·rw[e];exact hq.gG
  ·exact e
 ·rw[hfl]
  rcases hm2.nf with e|⟨e1,e2⟩
  ·exact .inl e
  by_cases hle:T.nf<=s.ao.length
  ·exact .inl hle
  refine .inr ⟨e1,e2,?_,fun e=>h2 (.inl e),fun e=>h2 (.inr e)⟩;have hne:¬(b.status=2\/b.status=3):=by rw[hbst];rcases hst2 with e|e<;>omega
  have hdb:=hb.iE (fun hh=>hne (.inl hh)) 0 jC;obtain⟨s0,_⟩:=hdb.stmt hs;rw[RS.fW]at s0;unfold fG;rw[if_neg hne];exact s0
 ·rw[hfl]at k2
  rw[hfk k jB,hm2.low k (by rw[hsl];exact k1) k2];rfl
theorem Ii{p:ab}(hs:dT p)(inp:List Int):wR inp (oi p):=by
 rw[Gg];have hI:=(vJ hs).inv;have hlw:=vl p ((jM p).left+1) (jM p) hI.ok.nf hI.go;have hkp:=qe p ((jM p).left+1) (jM p);have hok:((jM p).settle p).nf<=((jM p).settle p).aJ.length:=(rp ((jM p).left+1) (jM p) hI jB).1.ok.nf;change Lw _ ((jM p).settle p)at hlw
 change Kept _ ((jM p).settle p)at hkp
 generalize (jM p).settle p=T at*;have h0:T.status=0\/(T.status=2/\T.nf=0):=hlw.st;have ht:T.bn=0:=hkp.bn;have hi:T.in_=0:=hkp.in_;refine⟨by show 0<=T.status;omega,by show T.status<=3;omega,fun e=>?_,?_,by show T.in_<=_;omega⟩
 ·show(T.aJ.take T.nf).length=0
  have e:T.status=2:=e;have:T.nf=0:=jB
  rw[this];rfl
 ·show T.status=3<->T.bn≠0
  constructor<;>intro e<;>omega
end Go.Proofs.YtfkgcobaheegbaaGreatDoor

/- Lemmas. No conditions. -/
import Derived.Test.YtfkgcobaheegbaaGreatDoorSoS
set_option linter.all false
set_option maxHeartbeats 1000000
set_option maxRecDepth 10000
namespace Go.Proofs.YtfkgcobaheegbaaGreatDoor
open Go Go.Gd
abbrev rV(v:ak):AV:=.agg (cv v)
end Go.Proofs.YtfkgcobaheegbaaGreatDoor
namespace Go.Gd
open Go
end Go.Gd
namespace Go.Proofs.YtfkgcobaheegbaaGreatDoor
open Go Go.Gd
theorem cO.at_{p:ab}(h:dx p){R:RS}(hI:cO p R)(h2:2<=R.nf):ru p R.pop.st:=by
 have hnf:=hI.ok.nf;have hf:=hI.aK;have hpop:R.pop.Ok:=⟨by show R.nf-1<=R.aK.length;omega,hI.ok.jp⟩;have ht:=RS.af hpop (by show 1<=R.nf-1;omega);have hl:R.pop.st.aq.length=R.nf-1:=by show(R.aK.take (R.nf-1)).length=_;simp;omega
 exact HM h jB jB (by rw[ht];exact hI.fr (R.nf-1-1) jB) (by rw[ht];exact hI.busy (R.nf-1-1) jB)
variable{t:Int}
theorem xa(h:1<=t/\t<=4):j9 (vZ t)=true:=by have:t=1\/t=2\/t=3\/t=4:=jB;rcases this with rfl|rfl|rfl|rfl<;>decide
theorem Pw(slots:List ak)(k:Int)(h:1<=t/\t<=4):(dp slots k t).ty=t/\j9 (dp slots k t)=true:=by
 unfold dp;split
 ·exact⟨rfl,xa h⟩
 split
 ·rename_i hh;exact⟨hh.2,hh.1⟩
 ·exact⟨rfl,xa h⟩
theorem Nw{v:ak}(hm:j9 v=true):v.s.size<=40:=by
 unfold j9 at hm;split at hm
 ·have:v.s=sE:=by simpa using hm
  rw[this];decide
 split at hm
 ·simp only[Bool.and_eq_true,decide_eq_true_eq]at hm;rw[hm.1];decide
 split at hm
 ·simp only[Bool.and_eq_true,decide_eq_true_eq]at hm;omega
 split at hm
 ·simp only[Bool.and_eq_true,decide_eq_true_eq]at hm;rw[hm.1];decide
 ·cases hm
def Told(r:ak×Int)(T:Int):Prop:=(r.2=0/\r.1.ty=T/\j9 r.1=true)\/((r.2=1\/r.2=2\/r.2=6)/\r.1=v0)
theorem Told.size{r:ak×Int}{T:Int}(h:Told r T):r.1.s.size<=40:=by
 rcases h with⟨_,_,h⟩|⟨_,h⟩
 ·exact Nw h
 ·rw[h];decide
theorem sV(n:Int):Told (vI n,0) 1:=.inl ⟨rfl,rfl,rfl⟩
theorem Aw(b:Bool):Told (vB b,0) 2:=.inl ⟨rfl,rfl,by cases b<;>decide⟩
variable{s:ByteArray}
theorem E0(h:s.size<=40):Told (vT s,0) 3:=.inl ⟨rfl,rfl,by show j9 ⟨3,0,s⟩=true;unfold j9;simp only;rw[if_neg jC,if_neg jC,if_pos trivial];simp;omega⟩
variable{T:Int}
theorem CQ(h:t=1\/t=2\/t=6):Told (v0,t) T:=.inr ⟨h,rfl⟩
theorem pn{c:Prop}[Decidable c]{x y:ak×Int}(h:c->Told x T)(k:¬c->Told y T):Told (if c then x else y) T:=by
 split
 ·exact h (by assumption)
 ·exact k (by assumption)
theorem JM(hs:s∈tI){a b:ak}(h:gY s a.ty b.ty≠0):Told (kN s a b) (gY s a.ty b.ty):=by
 have he:a.ty=b.ty:=by
  unfold gY at h;split at h
  ·exact(h rfl).elim
  ·omega
 have h1:1<=a.ty/\a.ty<=4:=by
  unfold gY at h;rw[jN]at h;split at h
  ·split at h<;>first|omega|exact(h rfl).elim
  split at h
  ·split at h<;>first|omega|exact(h rfl).elim
  split at h
  ·split at h<;>first|omega|exact(h rfl).elim
  split at h
  ·split at h<;>first|omega|exact(h rfl).elim
  ·split at h<;>first|omega|exact(h rfl).elim
 unfold kN;rw[jN];rcases(by omega:a.ty=1\/a.ty=2\/a.ty=3\/a.ty=4)with ta|ta|ta|ta<;>rw[<-he,ta]at h ⊢<;>unfold gY at h ⊢<;>simp only[tI,List.mem_cons,List.not_mem_nil,or_false]at hs<;>rcases hs with rfl|rfl|rfl|rfl|rfl|rfl|rfl|rfl|rfl|rfl|rfl
 all_goals first|(exfalso;revert h;decide)|(simp(decide:=true) only[if_true,if_false,sZ])
 all_goals first|exact sV _|exact Aw _|exact pn (fun _=>CQ jB) (fun _=>sV _)|exact pn (fun _=>CQ jB) (fun _=>E0 (by rw[ByteArray.size_append];omega))
theorem O8{a b:Int}(hs:s=(⟨#[124,124]⟩:ByteArray)\/s=(⟨#[38,38]⟩:ByteArray))(h:gY s a b≠0):gY s a b=2/\a=2/\b=2:=by
 unfold gY at h ⊢;by_cases e:a=b
 ·rw[if_neg (fun h=>h e),if_pos hs]at h ⊢;by_cases e2:a=2
  ·rw[if_pos e2];omega
  ·rw[if_neg e2]at h;exact(h rfl).elim
 ·rw[if_pos e]at h;exact(h rfl).elim
theorem vy{r:ak×Int}{U:Int}(h:Told r T)(hr:r.2≠0):Told (v0,r.2) U:=by
 rcases h with⟨h,_⟩|⟨h,_⟩
 ·exact(hr h).elim
 ·exact .inr ⟨h,rfl⟩
theorem qq{r:ak×Int}(h:Told r T)(hr:r.2=0):r.1.ty=T/\j9 r.1=true:=by
 rcases h with⟨_,h⟩|⟨h,_⟩
 ·exact h
 ·omega
theorem JD{v:ak}(h:v.ty=1):Told (kQ (⟨#[45]⟩:ByteArray) v,0) 1:=by unfold kQ;rw[if_pos ⟨rfl,h⟩];exact sV _
theorem Kd{v:ak}(h:v.ty=2):Told (kQ (⟨#[33]⟩:ByteArray) v,0) 2:=by unfold kQ;rw[if_neg (by rintro⟨h,_⟩;revert h;decide),if_pos ⟨rfl,h⟩];exact Aw _
theorem tJ{p:ab}(h:si p)(slots:List ak)(heap:List (List Int)):∀(n:Nat) (a:Int),0<=a->a<p.aa.nodes.length->a.toNat<n->bQ (bt p.aa.nodes a)->Told (eN p slots heap n a) (nth p.types a.toNat)
 |0,a,_,_,hn,_=>by omega
 |n+1,a,h0,h1,hn,hk=>by
  have ih:=tJ h slots heap n;have sh:=(h.aa.shape a.toNat jB);have ty:=h.ty a.toNat jB jB;have ay:∀i,i<(nth p.aa.nodes a.toNat).l.length->bQ (bt p.aa.nodes (nth (nth p.aa.nodes a.toNat).l i))->Told (eN p slots heap n (nth (nth p.aa.nodes a.toNat).l i)) (nth p.types (nth (nth p.aa.nodes a.toNat).l i).toNat):=fun i hi he=>by have:=sh.2.1 _ (dT hi);exact ih _ jB jB jB he
  have hkr:(nth p.aa.nodes a.toNat).kind=1\/(nth p.aa.nodes a.toNat).kind=2\/(nth p.aa.nodes a.toNat).kind=3\/(nth p.aa.nodes a.toNat).kind=4\/(nth p.aa.nodes a.toNat).kind=5\/(nth p.aa.nodes a.toNat).kind=6\/(nth p.aa.nodes a.toNat).kind=7\/(nth p.aa.nodes a.toNat).kind=8\/(nth p.aa.nodes a.toNat).kind=9:=by have:bQ (nth p.aa.nodes a.toNat).kind:=hk;unfold bQ at this;omega
  unfold eN;simp only;rcases hkr with k|k|k|k|k|k|k|k|k
  ·rw[if_pos k,ty.int k];exact sV _
  ·rw[jN,if_pos k,ty.bool k];exact Aw _
  ·rw[jN,jN,if_pos k,ty.text k];exact E0 (by have:=sh.1.text k;omega)
  ·rw[jN,jN,jN,if_pos k];have:=Pw slots (nth p.slots a.toNat) (ty.var k);exact .inl ⟨rfl,this⟩
  ·obtain⟨x,hl,hx⟩:=sh.1.one jB;have hx':nth (nth p.aa.nodes a.toNat).l 0=x:=by rw[hl];rfl
   have kx:=ay 0 (by rw[hl];simp) (by rw[hx'];exact hx);have t5:=ty.index k;rw[jN,jN,jN,jN];refine pn (fun hh=>vy kx hh) (fun hh=>?_);rw[if_pos k,t5.1];exact pn (fun _=>CQ jB) (fun _=>sV _)
  ·obtain⟨x,hl,hx⟩:=sh.1.one jB;have hx':nth (nth p.aa.nodes a.toNat).l 0=x:=by rw[hl];rfl
   have kx:=ay 0 (by rw[hl];simp) (by rw[hx'];exact hx);have t5:=ty.len k;rw[jN,jN,jN,jN];refine pn (fun hh=>vy kx hh) (fun hh=>?_);rw[jN,jN,if_pos k,t5.1];exact pn (fun _=>sV _) (fun _=>sV _)
  ·obtain⟨x,hl,hx⟩:=sh.1.one jB;have hx':nth (nth p.aa.nodes a.toNat).l 0=x:=by rw[hl];rfl
   have kx:=ay 0 (by rw[hl];simp) (by rw[hx'];exact hx);have t5:=ty.neg k;rw[jN,jN,jN,jN];refine pn (fun hh=>vy kx hh) (fun hh=>?_);rw[jN,jN,jN,if_pos k,t5.1];exact JD ((qq kx jB).1.trans t5.2)
  ·obtain⟨x,hl,hx⟩:=sh.1.one jB;have hx':nth (nth p.aa.nodes a.toNat).l 0=x:=by rw[hl];rfl
   have kx:=ay 0 (by rw[hl];simp) (by rw[hx'];exact hx);have t5:=ty.not k;rw[jN,jN,jN,jN];refine pn (fun hh=>vy kx hh) (fun hh=>?_);rw[jN,jN,jN,jN,t5.1];exact Kd ((qq kx jB).1.trans t5.2)
  ·obtain⟨x,y,hl,hx,hy⟩:=sh.1.two jB;have hx':nth (nth p.aa.nodes a.toNat).l 0=x:=by rw[hl];rfl
   have hy':nth (nth p.aa.nodes a.toNat).l 1=y:=by rw[hl];rfl
   have kx:=ay 0 (by rw[hl];simp) (by rw[hx'];exact hx);have ky:=ay 1 (by rw[hl];simp) (by rw[hy'];exact hy);obtain⟨t5,t6⟩:=ty.zx k;rw[jN,jN,jN,jN];refine pn (fun hh=>vy kx hh) (fun hh=>?_);have ox:=qq kx jB;rw[jN,if_pos k];refine pn (fun he=>?_) (fun _=>?_)
   ·refine .inl ⟨rfl,?_,ox.2⟩;show(eN p slots heap n _).1.ty=_;rw[ox.1];rw[t5]at t6 ⊢;have hs:(nth p.aa.nodes a.toNat).name=(⟨#[124,124]⟩:ByteArray)\/(nth p.aa.nodes a.toNat).name=(⟨#[38,38]⟩:ByteArray):=by rcases he with he|he;exact .inl he.1;exact .inr he.1
    obtain⟨g1,g2,g3⟩:=O8 hs t6;rw[g1,g2]
   refine pn (fun hh2=>vy ky hh2) (fun hh2=>?_);have oy:=qq ky jB;rw[t5]at t6 ⊢;rw[<-ox.1,<-oy.1]at t6 ⊢;exact JM (sh.1.sign k) t6
theorem Bu{p:ab}(h:aH p.aa)(slots:List ak)(heap:List (List Int)):∀(n m:Nat) (a:Int),0<=a->a<p.aa.nodes.length->a.toNat<n->a.toNat<m->bQ (bt p.aa.nodes a)->eN p slots heap n a=eN p slots heap m a
 |0,m,a,_,_,hn,_,_=>by omega
 |n+1,0,a,_,_,_,hm,_=>jB
 |n+1,m+1,a,h0,h1,hn,hm,hk=>by
  have sh:=(h.shape a.toNat jB);have ay:∀i,i<(nth p.aa.nodes a.toNat).l.length->bQ (bt p.aa.nodes (nth (nth p.aa.nodes a.toNat).l i))->eN p slots heap n (nth (nth p.aa.nodes a.toNat).l i)=eN p slots heap m (nth (nth p.aa.nodes a.toNat).l i):=fun i hi he=>by have:=sh.2.1 _ (dT hi);exact Bu h slots heap n m _ jB jB jB jB he
  have hkr:(nth p.aa.nodes a.toNat).kind=1\/(nth p.aa.nodes a.toNat).kind=2\/(nth p.aa.nodes a.toNat).kind=3\/(nth p.aa.nodes a.toNat).kind=4\/((nth p.aa.nodes a.toNat).kind=5\/(nth p.aa.nodes a.toNat).kind=6\/(nth p.aa.nodes a.toNat).kind=7\/(nth p.aa.nodes a.toNat).kind=8)\/(nth p.aa.nodes a.toNat).kind=9:=by have:bQ (nth p.aa.nodes a.toNat).kind:=hk;unfold bQ at this;omega
  unfold eN;simp only;rcases hkr with k|k|k|k|k|k
  ·rw[if_pos k,if_pos k]
  ·rw[jN,if_pos k,jN,if_pos k]
  ·rw[jN,jN,if_pos k,jN,jN,if_pos k]
  ·rw[jN,jN,jN,if_pos k,jN,jN,jN,if_pos k]
  ·obtain⟨x,hl,hx⟩:=sh.1.one jB;have hx':nth (nth p.aa.nodes a.toNat).l 0=x:=by rw[hl];rfl
   rw[ay 0 (by rw[hl];simp) (by rw[hx'];exact hx)];have h9:¬(nth p.aa.nodes a.toNat).kind=9:=jB;simp only[if_neg h9]
  ·obtain⟨x,y,hl,hx,hy⟩:=sh.1.two jB;have hx':nth (nth p.aa.nodes a.toNat).l 0=x:=by rw[hl];rfl
   have hy':nth (nth p.aa.nodes a.toNat).l 1=y:=by rw[hl];rfl
   rw[ay 0 (by rw[hl];simp) (by rw[hx'];exact hx),ay 1 (by rw[hl];simp) (by rw[hy'];exact hy)]
end Go.Proofs.YtfkgcobaheegbaaGreatDoor
namespace Go.Gd
open Go
theorem RS.ij{R:RS}(h:R.Ok)(h1:1<=R.nf)(f:aI):(R.aQ (R.nf-1) f).ah=f:=by show nth (R.aQ (R.nf-1) f).aK (R.nf-1)=f;rw[RS.bh (by have:=h.nf;omega),if_pos rfl]
structure Kept(R R':RS):Prop where
 heap:R'.heap=R.heap
 in_:R'.in_=R.in_
 ax:R'.ax=R.ax
 aZ:R'.aZ=R.aZ
 time:R'.time=R.time
theorem Kept.refl(R:RS):Kept R R:=⟨rfl,rfl,rfl,rfl,rfl⟩
theorem Kept.trans{a b c:RS}(h:Kept a b)(k:Kept b c):Kept a c:=⟨k.heap.trans h.heap,k.in_.trans h.in_,k.ax.trans h.ax,k.aZ.trans h.aZ,k.time.trans h.time⟩
theorem zo(R:RS)(p:ab)(v:ak):Kept R (R.bL p v):=by
 unfold RS.bL;split
 ·exact⟨rfl,rfl,rfl,rfl,rfl⟩
 ·split<;>exact⟨rfl,rfl,rfl,rfl,rfl⟩
theorem oa(p:ab):∀(n:Nat) (R:RS),Kept R (jL p n R)
 |0,R=>Kept.refl R
 |n+1,R=>by
  unfold jL;split
  ·exact Kept.refl R
  split
  ·exact(zo R p _).trans (oa p n _)
  split
  ·exact Kept.refl R
  ·exact Kept.trans (b:=R.cut) ⟨rfl,rfl,rfl,rfl,rfl⟩ (oa p n _)
theorem RS.rY(s:aJ):(RS.of s).Ok:=⟨Nat.le_refl _,by show(s.aq.map _).length=_;simp[RS.of]⟩
theorem RS.fy(s:aJ):(RS.of s).st=s:=by show aJ.mk (s.aq.take s.aq.length) s.heap s.in_ s.ax s.status s.aZ s.time=s;rw[List.take_length]
end Go.Gd
namespace Go.Proofs.YtfkgcobaheegbaaGreatDoor
open Go Go.Gd
theorem cO.aQ{p:ab}{R:RS}(h:cO p R)(h1:1<=R.nf){f:aI}(hf:dr p f):cO p (R.aQ (R.nf-1) f):=by
 have hnf:=h.ok.nf;have hu:=fun k=>RS.bh (R:=R) (k:=R.nf-1) jB f k
 have hl:(R.aQ (R.nf-1) f).aK.length=R.aK.length:=RS.bB.symm;refine⟨⟨by rw[hl];exact hnf,by rw[hl];exact h.ok.jp⟩,by rw[hl];exact h.aK,fun k hk=>?_,fun k hk=>?_,h.go⟩
 ·rw[hu];split
  ·exact hf
  ·exact h.fr k hk
 ·have hk:k+1<R.nf:=hk;rw[hu,jN];exact h.busy k hk
theorem cO.on{p:ab}{R:RS}(h:cO p R)(h1:1<=R.nf)(hb:mI p R.ah):cO p R.on:=h.aQ h1 (yE (h.fr (R.nf-1) jB) hb)
variable{α:Type}
theorem xJ[Inhabited α](l:List α)(x:α)(k:Nat)(h:k<=l.length):nth (l++[x]) k=if k=l.length then x else nth l k:=by
 by_cases e:k=l.length
 ·subst e;rw[if_pos rfl,nM]
 ·rw[if_neg e,my jB]
theorem cO.push{p:ab}{R:RS}(h:cO p R)(hfull:R.nf=R.aK.length)(h8:R.nf<8)(hb:1<=R.nf->mI p R.ah){f:aI}(hf:dr p f):cO p (R.push f):=by
 have hu:∀k,k<=R.nf->nth (R.push f).aK k=if k=R.nf then f else nth R.aK k:=fun k hk=>by show nth (R.aK++[f]) k=_;rw[xJ _ _ _ jB,hfull]
 have hjp:=h.ok.jp;refine⟨⟨by show R.nf+1<=(R.aK++[f]).length;simp;omega,by show(R.jp++[[]]).length=(R.aK++[f]).length;simp;omega⟩,by show(R.aK++[f]).length<=8;simp;omega,fun k hk=>?_,fun k hk=>?_,fun _=>by show 1<=R.nf+1;omega⟩
 ·have hk:k<R.nf+1:=hk;rw[hu k jB];split
  ·exact hf
  ·exact h.fr k jB
 ·have hk:k+1<R.nf+1:=hk;rw[hu k jB,jN];by_cases e:k+1=R.nf
  ·have:=hb jB;unfold RS.ah at this;rwa [show R.nf-1=k from jB]at this
  ·exact h.busy k jB
variable{p:ab}
theorem EU{f:aI}(h:dr p f){b:Int}(hp:kG p f.fn ⟨b,0⟩)(hd:∀x∈f.path,b<x.block):dr p { f with path:=f.path++[⟨b,0⟩] }:=by
 refine⟨h.f0,h.f1,h.sl,fun x hx=>?_,?_⟩
 ·rcases List.mem_append.1 hx with hx|hx
  ·exact h.pl x hx
  ·have:x=⟨b,0⟩:=by simpa using hx
   subst this;exact hp
 ·show List.Pairwise _ ((f.path++[(⟨b,0⟩:bf)]).map fun x:bf=>x.block);rw[List.map_append,List.pairwise_append];refine⟨h.dec,jE,fun x hx y hy=>?_⟩;obtain⟨z,hz,rfl⟩:=List.mem_map.1 hx;have:y=b:=by simpa using hy
  subst this;exact hd z hz
theorem dr.last{f:aI}(h:dr p f)(hne:f.path≠[]):∀x∈f.path,f.pl.block<=x.block:=fun x hx=>by
 obtain⟨i,hi,rfl⟩:=List.getElem_of_mem hx;have hl:=List.length_pos_iff.2 hne;unfold aI.pl;by_cases e:i=f.path.length-1
 ·subst e;rw[dN jB];exact Int.le_refl _
 ·have:=List.pairwise_iff_getElem.1 (List.pairwise_map.1 h.dec) i (f.path.length-1) hi jB jB;rw[dN jB];omega
theorem AI(h:dx p){k:Nat}(hk:k<p.aa.ao.length){args:List ak}(ha:args.length=(nth p.aa.ao k).params.length):dr p (jc p k args)/\(nth p.size k).toNat=(jc p k args).slots.length/\0<=nth p.size k/\nth p.size k<=24:=by
 have hs:=h.ao k hk;have h1:=hs.wk;have h2:=hs.hi;have hb:=h.ok.aa.body (nth p.aa.ao k) (dT hk);have hn:=oG h.ok.aa hk;have hl:(jc p k args).slots.length=(nth p.size k).toNat:=by show(args++List.replicate _ v0).length=_;rw[Int.toNat_natCast]<;>(try simp)<;>omega
 have hch:=hs.chain.le;refine⟨⟨by show(0:Int)<=(k:Int);omega,by show(k:Int)<_;omega,?_,fun x hx=>?_,by simp[jc]⟩,hl.symm,jB,h2⟩
 ·rw[hl];show _=nth p.size (k:Int).toNat;rw[Int.toNat_natCast];omega
 ·have:x=⟨(nth p.aa.ao k).body,0⟩:=by simpa[jc]using hx
  subst this;show kG p (k:Int) _;refine⟨hn.1,?_,?_,hb,Int.le_refl _,by show(0:Int)<=_;omega⟩
  ·rw[Int.toNat_natCast];exact hch
  ·rw[Int.toNat_natCast];exact Nat.le_refl _
theorem BK{α:Type}[Inhabited α](f:α->ByteArray)(nm:ByteArray):∀(l:List α) (i:Int),(∃v∈l,f v=nm)->i<=gj f nm l i/\gj f nm l i<i+l.length/\f (nth l (gj f nm l i-i).toNat)=nm
 |[],_,h=>by obtain⟨v,hv,_⟩:=h;simp at hv
 |v::l,i,h=>by
  unfold gj;by_cases hv:f v=nm
  ·rw[if_pos hv];refine⟨Int.le_refl _,by simp;omega,?_⟩;rw[show(i-i).toNat=0 from jB];exact hv
  ·rw[if_neg hv];obtain⟨u,hu,hh⟩:=h;have hu:u∈l:=by
    rcases List.mem_cons.1 hu with rfl|hu
    ·exact(hv hh).elim
    ·exact hu
   obtain⟨a,b,c⟩:=BK f nm l (i+1) ⟨u,hu,hh⟩;refine⟨jB,by simp;omega,?_⟩;rw[show(gj f nm l (i+1)-i).toNat=(gj f nm l (i+1)-(i+1)).toNat+1 from jB];exact c
theorem EG{α:Type}(f:α->ByteArray)(nm:ByteArray):∀(l:List α) (i k:Int),iZ f nm l i k≠k->∃v∈l,f v=nm
 |[],_,_,h=>(h rfl).elim
 |v::l,i,k,h=>by
  unfold iZ at h;by_cases hv:f v=nm
  ·exact⟨v,jE,hv⟩
  ·rw[if_neg hv]at h;obtain⟨u,hu,hh⟩:=EG f nm l _ _ h;exact⟨u,by simp[hu],hh⟩
structure Callee(p:ab)(a:Int)(k:Nat):Prop where
 lt:k<p.aa.ao.length
 at_:gj aX.name (ai p a).name p.aa.ao 0=k
 last:iZ aX.name (ai p a).name p.aa.ao 0 (-1)=k
 name:(nth p.aa.ao k).name=(ai p a).name
 args:(ai p a).l.length=(nth p.aa.ao k).params.length
 zU:(ai p a).l.length<=3
theorem callee(h:dx p){a:Int}(h0:a.toNat<p.aa.nodes.length)(hk:(ai p a).kind=21):∃k,Callee p a k:=by
 obtain⟨h1,h2⟩:=(h.ok.ty a.toNat jB h0).call hk;have hx:=EG aX.name (ai p a).name p.aa.ao 0 (-1) (by show iZ aX.name (nth p.aa.nodes a.toNat).name p.aa.ao 0 (-1)≠-1;omega);have e:=Dz aX.name (ai p a).name p.aa.ao 0 (-1) (fun a b=>h.names.one a b) hx;obtain⟨f1,f2,f3⟩:=BK aX.name (ai p a).name p.aa.ao 0 hx;refine⟨(gj aX.name (ai p a).name p.aa.ao 0).toNat,jB,jB,jB,?_,?_,?_⟩
 ·rwa [Int.sub_zero]at f3
 ·unfold ai at e ⊢;rw[<-e];exact h2
 ·have hm:=(h.ok.aa.fn _ (dT (l:=p.aa.ao) (k:=(gj aX.name (ai p a).name p.aa.ao 0).toNat) jB)).2;unfold ai at e hm ⊢;rw[<-e]at hm;rw[h2];exact hm
structure bF(p:ab)(R:RS):Prop where
 inv:cO p R
 full:R.nf=R.aK.length
 one:1<=R.nf
 af:mI p R.ah
 jp:∀k,k<R.aK.length->nth R.jp k=[]
 cells:ga R.heap<=40
 outs:R.ax.length<=24
 gK:0<=R.in_
 gw:R.in_<=1000
variable{R:RS}
theorem bF.qX(h:bF p R):R.st.af=R.ah:=RS.af h.inv.ok h.one
theorem bF.cH(hs:dx p)(h:bF p R):ru p R.st:=by
 have h1:=h.one;have h2:=h.full;have h3:=h.inv.aK;have hl:R.st.aq.length=R.nf:=by show(R.aK.take R.nf).length=_;simp;omega
 exact HM hs jB jB (by rw[h.qX];exact h.inv.fr _ jB) (by rw[h.qX];exact h.af)
theorem bF.stmt(hs:dx p)(h:bF p R):0<=cu p R.st/\(cu p R.st).toNat<p.aa.nodes.length/\dL (bt p.aa.nodes (cu p R.st))/\ow p.aa R.ah.fn.toNat<=(cu p R.st).toNat/\(cu p R.st).toNat<R.ah.pl.block.toNat/\R.ah.pl.block.toNat<=(nth p.aa.ao R.ah.fn.toNat).body.toNat:=by
 have hf:=h.inv.fr (R.nf-1) (by have:=h.one;omega);have hf:dr p R.ah:=hf;have hx:=hf.pl _ (mD h.af.1);have hb:=h.af.2;have ha0:=hx.a0;have hb0:=hx.b0;have hi:=hx.in_ hs hf.f0 hf.f1;have hm:cu p R.st∈dD p R.ah.pl.block:=by unfold cu;rw[h.qX];exact dT jB
 obtain⟨k0,k1,k2,k3⟩:=hx.ay hs hf.f0 hf.f1 hm;exact⟨k0,jB,k3,k2,k1,hx.hi⟩
theorem Ff(h:dx p)(R:RS){a:Int}(h0:0<=a)(h1:a.toNat<p.aa.nodes.length)(hk:bQ (bt p.aa.nodes a)):Told (R.val p a) (nth p.types a.toNat):=tJ h.ok R.ah.slots R.heap _ a h0 jB jB hk
theorem Dv{p:ab}(R:RS):∀(l:List Int) (a:List ak),(R.args p l a).2=0->(R.args p l a).1.length=a.length+l.length
 |[],a,_=>by simp[RS.args]
 |x::l,a,h=>by
  unfold RS.args at h ⊢;split
  ·rename_i e;rw[if_pos e]at h;exact(e h).elim
  ·rename_i e;rw[if_neg e]at h;rw[Dv R l _ h];simp;omega
theorem Aq(l:List Int):ll 0 l=l.length:=by simp[ll]
theorem mW:∀(h:List (List Int)) (n:Int),h.foldl ll n=n+h.foldl ll (0:Int)
 |[],n=>by simp[List.foldl]
 |x::h,n=>by simp only[List.foldl_cons];rw[mW h (ll n x),mW h (ll 0 x)];unfold ll;omega
theorem IB(h:List (List Int))(x:List Int):ga (h++[x])=ga h+x.length+1:=by unfold ga;rw[List.foldl_append,List.foldl_cons,List.foldl_nil,List.length_append,mW h _,mW h (h.length:Int)];unfold ll;simp;omega
theorem zG:∀(h:List (List Int)),0<=h.foldl ll (0:Int)
 |[]=>by simp
 |x::h=>by simp only[List.foldl_cons];rw[mW,Aq];have:=zG h;omega
theorem BE(h:List (List Int)):(h.length:Int)<=ga h:=by unfold ga;rw[mW];have:=zG h;omega
theorem G7:∀(h:List (List Int)) (i:Nat) (x:List Int),i<h.length->x.length=(nth h i).length->(h.set i x).foldl ll (0:Int)=h.foldl ll 0
 |[],i,x,hi,_=>by simp at hi
 |y::h,0,x,_,e=>by have e:x.length=y.length:=e;simp only[List.set_cons_zero,List.foldl_cons,ll,e]
 |y::h,i+1,x,hi,e=>by simp only[List.set_cons_succ,List.foldl_cons];rw[mW (h.set i x) (ll 0 y),mW h (ll 0 y),G7 h i x (by simpa using hi) e]
theorem CL(h:List (List Int))(i:Nat)(x:List Int)(hi:i<h.length)(e:x.length=(nth h i).length):ga (h.set i x)=ga h:=by unfold ga;rw[List.length_set,mW (h.set i x) (h.length:Int),mW h (h.length:Int),G7 h i x hi e]
theorem Gr:∀(h:List (List Int)) (i:Nat),i<h.length->((nth h i).length:Int)<=h.foldl ll 0
 |[],i,hi=>by simp at hi
 |y::h,0,_=>by simp only[List.foldl_cons];rw[mW,Aq];have:=zG h;show(y.length:Int)<=_;omega
 |y::h,i+1,hi=>by simp only[List.foldl_cons];rw[mW,Aq];have:=Gr h i (by simpa using hi);show((nth h i).length:Int)<=_;omega
theorem Bx(h:List (List Int))(i:Nat)(hi:i<h.length):((nth h i).length:Int)+h.length<=ga h:=by unfold ga;rw[mW];have:=Gr h i hi;omega
structure dt(p:ab)(R:RS):Prop where
 inv:cO p R
 cells:ga R.heap<=40
 outs:R.ax.length<=24
 gK:0<=R.in_
 gw:R.in_<=1000
theorem dt.of{R':RS}(h:bF p R)(hi:cO p R')(k:Kept R R'):dt p R':=⟨hi,by rw[k.heap];exact h.cells,by rw[k.ax];exact h.outs,by rw[k.in_];exact h.gK,by rw[k.in_];exact h.gw⟩
theorem bF.with{p:ab}{R:RS}(h:bF p R){hp:List (List Int)}{i:Int}{o:List ByteArray}(h1:ga hp<=40)(h2:0<=i/\i<=1000)(h3:o.length<=24):bF p { R with heap:=hp,in_:=i,ax:=o }:=
 ⟨⟨⟨h.inv.ok.nf,h.inv.ok.jp⟩,h.inv.aK,h.inv.fr,h.inv.busy,h.inv.go⟩,h.full,h.one,h.af,h.jp,h1,h3,h2.1,h2.2⟩
theorem bF.store{p:ab}{R:RS}(h:bF p R)(node:Int)(v:ak):dt p (R.store p node v):=by
 have h1:=h.one;have hf:=GP (h.inv.fr (R.nf-1) jB) (nth p.slots node.toNat).toNat v;have hi:cO p (R.fS p node v):=h.inv.aQ h1 hf;have ht:(R.fS p node v).ah=_:=RS.ij h.inv.ok h1 _;have hb:mI p (R.fS p node v).ah:=by rw[ht];exact h.af
 exact dt.of h (hi.on h1 hb) ⟨rfl,rfl,rfl,rfl,rfl⟩
theorem bF.on{p:ab}{R:RS}(h:bF p R):dt p R.on:=dt.of h (h.inv.on h.one h.af) ⟨rfl,rfl,rfl,rfl,rfl⟩
theorem bF.block{p:ab}(hs:dx p){R:RS}(h:bF p R){b:Int}(hb:b∈(ai p (cu p R.st)).l)(hk:bt p.aa.nodes b=18):kG p R.ah.fn ⟨b,0⟩/\b<R.ah.pl.block/\0<=b/\b.toNat<p.aa.nodes.length:=by
 obtain⟨s0,s1,s2,s3,s4,s5⟩:=h.stmt hs;have sh:=hs.ok.aa.shape _ s1;have hbl:=sh.2.1 b hb;have hf:dr p R.ah:=h.inv.fr (R.nf-1) (by have:=h.one;omega);have hlo:ow p.aa R.ah.fn.toNat<=b.toNat:=by have hc:=(hs.ao R.ah.fn.toNat (by have:=hf.f0;have:=hf.f1;omega)).chain;exact hc.closed _ s3 jB b hb
 exact⟨⟨hbl.1,hlo,by show b.toNat<=_;omega,hk,Int.le_refl _,by show(0:Int)<=_;omega⟩,jB,hbl.1,jB⟩
theorem bF.bs{p:ab}(hs:dx p){R R':RS}(h:bF p R){b:Int}(hb:b∈(ai p (cu p R.st)).l)(hk:bt p.aa.nodes b=18)(hR:R'=R\/R'=R.on):dt p (R'.bs b):=by
 have h1:=h.one;obtain⟨b1,b2,b3,b4⟩:=h.block hs hb hk;have hf:dr p R.ah:=h.inv.fr (R.nf-1) jB;rcases hR with rfl|rfl
 ·exact dt.of h (h.inv.aQ h1 (EU hf b1 fun x hx=>by have:=hf.last h.af.1 x hx;omega)) ⟨rfl,rfl,rfl,rfl,rfl⟩
 ·have hi:=h.inv.on h1 h.af;have ht:R.on.ah=fK R.ah:=RS.ij h.inv.ok h1 _;have hf':=yE hf h.af;have hl:∀x∈(fK R.ah).path,b<x.block:=fun x hx=>by
   rcases tH hx with rfl|hx
   ·exact b2
   ·have:=hf.last h.af.1 x hx;omega
  refine dt.of h (hi.aQ h1 (f:={ R.on.ah with path:=R.on.ah.path++[⟨b,0⟩] }) ?_) ⟨rfl,rfl,rfl,rfl,rfl⟩;rw[ht];exact EU hf' b1 hl
theorem bF.call{p:ab}(hs:dx p){R:RS}(h:bF p R){a:Int}(h0:a.toNat<p.aa.nodes.length)(hk:(ai p a).kind=21)(he:(R.call p a).2=0):dt p (R.call p a).1:=by
 obtain⟨k,hc⟩:=callee hs h0 hk;unfold RS.call at he ⊢;simp only at he ⊢;split at he
 ·rename_i e;exact(e he).elim
 rename_i e;rw[if_neg e];split at he
 ·exact((by decide:¬((3:Int)=0)) he).elim
 rename_i e8;rw[if_neg e8,hc.at_];have hl:=Dv R _ [] (Classical.not_not.1 e);exact dt.of h (h.inv.push h.full jB (fun _=>h.af) (AI hs hc.lt (by rw[hl];simpa using hc.args)).1) ⟨rfl,rfl,rfl,rfl,rfl⟩
theorem bF.fresh{p:ab}{R:RS}(h:bF p R)(x:Int)(he:(R.fresh p x).2.2=0):bF p (R.fresh p x).1:=by
 unfold RS.fresh at he ⊢;simp only at he ⊢;split at he
 ·rename_i e;exact(e he).elim
 rename_i e;rw[if_neg e];split at he
 ·exact((by decide:¬((7:Int)=0)) he).elim
 rename_i e1;rw[if_neg e1];split at he
 ·exact((by decide:¬((4:Int)=0)) he).elim
 rename_i e2;rw[if_neg e2];refine h.with (hp:=R.heap++[List.replicate _ 0]) (i:=R.in_) (o:=R.ax) ?_ ⟨h.gK,h.gw⟩ h.outs
 rw[IB];simp;omega
theorem bF.bT{p:ab}(hs:dx p){R:RS}(h:bF p R){inp:List Int}(hn:inp.length<=1000)(hw:¬jo p R.st (cu p R.st) inp)(he:(R.bT p (cu p R.st) inp).2=0):dt p (R.bT p (cu p R.st) inp).1:=by
 obtain⟨s0,s1,s2,_⟩:=h.stmt hs;have sh:=(hs.ok.aa.shape _ s1);generalize hnode:cu p R.st=node at*;have ay:∀i,i<(ai p node).l.length->0<=nth (ai p node).l i/\(nth (ai p node).l i).toNat<p.aa.nodes.length:=fun i hi=>by have:=sh.2.1 _ (dT (l:=(ai p node).l) hi);omega
 have hblk:∀b,b∈(ai p node).l->bt p.aa.nodes b=18->∀R',(R'=R\/R'=R.on)->dt p (R'.bs b):=fun b hb hk R' hR=>h.bs hs (by rw[hnode];exact hb) hk hR
 unfold RS.bT at he ⊢;simp only at he ⊢;split at he
 ·rename_i e;rw[if_pos e];obtain⟨a,ha,hr⟩:=sh.1.right e;have hla:(ai p node).l=[a]:=ha;have ha0:=ay 0 (by rw[hla];simp);have hx:nth (ai p node).l 0=a:=by rw[hla];rfl
  rw[hx]at ha0;unfold RS.right at he ⊢;simp only[hx]at he ⊢;split at he
  ·rename_i e1;rw[if_pos e1];exact h.call hs ha0.2 e1 he
  rename_i e1;rw[if_neg e1];split at he
  ·rename_i e2;rw[if_pos e2];have hin:¬((inp.length:Int)<=R.in_):=fun hle=>hw ⟨e,by rw[hx];exact e2,hle⟩
   have hd:bF p { R with in_:=R.in_+1 }:=h.with (hp:=R.heap) (i:=R.in_+1) (o:=R.ax) h.cells ⟨by have:=h.gK;omega,jB⟩ h.outs
   exact hd.store node _
  rename_i e2;rw[if_neg e2];split at he
  ·rename_i e3;rw[if_pos e3];split at he
   ·rename_i e4;rw[if_pos e4];exact(h.fresh a e4).store node _
   ·rename_i e4;exact(e4 he).elim
  rename_i e3;rw[if_neg e3];split at he
  ·rename_i e4;rw[if_pos e4];exact h.store node _
  ·rename_i e4;exact(e4 he).elim
 rename_i e;rw[if_neg e];split at he
 ·rename_i e1;rw[if_pos e1];obtain⟨a,ha,hr⟩:=sh.1.nL e1;have hla:(ai p node).l=[a]:=ha;have ha0:=ay 0 (by rw[hla];simp);have hx:nth (ai p node).l 0=a:=by rw[hla];rfl
  rw[hx]at ha0 he ⊢;exact h.call hs ha0.2 hr he
 rename_i e1;rw[if_neg e1];split at he
 ·rename_i e2;rw[if_pos e2];unfold RS.put at he ⊢;simp only at he ⊢;split at he
  ·rename_i e3;exact(e3 he).elim
  rename_i e3;rw[if_neg e3];split at he
  ·rename_i e4;exact(e4 he).elim
  rename_i e4;rw[if_neg e4];split at he
  ·exact((by decide:¬((2:Int)=0)) he).elim
  rename_i e5;rw[if_neg e5];have hg:(lz R.heap (dp R.ah.slots (nth p.slots node.toNat) 4)).length≠0:=jB;generalize hv:dp R.ah.slots (nth p.slots node.toNat) 4=v at*;unfold lz at hg;split at hg
  ·simp at hg
  rename_i e6;exact(h.with (hp:=R.heap.set _ _) (i:=R.in_) (o:=R.ax) (by rw[CL _ _ _ jB jE];exact h.cells) ⟨h.gK,h.gw⟩ h.outs).on
 rename_i e2;rw[if_neg e2];split at he
 ·rename_i e3;rw[if_pos e3];split at he
  ·rename_i e4;rw[if_pos e4];exact dt.of h (h.inv.bL h.one v0).1 (zo R p v0)
  rename_i e4;rw[if_neg e4];split at he
  ·rename_i e5;exact(e5 he).elim
  rename_i e5;rw[if_neg e5];exact dt.of h (h.inv.bL h.one _).1 (zo R p _)
 rename_i e3;rw[if_neg e3];split at he
 ·rename_i e4;exact(e4 he).elim
 rename_i e4;rw[if_neg e4];split at he
 ·rename_i e5;rw[if_pos e5];split at he
  ·exact((by decide:¬((5:Int)=0)) he).elim
  rename_i e6;rw[if_neg e6];exact(h.with (hp:=R.heap) (i:=R.in_) (o:=R.ax++[_]) h.cells ⟨h.gK,h.gw⟩ jF).on
 rename_i e5;rw[if_neg e5];split at he
 ·rename_i e6;rw[if_pos e6];obtain⟨a,b,h1,h2,hl⟩:=sh.1.kz e6;split
  ·refine hblk _ ?_ ?_ _ (.inr rfl)
   ·rcases hl with hl|⟨d,hl,_⟩<;>(show nth (ai p node).l 1∈(ai p node).l;unfold ai;rw[hl];simp[nth])
   ·rcases hl with hl|⟨d,hl,_⟩<;>(unfold ai;rw[hl];exact h2)
  split
  ·rename_i e8;rcases hl with hl|⟨d,hl,hd⟩
   ·exfalso;unfold ai at e8;rw[hl]at e8;simp at e8
   ·refine hblk _ ?_ ?_ _ (.inr rfl)
    ·unfold ai;rw[hl];simp[nth]
    ·unfold ai;rw[hl];exact hd
  ·exact h.on
 rename_i e6;rw[if_neg e6];split at he
 ·rename_i e7;rw[if_pos e7];obtain⟨a,b,hl,h1,h2⟩:=sh.1.dS e7;split
  ·refine hblk _ ?_ ?_ _ (.inl rfl)
   ·unfold ai;rw[hl];simp[nth]
   ·unfold ai;rw[hl];exact h2
  ·exact h.on
 ·rename_i e7;exfalso;have:dL (ai p node).kind:=s2;unfold dL at this;omega
theorem sM{p:ab}:∀(n:Nat) (R:RS),cO p R->R.left<n->cO p (jL p n R)/\((jL p n R).status=2\/(1<=(jL p n R).nf/\mI p (jL p n R).ah))
 |0,R,_,h=>by omega
 |n+1,R,hI,hn=>by
  unfold jL;split
  ·rename_i e;exact⟨hI,.inl e⟩
  rename_i e;have hg:=hI.go e;split
  ·obtain⟨a,b,_⟩:=hI.bL hg (vZ (nth p.aa.ao R.ah.fn.toNat).ret);exact sM n _ a jB
  rename_i e1;split
  ·rename_i e2;exact⟨hI,.inr ⟨hg,fun h=>e1 (by rw[h];rfl),e2⟩⟩
  ·obtain⟨a,b⟩:=hI.cut hg e1;exact sM n _ a jB
structure cI(p:ab)(s:aJ):Prop where
 inv:cO p (RS.of s)
 af:s.status≠2->mI p (RS.of s).ah
 cells:ga s.heap<=40
 outs:s.ax.length<=24
 gK:0<=s.in_
 gw:s.in_<=1000
theorem cd[Inhabited α](l:List α)(n k:Nat)(h:k<n):nth (l.take n) k=nth l k:=by unfold nth;rw[List.getD_eq_getElem?_getD,List.getElem?_take,if_pos h,List.getD_eq_getElem?_getD]
theorem BN[Inhabited α]{β:Type}(l:List β)(x:α)(k:Nat)(h:k<l.length):nth (l.map fun _=>x) k=x:=by rw[dN (by simpa using h)];simp
theorem cO.st{p:ab}{R:RS}(h:cO p R):cO p (RS.of R.st):=by
 have hnf:=h.ok.nf;have hl:(RS.of R.st).nf=R.nf:=by show(R.aK.take R.nf).length=_;simp;omega
 have hfr:∀k,k<R.nf->nth (RS.of R.st).aK k=nth R.aK k:=fun k hk=>cd _ _ _ hk
 refine⟨RS.rY _,?_,fun k hk=>?_,fun k hk=>?_,fun e=>?_⟩
 ·have:=h.aK;show(R.aK.take R.nf).length<=8;simp;omega
 ·rw[hl]at hk;rw[hfr k hk];exact h.fr k hk
 ·rw[hl]at hk;rw[hfr k jB];exact h.busy k hk
 ·rw[hl];exact h.go e
theorem dt.settled(h:dt p R):cI p (R.settle p).st:=by
 obtain⟨h1,h2⟩:=sM (R.left+1) R h.inv jB;have k:=oa p (R.left+1) R;change cO p (R.settle p)at h1
 change (R.settle p).status=2\/(1<=(R.settle p).nf/\mI p (R.settle p).ah)at h2
 change Kept R (R.settle p)at k
 generalize R.settle p=T at*;have hnf:=h1.ok.nf;have hl:(RS.of T.st).nf=T.nf:=by show(T.aK.take T.nf).length=_;simp;omega
 refine⟨h1.st,fun e=>?_,by show ga T.heap<=40;rw[k.heap];exact h.cells,by show T.ax.length<=24;rw[k.ax];exact h.outs,by show 0<=T.in_;rw[k.in_];exact h.gK,by show T.in_<=1000;rw[k.in_];exact h.gw⟩;rcases h2 with h2|⟨h2,h3⟩
 ·exact(e h2).elim
 ·unfold RS.ah at h3 ⊢;rw[hl,show nth (RS.of T.st).aK (T.nf-1)=nth T.aK (T.nf-1) from cd _ _ _ jB];exact h3
theorem cI.gM{s:aJ}(h:cI p s)(h2:s.status≠2)(c:Int)(hc:c≠2):bF p (RS.of { s with status:=c }):=by have hg:=h.inv.go h2;exact⟨⟨⟨h.inv.ok.nf,h.inv.ok.jp⟩,h.inv.aK,h.inv.fr,h.inv.busy,fun _=>hg⟩,rfl,hg,h.af h2,fun k hk=>BN _ _ _ hk,h.cells,h.outs,h.gK,h.gw⟩
theorem cI.with{p:ab}{s:aJ}(h:cI p s)(h2:s.status≠2)(c t n:Int):cI p { s with status:=c,aZ:=t,time:=n }:=by have hg:=h.inv.go h2;exact⟨⟨⟨h.inv.ok.nf,h.inv.ok.jp⟩,h.inv.aK,h.inv.fr,h.inv.busy,fun _=>hg⟩,fun _=>h.af h2,h.cells,h.outs,h.gK,h.gw⟩
theorem FU(hs:dx p){s:aJ}(h:cI p s){inp:List Int}(hn:inp.length<=1000):cI p (dn p s inp):=by
 unfold dn;split
 ·exact h
 rename_i e;have h2:¬(s.status=2\/s.status=3):=fun hh=>e (by unfold dK;rw[if_pos hh];decide)
 have e2:dK p s=cu p s:=by unfold dK;rw[if_neg h2]
 split
 ·exact h.with (fun hh=>h2 (.inl hh)) _ _ _
 rename_i ew;simp only;split
 ·exact h.with (fun hh=>h2 (.inl hh)) _ _ _
 rename_i et;have hd:=h.gM (fun hh=>h2 (.inl hh)) 0 jC;have hst:(RS.of { s with status:=0 }).st={ s with status:=0 }:=RS.fy _;have hat:cu p (RS.of { s with status:=0 }).st=dK p s:=by rw[hst,e2];rfl
 have ha:=hd.bT hs hn (by rw[hat];rw[hst];exact ew) (by rw[hat];exact Classical.not_not.1 et);rw[hat]at ha;exact dt.settled ⟨⟨⟨ha.inv.ok.nf,ha.inv.ok.jp⟩,ha.inv.aK,ha.inv.fr,ha.inv.busy,ha.inv.go⟩,ha.cells,ha.outs,ha.gK,ha.gw⟩
end Go.Proofs.YtfkgcobaheegbaaGreatDoor

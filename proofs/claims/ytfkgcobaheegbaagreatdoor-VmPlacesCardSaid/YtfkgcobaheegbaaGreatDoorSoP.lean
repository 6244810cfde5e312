/- Lemmas. No conditions. -/
import Derived.Test.YtfkgcobaheegbaaGreatDoorSoS
set_option linter.all false
set_option maxHeartbeats 1000000
set_option maxRecDepth 10000
namespace Go.Proofs.YtfkgcobaheegbaaGreatDoor
open Go Go.Gd
abbrev rV(v:ak):AV:=.agg (cI v)
end Go.Proofs.YtfkgcobaheegbaaGreatDoor
namespace Go.Gd
open Go
end Go.Gd
namespace Go.Proofs.YtfkgcobaheegbaaGreatDoor
open Go Go.Gd
theorem cS.at_{p:ab}(h:dT p){R:RS}(hI:cS p R)(h2:2<=R.nf):qP p R.pop.st:=by
 have hnf:=hI.ok.nf;have hf:=hI.aJ;have hpop:R.pop.Ok:=⟨by show R.nf-1<=R.aJ.length;omega,hI.ok.jp⟩;have ht:=RS.af hpop (by show 1<=R.nf-1;omega);have hl:R.pop.st.ao.length=R.nf-1:=by show(R.aJ.take (R.nf-1)).length=_;simp;omega
 exact Fg h jB jB (by rw[ht];exact hI.fr (R.nf-1-1) jB) (by rw[ht];exact hI.busy (R.nf-1-1) jB)
variable{t:Int}
theorem wK(h:1<=t/\t<=4):jU (vZ t)=true:=by
 have:t=1\/t=2\/t=3\/t=4:=jB
 rcases this with rfl|rfl|rfl|rfl<;>decide
theorem KR(slots:List ak)(k:Int)(h:1<=t/\t<=4):(df slots k t).ty=t/\jU (df slots k t)=true:=by
 unfold df;split
 ·exact⟨rfl,wK h⟩
 split
 ·rename_i hh;exact⟨hh.2,hh.1⟩
 ·exact⟨rfl,wK h⟩
theorem Lj{v:ak}(hm:jU v=true):v.s.size<=40:=by
 unfold jU at hm;split at hm
 ·have:v.s=sE:=by simpa using hm
  rw[this];decide
 split at hm
 ·simp only[Bool.and_eq_true,decide_eq_true_eq]at hm
  rw[hm.1];decide
 split at hm
 ·simp only[Bool.and_eq_true,decide_eq_true_eq]at hm
  omega
 split at hm
 ·simp only[Bool.and_eq_true,decide_eq_true_eq]at hm
  rw[hm.1];decide
 ·cases hm
def Told(r:ak×Int)(T:Int):Prop:=(r.2=0/\r.1.ty=T/\jU r.1=true)\/((r.2=1\/r.2=2\/r.2=6)/\r.1=v0)
theorem Told.size{r:ak×Int}{T:Int}(h:Told r T):r.1.s.size<=40:=by
 rcases h with⟨_,_,h⟩|⟨_,h⟩
 ·exact Lj h
 ·rw[h];decide
theorem tn(n:Int):Told (vI n,0) 1:=.inl ⟨rfl,rfl,rfl⟩
theorem BS(b:Bool):Told (vB b,0) 2:=.inl ⟨rfl,rfl,by cases b<;>decide⟩
variable{s:ByteArray}
theorem Cn(h:s.size<=40):Told (vT s,0) 3:=.inl ⟨rfl,rfl,by
 show jU ⟨3,0,s⟩=true;unfold jU;simp only;rw[if_neg jC,if_neg jC,if_pos trivial];simp;omega⟩
variable{T:Int}
theorem Ac(h:t=1\/t=2\/t=6):Told (v0,t) T:=.inr ⟨h,rfl⟩
theorem pr{c:Prop}[Decidable c]{x y:ak×Int}(h:c->Told x T)(k:¬c->Told y T):Told (if c then x else y) T:=by
 split
 ·exact h (by assumption)
 ·exact k (by assumption)
theorem NS(hs:s∈tp){a b:ak}(h:gJ s a.ty b.ty≠0):Told (ki s a b) (gJ s a.ty b.ty):=by
 have he:a.ty=b.ty:=by
  unfold gJ at h;split at h
  ·exact(h rfl).elim
  ·omega
 have h1:1<=a.ty/\a.ty<=4:=by
  unfold gJ at h;rw[jN]at h;split at h
  ·split at h<;>first|omega|exact(h rfl).elim
  split at h
  ·split at h<;>first|omega|exact(h rfl).elim
  split at h
  ·split at h<;>first|omega|exact(h rfl).elim
  split at h
  ·split at h<;>first|omega|exact(h rfl).elim
  ·split at h<;>first|omega|exact(h rfl).elim
 unfold ki;rw[jN];rcases(by omega:a.ty=1\/a.ty=2\/a.ty=3\/a.ty=4)with ta|ta|ta|ta<;>rw[<-he,ta]at h ⊢<;>unfold gJ at h ⊢<;>simp only[tp,List.mem_cons,List.not_mem_nil,or_false]at hs<;>rcases hs with rfl|rfl|rfl|rfl|rfl|rfl|rfl|rfl|rfl|rfl|rfl
 all_goals first|(exfalso;revert h;decide)|(simp(decide:=true) only[if_true,if_false,s9])
 all_goals first|exact tn _|exact BS _|exact pr (fun _=>Ac jB) (fun _=>tn _)|exact pr (fun _=>Ac jB) (fun _=>Cn (by rw[ByteArray.size_append];omega))
theorem Nn{a b:Int}(hs:s=(⟨#[124,124]⟩:ByteArray)\/s=(⟨#[38,38]⟩:ByteArray))(h:gJ s a b≠0):gJ s a b=2/\a=2/\b=2:=by
 unfold gJ at h ⊢;by_cases e:a=b
 ·rw[if_neg (fun h=>h e),if_pos hs]at h ⊢
  by_cases e2:a=2
  ·rw[if_pos e2];omega
  ·rw[if_neg e2]at h;exact(h rfl).elim
 ·rw[if_pos e]at h;exact(h rfl).elim
theorem tY{r:ak×Int}{U:Int}(h:Told r T)(hr:r.2≠0):Told (v0,r.2) U:=by
 rcases h with⟨h,_⟩|⟨h,_⟩
 ·exact(hr h).elim
 ·exact .inr ⟨h,rfl⟩
theorem qb{r:ak×Int}(h:Told r T)(hr:r.2=0):r.1.ty=T/\jU r.1=true:=by
 rcases h with⟨_,h⟩|⟨h,_⟩
 ·exact h
 ·omega
theorem H6{v:ak}(h:v.ty=1):Told (kI (⟨#[45]⟩:ByteArray) v,0) 1:=by
 unfold kI;rw[if_pos ⟨rfl,h⟩];exact tn _
theorem LL{v:ak}(h:v.ty=2):Told (kI (⟨#[33]⟩:ByteArray) v,0) 2:=by
 unfold kI;rw[if_neg (by rintro⟨h,_⟩;revert h;decide),if_pos ⟨rfl,h⟩];exact BS _
theorem sW{p:ab}(h:rX p)(slots:List ak)(heap:List (List Int)):∀(n:Nat) (a:Int),0<=a->a<p.aa.nodes.length->a.toNat<n->bO (bs p.aa.nodes a)->Told (dZ p slots heap n a) (nth p.types a.toNat)
 |0,a,_,_,hn,_=>by omega
 |n+1,a,h0,h1,hn,hk=>by
  have ih:=sW h slots heap n;have sh:=(h.aa.shape a.toNat jB);have ty:=h.ty a.toNat jB jB;have aw:∀i,i<(nth p.aa.nodes a.toNat).l.length->bO (bs p.aa.nodes (nth (nth p.aa.nodes a.toNat).l i))->Told (dZ p slots heap n (nth (nth p.aa.nodes a.toNat).l i)) (nth p.types (nth (nth p.aa.nodes a.toNat).l i).toNat):=fun i hi he=>by
   have:=sh.2.1 _ (dx hi);exact ih _ jB jB jB he
  have hkr:(nth p.aa.nodes a.toNat).kind=1\/(nth p.aa.nodes a.toNat).kind=2\/(nth p.aa.nodes a.toNat).kind=3\/(nth p.aa.nodes a.toNat).kind=4\/(nth p.aa.nodes a.toNat).kind=5\/(nth p.aa.nodes a.toNat).kind=6\/(nth p.aa.nodes a.toNat).kind=7\/(nth p.aa.nodes a.toNat).kind=8\/(nth p.aa.nodes a.toNat).kind=9:=by
   have:bO (nth p.aa.nodes a.toNat).kind:=hk;unfold bO at this;omega
  unfold dZ;simp only;rcases hkr with k|k|k|k|k|k|k|k|k
  ·rw[if_pos k,ty.int k];exact tn _
  ·rw[jN,if_pos k,ty.bool k];exact BS _
  ·rw[jN,jN,if_pos k,ty.text k]
   exact Cn (by have:=sh.1.text k;omega)
  ·rw[jN,jN,jN,if_pos k]
   have:=KR slots (nth p.slots a.toNat) (ty.var k);exact .inl ⟨rfl,this⟩
  ·obtain⟨x,hl,hx⟩:=sh.1.one jB
   have hx':nth (nth p.aa.nodes a.toNat).l 0=x:=by rw[hl];rfl
   have kx:=aw 0 (by rw[hl];simp) (by rw[hx'];exact hx);have t5:=ty.index k;rw[jN,jN,jN,jN];refine pr (fun hh=>tY kx hh) (fun hh=>?_);rw[if_pos k,t5.1];exact pr (fun _=>Ac jB) (fun _=>tn _)
  ·obtain⟨x,hl,hx⟩:=sh.1.one jB
   have hx':nth (nth p.aa.nodes a.toNat).l 0=x:=by rw[hl];rfl
   have kx:=aw 0 (by rw[hl];simp) (by rw[hx'];exact hx);have t5:=ty.len k;rw[jN,jN,jN,jN];refine pr (fun hh=>tY kx hh) (fun hh=>?_);rw[jN,jN,if_pos k,t5.1];exact pr (fun _=>tn _) (fun _=>tn _)
  ·obtain⟨x,hl,hx⟩:=sh.1.one jB
   have hx':nth (nth p.aa.nodes a.toNat).l 0=x:=by rw[hl];rfl
   have kx:=aw 0 (by rw[hl];simp) (by rw[hx'];exact hx);have t5:=ty.neg k;rw[jN,jN,jN,jN];refine pr (fun hh=>tY kx hh) (fun hh=>?_);rw[jN,jN,jN,if_pos k,t5.1];exact H6 ((qb kx jB).1.trans t5.2)
  ·obtain⟨x,hl,hx⟩:=sh.1.one jB
   have hx':nth (nth p.aa.nodes a.toNat).l 0=x:=by rw[hl];rfl
   have kx:=aw 0 (by rw[hl];simp) (by rw[hx'];exact hx);have t5:=ty.not k;rw[jN,jN,jN,jN];refine pr (fun hh=>tY kx hh) (fun hh=>?_);rw[jN,jN,jN,jN,t5.1];exact LL ((qb kx jB).1.trans t5.2)
  ·obtain⟨x,y,hl,hx,hy⟩:=sh.1.two jB
   have hx':nth (nth p.aa.nodes a.toNat).l 0=x:=by rw[hl];rfl
   have hy':nth (nth p.aa.nodes a.toNat).l 1=y:=by rw[hl];rfl
   have kx:=aw 0 (by rw[hl];simp) (by rw[hx'];exact hx);have ky:=aw 1 (by rw[hl];simp) (by rw[hy'];exact hy);obtain⟨t5,t6⟩:=ty.y8 k;rw[jN,jN,jN,jN];refine pr (fun hh=>tY kx hh) (fun hh=>?_);have ox:=qb kx jB;rw[jN,if_pos k];refine pr (fun he=>?_) (fun _=>?_)
   ·refine .inl ⟨rfl,?_,ox.2⟩
    show(dZ p slots heap n _).1.ty=_;rw[ox.1];rw[t5]at t6 ⊢;have hs:(nth p.aa.nodes a.toNat).name=(⟨#[124,124]⟩:ByteArray)\/(nth p.aa.nodes a.toNat).name=(⟨#[38,38]⟩:ByteArray):=by rcases he with he|he;exact .inl he.1;exact .inr he.1
    obtain⟨g1,g2,g3⟩:=Nn hs t6;rw[g1,g2]
   refine pr (fun hh2=>tY ky hh2) (fun hh2=>?_);have oy:=qb ky jB;rw[t5]at t6 ⊢;rw[<-ox.1,<-oy.1]at t6 ⊢;exact NS (sh.1.sign k) t6
theorem Ao{p:ab}(h:aH p.aa)(slots:List ak)(heap:List (List Int)):∀(n m:Nat) (a:Int),0<=a->a<p.aa.nodes.length->a.toNat<n->a.toNat<m->bO (bs p.aa.nodes a)->dZ p slots heap n a=dZ p slots heap m a
 |0,m,a,_,_,hn,_,_=>by omega
 |n+1,0,a,_,_,_,hm,_=>jB
 |n+1,m+1,a,h0,h1,hn,hm,hk=>by
  have sh:=(h.shape a.toNat jB);have aw:∀i,i<(nth p.aa.nodes a.toNat).l.length->bO (bs p.aa.nodes (nth (nth p.aa.nodes a.toNat).l i))->dZ p slots heap n (nth (nth p.aa.nodes a.toNat).l i)=dZ p slots heap m (nth (nth p.aa.nodes a.toNat).l i):=fun i hi he=>by
   have:=sh.2.1 _ (dx hi);exact Ao h slots heap n m _ jB jB jB jB he
  have hkr:(nth p.aa.nodes a.toNat).kind=1\/(nth p.aa.nodes a.toNat).kind=2\/(nth p.aa.nodes a.toNat).kind=3\/(nth p.aa.nodes a.toNat).kind=4\/((nth p.aa.nodes a.toNat).kind=5\/(nth p.aa.nodes a.toNat).kind=6\/(nth p.aa.nodes a.toNat).kind=7\/(nth p.aa.nodes a.toNat).kind=8)\/(nth p.aa.nodes a.toNat).kind=9:=by
   have:bO (nth p.aa.nodes a.toNat).kind:=hk;unfold bO at this;omega
  unfold dZ;simp only;rcases hkr with k|k|k|k|k|k
  ·rw[if_pos k,if_pos k]
  ·rw[jN,if_pos k,jN,if_pos k]
  ·rw[jN,jN,if_pos k,jN,jN,if_pos k]
  ·rw[jN,jN,jN,if_pos k,jN,jN,jN,if_pos k]
  ·obtain⟨x,hl,hx⟩:=sh.1.one jB
   have hx':nth (nth p.aa.nodes a.toNat).l 0=x:=by rw[hl];rfl
   rw[aw 0 (by rw[hl];simp) (by rw[hx'];exact hx)];have h9:¬(nth p.aa.nodes a.toNat).kind=9:=jB
   simp only[if_neg h9]
  ·obtain⟨x,y,hl,hx,hy⟩:=sh.1.two jB
   have hx':nth (nth p.aa.nodes a.toNat).l 0=x:=by rw[hl];rfl
   have hy':nth (nth p.aa.nodes a.toNat).l 1=y:=by rw[hl];rfl
   rw[aw 0 (by rw[hl];simp) (by rw[hx'];exact hx),aw 1 (by rw[hl];simp) (by rw[hy'];exact hy)]
end Go.Proofs.YtfkgcobaheegbaaGreatDoor
namespace Go.Gd
open Go
theorem RS.gM{R:RS}(h:R.Ok)(h1:1<=R.nf)(f:aI):(R.aQ (R.nf-1) f).ah=f:=by
 show nth (R.aQ (R.nf-1) f).aJ (R.nf-1)=f;rw[RS.bc (by have:=h.nf;omega),if_pos rfl]
structure Kept(R R':RS):Prop where
 heap:R'.heap=R.heap
 in_:R'.in_=R.in_
 ay:R'.ay=R.ay
 bn:R'.bn=R.bn
 time:R'.time=R.time
theorem Kept.refl(R:RS):Kept R R:=⟨rfl,rfl,rfl,rfl,rfl⟩
theorem Kept.trans{a b c:RS}(h:Kept a b)(k:Kept b c):Kept a c:=⟨k.heap.trans h.heap,k.in_.trans h.in_,k.ay.trans h.ay,k.bn.trans h.bn,k.time.trans h.time⟩
theorem yN(R:RS)(p:ab)(v:ak):Kept R (R.bI p v):=by
 unfold RS.bI;split
 ·exact⟨rfl,rfl,rfl,rfl,rfl⟩
 ·split<;>exact⟨rfl,rfl,rfl,rfl,rfl⟩
theorem qe(p:ab):∀(n:Nat) (R:RS),Kept R (lB p n R)
 |0,R=>Kept.refl R
 |n+1,R=>by
  unfold lB;split
  ·exact Kept.refl R
  split
  ·exact(yN R p _).trans (qe p n _)
  split
  ·exact Kept.refl R
  ·exact Kept.trans (b:=R.cut) ⟨rfl,rfl,rfl,rfl,rfl⟩ (qe p n _)
theorem RS.rj(s:aK):(RS.of s).Ok:=⟨Nat.le_refl _,by show(s.ao.map _).length=_;simp[RS.of]⟩
theorem RS.fW(s:aK):(RS.of s).st=s:=by
 show aK.mk (s.ao.take s.ao.length) s.heap s.in_ s.ay s.status s.bn s.time=s;rw[List.take_length]
end Go.Gd
namespace Go.Proofs.YtfkgcobaheegbaaGreatDoor
open Go Go.Gd
theorem cS.aQ{p:ab}{R:RS}(h:cS p R)(h1:1<=R.nf){f:aI}(hf:dc p f):cS p (R.aQ (R.nf-1) f):=by
 have hnf:=h.ok.nf;have hu:=fun k=>RS.bc (R:=R) (k:=R.nf-1) jB f k
 have hl:(R.aQ (R.nf-1) f).aJ.length=R.aJ.length:=RS.bB.symm;refine⟨⟨by rw[hl];exact hnf,by rw[hl];exact h.ok.jp⟩,by rw[hl];exact h.aJ,fun k hk=>?_,fun k hk=>?_,h.go⟩
 ·rw[hu];split
  ·exact hf
  ·exact h.fr k hk
 ·have hk:k+1<R.nf:=hk
  rw[hu,jN];exact h.busy k hk
theorem cS.on{p:ab}{R:RS}(h:cS p R)(h1:1<=R.nf)(hb:lH p R.ah):cS p R.on:=h.aQ h1 (yQ (h.fr (R.nf-1) jB) hb)
variable{α:Type}
theorem xC[Inhabited α](l:List α)(x:α)(k:Nat)(h:k<=l.length):nth (l++[x]) k=if k=l.length then x else nth l k:=by
 by_cases e:k=l.length
 ·subst e;rw[if_pos rfl,ng]
 ·rw[if_neg e,mS jB]
theorem cS.push{p:ab}{R:RS}(h:cS p R)(hfull:R.nf=R.aJ.length)(h8:R.nf<8)(hb:1<=R.nf->lH p R.ah){f:aI}(hf:dc p f):cS p (R.push f):=by
 have hu:∀k,k<=R.nf->nth (R.push f).aJ k=if k=R.nf then f else nth R.aJ k:=fun k hk=>by
  show nth (R.aJ++[f]) k=_;rw[xC _ _ _ jB,hfull]
 have hjp:=h.ok.jp;refine⟨⟨by show R.nf+1<=(R.aJ++[f]).length;simp;omega,by show(R.jp++[[]]).length=(R.aJ++[f]).length;simp;omega⟩,by show(R.aJ++[f]).length<=8;simp;omega,fun k hk=>?_,fun k hk=>?_,fun _=>by show 1<=R.nf+1;omega⟩
 ·have hk:k<R.nf+1:=hk
  rw[hu k jB];split
  ·exact hf
  ·exact h.fr k jB
 ·have hk:k+1<R.nf+1:=hk
  rw[hu k jB,jN];by_cases e:k+1=R.nf
  ·have:=hb jB
   unfold RS.ah at this;rwa [show R.nf-1=k from jB]at this
  ·exact h.busy k jB
variable{p:ab}
theorem DK{f:aI}(h:dc p f){b:Int}(hp:j6 p f.fn ⟨b,0⟩)(hd:∀x∈f.path,b<x.block):dc p { f with path:=f.path++[⟨b,0⟩] }:=by
 refine⟨h.f0,h.f1,h.sl,fun x hx=>?_,?_⟩
 ·rcases List.mem_append.1 hx with hx|hx
  ·exact h.pl x hx
  ·have:x=⟨b,0⟩:=by simpa using hx
   subst this;exact hp
 ·show List.Pairwise _ ((f.path++[(⟨b,0⟩:aZ)]).map fun x:aZ=>x.block)
  rw[List.map_append,List.pairwise_append];refine⟨h.dec,jE,fun x hx y hy=>?_⟩;obtain⟨z,hz,rfl⟩:=List.mem_map.1 hx;have:y=b:=by simpa using hy
  subst this;exact hd z hz
theorem dc.last{f:aI}(h:dc p f)(hne:f.path≠[]):∀x∈f.path,f.pl.block<=x.block:=fun x hx=>by
 obtain⟨i,hi,rfl⟩:=List.getElem_of_mem hx;have hl:=List.length_pos_iff.2 hne;unfold aI.pl;by_cases e:i=f.path.length-1
 ·subst e;rw[dN jB];exact Int.le_refl _
 ·have:=List.pairwise_iff_getElem.1 (List.pairwise_map.1 h.dec) i (f.path.length-1) hi jB jB
  rw[dN jB];omega
theorem zU(h:dT p){k:Nat}(hk:k<p.aa.ap.length){args:List ak}(ha:args.length=(nth p.aa.ap k).params.length):dc p (iJ p k args)/\(nth p.size k).toNat=(iJ p k args).slots.length/\0<=nth p.size k/\nth p.size k<=24:=by
 have hs:=h.ap k hk;have h1:=hs.vV;have h2:=hs.hi;have hb:=h.ok.aa.body (nth p.aa.ap k) (dx hk);have hn:=ot h.ok.aa hk;have hl:(iJ p k args).slots.length=(nth p.size k).toNat:=by
  show(args++List.replicate _ v0).length=_;rw[Int.toNat_natCast]<;>(try simp)<;>omega
 have hch:=hs.chain.le;refine⟨⟨by show(0:Int)<=(k:Int);omega,by show(k:Int)<_;omega,?_,fun x hx=>?_,by simp[iJ]⟩,hl.symm,jB,h2⟩
 ·rw[hl];show _=nth p.size (k:Int).toNat;rw[Int.toNat_natCast];omega
 ·have:x=⟨(nth p.aa.ap k).body,0⟩:=by simpa[iJ]using hx
  subst this;show j6 p (k:Int) _;refine⟨hn.1,?_,?_,hb,Int.le_refl _,by show(0:Int)<=_;omega⟩
  ·rw[Int.toNat_natCast];exact hch
  ·rw[Int.toNat_natCast];exact Nat.le_refl _
theorem AL{α:Type}[Inhabited α](f:α->ByteArray)(nm:ByteArray):∀(l:List α) (i:Int),(∃v∈l,f v=nm)->i<=fX f nm l i/\fX f nm l i<i+l.length/\f (nth l (fX f nm l i-i).toNat)=nm
 |[],_,h=>by obtain⟨v,hv,_⟩:=h;simp at hv
 |v::l,i,h=>by
  unfold fX;by_cases hv:f v=nm
  ·rw[if_pos hv]
   refine⟨Int.le_refl _,by simp;omega,?_⟩;rw[show(i-i).toNat=0 from jB];exact hv
  ·rw[if_neg hv]
   obtain⟨u,hu,hh⟩:=h;have hu:u∈l:=by
    rcases List.mem_cons.1 hu with rfl|hu
    ·exact(hv hh).elim
    ·exact hu
   obtain⟨a,b,c⟩:=AL f nm l (i+1) ⟨u,hu,hh⟩;refine⟨jB,by simp;omega,?_⟩;rw[show(fX f nm l (i+1)-i).toNat=(fX f nm l (i+1)-(i+1)).toNat+1 from jB];exact c
theorem Ge{α:Type}(f:α->ByteArray)(nm:ByteArray):∀(l:List α) (i k:Int),iF f nm l i k≠k->∃v∈l,f v=nm
 |[],_,_,h=>(h rfl).elim
 |v::l,i,k,h=>by
  unfold iF at h;by_cases hv:f v=nm
  ·exact⟨v,jE,hv⟩
  ·rw[if_neg hv]at h
   obtain⟨u,hu,hh⟩:=Ge f nm l _ _ h;exact⟨u,by simp[hu],hh⟩
structure Callee(p:ab)(a:Int)(k:Nat):Prop where
 lt:k<p.aa.ap.length
 at_:fX aW.name (ai p a).name p.aa.ap 0=k
 last:iF aW.name (ai p a).name p.aa.ap 0 (-1)=k
 name:(nth p.aa.ap k).name=(ai p a).name
 args:(ai p a).l.length=(nth p.aa.ap k).params.length
 B3:(ai p a).l.length<=3
theorem callee(h:dT p){a:Int}(h0:a.toNat<p.aa.nodes.length)(hk:(ai p a).kind=21):∃k,Callee p a k:=by
 obtain⟨h1,h2⟩:=(h.ok.ty a.toNat jB h0).call hk;have hx:=Ge aW.name (ai p a).name p.aa.ap 0 (-1) (by show iF aW.name (nth p.aa.nodes a.toNat).name p.aa.ap 0 (-1)≠-1;omega);have e:=Ci aW.name (ai p a).name p.aa.ap 0 (-1) (fun a b=>h.names.one a b) hx;obtain⟨f1,f2,f3⟩:=AL aW.name (ai p a).name p.aa.ap 0 hx;refine⟨(fX aW.name (ai p a).name p.aa.ap 0).toNat,jB,jB,jB,?_,?_,?_⟩
 ·rwa [Int.sub_zero]at f3
 ·unfold ai at e ⊢;rw[<-e];exact h2
 ·have hm:=(h.ok.aa.fn _ (dx (l:=p.aa.ap) (k:=(fX aW.name (ai p a).name p.aa.ap 0).toNat) jB)).2
  unfold ai at e hm ⊢;rw[<-e]at hm;rw[h2];exact hm
structure bE(p:ab)(R:RS):Prop where
 inv:cS p R
 full:R.nf=R.aJ.length
 one:1<=R.nf
 af:lH p R.ah
 jp:∀k,k<R.aJ.length->nth R.jp k=[]
 cells:fg R.heap<=40
 outs:R.ay.length<=24
 gT:0<=R.in_
 gG:R.in_<=1000
variable{R:RS}
theorem bE.qS(h:bE p R):R.st.af=R.ah:=RS.af h.inv.ok h.one
theorem bE.cB(hs:dT p)(h:bE p R):qP p R.st:=by
 have h1:=h.one;have h2:=h.full;have h3:=h.inv.aJ;have hl:R.st.ao.length=R.nf:=by show(R.aJ.take R.nf).length=_;simp;omega
 exact Fg hs jB jB (by rw[h.qS];exact h.inv.fr _ jB) (by rw[h.qS];exact h.af)
theorem bE.stmt(hs:dT p)(h:bE p R):0<=cn p R.st/\(cn p R.st).toNat<p.aa.nodes.length/\dv (bs p.aa.nodes (cn p R.st))/\nK p.aa R.ah.fn.toNat<=(cn p R.st).toNat/\(cn p R.st).toNat<R.ah.pl.block.toNat/\R.ah.pl.block.toNat<=(nth p.aa.ap R.ah.fn.toNat).body.toNat:=by
 have hf:=h.inv.fr (R.nf-1) (by have:=h.one;omega);have hf:dc p R.ah:=hf;have hx:=hf.pl _ (lI h.af.1);have hb:=h.af.2;have ha0:=hx.a0;have hb0:=hx.b0;have hi:=hx.in_ hs hf.f0 hf.f1;have hm:cn p R.st∈dm p R.ah.pl.block:=by unfold cn;rw[h.qS];exact dx jB
 obtain⟨k0,k1,k2,k3⟩:=hx.aw hs hf.f0 hf.f1 hm;exact⟨k0,jB,k3,k2,k1,hx.hi⟩
theorem E2(h:dT p)(R:RS){a:Int}(h0:0<=a)(h1:a.toNat<p.aa.nodes.length)(hk:bO (bs p.aa.nodes a)):Told (R.val p a) (nth p.types a.toNat):=sW h.ok R.ah.slots R.heap _ a h0 jB jB hk
theorem FC{p:ab}(R:RS):∀(l:List Int) (a:List ak),(R.args p l a).2=0->(R.args p l a).1.length=a.length+l.length
 |[],a,_=>by simp[RS.args]
 |x::l,a,h=>by
  unfold RS.args at h ⊢;split
  ·rename_i e;rw[if_pos e]at h;exact(e h).elim
  ·rename_i e;rw[if_neg e]at h
   rw[FC R l _ h];simp;omega
theorem z7(l:List Int):io 0 l=l.length:=by simp[io]
theorem lK:∀(h:List (List Int)) (n:Int),h.foldl io n=n+h.foldl io (0:Int)
 |[],n=>by simp[List.foldl]
 |x::h,n=>by
  simp only[List.foldl_cons];rw[lK h (io n x),lK h (io 0 x)];unfold io;omega
theorem E3(h:List (List Int))(x:List Int):fg (h++[x])=fg h+x.length+1:=by
 unfold fg;rw[List.foldl_append,List.foldl_cons,List.foldl_nil,List.length_append,lK h _,lK h (h.length:Int)];unfold io;simp;omega
theorem vP:∀(h:List (List Int)),0<=h.foldl io (0:Int)
 |[]=>by simp
 |x::h=>by
  simp only[List.foldl_cons];rw[lK,z7];have:=vP h;omega
theorem xc(h:List (List Int)):(h.length:Int)<=fg h:=by
 unfold fg;rw[lK];have:=vP h;omega
theorem EC:∀(h:List (List Int)) (i:Nat) (x:List Int),i<h.length->x.length=(nth h i).length->(h.set i x).foldl io (0:Int)=h.foldl io 0
 |[],i,x,hi,_=>by simp at hi
 |y::h,0,x,_,e=>by
  have e:x.length=y.length:=e;simp only[List.set_cons_zero,List.foldl_cons,io,e]
 |y::h,i+1,x,hi,e=>by
  simp only[List.set_cons_succ,List.foldl_cons];rw[lK (h.set i x) (io 0 y),lK h (io 0 y),EC h i x (by simpa using hi) e]
theorem At(h:List (List Int))(i:Nat)(x:List Int)(hi:i<h.length)(e:x.length=(nth h i).length):fg (h.set i x)=fg h:=by
 unfold fg;rw[List.length_set,lK (h.set i x) (h.length:Int),lK h (h.length:Int),EC h i x hi e]
theorem EI:∀(h:List (List Int)) (i:Nat),i<h.length->((nth h i).length:Int)<=h.foldl io 0
 |[],i,hi=>by simp at hi
 |y::h,0,_=>by
  simp only[List.foldl_cons];rw[lK,z7];have:=vP h;show(y.length:Int)<=_;omega
 |y::h,i+1,hi=>by
  simp only[List.foldl_cons];rw[lK,z7];have:=EI h i (by simpa using hi);show((nth h i).length:Int)<=_;omega
theorem AB(h:List (List Int))(i:Nat)(hi:i<h.length):((nth h i).length:Int)+h.length<=fg h:=by
 unfold fg;rw[lK];have:=EI h i hi;omega
structure di(p:ab)(R:RS):Prop where
 inv:cS p R
 cells:fg R.heap<=40
 outs:R.ay.length<=24
 gT:0<=R.in_
 gG:R.in_<=1000
theorem di.of{R':RS}(h:bE p R)(hi:cS p R')(k:Kept R R'):di p R':=⟨hi,by rw[k.heap];exact h.cells,by rw[k.ay];exact h.outs,by rw[k.in_];exact h.gT,by rw[k.in_];exact h.gG⟩
theorem bE.with{p:ab}{R:RS}(h:bE p R){hp:List (List Int)}{i:Int}{o:List ByteArray}(h1:fg hp<=40)(h2:0<=i/\i<=1000)(h3:o.length<=24):bE p { R with heap:=hp,in_:=i,ay:=o }:=
 ⟨⟨⟨h.inv.ok.nf,h.inv.ok.jp⟩,h.inv.aJ,h.inv.fr,h.inv.busy,h.inv.go⟩,h.full,h.one,h.af,h.jp,h1,h3,h2.1,h2.2⟩
theorem bE.store{p:ab}{R:RS}(h:bE p R)(node:Int)(v:ak):di p (R.store p node v):=by
 have h1:=h.one;have hf:=DP (h.inv.fr (R.nf-1) jB) (nth p.slots node.toNat).toNat v;have hi:cS p (R.fC p node v):=h.inv.aQ h1 hf;have ht:(R.fC p node v).ah=_:=RS.gM h.inv.ok h1 _;have hb:lH p (R.fC p node v).ah:=by rw[ht];exact h.af
 exact di.of h (hi.on h1 hb) ⟨rfl,rfl,rfl,rfl,rfl⟩
theorem bE.on{p:ab}{R:RS}(h:bE p R):di p R.on:=di.of h (h.inv.on h.one h.af) ⟨rfl,rfl,rfl,rfl,rfl⟩
theorem bE.block{p:ab}(hs:dT p){R:RS}(h:bE p R){b:Int}(hb:b∈(ai p (cn p R.st)).l)(hk:bs p.aa.nodes b=18):j6 p R.ah.fn ⟨b,0⟩/\b<R.ah.pl.block/\0<=b/\b.toNat<p.aa.nodes.length:=by
 obtain⟨s0,s1,s2,s3,s4,s5⟩:=h.stmt hs;have sh:=hs.ok.aa.shape _ s1;have hbl:=sh.2.1 b hb;have hf:dc p R.ah:=h.inv.fr (R.nf-1) (by have:=h.one;omega);have hlo:nK p.aa R.ah.fn.toNat<=b.toNat:=by
  have hc:=(hs.ap R.ah.fn.toNat (by have:=hf.f0;have:=hf.f1;omega)).chain;exact hc.closed _ s3 jB b hb
 exact⟨⟨hbl.1,hlo,by show b.toNat<=_;omega,hk,Int.le_refl _,by show(0:Int)<=_;omega⟩,jB,hbl.1,jB⟩
theorem bE.bq{p:ab}(hs:dT p){R R':RS}(h:bE p R){b:Int}(hb:b∈(ai p (cn p R.st)).l)(hk:bs p.aa.nodes b=18)(hR:R'=R\/R'=R.on):di p (R'.bq b):=by
 have h1:=h.one;obtain⟨b1,b2,b3,b4⟩:=h.block hs hb hk;have hf:dc p R.ah:=h.inv.fr (R.nf-1) jB;rcases hR with rfl|rfl
 ·exact di.of h (h.inv.aQ h1 (DK hf b1 fun x hx=>by have:=hf.last h.af.1 x hx;omega)) ⟨rfl,rfl,rfl,rfl,rfl⟩
 ·have hi:=h.inv.on h1 h.af
  have ht:R.on.ah=fz R.ah:=RS.gM h.inv.ok h1 _;have hf':=yQ hf h.af;have hl:∀x∈(fz R.ah).path,b<x.block:=fun x hx=>by
   rcases tP hx with rfl|hx
   ·exact b2
   ·have:=hf.last h.af.1 x hx;omega
  refine di.of h (hi.aQ h1 (f:={ R.on.ah with path:=R.on.ah.path++[⟨b,0⟩] }) ?_) ⟨rfl,rfl,rfl,rfl,rfl⟩;rw[ht];exact DK hf' b1 hl
theorem bE.call{p:ab}(hs:dT p){R:RS}(h:bE p R){a:Int}(h0:a.toNat<p.aa.nodes.length)(hk:(ai p a).kind=21)(he:(R.call p a).2=0):di p (R.call p a).1:=by
 obtain⟨k,hc⟩:=callee hs h0 hk;unfold RS.call at he ⊢;simp only at he ⊢;split at he
 ·rename_i e;exact(e he).elim
 rename_i e;rw[if_neg e];split at he
 ·exact((by decide:¬((3:Int)=0)) he).elim
 rename_i e8;rw[if_neg e8,hc.at_];have hl:=FC R _ [] (Classical.not_not.1 e);exact di.of h (h.inv.push h.full jB (fun _=>h.af) (zU hs hc.lt (by rw[hl];simpa using hc.args)).1) ⟨rfl,rfl,rfl,rfl,rfl⟩
theorem bE.fresh{p:ab}{R:RS}(h:bE p R)(x:Int)(he:(R.fresh p x).2.2=0):bE p (R.fresh p x).1:=by
 unfold RS.fresh at he ⊢;simp only at he ⊢;split at he
 ·rename_i e;exact(e he).elim
 rename_i e;rw[if_neg e];split at he
 ·exact((by decide:¬((7:Int)=0)) he).elim
 rename_i e1;rw[if_neg e1];split at he
 ·exact((by decide:¬((4:Int)=0)) he).elim
 rename_i e2;rw[if_neg e2];refine h.with (hp:=R.heap++[List.replicate _ 0]) (i:=R.in_) (o:=R.ay) ?_ ⟨h.gT,h.gG⟩ h.outs
 rw[E3];simp;omega
theorem bE.cr{p:ab}(hs:dT p){R:RS}(h:bE p R){inp:List Int}(hn:inp.length<=1000)(hw:¬mf p R.st (cn p R.st) inp)(he:(R.cr p (cn p R.st) inp).2=0):di p (R.cr p (cn p R.st) inp).1:=by
 obtain⟨s0,s1,s2,_⟩:=h.stmt hs;have sh:=(hs.ok.aa.shape _ s1);generalize hnode:cn p R.st=node at*;have aw:∀i,i<(ai p node).l.length->0<=nth (ai p node).l i/\(nth (ai p node).l i).toNat<p.aa.nodes.length:=fun i hi=>by
  have:=sh.2.1 _ (dx (l:=(ai p node).l) hi);omega
 have hblk:∀b,b∈(ai p node).l->bs p.aa.nodes b=18->∀R',(R'=R\/R'=R.on)->di p (R'.bq b):=fun b hb hk R' hR=>h.bq hs (by rw[hnode];exact hb) hk hR
 unfold RS.cr at he ⊢;simp only at he ⊢;split at he
 ·rename_i e
  rw[if_pos e];obtain⟨a,ha,hr⟩:=sh.1.right e;have hla:(ai p node).l=[a]:=ha;have ha0:=aw 0 (by rw[hla];simp);have hx:nth (ai p node).l 0=a:=by rw[hla];rfl
  rw[hx]at ha0;unfold RS.right at he ⊢;simp only[hx]at he ⊢;split at he
  ·rename_i e1;rw[if_pos e1];exact h.call hs ha0.2 e1 he
  rename_i e1;rw[if_neg e1];split at he
  ·rename_i e2;rw[if_pos e2]
   have hin:¬((inp.length:Int)<=R.in_):=fun hle=>hw ⟨e,by rw[hx];exact e2,hle⟩
   have hd:bE p { R with in_:=R.in_+1 }:=h.with (hp:=R.heap) (i:=R.in_+1) (o:=R.ay) h.cells ⟨by have:=h.gT;omega,jB⟩ h.outs
   exact hd.store node _
  rename_i e2;rw[if_neg e2];split at he
  ·rename_i e3;rw[if_pos e3]
   split at he
   ·rename_i e4;rw[if_pos e4]
    exact(h.fresh a e4).store node _
   ·rename_i e4;exact(e4 he).elim
  rename_i e3;rw[if_neg e3];split at he
  ·rename_i e4;rw[if_pos e4];exact h.store node _
  ·rename_i e4;exact(e4 he).elim
 rename_i e;rw[if_neg e];split at he
 ·rename_i e1;rw[if_pos e1]
  obtain⟨a,ha,hr⟩:=sh.1.mR e1;have hla:(ai p node).l=[a]:=ha;have ha0:=aw 0 (by rw[hla];simp);have hx:nth (ai p node).l 0=a:=by rw[hla];rfl
  rw[hx]at ha0 he ⊢;exact h.call hs ha0.2 hr he
 rename_i e1;rw[if_neg e1];split at he
 ·rename_i e2;rw[if_pos e2]
  unfold RS.put at he ⊢;simp only at he ⊢;split at he
  ·rename_i e3;exact(e3 he).elim
  rename_i e3;rw[if_neg e3];split at he
  ·rename_i e4;exact(e4 he).elim
  rename_i e4;rw[if_neg e4];split at he
  ·exact((by decide:¬((2:Int)=0)) he).elim
  rename_i e5;rw[if_neg e5];have hg:(lg R.heap (df R.ah.slots (nth p.slots node.toNat) 4)).length≠0:=jB
  generalize hv:df R.ah.slots (nth p.slots node.toNat) 4=v at*;unfold lg at hg;split at hg
  ·simp at hg
  rename_i e6;exact(h.with (hp:=R.heap.set _ _) (i:=R.in_) (o:=R.ay) (by rw[At _ _ _ jB jE];exact h.cells) ⟨h.gT,h.gG⟩ h.outs).on
 rename_i e2;rw[if_neg e2];split at he
 ·rename_i e3;rw[if_pos e3]
  split at he
  ·rename_i e4;rw[if_pos e4]
   exact di.of h (h.inv.bI h.one v0).1 (yN R p v0)
  rename_i e4;rw[if_neg e4];split at he
  ·rename_i e5;exact(e5 he).elim
  rename_i e5;rw[if_neg e5];exact di.of h (h.inv.bI h.one _).1 (yN R p _)
 rename_i e3;rw[if_neg e3];split at he
 ·rename_i e4;exact(e4 he).elim
 rename_i e4;rw[if_neg e4];split at he
 ·rename_i e5;rw[if_pos e5]
  split at he
  ·exact((by decide:¬((5:Int)=0)) he).elim
  rename_i e6;rw[if_neg e6];exact(h.with (hp:=R.heap) (i:=R.in_) (o:=R.ay++[_]) h.cells ⟨h.gT,h.gG⟩ jF).on
 rename_i e5;rw[if_neg e5];split at he
 ·rename_i e6;rw[if_pos e6]
  obtain⟨a,b,h1,h2,hl⟩:=sh.1.kg e6;split
  ·refine hblk _ ?_ ?_ _ (.inr rfl)
   ·rcases hl with hl|⟨d,hl,_⟩<;>(show nth (ai p node).l 1∈(ai p node).l;unfold ai;rw[hl];simp[nth])
   ·rcases hl with hl|⟨d,hl,_⟩<;>(unfold ai;rw[hl];exact h2)
  split
  ·rename_i e8
   rcases hl with hl|⟨d,hl,hd⟩
   ·exfalso;unfold ai at e8;rw[hl]at e8;simp at e8
   ·refine hblk _ ?_ ?_ _ (.inr rfl)
    ·unfold ai;rw[hl];simp[nth]
    ·unfold ai;rw[hl];exact hd
  ·exact h.on
 rename_i e6;rw[if_neg e6];split at he
 ·rename_i e7;rw[if_pos e7]
  obtain⟨a,b,hl,h1,h2⟩:=sh.1.dK e7;split
  ·refine hblk _ ?_ ?_ _ (.inl rfl)
   ·unfold ai;rw[hl];simp[nth]
   ·unfold ai;rw[hl];exact h2
  ·exact h.on
 ·rename_i e7
  exfalso;have:dv (ai p node).kind:=s2;unfold dv at this;omega
theorem rp{p:ab}:∀(n:Nat) (R:RS),cS p R->R.left<n->cS p (lB p n R)/\((lB p n R).status=2\/(1<=(lB p n R).nf/\lH p (lB p n R).ah))
 |0,R,_,h=>by omega
 |n+1,R,hI,hn=>by
  unfold lB;split
  ·rename_i e;exact⟨hI,.inl e⟩
  rename_i e;have hg:=hI.go e;split
  ·obtain⟨a,b,_⟩:=hI.bI hg (vZ (nth p.aa.ap R.ah.fn.toNat).ret)
   exact rp n _ a jB
  rename_i e1;split
  ·rename_i e2;exact⟨hI,.inr ⟨hg,fun h=>e1 (by rw[h];rfl),e2⟩⟩
  ·obtain⟨a,b⟩:=hI.cut hg e1
   exact rp n _ a jB
structure cV(p:ab)(s:aK):Prop where
 inv:cS p (RS.of s)
 af:s.status≠2->lH p (RS.of s).ah
 cells:fg s.heap<=40
 outs:s.ay.length<=24
 gT:0<=s.in_
 gG:s.in_<=1000
theorem ca[Inhabited α](l:List α)(n k:Nat)(h:k<n):nth (l.take n) k=nth l k:=by
 unfold nth;rw[List.getD_eq_getElem?_getD,List.getElem?_take,if_pos h,List.getD_eq_getElem?_getD]
theorem z6[Inhabited α]{β:Type}(l:List β)(x:α)(k:Nat)(h:k<l.length):nth (l.map fun _=>x) k=x:=by
 rw[dN (by simpa using h)];simp
theorem cS.st{p:ab}{R:RS}(h:cS p R):cS p (RS.of R.st):=by
 have hnf:=h.ok.nf;have hl:(RS.of R.st).nf=R.nf:=by show(R.aJ.take R.nf).length=_;simp;omega
 have hfr:∀k,k<R.nf->nth (RS.of R.st).aJ k=nth R.aJ k:=fun k hk=>ca _ _ _ hk
 refine⟨RS.rj _,?_,fun k hk=>?_,fun k hk=>?_,fun e=>?_⟩
 ·have:=h.aJ;show(R.aJ.take R.nf).length<=8;simp;omega
 ·rw[hl]at hk;rw[hfr k hk];exact h.fr k hk
 ·rw[hl]at hk;rw[hfr k jB];exact h.busy k hk
 ·rw[hl];exact h.go e
theorem di.settled(h:di p R):cV p (R.settle p).st:=by
 obtain⟨h1,h2⟩:=rp (R.left+1) R h.inv jB;have k:=qe p (R.left+1) R;change cS p (R.settle p)at h1
 change (R.settle p).status=2\/(1<=(R.settle p).nf/\lH p (R.settle p).ah)at h2
 change Kept R (R.settle p)at k
 generalize R.settle p=T at*;have hnf:=h1.ok.nf;have hl:(RS.of T.st).nf=T.nf:=by show(T.aJ.take T.nf).length=_;simp;omega
 refine⟨h1.st,fun e=>?_,by show fg T.heap<=40;rw[k.heap];exact h.cells,by show T.ay.length<=24;rw[k.ay];exact h.outs,by show 0<=T.in_;rw[k.in_];exact h.gT,by show T.in_<=1000;rw[k.in_];exact h.gG⟩;rcases h2 with h2|⟨h2,h3⟩
 ·exact(e h2).elim
 ·unfold RS.ah at h3 ⊢
  rw[hl,show nth (RS.of T.st).aJ (T.nf-1)=nth T.aJ (T.nf-1) from ca _ _ _ jB];exact h3
theorem cV.iE{s:aK}(h:cV p s)(h2:s.status≠2)(c:Int)(hc:c≠2):bE p (RS.of { s with status:=c }):=by
 have hg:=h.inv.go h2;exact⟨⟨⟨h.inv.ok.nf,h.inv.ok.jp⟩,h.inv.aJ,h.inv.fr,h.inv.busy,fun _=>hg⟩,rfl,hg,h.af h2,fun k hk=>z6 _ _ _ hk,h.cells,h.outs,h.gT,h.gG⟩
theorem cV.with{p:ab}{s:aK}(h:cV p s)(h2:s.status≠2)(c t n:Int):cV p { s with status:=c,bn:=t,time:=n }:=by
 have hg:=h.inv.go h2;exact⟨⟨⟨h.inv.ok.nf,h.inv.ok.jp⟩,h.inv.aJ,h.inv.fr,h.inv.busy,fun _=>hg⟩,fun _=>h.af h2,h.cells,h.outs,h.gT,h.gG⟩
theorem E5(hs:dT p){s:aK}(h:cV p s){inp:List Int}(hn:inp.length<=1000):cV p (hZ p s inp):=by
 unfold hZ;split
 ·exact h
 rename_i e;have h2:¬(s.status=2\/s.status=3):=fun hh=>e (by unfold fG;rw[if_pos hh];decide)
 have e2:fG p s=cn p s:=by unfold fG;rw[if_neg h2]
 split
 ·exact h.with (fun hh=>h2 (.inl hh)) _ _ _
 rename_i ew;simp only;split
 ·exact h.with (fun hh=>h2 (.inl hh)) _ _ _
 rename_i et;have hd:=h.iE (fun hh=>h2 (.inl hh)) 0 jC;have hst:(RS.of { s with status:=0 }).st={ s with status:=0 }:=RS.fW _;have hat:cn p (RS.of { s with status:=0 }).st=fG p s:=by rw[hst,e2];rfl
 have ha:=hd.cr hs hn (by rw[hat];rw[hst];exact ew) (by rw[hat];exact Classical.not_not.1 et);rw[hat]at ha;exact di.settled ⟨⟨⟨ha.inv.ok.nf,ha.inv.ok.jp⟩,ha.inv.aJ,ha.inv.fr,ha.inv.busy,ha.inv.go⟩,ha.cells,ha.outs,ha.gT,ha.gG⟩
end Go.Proofs.YtfkgcobaheegbaaGreatDoor

/- Lemmas. No conditions. -/
import Derived.Test.YtghoellpinmenaaGreatDoorSoS
set_option linter.all false
set_option maxHeartbeats 4000000
set_option maxRecDepth 10000
namespace Go.Gd
open Go
def RS.lr{R:RS}(h:R.Ok)(h1:1<=R.nf)(f:bu):(R.aM (R.nf-1) f).bO=f:=by show nth (R.aM (R.nf-1) f).bp (R.nf-1)=f;rw[RS.bI (by have:=h.nf;omega),if_pos rfl]
structure Kept(R R':RS):Prop where
 heap:R'.heap=R.heap
 in_:R'.in_=R.in_
 aD:R'.aD=R.aD
 bs:R'.bs=R.bs
 time:R'.time=R.time
def Kept.refl(R:RS):Kept R R:=⟨rfl,rfl,rfl,rfl,rfl⟩
theorem Kept.trans{a b c:RS}(h:Kept a b)(k:Kept b c):Kept a c:=⟨k.heap.trans h.heap,k.in_.trans h.in_,k.aD.trans h.aD,k.bs.trans h.bs,k.time.trans h.time⟩
def ED(R:RS)(p:ab)(v:aj):Kept R (R.dG p v):=by
 unfold RS.dG;split
 ·exact⟨rfl,rfl,rfl,rfl,rfl⟩
 ·split<;>exact⟨rfl,rfl,rfl,rfl,rfl⟩
def RS.u0(s:bK):(RS.of s).Ok:=⟨Nat.le_refl _,by show(s.aG.map _).length=_;simp[RS.of]⟩
def RS.wg(s:bK):(RS.of s).st=s:=by show bK.mk (s.aG.take s.aG.length) s.heap s.in_ s.aD s.status s.bs s.time=s;rw[List.take_length]
def Le{P:PS}{f:FuncId}{args:PH}{r:AV}(cf:PQ)(v:Value)(ha:args=cf.map .raw)(hr:∀w:NW,ar w r v)(h:∀w:NW,kI w->Calls P f cf.toArray w.toWorld fun e w'=>e=.returned v/\RowKit.Below w.heap.size w.toWorld w'):dO P f args r:=by
 intro w vs h1 h2;have Uu:vs=cf.toArray:=by
  apply Array.ext';apply List.ext_getElem?;intro i;obtain⟨hl,hv⟩:=h2;subst ha;by_cases hi:i<cf.length
  ·have Rx:i<vs.size:=by rw[<-hl];simpa using hi
   have:=cY (hv i (.raw cf[i]) vs[i] (by simp[hi]) (by simp[Rx]));simp[hi,Rx,this]
  ·have Rx:¬i<vs.size:=by rw[<-hl];simpa using hi
   rw[List.getElem?_eq_none (by simpa using Rx),List.getElem?_eq_none (by simpa using hi)]
 subst Uu;refine(h w h1.ca).mono ?_;rintro e W ⟨rfl,hb⟩;have ex:Ext w (entry []) (w.to W) (entry []):={ size:=hb.size,free:=fun b QX hO=>⟨hb.block b QX,hO⟩,names:=fun _ _ _ _ h=>h,os:=hb.os,tape:=hb.tape,output:=hb.output,rest:=fun b QX hO Qb=>⟨hb.block b QX,hO,Qb⟩,base:=rfl };refine⟨v,r,entry [],w.to W,rfl,rfl,⟨rfl,rfl⟩,{ rows:=fun i row hi=>(by cases hi),dr:=h1.dr,inj:=h1.inj,own:=h1.own,ca:=h1.ca.aT ex.toKeep,fin:=fun b QX=>Nat.lt_of_lt_of_le (h1.fin b QX) hb.size },hr _,ex.px⟩
variable{l l':PG}
def oe(j:Nat)(r:Row)(h:∀i,ak l i=ak l' i):∀i,ak ((j,r)::l) i=ak ((j,r)::l') i:=fun i=>by show(if i=j then _ else _)=(if i=j then _ else _);rw[h i]
theorem yB(a:Nat)(f:PT){l l':PG}(h:∀i,ak l i=ak l' i):∀(n k i:Nat),ak (fT a f k n l) i=ak (fT a f k n l') i
 |0,k,i=>h i
 |n+1,k,i=>oe _ _ (yB a f h n (k+1)) i
def rb(a n:Nat)(f:PT)(h:∀i,ak l i=ak l' i)(i:Nat):ak (cz a n f l) i=ak (cz a n f l') i:=yB a f h n 0 i
theorem BU(a:Nat)(f:PT)(l:PG):∀(n k:Nat),fT a f k (n+1) l=fT a f k n ((bP a (k+n),f (k+n))::l)
 |0,k=>rfl
 |n+1,k=>by show(bP a k,f k)::fT a f (k+1) (n+1) l=(bP a k,f k)::fT a f (k+1) n _;rw[BU a f l n (k+1),show k+1+n=k+(n+1) from jB]
variable{r:Row}
def Ie{j:Nat}(h:ak l j=none)(i:Nat):ak (l++[(j,r)]) i=ak ((j,r)::l) i:=by
 rw[gg];show _=if i=j then some r else ak l i
 by_cases e:i=j
 ·subst e;rw[h,if_pos rfl];simp[ak]
 ·rw[if_neg e];simp[ak,e]
variable{n:Nat}{tl:PG}
def Ai{a:Nat}(f':PT){f:PT}(hf:∀k,k<n->f k=f' k)(hr:r=f' n)(US:ak tl (bP a n)=none)(i:Nat):ak (cz a n f (tl++[(bP a n,r)])) i=ak (cz a (n+1) f' tl) i:=by rw[Of rfl hf rfl];unfold cz;rw[BU,Nat.zero_add,hr];exact yB a f' (fun i=>Ie US i) n 0 i
def zA(h:low tl)(a k:Nat):ak tl (bP a k)=none:=by
 cases e:ak tl (bP a k)with
 |none=>rfl
 |some r=>have:=(h _ _ e).2;have:=n8 a k;omega
def LF{h:Nat}(s' p':PT){s p q:PT}{r0 r1:Row}(hs:∀k,k<n->s k=s' k)(hp:∀k,k<n->p k=p' k)(h0:r0=s' n)(h1:r1=p' n)(hl:low tl)(i:Nat) :
  ak (cz 0 n s (cz 1 n p (cz 2 h q (tl++[(bP 1 n,r1),(bP 0 n,r0)])))) i=ak (cz 0 (n+1) s' (cz 1 (n+1) p' (cz 2 h q tl))) i:=by
 have e:cz 1 n p (cz 2 h q (tl++[(bP 1 n,r1),(bP 0 n,r0)]))=cz 1 n p (cz 2 h q tl++[(bP 1 n,r1)])++[(bP 0 n,r0)]:=by rw[show tl++[(bP 1 n,r1),(bP 0 n,r0)]=(tl++[(bP 1 n,r1)])++[(bP 0 n,r0)] from jE,qb,qb,qb 2 h q tl]
 have z0:ak (cz 2 h q tl) (bP 0 n)=none:=by rw[oq _ _ _ _ _ _ jB jB jB];exact zA hl _ _
 have z1:ak (cz 2 h q tl) (bP 1 n)=none:=by rw[oq _ _ _ _ _ _ jB jB jB];exact zA hl _ _
 rw[e,Ai s' hs h0 (by rw[oq _ _ _ _ _ _ jB jB jB,gg,z0];simp[ak,L5 0 1 n n jB jB jB])]
 exact rb 0 (n+1) s' (fun i=>Ai p' hp h1 z1 i) i
def KQ{h:Nat}(q':PT){s p q:PT}(hq:∀k,k<h->q k=q' k)(h2:r=q' h)(hl:low tl)(i:Nat) :
  ak (cz 0 n s (cz 1 n p (cz 2 h q (tl++[(bP 2 h,r)])))) i=ak (cz 0 n s (cz 1 n p (cz 2 (h+1) q' tl))) i:=
 rb 0 n s (fun i=>rb 1 n p (fun i=>Ai q' hq h2 (zA hl _ _) i) i) i
def Hy(p:ab)(k:Int):dN:=⟨(nth p.aa.au k.toNat).body,0⟩
def JI(p:ab)(fn:Int)(args:List aj)(n:Nat):PG:=[(bP 1 n,.aE 89 2 ([Hy p fn].map pT)),(bP 0 n,.aE 50 3 ((pK p fn args).slots.map bG))]
def ID(p:ab)(fn:Int)(args:List aj)(n:Nat):PH:=[.raw (.int .i64 fn),.rs (bP 0 n) (pK p fn args).slots.length 3 (pK p fn args).slots.length,.rs (bP 1 n) 1 2 1]
def RS.grow(R:RS)(l:PJ):RS:={ R with heap:=R.heap++[l] }
def GJ(j:Nat){r':Row}(hr:r=r')(h:∀i,ak l i=ak l' i):∀i,ak ((j,r)::l) i=ak ((j,r')::l') i:=by subst hr;exact oe j r h
def xm(h:(ids tl).all (fun i=>decide (4<=i/\i<1000))=true:=by rfl):low tl:=fun i r hi=>of_decide_eq_true (List.all_eq_true.1 h i ((fO _ _).2 (by rw[hi];simp)))
end Go.Gd
namespace Go.Proofs.YtghoellpinmenaaGreatDoor
open Go Go.Gd Tryz
abbrev rV(v:aj):AV:=.agg (bG v)
variable{p:ab}{R:RS}
def dV.at_(h:fG p)(hI:dV p R)(h2:2<=R.nf):qJ p R.pop.st:=by
 have U':=hI.ok.nf;have hf:=hI.bp;have WV:R.pop.Ok:=⟨by show R.nf-1<=R.bp.length;omega,hI.ok.jp⟩;have ht:=RS.af WV (by show 1<=R.nf-1;omega);have hl:R.pop.st.aG.length=R.nf-1:=by show(R.bp.take (R.nf-1)).length=_;simp;omega
 exact DD h jB jB (by rw[ht];exact hI.fr (R.nf-1-1) jB) (by rw[ht];exact hI.busy (R.nf-1-1) jB)
variable{t:Int}
def GU(h:1<=t/\t<=4):oR (vZ t)=true:=by have:t=1\/t=2\/t=3\/t=4:=jB;rcases this with rfl|rfl|rfl|rfl<;>decide
def OY(slots:List aj)(k:Int)(h:1<=t/\t<=4):(dt slots k t).ty=t/\oR (dt slots k t)=true:=by
 unfold dt;split
 ·exact⟨rfl,GU h⟩
 split
 ·rename_i hh;exact⟨hh.2,hh.1⟩
 ·exact⟨rfl,GU h⟩
def Told(r:aj×Int)(T:Int):Prop:=(r.2=0/\r.1.ty=T/\oR r.1=true)\/((r.2=1\/r.2=2\/r.2=6)/\r.1=v0)
theorem Told.size{r:aj×Int}{T:Int}(h:Told r T):r.1.s.size<=40:=by
 rcases h with⟨_,_,h⟩|⟨_,h⟩
 ·exact BZ h
 ·rw[h];decide
def tF(n:Int):Told (vI n,0) 1:=.inl ⟨rfl,rfl,rfl⟩
def As(b:Bool):Told (vB b,0) 2:=.inl ⟨rfl,rfl,by cases b<;>decide⟩
variable{s:PL}
def GO(h:s.size<=40):Told (vT s,0) 3:=.inl ⟨rfl,rfl,by show oR ⟨3,0,s⟩=true;unfold oR;simp only;rw[if_neg jC,if_neg jC,if_pos trivial];simp;omega⟩
variable{T:Int}
def Au(h:t=1\/t=2\/t=6):Told (v0,t) T:=.inr ⟨h,rfl⟩
def oN{c:Prop}[Decidable c]{x y:aj×Int}(h:c->Told x T)(k:¬c->Told y T):Told (if c then x else y) T:=by
 split
 ·exact h (by assumption)
 ·exact k (by assumption)
def Ih(hs:s∈uH){a b:aj}(h:iu s a.ty b.ty≠0):Told (mz s a b) (iu s a.ty b.ty):=by
 have he:a.ty=b.ty:=by
  unfold iu at h;split at h
  ·exact(h rfl).elim
  ·omega
 have h1:1<=a.ty/\a.ty<=4:=by
  unfold iu at h;rw[jN]at h;split at h
  ·split at h<;>first|omega|exact(h rfl).elim
  split at h
  ·split at h<;>first|omega|exact(h rfl).elim
  split at h
  ·split at h<;>first|omega|exact(h rfl).elim
  split at h
  ·split at h<;>first|omega|exact(h rfl).elim
  ·split at h<;>first|omega|exact(h rfl).elim
 unfold mz;rw[jN];rcases(by omega:a.ty=1\/a.ty=2\/a.ty=3\/a.ty=4)with ta|ta|ta|ta<;>rw[<-he,ta]at h ⊢<;>unfold iu at h ⊢<;>simp only[uH,List.mem_cons,List.not_mem_nil,or_false]at hs<;>rcases hs with rfl|rfl|rfl|rfl|rfl|rfl|rfl|rfl|rfl|rfl|rfl
 all_goals first|(exfalso;revert h;decide)|(simp(decide:=true) only[if_true,if_false,qH])
 all_goals first|exact tF _|exact As _|exact oN (fun _=>Au jB) (fun _=>tF _)|exact oN (fun _=>Au jB) (fun _=>GO (by rw[ByteArray.size_append];omega))
def K0{a b:Int}(hs:s=(⟨#[124,124]⟩:PL)\/s=(⟨#[38,38]⟩:PL))(h:iu s a b≠0):iu s a b=2/\a=2/\b=2:=by
 unfold iu at h ⊢;by_cases e:a=b
 ·rw[if_neg (fun h=>h e),if_pos hs]at h ⊢;by_cases e2:a=2
  ·rw[if_pos e2];omega
  ·rw[if_neg e2]at h;exact(h rfl).elim
 ·rw[if_pos e]at h;exact(h rfl).elim
def tX{r:aj×Int}{U:Int}(h:Told r T)(hr:r.2≠0):Told (v0,r.2) U:=by
 rcases h with⟨h,_⟩|⟨h,_⟩
 ·exact(hr h).elim
 ·exact .inr ⟨h,rfl⟩
def xV{r:aj×Int}(h:Told r T)(hr:r.2=0):r.1.ty=T/\oR r.1=true:=by
 rcases h with⟨_,h⟩|⟨h,_⟩
 ·exact h
 ·omega
def Ot{v:aj}(h:v.ty=1):Told (jV (⟨#[45]⟩:PL) v,0) 1:=by unfold jV;rw[if_pos ⟨rfl,h⟩];exact tF _
def I5{v:aj}(h:v.ty=2):Told (jV (⟨#[33]⟩:PL) v,0) 2:=by unfold jV;rw[if_neg (by rintro⟨h,_⟩;revert h;decide),if_pos ⟨rfl,h⟩];exact As _
theorem Ft{p:ab}(h:s8 p)(slots:List aj)(heap:PI):∀(n:Nat) (a:Int),0<=a->a<p.aa.nodes.length->a.toNat<n->bW (bE p.aa.nodes a)->Told (nO p slots heap n a) (nth p.types a.toNat)
 |0,a,_,_,hn,_=>by omega
 |n+1,a,h0,h1,hn,hk=>by
  have ih:=Ft h slots heap n;have sh:=(h.aa.shape a.toNat jB);have ty:=h.ty a.toNat jB jB;have aA:∀i,i<(nth p.aa.nodes a.toNat).l.length->bW (bE p.aa.nodes (nth (nth p.aa.nodes a.toNat).l i))->Told (nO p slots heap n (nth (nth p.aa.nodes a.toNat).l i)) (nth p.types (nth (nth p.aa.nodes a.toNat).l i).toNat):=fun i hi he=>by have:=sh.2.1 _ (fu hi);exact ih _ jB jB jB he
  have TX:(nth p.aa.nodes a.toNat).kind=1\/(nth p.aa.nodes a.toNat).kind=2\/(nth p.aa.nodes a.toNat).kind=3\/(nth p.aa.nodes a.toNat).kind=4\/(nth p.aa.nodes a.toNat).kind=5\/(nth p.aa.nodes a.toNat).kind=6\/(nth p.aa.nodes a.toNat).kind=7\/(nth p.aa.nodes a.toNat).kind=8\/(nth p.aa.nodes a.toNat).kind=9:=by have:bW (nth p.aa.nodes a.toNat).kind:=hk;unfold bW at this;omega
  unfold nO;simp only;rcases TX with k|k|k|k|k|k|k|k|k
  ·rw[if_pos k,ty.int k];exact tF _
  ·rw[jN,if_pos k,ty.bool k];exact As _
  ·rw[jN,jN,if_pos k,ty.text k];exact GO (by have:=sh.1.text k;omega)
  ·rw[jN,jN,jN,if_pos k];have:=OY slots (nth p.slots a.toNat) (ty.var k);exact .inl ⟨rfl,this⟩
  ·obtain⟨x,hl,hx⟩:=sh.1.one jB;have Qd:nth (nth p.aa.nodes a.toNat).l 0=x:=by rw[hl];rfl
   have kx:=aA 0 (by rw[hl];simp) (by rw[Qd];exact hx);have t5:=ty.index k;rw[jN,jN,jN,jN];refine oN (fun hh=>tX kx hh) (fun hh=>?_);rw[if_pos k,t5.1];exact oN (fun _=>Au jB) (fun _=>tF _)
  ·obtain⟨x,hl,hx⟩:=sh.1.one jB;have Qd:nth (nth p.aa.nodes a.toNat).l 0=x:=by rw[hl];rfl
   have kx:=aA 0 (by rw[hl];simp) (by rw[Qd];exact hx);have t5:=ty.len k;rw[jN,jN,jN,jN];refine oN (fun hh=>tX kx hh) (fun hh=>?_);rw[jN,jN,if_pos k,t5.1];exact oN (fun _=>tF _) (fun _=>tF _)
  ·obtain⟨x,hl,hx⟩:=sh.1.one jB;have Qd:nth (nth p.aa.nodes a.toNat).l 0=x:=by rw[hl];rfl
   have kx:=aA 0 (by rw[hl];simp) (by rw[Qd];exact hx);have t5:=ty.neg k;rw[jN,jN,jN,jN];refine oN (fun hh=>tX kx hh) (fun hh=>?_);rw[jN,jN,jN,if_pos k,t5.1];exact Ot ((xV kx jB).1.trans t5.2)
  ·obtain⟨x,hl,hx⟩:=sh.1.one jB;have Qd:nth (nth p.aa.nodes a.toNat).l 0=x:=by rw[hl];rfl
   have kx:=aA 0 (by rw[hl];simp) (by rw[Qd];exact hx);have t5:=ty.not k;rw[jN,jN,jN,jN];refine oN (fun hh=>tX kx hh) (fun hh=>?_);rw[jN,jN,jN,jN,t5.1];exact I5 ((xV kx jB).1.trans t5.2)
  ·obtain⟨x,y,hl,hx,hy⟩:=sh.1.two jB;have Qd:nth (nth p.aa.nodes a.toNat).l 0=x:=by rw[hl];rfl
   have Wi:nth (nth p.aa.nodes a.toNat).l 1=y:=by rw[hl];rfl
   have kx:=aA 0 (by rw[hl];simp) (by rw[Qd];exact hx);have ky:=aA 1 (by rw[hl];simp) (by rw[Wi];exact hy);obtain⟨t5,t6⟩:=ty.Eb k;rw[jN,jN,jN,jN];refine oN (fun hh=>tX kx hh) (fun hh=>?_);have ox:=xV kx jB;rw[jN,if_pos k];refine oN (fun he=>?_) (fun _=>?_)
   ·refine .inl ⟨rfl,?_,ox.2⟩;show(nO p slots heap n _).1.ty=_;rw[ox.1];rw[t5]at t6 ⊢;have hs:(nth p.aa.nodes a.toNat).name=(⟨#[124,124]⟩:PL)\/(nth p.aa.nodes a.toNat).name=(⟨#[38,38]⟩:PL):=by rcases he with he|he;exact .inl he.1;exact .inr he.1
    obtain⟨g1,g2,g3⟩:=K0 hs t6;rw[g1,g2]
   refine oN (fun XR=>tX ky XR) (fun XR=>?_);have oy:=xV ky jB;rw[t5]at t6 ⊢;rw[<-ox.1,<-oy.1]at t6 ⊢;exact Ih (sh.1.sign k) t6
theorem dV.aM{p:ab}{R:RS}(h:dV p R)(h1:1<=R.nf){f:bu}(hf:eO p f):dV p (R.aM (R.nf-1) f):=by
 have U':=h.ok.nf;have hu:=fun k=>RS.bI (R:=R) (k:=R.nf-1) jB f k
 have hl:(R.aM (R.nf-1) f).bp.length=R.bp.length:=RS.br.symm;refine⟨⟨by rw[hl];exact U',by rw[hl];exact h.ok.jp⟩,by rw[hl];exact h.bp,fun k hk=>?_,fun k hk=>?_,h.go⟩
 ·rw[hu];split
  ·exact hf
  ·exact h.fr k hk
 ·have hk:k+1<R.nf:=hk;rw[hu,jN];exact h.busy k hk
theorem dV.on{p:ab}{R:RS}(h:dV p R)(h1:1<=R.nf)(hb:rZ p R.bO):dV p R.on:=h.aM h1 (xf (h.fr (R.nf-1) jB) hb)
def JN{α:Type}[Inhabited α](l:List α)(x:α)(k:Nat)(h:k<=l.length):nth (l++[x]) k=if k=l.length then x else nth l k:=by
 by_cases e:k=l.length
 ·subst e;rw[if_pos rfl,o5]
 ·rw[if_neg e,oz jB]
theorem dV.push{p:ab}{R:RS}(h:dV p R)(VL:R.nf=R.bp.length)(h8:R.nf<8)(hb:1<=R.nf->rZ p R.bO){f:bu}(hf:eO p f):dV p (R.push f):=by
 have hu:∀k,k<=R.nf->nth (R.push f).bp k=if k=R.nf then f else nth R.bp k:=fun k hk=>by show nth (R.bp++[f]) k=_;rw[JN _ _ _ jB,VL]
 have VK:=h.ok.jp;refine⟨⟨by show R.nf+1<=(R.bp++[f]).length;simp;omega,by show(R.jp++[[]]).length=(R.bp++[f]).length;simp;omega⟩,by show(R.bp++[f]).length<=8;simp;omega,fun k hk=>?_,fun k hk=>?_,fun _=>by show 1<=R.nf+1;omega⟩
 ·have hk:k<R.nf+1:=hk;rw[hu k jB];split
  ·exact hf
  ·exact h.fr k jB
 ·have hk:k+1<R.nf+1:=hk;rw[hu k jB,jN];by_cases e:k+1=R.nf
  ·have:=hb jB;unfold RS.bO at this;rwa [show R.nf-1=k from jB]at this
  ·exact h.busy k jB
def Fx{f:bu}(h:eO p f){b:Int}(hp:jZ p f.fn ⟨b,0⟩)(hd:∀x∈f.path,b<x.block):eO p { f with path:=f.path++[⟨b,0⟩] }:=by
 refine⟨h.f0,h.f1,h.sl,fun x hx=>?_,?_⟩
 ·rcases List.mem_append.1 hx with hx|hx
  ·exact h.pl x hx
  ·have:x=⟨b,0⟩:=by simpa using hx
   subst this;exact hp
 ·show List.Pairwise _ ((f.path++[(⟨b,0⟩:dN)]).map fun x:dN=>x.block);rw[List.map_append,List.pairwise_append];refine⟨h.dec,jE,fun x hx y hy=>?_⟩;obtain⟨z,hz,rfl⟩:=List.mem_map.1 hx;have:y=b:=by simpa using hy
  subst this;exact hd z hz
def eO.last{f:bu}(h:eO p f)(QW:f.path≠[]):∀x∈f.path,f.pl.block<=x.block:=fun x hx=>by
 obtain⟨i,hi,rfl⟩:=List.getElem_of_mem hx;have hl:=List.length_pos_iff.2 QW;unfold bu.pl;by_cases e:i=f.path.length-1
 ·subst e;rw[dT jB];exact Int.le_refl _
 ·have:=List.pairwise_iff_getElem.1 (List.pairwise_map.1 h.dec) i (f.path.length-1) hi jB jB;rw[dT jB];omega
def Mz(h:fG p){k:Nat}(hk:k<p.aa.au.length){args:List aj}(ha:args.length=(nth p.aa.au k).params.length):eO p (pK p k args)/\(nth p.size k).toNat=(pK p k args).slots.length/\0<=nth p.size k/\nth p.size k<=24:=by
 have hs:=h.au k hk;have h1:=hs.ww;have h2:=hs.hi;have hb:=h.ok.aa.body (nth p.aa.au k) (fu hk);have hn:=pC h.ok.aa hk;have hl:(pK p k args).slots.length=(nth p.size k).toNat:=by show(args++List.replicate _ v0).length=_;rw[Int.toNat_natCast]<;>(try simp)<;>omega
 have O':=hs.chain.le;refine⟨⟨by show(0:Int)<=(k:Int);omega,by show(k:Int)<_;omega,?_,fun x hx=>?_,by simp[pK]⟩,hl.symm,jB,h2⟩
 ·rw[hl];show _=nth p.size (k:Int).toNat;rw[Int.toNat_natCast];omega
 ·have:x=⟨(nth p.aa.au k).body,0⟩:=by simpa[pK]using hx
  subst this;show jZ p (k:Int) _;refine⟨hn.1,?_,?_,hb,Int.le_refl _,by show(0:Int)<=_;omega⟩
  ·rw[Int.toNat_natCast];exact O'
  ·rw[Int.toNat_natCast];exact Nat.le_refl _
structure ct(p:ab)(R:RS):Prop where
 inv:dV p R
 full:R.nf=R.bp.length
 one:1<=R.nf
 af:rZ p R.bO
 jp:∀k,k<R.bp.length->nth R.jp k=[]
 cells:fv R.heap<=40
 outs:R.aD.length<=24
 jw:0<=R.in_
 jY:R.in_<=1000
def ct.tu(h:ct p R):R.st.af=R.bO:=RS.af h.inv.ok h.one
def ct.Bo(hs:fG p)(h:ct p R):qJ p R.st:=by
 have h1:=h.one;have h2:=h.full;have h3:=h.inv.bp;have hl:R.st.aG.length=R.nf:=by show(R.bp.take R.nf).length=_;simp;omega
 exact DD hs jB jB (by rw[h.tu];exact h.inv.fr _ jB) (by rw[h.tu];exact h.af)
def ct.stmt(hs:fG p)(h:ct p R):0<=gW p R.st/\(gW p R.st).toNat<p.aa.nodes.length/\eR (bE p.aa.nodes (gW p R.st))/\nV p.aa R.bO.fn.toNat<=(gW p R.st).toNat/\(gW p R.st).toNat<R.bO.pl.block.toNat/\R.bO.pl.block.toNat<=(nth p.aa.au R.bO.fn.toNat).body.toNat:=by
 have hf:=h.inv.fr (R.nf-1) (by have:=h.one;omega);have hf:eO p R.bO:=hf;have hx:=hf.pl _ (Af h.af.1);have hb:=h.af.2;have SS:=hx.a0;have Ue:=hx.b0;have hi:=hx.in_ hs hf.f0 hf.f1;have hm:gW p R.st∈ph p R.bO.pl.block:=by unfold gW;rw[h.tu];exact fu jB
 obtain⟨k0,k1,k2,k3⟩:=hx.aA hs hf.f0 hf.f1 hm;exact⟨k0,jB,k3,k2,k1,hx.hi⟩
theorem B9{p:ab}(R:RS):∀(l:PJ) (a:List aj),(R.args p l a).2=0->(R.args p l a).1.length=a.length+l.length
 |[],a,_=>by simp[RS.args]
 |x::l,a,h=>by
  unfold RS.args at h ⊢;split
  ·rename_i e;rw[if_pos e]at h;exact(e h).elim
  ·rename_i e;rw[if_neg e]at h;rw[B9 R l _ h];simp;omega
structure eW(p:ab)(R:RS):Prop where
 inv:dV p R
 cells:fv R.heap<=40
 outs:R.aD.length<=24
 jw:0<=R.in_
 jY:R.in_<=1000
def eW.of{R':RS}(h:ct p R)(hi:dV p R')(k:Kept R R'):eW p R':=⟨hi,by rw[k.heap];exact h.cells,by rw[k.aD];exact h.outs,by rw[k.in_];exact h.jw,by rw[k.in_];exact h.jY⟩
theorem ct.with{p:ab}{R:RS}(h:ct p R){hp:PI}{i:Int}{o:List PL}(h1:fv hp<=40)(h2:0<=i/\i<=1000)(h3:o.length<=24):ct p { R with heap:=hp,in_:=i,aD:=o }:=
 ⟨⟨⟨h.inv.ok.nf,h.inv.ok.jp⟩,h.inv.bp,h.inv.fr,h.inv.busy,h.inv.go⟩,h.full,h.one,h.af,h.jp,h1,h3,h2.1,h2.2⟩
theorem ct.store{p:ab}{R:RS}(h:ct p R)(node:Int)(v:aj):eW p (R.store p node v):=by
 have h1:=h.one;have hf:=CS (h.inv.fr (R.nf-1) jB) (nth p.slots node.toNat).toNat v;have hi:dV p (R.gN p node v):=h.inv.aM h1 hf;have ht:(R.gN p node v).bO=_:=RS.lr h.inv.ok h1 _;have hb:rZ p (R.gN p node v).bO:=by rw[ht];exact h.af
 exact eW.of h (hi.on h1 hb) ⟨rfl,rfl,rfl,rfl,rfl⟩
theorem ct.on{p:ab}{R:RS}(h:ct p R):eW p R.on:=eW.of h (h.inv.on h.one h.af) ⟨rfl,rfl,rfl,rfl,rfl⟩
theorem ct.block{p:ab}(hs:fG p){R:RS}(h:ct p R){b:Int}(hb:b∈(ao p (gW p R.st)).l)(hk:bE p.aa.nodes b=18):jZ p R.bO.fn ⟨b,0⟩/\b<R.bO.pl.block/\0<=b/\b.toNat<p.aa.nodes.length:=by
 obtain⟨s0,s1,s2,s3,s4,s5⟩:=h.stmt hs;have sh:=hs.ok.aa.shape _ s1;have UP:=sh.2.1 b hb;have hf:eO p R.bO:=h.inv.fr (R.nf-1) (by have:=h.one;omega);have PV:nV p.aa R.bO.fn.toNat<=b.toNat:=by have hc:=(hs.au R.bO.fn.toNat (by have:=hf.f0;have:=hf.f1;omega)).chain;exact hc.closed _ s3 jB b hb
 exact⟨⟨UP.1,PV,by show b.toNat<=_;omega,hk,Int.le_refl _,by show(0:Int)<=_;omega⟩,jB,UP.1,jB⟩
theorem ct.bM{p:ab}(hs:fG p){R R':RS}(h:ct p R){b:Int}(hb:b∈(ao p (gW p R.st)).l)(hk:bE p.aa.nodes b=18)(hR:R'=R\/R'=R.on):eW p (R'.bM b):=by
 have h1:=h.one;obtain⟨b1,b2,b3,b4⟩:=h.block hs hb hk;have hf:eO p R.bO:=h.inv.fr (R.nf-1) jB;rcases hR with rfl|rfl
 ·exact eW.of h (h.inv.aM h1 (Fx hf b1 fun x hx=>by have:=hf.last h.af.1 x hx;omega)) ⟨rfl,rfl,rfl,rfl,rfl⟩
 ·have hi:=h.inv.on h1 h.af;have ht:R.on.bO=qm R.bO:=RS.lr h.inv.ok h1 _;have Ua:=xf hf h.af;have hl:∀x∈(qm R.bO).path,b<x.block:=fun x hx=>by
   rcases tG hx with rfl|hx
   ·exact b2
   ·have:=hf.last h.af.1 x hx;omega
  refine eW.of h (hi.aM h1 (f:={ R.on.bO with path:=R.on.bO.path++[⟨b,0⟩] }) ?_) ⟨rfl,rfl,rfl,rfl,rfl⟩;rw[ht];exact Fx Ua b1 hl
theorem ct.call{p:ab}(hs:fG p){R:RS}(h:ct p R){a:Int}(h0:a.toNat<p.aa.nodes.length)(hk:(ao p a).kind=21)(he:(R.call p a).2=0):eW p (R.call p a).1:=by
 obtain⟨k,hc⟩:=callee hs h0 hk;unfold RS.call at he ⊢;simp only at he ⊢;split at he
 ·rename_i e;exact(e he).elim
 rename_i e;rw[if_neg e];split at he
 ·exact((by decide:¬((3:Int)=0)) he).elim
 rename_i e8;rw[if_neg e8,hc.at_];have hl:=B9 R _ [] (Classical.not_not.1 e);exact eW.of h (h.inv.push h.full jB (fun _=>h.af) (Mz hs hc.lt (by rw[hl];simpa using hc.args)).1) ⟨rfl,rfl,rfl,rfl,rfl⟩
theorem ct.fresh{p:ab}{R:RS}(h:ct p R)(x:Int)(he:(R.fresh p x).2.2=0):ct p (R.fresh p x).1:=by
 unfold RS.fresh at he ⊢;simp only at he ⊢;split at he
 ·rename_i e;exact(e he).elim
 rename_i e;rw[if_neg e];split at he
 ·exact((by decide:¬((7:Int)=0)) he).elim
 rename_i e1;rw[if_neg e1];split at he
 ·exact((by decide:¬((4:Int)=0)) he).elim
 rename_i e2;rw[if_neg e2];refine h.with (hp:=R.heap++[List.replicate _ 0]) (i:=R.in_) (o:=R.aD) ?_ ⟨h.jw,h.jY⟩ h.outs
 rw[zz];simp;omega
theorem ct.lM{p:ab}(hs:fG p){R:RS}(h:ct p R){inp:PJ}(hn:inp.length<=1000)(hw:¬yY p R.st (gW p R.st) inp)(he:(R.lM p (gW p R.st) inp).2=0):eW p (R.lM p (gW p R.st) inp).1:=by
 obtain⟨s0,s1,s2,_⟩:=h.stmt hs;have sh:=(hs.ok.aa.shape _ s1);generalize u':gW p R.st=node at*;have aA:∀i,i<(ao p node).l.length->0<=nth (ao p node).l i/\(nth (ao p node).l i).toNat<p.aa.nodes.length:=fun i hi=>by have:=sh.2.1 _ (fu (l:=(ao p node).l) hi);omega
 have S2:∀b,b∈(ao p node).l->bE p.aa.nodes b=18->∀R',(R'=R\/R'=R.on)->eW p (R'.bM b):=fun b hb hk R' hR=>h.bM hs (by rw[u'];exact hb) hk hR
 unfold RS.lM at he ⊢;simp only at he ⊢;split at he
 ·rename_i e;rw[if_pos e];obtain⟨a,ha,hr⟩:=sh.1.right e;have QZ:(ao p node).l=[a]:=ha;have SS:=aA 0 (by rw[QZ];simp);have hx:nth (ao p node).l 0=a:=by rw[QZ];rfl
  rw[hx]at SS;unfold RS.right at he ⊢;simp only[hx]at he ⊢;split at he
  ·rename_i e1;rw[if_pos e1];exact h.call hs SS.2 e1 he
  rename_i e1;rw[if_neg e1];split at he
  ·rename_i e2;rw[if_pos e2];have Q2:¬((inp.length:Int)<=R.in_):=fun Qa=>hw ⟨e,by rw[hx];exact e2,Qa⟩
   have hd:ct p { R with in_:=R.in_+1 }:=h.with (hp:=R.heap) (i:=R.in_+1) (o:=R.aD) h.cells ⟨by have:=h.jw;omega,jB⟩ h.outs
   exact hd.store node _
  rename_i e2;rw[if_neg e2];split at he
  ·rename_i e3;rw[if_pos e3];split at he
   ·rename_i e4;rw[if_pos e4];exact(h.fresh a e4).store node _
   ·rename_i e4;exact(e4 he).elim
  rename_i e3;rw[if_neg e3];split at he
  ·rename_i e4;rw[if_pos e4];exact h.store node _
  ·rename_i e4;exact(e4 he).elim
 rename_i e;rw[if_neg e];split at he
 ·rename_i e1;rw[if_pos e1];obtain⟨a,ha,hr⟩:=sh.1.pB e1;have QZ:(ao p node).l=[a]:=ha;have SS:=aA 0 (by rw[QZ];simp);have hx:nth (ao p node).l 0=a:=by rw[QZ];rfl
  rw[hx]at SS he ⊢;exact h.call hs SS.2 hr he
 rename_i e1;rw[if_neg e1];split at he
 ·rename_i e2;rw[if_pos e2];unfold RS.put at he ⊢;simp only at he ⊢;split at he
  ·rename_i e3;exact(e3 he).elim
  rename_i e3;rw[if_neg e3];split at he
  ·rename_i e4;exact(e4 he).elim
  rename_i e4;rw[if_neg e4];split at he
  ·exact((by decide:¬((2:Int)=0)) he).elim
  rename_i e5;rw[if_neg e5];have hg:(oT R.heap (dt R.bO.slots (nth p.slots node.toNat) 4)).length≠0:=jB;generalize hv:dt R.bO.slots (nth p.slots node.toNat) 4=v at*;unfold oT at hg;split at hg
  ·simp at hg
  rename_i e6;exact(h.with (hp:=R.heap.set _ _) (i:=R.in_) (o:=R.aD) (by rw[AM _ _ _ jB jE];exact h.cells) ⟨h.jw,h.jY⟩ h.outs).on
 rename_i e2;rw[if_neg e2];split at he
 ·rename_i e3;rw[if_pos e3];split at he
  ·rename_i e4;rw[if_pos e4];exact eW.of h (h.inv.dG h.one v0).1 (ED R p v0)
  rename_i e4;rw[if_neg e4];split at he
  ·rename_i e5;exact(e5 he).elim
  rename_i e5;rw[if_neg e5];exact eW.of h (h.inv.dG h.one _).1 (ED R p _)
 rename_i e3;rw[if_neg e3];split at he
 ·rename_i e4;exact(e4 he).elim
 rename_i e4;rw[if_neg e4];split at he
 ·rename_i e5;rw[if_pos e5];split at he
  ·exact((by decide:¬((5:Int)=0)) he).elim
  rename_i e6;rw[if_neg e6];exact(h.with (hp:=R.heap) (i:=R.in_) (o:=R.aD++[_]) h.cells ⟨h.jw,h.jY⟩ jF).on
 rename_i e5;rw[if_neg e5];split at he
 ·rename_i e6;rw[if_pos e6];obtain⟨a,b,h1,h2,hl⟩:=sh.1.lN e6;split
  ·refine S2 _ ?_ ?_ _ (.inr rfl)
   ·rcases hl with hl|⟨d,hl,_⟩<;>(show nth (ao p node).l 1∈(ao p node).l;unfold ao;rw[hl];simp[nth])
   ·rcases hl with hl|⟨d,hl,_⟩<;>(unfold ao;rw[hl];exact h2)
  split
  ·rename_i e8;rcases hl with hl|⟨d,hl,hd⟩
   ·exfalso;unfold ao at e8;rw[hl]at e8;simp at e8
   ·refine S2 _ ?_ ?_ _ (.inr rfl)
    ·unfold ao;rw[hl];simp[nth]
    ·unfold ao;rw[hl];exact hd
  ·exact h.on
 rename_i e6;rw[if_neg e6];split at he
 ·rename_i e7;rw[if_pos e7];obtain⟨a,b,hl,h1,h2⟩:=sh.1.fm e7;split
  ·refine S2 _ ?_ ?_ _ (.inl rfl)
   ·unfold ao;rw[hl];simp[nth]
   ·unfold ao;rw[hl];exact h2
  ·exact h.on
 ·rename_i e7;exfalso;have:eR (ao p node).kind:=s2;unfold eR at this;omega
structure fL(p:ab)(s:bK):Prop where
 inv:dV p (RS.of s)
 af:s.status≠2->rZ p (RS.of s).bO
 cells:fv s.heap<=40
 outs:s.aD.length<=24
 jw:0<=s.in_
 jY:s.in_<=1000
def zE{α:Type}[Inhabited α]{β:Type}(l:List β)(x:α)(k:Nat)(h:k<l.length):nth (l.map fun _=>x) k=x:=by rw[dT (by simpa using h)];simp
theorem dV.st{p:ab}{R:RS}(h:dV p R):dV p (RS.of R.st):=by
 have U':=h.ok.nf;have hl:(RS.of R.st).nf=R.nf:=by show(R.bp.take R.nf).length=_;simp;omega
 have Wl:∀k,k<R.nf->nth (RS.of R.st).bp k=nth R.bp k:=fun k hk=>fF _ _ _ hk
 refine⟨RS.u0 _,?_,fun k hk=>?_,fun k hk=>?_,fun e=>?_⟩
 ·have:=h.bp;show(R.bp.take R.nf).length<=8;simp;omega
 ·rw[hl]at hk;rw[Wl k hk];exact h.fr k hk
 ·rw[hl]at hk;rw[Wl k jB];exact h.busy k hk
 ·rw[hl];exact h.go e
def fL.u6{s:bK}(h:fL p s)(h2:s.status≠2)(c:Int)(hc:c≠2):ct p (RS.of { s with status:=c }):=by have hg:=h.inv.go h2;exact⟨⟨⟨h.inv.ok.nf,h.inv.ok.jp⟩,h.inv.bp,h.inv.fr,h.inv.busy,fun _=>hg⟩,rfl,hg,h.af h2,fun k hk=>zE _ _ _ hk,h.cells,h.outs,h.jw,h.jY⟩
theorem fL.with{p:ab}{s:bK}(h:fL p s)(h2:s.status≠2)(c t n:Int):fL p { s with status:=c,bs:=t,time:=n }:=by have hg:=h.inv.go h2;exact⟨⟨⟨h.inv.ok.nf,h.inv.ok.jp⟩,h.inv.bp,h.inv.fr,h.inv.busy,fun _=>hg⟩,fun _=>h.af h2,h.cells,h.outs,h.jw,h.jY⟩
def sD(n:Int):dO prog 110 [rI n] (rV (vI n)):=by
 refine fg func110 ntmps110 ?_
 (repeat' (first|refine ax fun K hK=>?_|refine az ?_|(refine hK _ _ ?_;clear hK K)|(refine aw ?_ ?_<;>intro hc<;>try exact jz)|refine ay ?_|exact jI|(clear hK K)))
 (refine bA [.cell 2 50] ?_;try simp only[go_sem])
 rfl
def Bs(t:Int):dO prog 96 [rI t] (rV (vZ t)):=by
 refine fg func96 ntmps96 ?_
 (repeat' (first|refine ax fun K hK=>?_|refine az ?_|(refine hK _ _ ?_;clear hK K)|(refine aw ?_ ?_<;>intro hc<;>try exact jz)|refine ay ?_|exact jI|(clear hK K)))
 (refine bA [.cell 2 50] ?_;try simp only[go_sem])
 rfl
def ve(b:Bool):dO prog 111 [rB b] (rV (vB b)):=by
 refine fg func111 ntmps111 ?_
 (repeat' (first|refine ax fun K hK=>?_|refine az ?_|(refine hK _ _ ?_;clear hK K)|(refine aw ?_ ?_<;>intro hc<;>try exact jz)|refine cp (Bs _) ?_|refine ay ?_|exact jI|(clear hK K)))
 all_goals(refine bA [.cell 2 50] ?_;try simp only[go_sem])
 all_goals simp_all [vB,vZ]
def GS(s:PL):dO prog 112 [rS s] (rV (vT s)):=by
 refine fg func112 ntmps112 ?_
 (repeat' (first|refine ax fun K hK=>?_|refine az ?_|(refine hK _ _ ?_;clear hK K)|(refine aw ?_ ?_<;>intro hc<;>try exact jz)|refine ay ?_|exact jI|(clear hK K)))
 (refine bA [.cell 2 50] ?_;try simp only[go_sem])
 rfl
def zi(v:aj):dO prog 152 [rV v] (rB (oR v)):=by
 refine fg func152 ntmps152 ?_
 (repeat' (first|refine ax fun K hK=>?_|refine az ?_|(refine hK _ _ ?_;clear hK K)|(refine aw ?_ ?_<;>intro hc<;>try exact jz)|refine ay ?_|exact jI|(clear hK K)))
 all_goals(refine bA [.tmp 2] ?_;try simp only[go_sem])
 all_goals(unfold oR;(repeat' split)<;>first|rfl|omega|(exfalso;simp_all;done)|skip)
 all_goals(refine HG ?_;by_cases hs:v.s=sE<;>simp[hs]<;>omega)
def ye(g:PL)(a b:Int):aj×Int:=if g=(⟨#[60]⟩:PL)then(vB (decide (a<b)),0)else if g=(⟨#[60,61]⟩:PL)then(vB (decide (a<=b)),0)else(v0,0)
def Pe(g:PL)(a b:Int):dO prog 171 [rS g,rI a,rI b] (.ba [rV (ye g a b).1,rI (ye g a b).2]):=by
 refine fg func171 ntmps171 ?_
 (repeat' (first|refine ax fun K hK=>?_|refine az ?_|(refine hK _ _ ?_;clear hK K)|(refine aw ?_ ?_<;>intro hc<;>try exact jz)|refine cp (ve _) ?_|refine ay ?_|exact jI|(clear hK K)))
 all_goals(refine bA [.cell 6 50,.tmp 7] ?_;try simp only[go_sem])
 all_goals(unfold ye;(repeat' split)<;>first|rfl|omega|(exfalso;simp_all;done)|(simp_all [bG,vB];done)|(exfalso;simp_all;omega)|skip)
def Ow(g:PL)(a b:Int):dO prog 153 [rS g,rI a,rI b] (.ba [rV (qH g a b).1,rI (qH g a b).2]):=by
 refine fg func153 ntmps153 ?_
 (repeat' (first|refine ax fun K hK=>?_|refine az ?_|(refine hK _ _ ?_;clear hK K)|(refine aw ?_ ?_<;>intro hc<;>try exact jz)|refine cp (sD _) ?_|refine cp (Pe _ _ _) ?_|refine ay ?_|exact jI|(clear hK K)))
 all_goals(refine bA [.cell 6 50,.tmp 7] ?_;try simp only[go_sem])
 all_goals(try unfold ye)
 all_goals(unfold qH;(repeat' split)<;>first|rfl|omega|(exfalso;simp_all;done)|(simp_all [bG,vB];done)|(exfalso;simp_all;omega)|skip)
def ym(g:PL)(a b:Bool):aj×Int:=if g=(⟨#[124,124]⟩:PL)then(vB (a || b),0)else if g=(⟨#[38,38]⟩:PL)then(vB (a && b),0)else(v0,0)
def N3(g:PL)(a b:Bool):dO prog 154 [rS g,rB a,rB b] (.ba [rV (ym g a b).1,rI (ym g a b).2]):=by
 refine fg func154 ntmps154 ?_
 (repeat' (first|refine ax fun K hK=>?_|refine az ?_|(refine hK _ _ ?_;clear hK K)|(refine aw ?_ ?_<;>intro hc<;>try exact jz)|refine cp (ve _) ?_|refine ay ?_|exact jI|(clear hK K)))
 all_goals(refine bA [.cell 6 50,.tmp 7] ?_;try simp only[go_sem])
 all_goals(unfold ym;(repeat' split)<;>first|rfl|omega|(exfalso;simp_all;done)|(simp_all [bG,vB];done)|(exfalso;simp_all;omega)|skip)
def yt(g a b:PL):aj×Int:=if g=(⟨#[43]⟩:PL)then(if(a.size:Int)+b.size>40 then(v0,6)else(vT (a++b),0))else(v0,0)
def HV(g a b:PL)(ha:a.size<=1000000)(hb:b.size<=1000000):dO prog 155 [rS g,rS a,rS b] (.ba [rV (yt g a b).1,rI (yt g a b).2]):=by
 refine fg func155 ntmps155 ?_
 (repeat' (first|refine ax fun K hK=>?_|refine az ?_|(refine hK _ _ ?_;clear hK K)|(refine aw ?_ ?_<;>intro hc<;>try exact jz)|refine cp (GS _) ?_|refine ay ?_|exact jI|(clear hK K)))
 all_goals(refine bA [.cell 6 50,.tmp 7] ?_;try simp only[go_sem])
 all_goals(unfold yt;(repeat' split)<;>first|rfl|omega|(exfalso;simp_all;done)|(simp_all [bG,vB];done)|(exfalso;simp_all;omega)|skip)
def KX(g:PL)(a b:aj)(ha:a.s.size<=1000000)(hb:b.s.size<=1000000):dO prog 116 [rS g,rV a,rV b] (.ba [rV (mz g a b).1,rI (mz g a b).2]):=by
 refine fg func116 ntmps116 ?_
 (repeat' (first|refine ax fun K hK=>?_|refine az ?_|(refine hK _ _ ?_;clear hK K)|(refine aw ?_ ?_<;>intro hc<;>try exact jz)|refine cp (ve _) ?_|refine cp (Ow _ _ _) ?_|refine cp (N3 _ _ _) ?_|refine cp (HV _ _ _ ha hb) ?_|refine ay ?_|exact jI|(clear hK K)))
 all_goals(refine bA [.cell 6 50,.tmp 7] ?_;try simp only[go_sem])
 all_goals(try unfold ym);all_goals(try unfold yt)
 all_goals(unfold mz;(repeat' split)<;>first|rfl|omega|(exfalso;simp_all;done)|(simp_all [bG,vB];done)|(exfalso;simp_all;omega)|skip)
def LB(g:PL)(a:aj):dO prog 117 [rS g,rV a] (rV (jV g a)):=by
 refine fg func117 ntmps117 ?_
 (repeat' (first|refine ax fun K hK=>?_|refine az ?_|(refine hK _ _ ?_;clear hK K)|(refine aw ?_ ?_<;>intro hc<;>try exact jz)|refine cp (ve _) ?_|refine cp (sD _) ?_|refine ay ?_|exact jI|(clear hK K)))
 all_goals(refine bA [.cell 4 50] ?_;try simp only[go_sem])
 all_goals(unfold jV;(repeat' split)<;>first|rfl|omega|(exfalso;simp_all;done)|(simp_all [bG,vB];done)|(exfalso;simp_all;omega)|skip)
def fL.at_(hs:fG p){s:bK}(h:fL p s)(h2:s.status≠2):qJ p s:=by have hd:=h.u6 h2 0 jC;have:=hd.Bo hs;rw[RS.wg]at this;exact⟨this.fr,this.bp,this.pa,this.Aq,this.b0,this.b1,this.a0,this.a1,this.I1,this.n0,this.n1,this.sl,this.s0⟩
def OD (w : NW) (hg : kI w) : Lib.TabIs prog w.toWorld "internal/strconv.uint64pow10" .u64 Lib.pow10Tab := by
 obtain⟨⟨cur,el,fr,h1,h2⟩,_⟩:=hg 0 (Lib.pow10Tab.map (Value.int .u64)) (by unfold AX;simp);unfold Lib.TabIs World.var?
 rw [show prog.globalNamed "internal/strconv.uint64pow10" = some 0 by kernel_rfl];simp only[Option.bind_some,h1,Option.some.injEq];apply Array.ext';simpa using h2
def GQ(n:Int)(h:cr n):dO prog 105 [rI n] (rS (Bz n)):=by
 refine Le [.int .i64 n] (.string (Bz n)) rfl (fun w=>.raw _) fun w hg=>?_
 refine(Tryz.strconv_Itoa n h.1 h.2 w.toWorld (OD w hg)).mono ?_;rintro e W ⟨rfl,k,os,rfl⟩;refine⟨rfl,⟨rfl,rfl,rfl,?_,fun b hb=>?_⟩⟩
 ·show w.heap.size<=(w.heap++os).size;simp
 ·show(w.heap++os)[b]?=w.heap[b]?;rw[Array.getElem?_append_left hb]
def Iq(b:Bool):dO prog 156 [rB b] (rS (if b=true then(⟨#[116,114,117,101]⟩:PL)else(⟨#[102,97,108,115,101]⟩:PL))):=by
 refine CD [.bool b] (.string (if b=true then(⟨#[116,114,117,101]⟩:PL)else(⟨#[102,97,108,115,101]⟩:PL))) rfl (fun w=>.raw _) fun w=>?_
 refine(Tryz.strconv_FormatBool b w).mono ?_;rintro e W ⟨rfl,rfl⟩;refine⟨?_,RowKit.Below.refl _ _⟩;cases b<;>rfl
def j4y(v:aj)(h:cr v.n):dO prog 68 [rV v] (rS (kW v)):=by
 refine fg func68 ntmps68 ?_
 (repeat' (first|refine ax fun K hK=>?_|refine az ?_|(refine hK _ _ ?_;clear hK K)|(refine aw ?_ ?_<;>intro hc<;>try exact jz)|refine cp (GQ _ h) ?_|refine ay ?_|exact jI|(clear hK K)))
 all_goals(refine bA [.tmp 2] ?_;try simp only[go_sem])
 all_goals(unfold kW;(repeat' split)<;>first|rfl|omega|contradiction|(simp_all;done)|skip)
def Mo(v:aj)(h:cr v.n):dO prog 125 [rV v] (rS (kW v)):=by
 refine fg func125 ntmps125 ?_
 (repeat' (first|refine ax fun K hK=>?_|refine az ?_|(refine hK _ _ ?_;clear hK K)|(refine aw ?_ ?_<;>intro hc<;>try exact jz)|refine cp (GQ _ h) ?_|refine cp (Iq _) ?_|refine ay ?_|exact jI|(clear hK K)))
 all_goals(refine bA [.tmp 2] ?_;try simp only[go_sem])
 all_goals(unfold kW;(repeat' split)<;>first|rfl|omega|contradiction|(simp_all;done)|skip)
attribute [go_sem] JI ID
end Go.Proofs.YtghoellpinmenaaGreatDoor
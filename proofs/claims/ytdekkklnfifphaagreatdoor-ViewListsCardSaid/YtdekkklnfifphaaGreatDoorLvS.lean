/- What a view shows is not too long. The plain law of the document's parser: names are short. What a run shows can be seen. The laws of view: what they share. No conditions. -/
import Derived.Test.YtdekkklnfifphaaGreatDoorViV
import Derived.Test.YtdekkklnfifphaaGreatDoorSoL
import Derived.Test.YtdekkklnfifphaaGreatDoorViX
import Derived.Test.YtdekkklnfifphaaGreatDoorEvS
import Derived.Test.YtdekkklnfifphaaGreatDoorTyF
import Derived.Test.YtdekkklnfifphaaGreatDoorGdQ
set_option linter.all false
namespace Go.Proofs.YtdekkklnfifphaaGreatDoor
open Go Go.Gd
set_option maxHeartbeats 4000000
def jdG (t:Int):Prop:=0≤t∧t≤9
theorem jdK:jdG 0:=⟨by decide,by decide⟩
theorem jpt:jdG 1:=⟨by decide,by decide⟩
theorem jmZ:jdG 2:=⟨by decide,by decide⟩
theorem jpu:jdG 3:=⟨by decide,by decide⟩
theorem jpv:jdG 4:=⟨by decide,by decide⟩
theorem jpw:jdG 5:=⟨by decide,by decide⟩
theorem jpx:jdG 6:=⟨by decide,by decide⟩
theorem jpy:jdG 7:=⟨by decide,by decide⟩
theorem jca {c:Prop} [Decidable c] {x y:GValue×Int} (h:c→jdG x.2) (k:¬ c→jdG y.2):jdG (if c then x else y).2:=by
 by_cases e:c
 ·rw [if_pos e];exact h e
 ·rw [if_neg e];exact k e
theorem jrT (s:ByteArray) (a b:Int):jdG (jj4 s a b).2:=by
 unfold jj4
 (repeat' split)<;>first | exact jdK | exact jpt | exact jmZ | exact jpu | exact jpv | exact jpw | exact jpx | exact jpy
theorem jtK (s:ByteArray) (a b:GValue):jdG (jp0 s a b).2:=by
 unfold jp0
 (repeat' split)<;>first | exact jrT _ _ _ | exact jdK | exact jpt | exact jmZ | exact jpu | exact jpv | exact jpw | exact jpx | exact jpy
theorem jdr (p:GProg) (slots:List GValue) (heap:List (List Int)):∀ (n:Nat) (a:Int),jdG (jbH p slots heap n a).2
 | 0,a=>jdK
 | n+1,a=>by
  have hx:=jdr p slots heap n (nth (nth p.tree.nodes a.toNat).l 0)
  have hy:=jdr p slots heap n (nth (nth p.tree.nodes a.toNat).l 1)
  unfold jbH
  dsimp only
  generalize jbH p slots heap n (nth (nth p.tree.nodes a.toNat).l 0)=X at *
  generalize jbH p slots heap n (nth (nth p.tree.nodes a.toNat).l 1)=Y at *
  refine jca (fun _=>jdK) fun _=>jca (fun _=>jdK) fun _=>jca (fun _=>jdK) fun _=>jca (fun _=>jdK) fun _=>jca (fun _=>hx) fun _=>?_
  refine jca (fun _=>jca (fun _=>jmZ) fun _=>jdK) fun _=>jca (fun _=>jca (fun _=>jdK) fun _=>jca (fun _=>hy) fun _=>jtK _ _ _) fun _=>jca (fun _=>jca (fun _=>jdK) fun _=>jdK) fun _=>jca (fun _=>jdK) fun _=>jdK
theorem jlU (R:RS) (p:GProg):∀ (l:List Int) (a:List GValue),jdG (R.args p l a).2
 | [],a=>jdK
 | x::l,a=>by
  unfold RS.args
  split
  ·exact jdr _ _ _ _ _
  ·exact jlU R p l _
theorem jlV (R:RS) (p:GProg) (a:Int):jdG (R.call p a).2:=by
 unfold RS.call
 simp only
 (repeat' split)<;>first | exact jlU _ _ _ _ | exact jdK | exact jpt | exact jmZ | exact jpu | exact jpv | exact jpw | exact jpx | exact jpy
theorem jpz (R:RS) (p:GProg) (a:Int):jdG (R.fresh p a).2.2:=by
 unfold RS.fresh
 simp only
 (repeat' split)<;>first | exact jdK | exact jpt | exact jmZ | exact jpu | exact jpv | exact jpw | exact jpx | exact jpy | exact jdr _ _ _ _ _
theorem jpA (R:RS) (p:GProg) (a:Int) (inp:List Int):jdG (R.right p a inp).2:=by
 unfold RS.right
 simp only
 (repeat' split)<;>first | exact jlV _ _ _ | exact jdK | exact jpz _ _ _ | exact jdr _ _ _ _ _
theorem jtL (R:RS) (p:GProg) (a:Int):jdG (R.put p a).2:=by
 unfold RS.put
 simp only
 (repeat' split)<;>first | exact jdr _ _ _ _ _ | exact jdK | exact jpt | exact jmZ | exact jpu | exact jpv | exact jpw | exact jpx | exact jpy
theorem jrS (R:RS) (p:GProg) (a:Int) (inp:List Int):jdG (R.does p a inp).2:=by
 unfold RS.does
 simp only
 (repeat' split)<;>first | exact jpA _ _ _ _ | exact jlV _ _ _ | exact jtL _ _ _ | exact jdK | exact jdr _ _ _ _ _ | exact jdK | exact jpt | exact jmZ | exact jpu | exact jpv | exact jpw | exact jpx | exact jpy
structure FaceR (R:RS):Prop where
 out:∀ t∈R.out_,t.size≤40
 s0:0≤R.status
 s3:R.status≤3
 none:R.status=2→R.nf=0
 trap:jdG R.trap
theorem FaceR.upd {R:RS} (h:FaceR R) (k:Nat) (f:GFrame):FaceR (R.upd k f):=⟨h.out,h.s0,h.s3,h.none,h.trap⟩
theorem FaceR.on {R:RS} (h:FaceR R):FaceR R.on:=h.upd _ _
theorem FaceR.store {R:RS} (h:FaceR R) (p:GProg) (a:Int) (v:GValue):FaceR (R.store p a v):=(h.upd _ _).on
theorem FaceR.deeper {R:RS} (h:FaceR R) (b:Int):FaceR (R.deeper b):=h.upd _ _
theorem FaceR.tells {R:RS} (h:FaceR R) (h2:R.status≠2) (p:GProg) (v:GValue):FaceR (R.tells p v):=by
 have hp:FaceR R.pop:=⟨h.out,h.s0,h.s3,fun e=>(h2 e).elim,h.trap⟩
 unfold RS.tells
 split
 ·rename_i e
  exact ⟨h.out,by show (0:Int)≤2;decide,by show (2:Int)≤3;decide,fun _=>by show R.nf - 1=0;omega,h.trap⟩
 split
 ·exact (hp.upd _ _).on
 ·exact hp.on
theorem FaceR.settle {p:GProg}:∀ (n:Nat) {R:RS},FaceR R→FaceR (jbM p n R)
 | 0,R,h=>h
 | n+1,R,h=>by
  unfold jbM
  split
  ·exact h
  rename_i e
  split
  ·exact FaceR.settle n (h.tells e p _)
  split
  ·exact h
  ·exact FaceR.settle n (R:=R.cut) ⟨h.out,h.s0,h.s3,h.none,h.trap⟩
theorem FaceR.call {R:RS} (h:FaceR R) (h2:R.status≠2) (p:GProg) (a:Int):FaceR (R.call p a).1:=by
 unfold RS.call
 simp only
 split
 ·exact h
 split
 ·exact h
 ·exact ⟨h.out,h.s0,h.s3,fun e=>(h2 e).elim,h.trap⟩
theorem FaceR.right {R:RS} (h:FaceR R) (h2:R.status≠2) (p:GProg) (a:Int) (inp:List Int):FaceR (R.right p a inp).1:=by
 have hfr:∀ x,FaceR (R.fresh p x).1:=fun x=>by
  unfold RS.fresh
  simp only
  (repeat' split)<;>first | exact h | exact ⟨h.out,h.s0,h.s3,h.none,h.trap⟩
 unfold RS.right
 simp only
 split
 ·exact h.call h2 _ _
 split
 ·exact FaceR.store (R:={ R with in_:=R.in_+1 }) ⟨h.out,h.s0,h.s3,h.none,h.trap⟩ _ _ _
 split
 ·split
  ·exact (hfr _).store _ _ _
  ·exact hfr _
 split
 ·exact h.store _ _ _
 ·exact h
theorem FaceR.put {R:RS} (h:FaceR R) (p:GProg) (a:Int):FaceR (R.put p a).1:=by
 unfold RS.put
 simp only
 (repeat' split)<;>first | exact h | exact FaceR.on ⟨h.out,h.s0,h.s3,h.none,h.trap⟩
theorem FaceR.does {p:GProg} (hs:SOk p) {R:RS} (hr:RngR R) (hc:jbB R.heap≤40) (h:FaceR R) (h2:R.status≠2) {node:Int} (h0:0≤node) (hl:node.toNat < p.tree.nodes.length) (inp:List Int):FaceR (R.does p node inp).1:=by
 have sh:=hs.ok.tree.shape node.toNat hl
 unfold RS.does
 simp only
 split
 ·exact h.right h2 _ _ _
 split
 ·exact h.call h2 _ _
 split
 ·exact h.put _ _
 split
 ·split
  ·exact h.tells h2 _ _
  split
  ·exact h
  ·exact h.tells h2 _ _
 split
 ·exact h
 split
 ·rename_i e14
  split
  ·exact h
  ·refine FaceR.on ⟨fun t ht=>?_,h.s0,h.s3,h.none,h.trap⟩
   have ht:t∈R.out_++[_]:=ht
   rcases List.mem_append.1 ht with ht | ht
   ·exact h.out t ht
   ·rw [List.mem_singleton] at ht
    subst ht
    obtain ⟨x,g1,g2⟩:=sh.1.one (by have e14:(nth p.tree.nodes node.toNat).kind=14:=e14;omega)
    have g1:(jaj p node).l=[x]:=g1
    have hk:=sh.2.1 x (by show x∈(jaj p node).l;rw [g1];simp)
    rw [show nth (jaj p node).l 0=x by rw [g1];rfl]
    exact jl5 (hr.val hs hc hk.1 (by omega) g2) (jzZ hs R hk.1 (by omega) g2).size
 split
 ·(repeat' split)<;>first | exact h.on.deeper _ | exact h.on
 split
 ·(repeat' split)<;>first | exact h.deeper _ | exact h.on
 ·exact h
def jjz (s:GState):Prop:=FaceR (RS.of s)
theorem FaceR.st {R:RS} (hk:R.Ok) (h:FaceR R):jjz R.st:=⟨h.out,h.s0,h.s3,fun e=>by
 show (R.frs.take R.nf).length=0
 rw [h.none e];simp,h.trap⟩
theorem jsA {p:GProg}:FaceR (jkH p):=⟨fun t ht=>(by cases ht),by show (0:Int)≤0;decide,by show (0:Int)≤3;decide,fun e=>absurd e (by show ¬ ((0:Int)=2);decide),jdK⟩
theorem jpl {p:GProg} (hs:SOk p):jjz (jjq p):=FaceR.st (jdp ((jkH p).left+1) (jkH p) (jfL hs).inv (by omega)).1.ok (FaceR.settle _ jsA)
theorem jrH {p:GProg} (hs:SOk p) {s:GState} (hI:StInv p s) (hr:RngS s) (h:jjz s) {inp:List Int} (hn:inp.length≤1000):jjz (jeR p s inp):=by
 unfold jeR
 split
 ·exact h
 rename_i h0
 have h2:¬ (s.status=2∨s.status=3):=fun hh=>h0 (by unfold jbp;rw [if_pos hh];decide)
 split
 ·exact ⟨h.out,by show (0:Int)≤1;decide,by show (1:Int)≤3;decide,fun e=>absurd e (by show ¬ ((1:Int)=2);decide),h.trap⟩
 rename_i hw
 simp only
 split
 ·exact ⟨h.out,by show (0:Int)≤3;decide,by show (3:Int)≤3;decide,fun e=>absurd e (by show ¬ ((3:Int)=2);decide),jrS _ _ _ _⟩
 ·rename_i he
  have hd:=hI.doing (fun hh=>h2 (.inl hh)) 0 (by decide)
  obtain ⟨s0,s1,_⟩:=hd.stmt hs
  have hat:atV p (RS.of { s with status:=0 }).st=jbp p s:=by rw [RS.of_st];unfold jbp;rw [if_neg h2];rfl
  have hst:(RS.of { s with status:=0 }).st={ s with status:=0 }:=RS.of_st _
  have hA:=hd.does hs hn (by rw [hat,hst];exact hw) (by rw [hat];exact Classical.not_not.1 he)
  rw [hat] at s0 s1 hA
  have hf:FaceR (RS.of { s with status:=0 }):=⟨h.out,by show (0:Int)≤0;decide,by show (0:Int)≤3;decide,fun e=>absurd e (by show ¬ ((0:Int)=2);decide),h.trap⟩
  have hr0:RngR (RS.of { s with status:=0 }):=⟨hr.sl,hr.hp⟩
  have:=hf.does hs hr0 hI.cells (by show ¬ ((0:Int)=2);decide) s0 s1 inp
  generalize (RS.of { s with status:=0 }).does p (jbp p s) inp=X at *
  have hX:FaceR { X.1 with time:=s.time+1 }:=⟨this.out,this.s0,this.s3,this.none,this.trap⟩
  have hI2:InvR p { X.1 with time:=s.time+1 }:=⟨⟨hA.inv.ok.nf,hA.inv.ok.jp⟩,hA.inv.frs,hA.inv.fr,hA.inv.busy,hA.inv.go⟩
  exact FaceR.st (jdp _ _ hI2 (Nat.lt_succ_self _)).1.ok (FaceR.settle _ hX)
theorem joi {p:GProg} (hs:SOk p) {inp:List Int} (hn:inp.length≤1000) (hi:∀ x∈inp,Go.Gd.rng x):∀ n,jjz (joh p inp n)
 | 0=>jpl hs
 | n+1=>jrH hs (jga hs hn hi n).inv (jga hs hn hi n).rng (joi hs hn hi n) hn
end Go.Proofs.YtdekkklnfifphaaGreatDoor
namespace Go.Gd
open Go
def Sm (b:ByteArray):Prop:=b.size≤1000
theorem sm0:Sm ⟨#[]⟩:=Nat.zero_le _
def Ln (x:Int):Prop:=0≤x∧x≤1000
structure NmOk (r:Rd):Prop where
 l:∀ t∈r.l,Sm t.text
 n:∀ x∈r.nodes,Sm x.name∧Ln x.line
 src:r.src.size≤600
namespace NmOk
variable {r:Rd}
theorem tok (h:NmOk r):Sm r.tok.text:=by
 unfold Rd.tok
 by_cases e:r.i.toNat < r.l.length
 ·exact h.l _ (jam e)
 ·unfold nth;rw [List.getD_eq_getElem?_getD,List.getElem?_eq_none (by omega)];exact Nat.zero_le _
theorem same {r':Rd} (h:NmOk r) (h1:r'.l=r.l) (h2:r'.nodes=r.nodes) (h3:r'.src=r.src:=by rfl):NmOk r':=⟨by rw [h1];exact h.l,by rw [h2];exact h.n,by rw [h3];exact h.src⟩
theorem ln (h:NmOk r):Ln r.line:=by
 have:=jh5 r.src (min r.src.size r.tok.at_.toNat)
 have:=h.src
 unfold Ln Rd.line
 omega
theorem fails (h:NmOk r) (e:Int):NmOk (r.fails e):=by unfold Rd.fails;split;exact h.same rfl rfl;exact h
theorem inc (h:NmOk r):NmOk r.inc:=h.same rfl rfl
theorem up (h:NmOk r):NmOk r.up:=h.same rfl rfl
theorem down (h:NmOk r):NmOk r.down:=by
 unfold Rd.down
 split
 ·exact (h.fails 21).same rfl rfl
 ·exact h.same rfl rfl
theorem must (h:NmOk r) (t:ByteArray):NmOk (r.must t):=by unfold Rd.must;split;exact h.inc;exact h.fails _
theorem name (h:NmOk r):NmOk r.name.1:=by unfold Rd.name;split;exact h.inc;exact h.fails _
theorem nm (h:NmOk r):Sm r.name.2:=by unfold Rd.name;split;exact h.tok;exact sm0
theorem put (h:NmOk r) (k:Int) {ln:Int} (hl:Ln ln) (n:Int) {nm:ByteArray} (hn:Sm nm) (L:List Int):NmOk (r.put k ln n nm L).1:=⟨h.l,fun x hx=>by
 have hx:x∈r.nodes++[_]:=hx
 rcases List.mem_append.1 hx with hx | hx
 ·exact h.n x hx
 ·rw [List.mem_singleton] at hx;subst hx;exact ⟨hn,hl⟩,h.src⟩
end NmOk
theorem jvX (r:Rd) (lv:Int):Sm (r.next lv):=by
 unfold Rd.next
 cases e:(jcC lv).find? (fun s=>r.is s) with
 | none=>exact sm0
 | some s=>
  have hm:=List.mem_of_find?_eq_some e
  have:∀ t∈jcC lv,t.size≤2:=by
   unfold jcC
   (repeat' split)<;>decide
  exact Nat.le_trans (this s hm) (by decide)
theorem jqT:∀ n:Nat,(∀ r,NmOk r→NmOk (jgn n r).1)∧(∀ r,NmOk r→NmOk (jaV n r).1)∧(∀ lv r,NmOk r→NmOk (jaw n lv r).1)∧(∀ lv ln (p:Rd×Int),NmOk p.1→Ln ln→NmOk (jfj n lv ln p).1)
 | 0=>⟨fun r h=>by unfold jgn;exact h,fun r h=>by unfold jaV;exact h,fun lv r h=>by unfold jaw;exact h,fun lv ln p h hln=>by unfold jfj;exact h⟩
 | n+1=>by
  obtain ⟨i1,i2,i3,i4⟩:=jqT n
  refine ⟨fun r h=>?_,fun r h=>?_,fun lv r h=>?_,fun lv ln p h hln=>?_⟩
  ·unfold jgn
   split
   ·exact h
   split
   ·exact h.inc.put _ h.ln _ sm0 _
   split
   ·exact h.inc.put _ h.ln _ h.tok _
   split
   ·split
    ·exact ((i3 0 _ (h.inc.down.must _)).must _).up.put _ h.ln _ h.tok _
    ·exact h.inc.put _ h.ln _ h.tok _
   split
   ·exact h.inc.put _ h.ln _ sm0 _
   split
   ·exact h.inc.put _ h.ln _ sm0 _
   split
   ·split
    ·exact ((i3 0 _ (h.inc.down.must _)).must _).up.put _ h.ln _ sm0 _
    ·exact h.inc.fails _
   split
   ·exact ((i3 0 _ (h.down.must _)).must _).up
   ·exact h.fails _
  ·unfold jaV
   split
   ·exact (i2 _ h.down.inc).up.put _ h.ln _ sm0 _
   split
   ·exact (i2 _ h.down.inc).up.put _ h.ln _ sm0 _
   ·exact i1 _ h
  ·unfold jaw
   split
   ·exact i2 _ h
   ·exact i4 _ _ _ (i3 _ _ h) h.ln
  ·unfold jfj
   have hk:=(i3 (lv+1) _ h.inc).put 9 hln 0 (jvX p.1 lv) [p.2,(jaw n (lv+1) p.1.inc).2]
   split
   ·exact h
   split
   ·exact hk
   ·exact i4 _ _ _ hk hln
theorem jec {r:Rd} (h:NmOk r):NmOk (jaJ r).1:=(jqT _).2.2.1 0 r h
theorem jqR:∀ (n:Nat) (b:Bool) (r:Rd) (L:List Int),NmOk r→NmOk (jd4 n b r L).1
 | 0,_,r,L,h=>by unfold jd4;exact h
 | n+1,false,r,L,h=>by unfold jd4;exact h
 | n+1,true,r,L,h=>by
  unfold jd4
  split
  ·exact jqR n _ _ _ (jec h).inc
  ·exact jec h
theorem jqS {r:Rd} (h:NmOk r):NmOk (jez r).1:=((jqR _ _ _ _ (h.name.must _)).must _).put _ h.ln _ h.nm _
theorem jnZ {r:Rd} (h:NmOk r):NmOk (jci r).1:=by
 unfold jci
 split
 ·exact h.inc.put _ h.ln _ sm0 _
 split
 ·exact ((jec (h.inc.must _)).must _).put _ h.ln _ sm0 _
 split
 ·exact jqS h
 ·exact jec h
theorem jtd {r:Rd} (h:NmOk r) (ln:Int) (hln:Ln ln):NmOk (jdW r ln).1:=by
 have ha:NmOk (ptA r.name.1).1:=jec (h.name.down.must _)
 have hb:NmOk (ptB r.name.1).1:=jec (((ha.must _).up).must _)
 unfold jdW
 split
 ·exact ((jqS h).must _).put _ hln _ sm0 _
 split
 ·exact (hb.must _).put _ hln _ h.nm _
 ·exact ((jnZ (h.name.must _)).must _).put _ hln _ h.nm _
theorem jqU:∀ n:Nat,(∀ r,NmOk r→NmOk (jaY n r).1)∧(∀ r L,NmOk r→NmOk (jcy n r L).1)∧(∀ r,NmOk r→NmOk (jeS n r).1)
 | 0=>⟨fun r h=>by unfold jaY;exact h,fun r L h=>by unfold jcy;exact h,fun r h=>by unfold jeS;exact h⟩
 | n+1=>by
  obtain ⟨i1,i2,i3⟩:=jqU n
  refine ⟨fun r h=>?_,fun r L h=>?_,fun r h=>?_⟩
  ·unfold jaY
   split
   ·exact ((i2 _ [] (h.down.must _)).must _).up.put _ h.ln _ sm0 _
   ·exact h.fails _
  ·unfold jcy
   split
   ·exact i2 _ _ (i3 _ h)
   ·exact h
  ·have he:=jec h.inc
   have hb:=i1 _ he
   unfold jeS
   split
   ·exact ((jnZ (h.inc.name.must _)).must _).put _ h.ln _ h.inc.nm _
   split
   ·exact (he.must _).put _ h.ln _ sm0 _
   split
   ·exact hb.put _ h.ln _ sm0 _
   split
   ·split
    ·exact (i1 _ hb.inc).put _ h.ln _ sm0 _
    ·exact hb.put _ h.ln _ sm0 _
   split
   ·split
    ·exact (h.inc.must _).put _ h.ln _ sm0 _
    ·exact (he.must _).put _ h.ln _ sm0 _
   ·exact jtd h _ h.ln
theorem jvY {r:Rd} (h:NmOk r):NmOk (jfM r).1:=(jqU _).1 r h
theorem jn0 {r:Rd} (h:NmOk r):NmOk (jbw r).1:=by unfold jbw;split;exact h.fails _;exact h.inc
theorem jlk:∀ (n:Nat) (b:Bool) (r:Rd) (L:List GParam),NmOk r→(∀ x∈L,Sm x.name)→NmOk (jbL n b r L).1∧∀ x∈(jbL n b r L).2,Sm x.name
 | 0,_,r,L,h,hl=>by unfold jbL;exact ⟨h,hl⟩
 | n+1,false,r,L,h,hl=>by unfold jbL;exact ⟨h,hl⟩
 | n+1,true,r,L,h,hl=>by
  have hp:NmOk (jep r):=jn0 h.name
  have hl2:∀ x∈L++[(⟨r.name.2,(jbw r.name.1).2⟩:GParam)],Sm x.name:=fun x hx=>by
   rcases List.mem_append.1 hx with hx | hx
   ·exact hl x hx
   ·rw [List.mem_singleton] at hx;subst hx;exact h.nm
  unfold jbL
  split
  ·exact jlk n _ _ _ hp.inc hl2
  ·exact ⟨hp,hl2⟩
structure NmF (f:GFunc):Prop where
 n:Sm f.name
 p:∀ x∈f.params,Sm x.name
theorem jzq {r:Rd} (h:NmOk r):NmOk (fnF r).1∧NmF (fnF r).2:=by
 have ha:NmOk (fnA r):=(h.must _).name.must _
 have hb:=jlk ((fnA r).rem+2) (more (fnA r)) (fnA r) [] ha fun x hx=>by cases hx
 have hc:NmOk (fnC r):=hb.1.must _
 have hd:NmOk (fnD r).1:=by unfold fnD;split;exact hc;exact jn0 hc
 exact ⟨jvY hd,(h.must _).nm,hb.2⟩
theorem jur:∀ (n:Nat) (r:Rd) (L:List GFunc),NmOk r→(∀ f∈L,NmF f)→NmOk (jnu n r L).1∧∀ f∈(jnu n r L).2,NmF f
 | 0,r,L,h,hl=>by unfold jnu;exact ⟨h,hl⟩
 | n+1,r,L,h,hl=>by
  unfold jnu
  split
  ·refine jur n _ _ (jzq h).1 fun f hf=>?_
   rcases List.mem_append.1 hf with hf | hf
   ·exact hl f hf
   ·rw [List.mem_singleton] at hf;subst hf;exact (jzq h).2
  ·exact ⟨h,hl⟩
theorem jzT {s:ByteArray} (hs:s.size≤600) (a:Nat) (h:(jbi s a).2.2=0):Sm (jbi s a).1.text:=by
 have hx:∀ i j,Sm (s.extract i j):=fun i j=>by unfold Sm;rw [ByteArray.size_extract];omega
 unfold jbi at h ⊢
 split at h
 ·rename_i e;rw [if_pos e]
  split at h
  ·rename_i e;rw [if_pos e];exact hx _ _
  ·rename_i e;rw [if_neg e];exact sm0
 rename_i e;rw [if_neg e]
 split at h
 ·rename_i e;rw [if_pos e]
  split at h
  ·rename_i e;rw [if_pos e];exact hx _ _
  rename_i e;rw [if_neg e]
  split at h
  ·rename_i e;rw [if_pos e];exact sm0
  ·rename_i e;rw [if_neg e];exact hx _ _
 rename_i e;rw [if_neg e]
 split at h
 ·rename_i e;rw [if_pos e]
  exact Nat.le_trans (jjr h) (by decide)
 rename_i e;rw [if_neg e]
 split at h
 ·rename_i e;rw [if_pos e];exact sm0
 ·rename_i e;rw [if_neg e];exact Nat.le_trans (jjm _) (by decide)
theorem jun {s:ByteArray} (hs:s.size≤600):∀ (n i:Nat) (out:List GToken),(∀ t∈out,Sm t.text)→∀ t∈(jiI s n i out).1,Sm t.text
 | 0,i,out,h=>by unfold jiI;exact h
 | n+1,i,out,h=>by
  unfold jiI
  split
  ·split
   ·rename_i e
    refine jun hs n _ _ fun t ht=>?_
    rcases List.mem_append.1 ht with ht | ht
    ·exact h t ht
    ·rw [List.mem_singleton] at ht;subst ht;exact jzT hs i e
   ·intro t ht;cases ht
  ·intro t ht
   rcases List.mem_append.1 ht with ht | ht
   ·exact h t ht
   ·rw [List.mem_singleton] at ht;subst ht;exact sm0
theorem jqz (s:ByteArray):∀ t∈(jb7 s).1,Sm t.text:=by
 unfold jb7
 split
 ·intro t ht;cases ht
 ·exact jun (by omega) _ _ _ fun t ht=>by cases ht
structure NmTree (t:GTree):Prop where
 n:∀ x∈t.nodes,Sm x.name∧Ln x.line
 f:∀ f∈t.fns,NmF f
theorem jtl (s:ByteArray):NmTree (jaA s).1:=by
 have h0:NmTree ⟨[],[]⟩:=⟨fun x hx=>(by cases hx),fun f hf=>(by cases hf)⟩
 unfold jaA
 split
 ·exact h0
 rename_i hx
 have h:=jur ((rd0 s).rem+1) (rd0 s) [] ⟨jqz s,fun x hx=>(by cases hx),(jlc (Classical.not_not.1 hx)).1⟩ fun f hf=>by cases hf
 split
 ·exact h0
 split
 ·exact h0
 ·exact ⟨h.1.n,h.2⟩
end Go.Gd
namespace Go.Proofs.YtdekkklnfifphaaGreatDoor
open Go Go.Gd
theorem jrB {s:ByteArray} (he:(jaP s).2.2=0):NmTree (jaP s).1.tree:=by
 have hp:=jtl s
 have h0:NmTree ⟨[],[]⟩:=⟨fun x hx=>(by cases hx),fun f hf=>(by cases hf)⟩
 unfold jaP
 split
 ·exact h0
 rename_i h
 simp only
 split
 ·exact h0
 split
 ·exact h0
 ·unfold jaL
  split
  ·exact h0
  ·show NmTree (jcE (jaA s).1).tree
   rw [(jnh (je7 (by omega))).2]
   exact hp
set_option maxHeartbeats 4000000
theorem jj0 {p:GProg} (hs:SOk p) {s:GState} (h:StInv p s) (hf:jjz s):∀ k,k < s.frames.length→FrOk p (nth s.frames k)∧jpK p (nth s.frames k):=fun k hk=>by
 refine ⟨h.inv.fr k hk,?_⟩
 by_cases e:k+1 < s.frames.length
 ·exact h.inv.busy k e
 ·have ht:=h.top fun e2=>by have:=hf.none e2;have:s.frames.length=0:=this;omega
  have:(RS.of s).topF=nth s.frames k:=by show nth s.frames (s.frames.length - 1)=_;rw [show s.frames.length - 1=k by omega]
  rwa [this] at ht
theorem j1s {p:GProg} (hs:SOk p) {s:GState} (h:StInv p s) (hf:jjz s):AtAll p s:=by
 refine ⟨fun k hk=>?_,fun k hk=>?_,fun k hk=>?_⟩<;>obtain ⟨a,b⟩:=jj0 hs h hf k hk
 ·have:=a.len hs
  exact ⟨List.length_pos_iff.2 b.1,by omega⟩
 ·have hx:=a.pl _ (jij b.1)
  exact ⟨hx.b0,hx.in_ hs a.f0 a.f1⟩
 ·have hx:=a.pl _ (jij b.1)
  exact ⟨hx.a0,b.2⟩
theorem jte {α β:Type} [Inhabited α] [Inhabited β] (f:α→β) (l:List α) (k:Nat) (h:k < l.length):nth (l.map f) k=f (nth l k):=by
 rw [jbc (by simpa using h),jbc h];simp
theorem juz {p:GProg} (hs:SOk p) {s:GState} (h:StInv p s) (hr:RngS s) (hf:jjz s):ShotOk p (jcJ p s):=by
 have hfit:=h.fits hs
 have hl:(jcJ p s).calls.length=s.frames.length:=by show (s.frames.map _).length=_;simp
 have hn:∀ k,k < s.frames.length→nth (jcJ p s).calls k=jiQ p (nth s.frames k):=fun k hk=>jte _ _ _ hk
 refine ⟨by rw [hl];exact h.inv.frs,fun k hk=>?_,fun k hk=>?_,fun k hk=>?_,hr.hp,?_,fun k hk=>?_⟩
 ·rw [hl] at hk;rw [hn k hk]
  have a:=(jj0 hs h hf k hk).1
  exact ⟨a.f0,a.f1⟩
 ·rw [hl] at hk;rw [hn k hk]
  obtain ⟨a,b⟩:=jj0 hs h hf k hk
  have hx:=a.pl _ (jij b.1)
  have ha0:=hx.a0
  have hb2:=b.2
  have hm:nth (jaj p (nth s.frames k).pl.block).l (nth s.frames k).pl.at_.toNat∈jcu p (nth s.frames k).pl.block:=jam (l:=jcu p (nth s.frames k).pl.block) (by omega)
  obtain ⟨k0,k1,_⟩:=hx.kid hs a.f0 a.f1 hm
  have:=hx.in_ hs a.f0 a.f1
  exact ⟨k0,by show (nth (jaj p (nth s.frames k).pl.block).l (nth s.frames k).pl.at_.toNat).toNat < _;omega⟩
 ·rw [hl] at hk;rw [hn k hk]
  obtain ⟨a,b⟩:=jj0 hs h hf k hk
  have a0:=a.f0
  have a1:=a.f1
  have hz:=(hs.fns (nth s.frames k).fn.toNat (by omega)).hi
  have:=a.sl
  exact ⟨hr.sl _ (jam hk),by show (nth s.frames k).slots.length≤1000;omega⟩
 ·have:=jbm s.heap;have:=h.cells;show s.heap.length≤1000;omega
 ·have:=jeA s.heap k hk;have:=h.cells;show (nth s.heap k).length≤1000;omega
-- names of what is visible
theorem jqV {p:GProg} (h:NmTree p.tree) (x:Int):Sm (jaj p x).name∧Ln (jaj p x).line:=by
 unfold jaj
 rcases jjc p.tree.nodes x.toNat with e | e
 ·exact h.n _ e
 ·rw [e];exact ⟨Nat.zero_le _,by decide,by decide⟩
theorem joA {p:GProg} {node:Int} {P:GVar→Prop} (hP:∀ x,(jaj p x).kind=10→P (jeV p x)):∀ (n:Nat) (b:Int) (vars R:List GVar),(∀ v∈vars,P v)→ja2 p node n b vars=some R→∀ v∈R,P v
 | 0,b,vars,R,_,e=>by cases e
 | n+1,b,vars,R,hv,e=>by
  have ih:=joA (node:=node) hP n
  have kid:∀ (l:List Int) (vs R:List GVar),(∀ v∈vs,P v)→jet (ja2 p node n) vs l=some R→∀ v∈R,P v:=fun l=>by
   induction l with
   | nil=>intro vs R _ e;cases e
   | cons y l ihl=>
    intro vs R hvs e
    unfold jet at e
    cases e1:ja2 p node n y vs with
    | none=>rw [e1] at e;exact ihl vs R hvs e
    | some R'=>rw [e1] at e;cases e;exact ih y vs _ hvs e1
  have sc:∀ (l:List Int) (vs R:List GVar),(∀ v∈vs,P v)→jeh (ja2 p node n) p node l vs=some R→∀ v∈R,P v:=fun l=>by
   induction l with
   | nil=>intro vs R _ e;cases e
   | cons x l ihl=>
    intro vs R hvs e
    have hlet:∀ v∈jiH p x vs,P v:=fun v hv'=>by
     unfold jiH at hv'
     split at hv'
     ·rename_i k10
      rcases List.mem_append.1 hv' with hv' | hv'
      ·exact hvs v hv'
      ·rw [List.mem_singleton] at hv';subst hv';exact hP x k10
     ·exact hvs v hv'
    unfold jeh at e
    split at e
    ·cases e;exact hvs
    ·cases e1:(if (jaj p x).kind=15∨(jaj p x).kind=16 then jet (ja2 p node n) (jiH p x vs) ((jaj p x).l.drop 1) else none) with
     | none=>rw [e1] at e;exact ihl _ R hlet e
     | some R'=>
      rw [e1] at e
      cases e
      split at e1
      ·exact kid _ _ _ hlet e1
      ·cases e1
  exact sc _ _ _ hv e
theorem jq2:∀ (l:List GParam) (i:Int) (v:GVar),v∈jfm l i→∃ x∈l,v.name=x.name∧v.ty=x.ty
 | [],_,v,h=>by cases h
 | x::l,i,v,h=>by
  unfold jfm at h
  rcases List.mem_cons.1 h with rfl | h
  ·exact ⟨x,by simp,rfl,rfl⟩
  ·obtain ⟨y,hy,e⟩:=jq2 l (i+1) v h
   exact ⟨y,by simp [hy],e⟩
theorem j0i {p:GProg} (h:NmTree p.tree) (node:Int):∀ v∈jiS p node,Sm v.name:=fun v hv=>by
 unfold jiS at hv
 cases e:ja2 p node p.tree.nodes.length (nth p.tree.fns (nth p.fn node.toNat).toNat).body (jfm (nth p.tree.fns (nth p.fn node.toNat).toNat).params 0) with
 | none=>rw [e] at hv;cases hv
 | some R=>
  rw [e] at hv
  refine joA (P:=fun v=>Sm v.name) (fun x _=>(jqV h x).1) _ _ _ R (fun w hw=>?_) e v hv
  obtain ⟨x,hx,e1,_⟩:=jq2 _ _ _ hw
  rw [e1]
  rcases jjc p.tree.fns (nth p.fn node.toNat).toNat with e | e
  ·exact (h.f _ e).p x hx
  ·rw [e] at hx;cases hx
theorem jut (n:Int):∀ (l:List Int) (i:Int),-1≤i→-1≤jee n l i∧jee n l i≤i+l.length
 | [],i,h=>by unfold jee;simp;omega
 | x::l,i,h=>by
  unfold jee
  split
  ·simp;omega
  ·have:=jut n l (i+1) (by omega)
   simp only [List.length_cons]
   omega
structure HeapOk (heap:List (List Int)):Prop where
 hp:jtX heap
 hl:∀ k,k < heap.length→(nth heap k).length≤1000
theorem jqF {seen:List Int} (hn:seen.length≤1000000000) (n:Int) {l:List Int} (h:∀ x∈l,rng x) (hl:l.length≤1000):(jmH seen n l).size≤100000:=by
 have hp:=jut n seen 0 (by decide)
 have hr:rng (jee n seen 0+1):=by unfold rng;omega
 have h1:=jbe hr
 have h2:=jeZ l false ((⟨#[35]⟩:ByteArray)++jbJ (jee n seen 0+1)++(⟨#[91]⟩:ByteArray)) h
 unfold jmH
 rw [ByteArray.size_append]
 rw [ByteArray.size_append,ByteArray.size_append] at h2
 have e1:((⟨#[35]⟩:ByteArray):ByteArray).size=1:=rfl
 have e2:((⟨#[91]⟩:ByteArray):ByteArray).size=1:=rfl
 have e3:((⟨#[93]⟩:ByteArray):ByteArray).size=1:=rfl
 rw [e1,e2] at h2
 rw [e3]
 omega
theorem jrP {heap:List (List Int)} (hh:HeapOk heap) {slots:List GValue} (hr:jkG slots) {seen:List Int} (hn:seen.length+1≤1000000000) (k t:Int):(jdv heap seen (jes slots k t)).1.size≤100000:=by
 have h1:=jhX slots k t
 have h2:=jkq hr k t
 have hs:=jrs seen (jes slots k t).n
 generalize jes slots k t=v at *
 unfold jdv
 split
 ·split
  ·rename_i e
   have hk:(v.n - 1).toNat < heap.length:=by omega
   exact jqF (by omega) _ (hh.hp _ (jam hk)) (hh.hl _ hk)
  ·show ((⟨#[35,48,91,93]⟩:ByteArray):ByteArray).size≤_
   exact Nat.le_trans (show ((⟨#[35,48,91,93]⟩:ByteArray):ByteArray).size≤10 by decide) (by omega)
 ·have:=jl5 h2 h1
  show (jef v).size≤_
  unfold jef
  split
  ·rw [ByteArray.size_append,ByteArray.size_append]
   have e1:(⟨#[34]⟩:ByteArray).size=1:=rfl
   rw [e1];omega
  ·omega
def jpP (x:GShown):Prop:=x.name.size≤1000∧x.text.size≤100000
theorem jr1 {heap:List (List Int)} (hh:HeapOk heap) {slots:List GValue} (hr:jkG slots):∀ (l:List GVar) (a:List GShown×List Int),(∀ v∈l,Sm v.name)→(∀ x∈a.1,jpP x)→a.2.length+l.length≤1000000000→∀ x∈(l.foldl (jgM heap slots) a).1,jpP x
 | [],a,_,h,_=>h
 | v::l,a,hv,h,hn=>by
  rw [List.foldl_cons]
  have ht:=jov heap a.2 (jes slots v.slot v.ty)
  simp only [List.length_cons] at hn
  refine jr1 hh hr l _ (fun w hw=>hv w (by simp [hw])) (fun x hx=>?_) (by show (jdv heap a.2 (jes slots v.slot v.ty)).2.length+_≤_;omega)
  have hx:x∈a.1++[_]:=hx
  rcases List.mem_append.1 hx with hx | hx
  ·exact h x hx
  ·rw [List.mem_singleton] at hx;subst hx
   exact ⟨hv v (by simp),jrP hh hr (by omega) _ _⟩
def jtY (c:GSeen):Prop:=c.vars.length≤100000∧c.name.size≤1000∧rng c.line∧∀ x∈c.vars,x.name.size≤1000∧x.text.size≤100000
theorem jng {p:GProg} (hs:SOk p) (hfn:∀ k,k < p.tree.nodes.length→0≤nth p.fn k∧nth p.fn k < p.tree.fns.length) (hm:NmTree p.tree) {heap:List (List Int)} (hh:HeapOk heap):∀ (l:List GSpot) (a:List GSeen×List Int),(∀ c∈l,c.node.toNat < p.tree.nodes.length∧jkG c.slots)→(∀ x∈a.1,jtY x)→a.2.length+100000 * l.length≤1000000→∀ x∈(l.foldl (jeY p heap) a).1,jtY x
 | [],a,_,h,_=>h
 | c::l,a,hv,h,hn=>by
  rw [List.foldl_cons]
  obtain ⟨c1,c2⟩:=hv c (by simp)
  have hvl:=jkE hs.ok hfn c1
  obtain ⟨v1,v2⟩:=jgi heap c.slots _ (jiS p c.node) a.2 rfl
  simp only [List.length_cons] at hn
  have hnd:=jqV hm c.node
  refine jng hs hfn hm hh l _ (fun w hw=>hv w (by simp [hw])) (fun x hx=>?_) (by show (jcb heap c.slots (jiS p c.node) a.2).2.length+_≤_;omega)
  have hx:x∈a.1++[_]:=hx
  rcases List.mem_append.1 hx with hx | hx
  ·exact h x hx
  ·rw [List.mem_singleton] at hx;subst hx
   refine ⟨?_,?_,?_,?_⟩
   ·show (jcb heap c.slots (jiS p c.node) a.2).1.length≤_;omega
   ·show (nth p.tree.fns c.fn.toNat).name.size≤_
    rcases jjc p.tree.fns c.fn.toNat with e | e
    ·exact (hm.f _ e).n
    ·rw [e];exact Nat.zero_le _
   ·show rng (jaj p c.node).line
    obtain ⟨_,q1,q2⟩:=hnd
    unfold rng;omega
   ·exact jr1 hh c2 _ _ (j0i hm c.node) (fun y hy=>by cases hy) (by show a.2.length+_≤_;omega)
theorem jp2 {p:GProg} (s:GShot):(ofV p s).calls.length=s.calls.length:=jdQ p s.heap _ s.calls rfl
theorem j0g {p:GProg} (hs:SOk p) (hfn:∀ k,k < p.tree.nodes.length→0≤nth p.fn k∧nth p.fn k < p.tree.fns.length) (hm:NmTree p.tree) {s:GState} (h:StInv p s) (hr:RngS s) (hf:jjz s):ViewOk (ofV p (jcJ p s)):=by
 have hso:=juz hs h hr hf
 have h8:=hso.calls
 refine ⟨by rw [jp2];omega,?_,by have:=h.outs;show s.out_.length≤1000;omega,fun t ht=>Nat.le_trans (hf.out t ht) (by decide),?_,?_⟩
 ·refine jng hs hfn hm ⟨hso.hp,hso.hls⟩ _ _ (fun c hc=>?_) (fun x hx=>by cases hx) (by show 0+_≤_;omega)
  obtain ⟨k,hk,rfl⟩:=List.getElem_of_mem hc
  rw [← jbc hk]
  exact ⟨(hso.node k hk).2,(hso.sl k hk).1⟩
 ·have:=h.in0;have:=h.in1
  show rng s.in_
  unfold rng;omega
 ·have:=hf.trap.1;have:=hf.trap.2
  show rng s.trap
  have:0≤s.trap:=hf.trap.1
  have:s.trap≤9:=hf.trap.2
  unfold rng;omega
end Go.Proofs.YtdekkklnfifphaaGreatDoor
namespace Go.Gd
open Go
def jg6 (s:ByteArray):ByteArray:=if 700 < s.size then s.extract 0 700 else s
theorem jph (s:ByteArray):(jg6 s).size≤1000000:=by
 unfold jg6
 split
 ·rw [ByteArray.size_extract];omega
 ·omega
def jsZ (l:List Int):List Int:=l.take 20
theorem jj2 (l:List Int):(jsZ l).length≤1000:=by unfold jsZ;simp;omega
theorem jj3 {l:List Int} (h:∀ x∈l,rng x):∀ x∈jsZ l,rng x:=fun x hx=>h x (List.mem_of_mem_take hx)
end Go.Gd
namespace Go.Proofs.YtdekkklnfifphaaGreatDoor
open Go Go.Gd
set_option maxHeartbeats 4000000
set_option maxRecDepth 10000
theorem jru (s:ByteArray):PCall Tryz.prog 15 [rS s] (rS (jg6 s)):=by
 refine jbO Tryz.func15 Tryz.ntmps15 ?_
 (repeat' (first|refine jaa fun K hK=>?_|refine wkA ?_|(refine hK _ _ ?_;clear hK K)|(refine jad (fun hc=>?_) (fun hc=>?_)<;>first | contradiction | (exfalso;omega) | skip)|refine wkB ?_|exact True.intro|(clear hK K)))
 ·(refine jaU [.tmp 2] ?_;try simp only [go_sem])
  unfold jg6
  rw [if_pos (by omega)]
 ·(refine jaU [.tmp 2] ?_;try simp only [go_sem])
  unfold jg6
  rw [if_neg (by omega)]
theorem js0 (l:List Int):PCall Tryz.prog 18 [jaI eI 1 l] (jaI eI 1 (jsZ l)):=by
 refine jbO Tryz.func18 Tryz.ntmps18 ?_
 (repeat' (first|refine jaa fun K hK=>?_|refine wkA ?_|(refine hK _ _ ?_;clear hK K)|(refine jad (fun hc=>?_) (fun hc=>?_)<;>first | contradiction | (exfalso;omega) | skip)|refine wkB ?_|exact True.intro|(clear hK K)))
 ·(refine jaU [.tmp 2] ?_;try simp only [go_sem])
  rfl
 ·(refine jaU [.tmp 2] ?_;try simp only [go_sem])
  rw [show jsZ l=l from List.take_of_length_le (by omega)]
def jjl:ByteArray:=(⟨#[102,110,32,109,97,105,110,40,41,123,108,101,116,32,97,61,49,59,112,114,105,110,116,32,97,59,125]⟩:ByteArray)
theorem jrw:(jaP jjl).2.2=0:=by decide +kernel
theorem jwj:jbU (ofV (jaP jjl).1 (jcJ (jaP jjl).1 (joh (jaP jjl).1 [] 1)))=[(⟨#[97,116,32,109,97,105,110,32,49,32,97,61,49]⟩:ByteArray),(⟨#[105,110,32,48,32,114,117,110,115]⟩:ByteArray)]:=by decide +kernel
structure RunOk (p:GProg) (s:GState):Prop where
 src:PCall Tryz.prog 23 [.agg (jah p),.agg (jal s)] (.agg (ja4 (ofV p (jcJ p s))))
 shot:PCall Tryz.prog 16 [.agg (jah p),.agg (jal s)] (.agg (jcc (jcJ p s)))
 of_:PCall Tryz.prog 19 [.agg (jah p),.agg (jcc (jcJ p s))] (.agg (ja4 (ofV p (jcJ p s))))
 src2:PCall Tryz.prog 24 [.agg (jah p),.agg (jal s)] (.agg (ja4 (ofV p (jcJ p s))))
 view:ViewOk (ofV p (jcJ p s))
 lines:PCall Tryz.prog 26 [.agg (ja4 (ofV p (jcJ p s)))] (jaI eS 1 (jbU (ofV p (jcJ p s))))
 lines2:PCall Tryz.prog 27 [.agg (ja4 (ofV p (jcJ p s)))] (jaI eS 1 (jbU (ofV p (jcJ p s))))
theorem jwf {p:GProg} (hs:SOk p) (hfn:∀ k,k < p.tree.nodes.length→0≤nth p.fn k∧nth p.fn k < p.tree.fns.length) (hm:NmTree p.tree) {inp:List Int} (hn:inp.length≤1000) (hi:∀ x∈inp,rng x) (n:Nat):RunOk p (joh p inp n):=by
 have hg:=jga hs hn hi n
 have hf:=joi hs hn hi n
 have ha:=j1s hs hg.inv hf
 have hz:=hg.inv.fits hs
 have ho:=juz hs hg.inv hg.rng hf
 have hv:=j0g hs hfn hm hg.inv hg.rng hf
 have hol:(jcJ p (joh p inp n)).out_.length≤1000:=by have:=hg.inv.outs;show (joh p inp n).out_.length≤1000;omega
 exact ⟨jrD hs hfn ha hz ho,jok ha hz,jzu hs hfn ho hol,jpj hs.ok hfn ha hz ho,hv,js9 _ hv ⟨hf.s0,hf.s3⟩,jqD _ hv⟩
structure SrcOk (p:GProg):Prop where
 s:SOk p
 fn:∀ k,k < p.tree.nodes.length→0≤nth p.fn k∧nth p.fn k < p.tree.fns.length
 nm:NmTree p.tree
theorem jzK {s:ByteArray} (he:(jaP s).2.2=0):SrcOk (jaP s).1:=⟨jg8 he,jrA he,jrB he⟩
theorem jwi:∃ p x,jaP jjl=(p,x,0)∧SrcOk p∧jbU (ofV p (jcJ p (joh p [] 1)))=[(⟨#[97,116,32,109,97,105,110,32,49,32,97,61,49]⟩:ByteArray),(⟨#[105,110,32,48,32,114,117,110,115]⟩:ByteArray)]:=
 ⟨_,_,by rw [← jrw],jzK jrw,jwj⟩
theorem jrv:PCall Tryz.prog 13 [] (rB true):=by
 obtain ⟨p,x,e,hp,hl⟩:=jwi
 have hs:=joq jjl (by decide)
 rw [e] at hs
 have hr:=jrr hp.s [] (by decide) (fun x hx=>by cases hx) 1 (by decide)
 have hr:=jo6 (args':=[rP p,.raw (.slice none 0 0),rI 1]) hr ⟨.refl _,.nil _ _,.refl _,trivial⟩
 have ho:=jwf hp.s hp.fn hp.nm (inp:=[]) (by decide) (fun x hx=>by cases hx) 1
 have h1:=ho.src
 have h2:=ho.lines
 rw [hl] at h2
 generalize ofV p (jcJ p (joh p [] 1))=v at *
 generalize joh p [] 1=s at *
 refine jbO Tryz.func13 Tryz.ntmps13 ?_
 (repeat' (first|refine jaa fun K hK=>?_|refine wkA ?_|(with_reducible refine gR 2 ?_);refine dC 2 ([],[12,13,14],[]) [] [0,1,2,3,4,5] mixed ?_|(refine hK _ _ ?_;clear hK K)|(refine jad (fun hc=>?_) (fun hc=>?_)<;>first | contradiction | (exfalso;omega) | skip)|refine al 0 ?_|refine cp (hs) ?_|refine cq (hr) ?_|refine cq (h1) ?_|refine cq (h2) ?_|refine wkB ?_|exact True.intro|(clear hK K)))
 (refine jaU [.tmp 0] ?_;try simp only [go_sem])
end Go.Proofs.YtdekkklnfifphaaGreatDoor

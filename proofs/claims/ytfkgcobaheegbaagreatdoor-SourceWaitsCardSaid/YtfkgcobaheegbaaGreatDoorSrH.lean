/- What a program means: whether a statement waits; the beginning. What a program means: the program's step, and a run. No conditions. -/
import Derived.Test.YtfkgcobaheegbaaGreatDoorSrF
import Derived.Test.YtfkgcobaheegbaaGreatDoorSoL
import Derived.Test.YtfkgcobaheegbaaGreatDoorGdR
set_option linter.all false
namespace Go.Gd
open Go
theorem FLe.nilS {F:List AV} {H:Hp} (j k sz:Nat) (d:List AV) {t:TypeId} {cs:List AV} (hj:H.get j=some (.var t cs)) (hk:cs[k]?=some (.raw (.slice none 0 0))):FLe F H F ⟨H.B,jg4 H.l j (.var t (cs.set k (.sl false sz [] d)))⟩:=by
 have hF:∀ (l:List AV),VToL (fun _=>false) H l l:=fun l=>by
  induction l with
  | nil=>trivial
  | cons a l ih=>exact ⟨.same _ (by
   have:(jcB fun _=>false)=fun _=>true:=rfl
   rw [this];exact jb5 a),ih⟩
 have hs:∀ (l:List AV) (k:Nat),l[k]?=some (.raw (.slice none 0 0))→VToL (fun _=>false) H l (l.set k (.sl false sz [] d)):=fun l=>by
  induction l with
  | nil=>intro k h;simp at h
  | cons a l ih=>
   intro k h
   cases k with
   | zero=>simp at h;subst h;exact ⟨VTo.nil _ _,hF l⟩
   | succ k=>exact ⟨(hF (a::l)).1,ih k (by simpa using h)⟩
 have hst:∀ (l:List (Nat×Row)),jek (fun _=>false) l:=fun l=>by
  induction l with
  | nil=>trivial
  | cons x l ih=>exact ⟨.inr (jmP (by
   have:(jcB fun _=>false)=fun _=>true:=rfl
   rw [this];exact jdJ _)),ih⟩
 have:=FLe.freeC (F:=F) (F':=F) (H:=H) (fun _=>false) j (cs.set k (.sl false sz [] d)) hj rfl (hs cs k hk) (List.all_eq_true.2 fun _ _=>rfl) (hst _) (hF F)
 rw [jcG _ _ fun _ _=>rfl] at this
 exact this
end Go.Gd
namespace Go.Proofs.YtfkgcobaheegbaaGreatDoor
open Go Go.Gd
set_option maxHeartbeats 4000000
set_option maxRecDepth 10000
theorem joi {p:GProg} (hs:SOk p) (a left:Int) (h0:0≤a) (h1:a.toNat < p.tree.nodes.length) (hl:rng left):PCall Tryz.prog 65 [.agg (jam p),rI a,rI left] (rB (decide (left≤0∧jfn p a∧(jak p (nth (jak p a).l 0)).kind=19))):=by
 unfold jak jfn
 by_cases c0:left≤0
 rotate_left
 ·rw [decide_eq_false (fun h=>c0 h.1)]
  have c0':=eq_false c0
  refine jbA Tryz.func65 Tryz.ntmps65 ?_
  (have W:=c0';repeat' (first|refine jaa fun K hK=>?_|refine wkA ?_|(with_reducible refine gR 2 ?_);refine dE 2 [0,1,2,3,4,5,6,7,8,9,10,11,12,13,14,15,16,17,18,19,20,21,22,23,24,25] mixed ?_|(refine hK _ _ ?_;clear hK K)|(refine jad (fun hc=>?_) (fun hc=>?_)<;>first | contradiction | (exfalso;omega) | skip)|refine bxF 4 ?_|refine alF 5 ?_|refine wkB ?_|exact True.intro|(clear hK K)));all_goals (try clear W)
  (refine jaN [.tmp 6] ?_;try simp only [go_sem])
  rfl
 by_cases c1:(nth p.tree.nodes a.toNat).kind=10∨(nth p.tree.nodes a.toNat).kind=11
 rotate_left
 ·rw [decide_eq_false (fun h=>c1 h.2.1)]
  have c0':=eq_true c0
  have c1a:((nth p.tree.nodes a.toNat).kind=10)=False:=eq_false fun e=>c1 (.inl e)
  have c1b:((nth p.tree.nodes a.toNat).kind=11)=False:=eq_false fun e=>c1 (.inr e)
  refine jbA Tryz.func65 Tryz.ntmps65 ?_
  (have W:=And.intro c0' (And.intro c1a (c1b));repeat' (first|refine jaa fun K hK=>?_|refine wkA ?_|(with_reducible refine gR 2 ?_);refine dE 2 [0,1,2,3,4,5,6,7,8,9,10,11,12,13,14,15,16,17,18,19,20,21,22,23,24,25] mixed ?_|(refine hK _ _ ?_;clear hK K)|(refine jad (fun hc=>?_) (fun hc=>?_)<;>first | contradiction | (exfalso;omega) | skip)|refine bxF 4 ?_|refine alF 5 ?_|refine wkB ?_|exact True.intro|(clear hK K)));all_goals (try clear W)
  (refine jaN [.tmp 6] ?_;try simp only [go_sem])
  rfl
 obtain ⟨x,hla,hxr⟩:=(hs.ok.tree.shape a.toNat h1).1.right c1
 have hkx:=(hs.ok.tree.shape a.toNat h1).2.1 x (by rw [hla];simp)
 have hx0:nth (nth p.tree.nodes a.toNat).l 0=x:=by rw [hla];rfl
 have hll:(nth p.tree.nodes a.toNat).l.length=1:=by rw [hla];rfl
 have hx1:x.toNat < p.tree.nodes.length:=by omega
 have hx2:=hkx.1
 rw [hx0]
 have e:decide (left≤0∧((nth p.tree.nodes a.toNat).kind=10∨(nth p.tree.nodes a.toNat).kind=11)∧(nth p.tree.nodes x.toNat).kind=19)=decide ((nth p.tree.nodes x.toNat).kind=19):=by
  by_cases k:(nth p.tree.nodes x.toNat).kind=19
  ·rw [decide_eq_true ⟨c0,c1,k⟩,decide_eq_true k]
  ·rw [decide_eq_false (fun h=>k h.2.2),decide_eq_false k]
 rw [e]
 have c0':=eq_true c0
 rcases c1 with c1 | c1<;>
 ·refine jbA Tryz.func65 Tryz.ntmps65 ?_
  (have W:=And.intro c0' (And.intro c1 (And.intro hx0 (hll)));repeat' (first|refine jaa fun K hK=>?_|refine wkA ?_|(with_reducible refine gR 2 ?_);refine dE 2 [0,1,2,3,4,5,6,7,8,9,10,11,12,13,14,15,16,17,18,19,20,21,22,23,24,25] mixed ?_|(refine hK _ _ ?_;clear hK K)|(refine jad (fun hc=>?_) (fun hc=>?_)<;>first | contradiction | (exfalso;omega) | skip)|refine bxF 4 ?_|refine alF 5 ?_|refine wkB ?_|exact True.intro|(clear hK K)));all_goals (try clear W)
  (refine jaN [.tmp 6] ?_;try simp only [go_sem])
theorem juN (f:GFunc):PCall Tryz.prog 57 [.agg (jbe f)] (rB (decide (f.name=(⟨#[109,97,105,110]⟩:ByteArray)))):=by
 refine jbA Tryz.func57 Tryz.ntmps57 ?_
 (repeat' (first|refine jaa fun K hK=>?_|refine wkA ?_|(refine hK _ _ ?_;clear hK K)|(refine jad (fun hc=>?_) (fun hc=>?_)<;>first | contradiction | (exfalso;omega) | skip)|refine bxF 4 ?_|refine wkB ?_|exact True.intro|(clear hK K)))
 (refine jaN [.tmp 2] ?_;try simp only [go_sem])
theorem jse (L:List GFunc) (k:Nat) (hL:L.length≤1000) (hk:k < L.length) (hnm:(nth L k).name=(⟨#[109,97,105,110]⟩:ByteArray)) (hone:∀ i,i < k→(nth L i).name≠(⟨#[109,97,105,110]⟩:ByteArray)) :
  PCall Tryz.prog 56 [jal jbe 5 L,.raw (.func (.func 57) #[] #[])] (rI k):=by
 refine jbA Tryz.func56 Tryz.ntmps56 ?_
 (repeat' (first|refine jaa fun K hK=>?_|refine wkA ?_|(refine hK _ _ ?_;clear hK K)|(refine jad (fun hc=>?_) (fun hc=>?_)<;>first | contradiction | (exfalso;omega) | skip)|refine wkB ?_|exact True.intro|(clear hK K)))
 refine jah (S:=Nat) [(4,2),(8,11)] (fun i=>i≤k) (fun i=>[(8,rI i)]) (fun i=>⟨[],[]⟩) (fun i=>k - i) 0 (by omega) (jaE rfl lle) ?_
 rintro i hi Kr hKr
 have hfc:=juN (nth L i)
 by_cases e:i=k
 ·subst e
  rw [decide_eq_true hnm] at hfc
  (refine S ?_;try exact True.intro)
  (repeat' (first|refine jaa fun K hK=>?_|refine wkA ?_|(refine hK _ _ ?_;clear hK K)|(refine jad (fun hc=>?_) (fun hc=>?_)<;>first | contradiction | (exfalso;omega) | skip)|refine cp (hfc) ?_|refine wkB ?_|exact True.intro|(clear hK K)))
  (refine jaN [.tmp 4] ?_;try simp only [go_sem])
 ·rw [decide_eq_false (hone i (by omega))] at hfc
  (refine S ?_;try exact True.intro)
  (repeat' (first|refine jaa fun K hK=>?_|refine wkA ?_|(refine hK _ _ ?_;clear hK K)|(refine jad (fun hc=>?_) (fun hc=>?_)<;>first | contradiction | (exfalso;omega) | skip)|refine cp (hfc) ?_|refine wkB ?_|exact True.intro|(clear hK K)))
  refine hKr _ _ (jau (i+1) (by omega) (by (try simp only);omega) rfl lle)
theorem joh {p:GProg} (hs:SOk p):PCall Tryz.prog 19 [.agg (jam p)] (.agg (jai (jiD p))):=by
 obtain ⟨m,hm,hidx,hnm,hpar⟩:=jmB hs
 have hfns:=hs.ok.tree.fns
 have hix:=jse p.tree.fns m (by omega) hm hnm (fun i hi=>by have:=hs.names.one i m hi hm;rwa [hnm] at this)
 have hR0:(RS.of jhe).push (jbi p m [])=jdm p:=by unfold jdm;rw [hidx];rfl
 have hpu:=jfe (args:=[.pt 0 0 0 0,rI m,.raw (.slice none 0 0)]) (args':=[.pt 0 0 0 0,rI m,jal jag 3 []]) ⟨VLe.refl _,VLe.refl _,VLe.nil,trivial⟩ (jqZ hs [] 0 (RS.of jhe) (RS.of_ok _) rfl (by show 0≤1000;omega) m hm [] (by rw [hpar];rfl))
 have hset:=jlO hs [] 0 (jdm p) (jcP hs).inv
 have hTok:=(jcx ((jdm p).left+1) (jdm p) (jcP hs).inv (by omega)).1.ok
 have hgs:=jcE p ((jdm p).left+1) (jdm p)
 change ((jdm p).settle p).Ok at hTok
 change Grew _ ((jdm p).settle p) at hgs
 rw [jkD]
 rw [hR0] at hpu
 generalize hB0:jdm p=R at *
 generalize hT:R.settle p=T at *
 have hl1:=hgs.frs
 have hl2:=hgs.heap
 have hpm:∀ i,jas [(4,.var 29 (jam p)),(5,.var 39 [AV.raw (.slice none 0 0),.raw (.slice none 0 0),rI 0,.raw (.slice none 0 0),rI 0,rI 0,rI 0]),(0,.var 95 (jaj p++(RS.of jhe).c++[jal eI 1 [],rI 0])),(1,.vec 57 3 []),(2,.vec 22 1 []),(3,.vec 9 1 [])] i=jas (rnE p [] 0 (RS.of jhe) [(4,.var 29 (jam p)),(5,.var 39 [AV.raw (.slice none 0 0),.raw (.slice none 0 0),rI 0,.raw (.slice none 0 0),rI 0,rI 0,rI 0])]) i:=fun i=>by
  show jas [_,_,_,_,_,_] i=jas [_,_,_,_,_,_] i
  simp only [jas]
  repeat' split
  all_goals first
   | rfl
   | (exfalso;omega)
 refine jbA Tryz.func19 Tryz.ntmps19 ?_
 (repeat' (first|(refine jaU (FLe.nilC 1 0 6 57 3 rfl (by decide) rfl rfl) ?_)|(refine jaU (FLe.nilC 2 0 7 22 1 rfl (by decide) rfl rfl) ?_)|(refine jaU (FLe.nilC 3 0 9 9 1 rfl (by decide) rfl rfl) ?_)|(refine jaU (FLe.nilS 0 13 1 (eI default) rfl rfl) ?_)|refine jaa fun K hK=>?_|refine wkA ?_|(refine hK _ _ ?_;clear hK K)|(refine jad (fun hc=>?_) (fun hc=>?_)<;>first | contradiction | (exfalso;omega) | skip)|refine bxF 4 ?_|refine bxF 0 ?_|refine alF 5 ?_|refine cp (hix) ?_|(refine cEp (R:=RS.of jhe) (R':=R) (pre:=jaj p) (post:=[jal eI 1 [],rI 0]) (pre':=jaj p) (post':=[jal eI 1 [],rI 0]) (tl:=[(4,.var 29 (jam p)),(5,.var 39 [AV.raw (.slice none 0 0),.raw (.slice none 0 0),rI 0,.raw (.slice none 0 0),rI 0,rI 0,rI 0])]) hpu rfl hpm (Nat.zero_le _) (Nat.zero_le _) rfl rfl jac rfl (by simp only [go_sem]) ?_;(refine S ?_;try exact True.intro))|(refine rE hset rfl ?_;try ((refine S ?_;try exact True.intro)))|refine wkB ?_|exact True.intro|(clear hK K)))
 exact jhb [.cell 2 39] rfl (VToL.agg (ds:=jai T.st) (RS.vto (t:=95) (pre:=jaj p) (post:=[jal eI 1 [],rI 0]) (R:=T) hTok fun _=>rfl))
end Go.Proofs.YtfkgcobaheegbaaGreatDoor
namespace Go.Gd
open Go
theorem cRD {P:Program} {A:AS} {f:FuncId} {args:List AV} {H:Hp} {g:AV→Hp→Prop} {d:Dep fun r H'=>HLx A H H'∧g r H'} {R:RS} {r0:AV} {tl:List (Nat×Row)} (hc:ACalls P f args [] fun r l=>r=r0∧l=R.rows) (hH:H=⟨[],tl⟩) (k:g r0 ⟨[],R.rowsT tl⟩) (hl:low tl:=by exact jac) (h2:jaB noQ args=true:=by rfl) (h0:jab P f=true:=by (simp only [go_sem];done)):jbm P (.raw (.func (.func f) #[] #[])) args H (AP (fun r H'=>HLx A H H'∧g r H') d):=
 cR (K:=fun r H'=>HLx A H H'∧g r H') hc hH hl h2 h0 ⟨fun i r _ hr=>by
  subst hH
  have hr:jas tl i=some r:=hr
  have:=hl i r hr
  show jas (R.rowsT tl) i=some r
  rw [RS.rowsT_app,jbB,RS.rows_no i (.inr this.1) this.2,hr];rfl,k⟩
end Go.Gd
namespace Go.Proofs.YtfkgcobaheegbaaGreatDoor
open Go Go.Gd
set_option maxHeartbeats 4000000
set_option maxRecDepth 10000
@[go_sem] theorem jzT (s:GState):List.drop 7 (jai s)=[]:=(rfl)
attribute [go_sem] List.append_nil
theorem StInv.own {p:GProg} (hs:SOk p) {s:GState} (h:StInv p s):ACalls Tryz.prog 64 [.agg (jai s)] [] (fun r l=>r=.agg (RS.of s).c∧l=(RS.of s).rows):=by
 have h1:s.frames.length≤8:=h.inv.frs
 have h2:=jaO s.heap
 have h3:=h.cells
 refine j1g s (by omega) (by omega) (by have:=h.outs;omega) (fun k hk=>?_) fun k hk=>?_
 ·have hf:FrOk p (nth s.frames k):=h.inv.fr k hk
  have:=hf.len hs
  exact ⟨by have:=(hs.fns (nth s.frames k).fn.toNat (by have:=hf.f0;have:=hf.f1;omega)).hi;have:=hf.sl;omega,by omega⟩
 ·have:=jdM s.heap k hk;omega
theorem jvd {p:GProg} (hs:SOk p) {s:GState} (h:StInv p s):PCall Tryz.prog 64 [.agg (jai s)] (.agg (jai s)):=by
 have:=PCall.ofA (StInv.own hs h) (RS.vtoR h.inv.ok)
 rw [RS.of_st] at this
 exact this
theorem jsY {p:GProg} (hs:SOk p) {s:GState} (h:StInv p s) (inp:List Int) (hn:inp.length≤1000) (h0:jav p s < 0):PCall Tryz.prog 26 [.agg (jam p),.agg (jai s),jal eI 1 inp] (.agg (jai s)):=by
 have hnx:=jhG hs h
 have hcp:=jvd hs h
 generalize jav p s=a at *
 refine jbA Tryz.func26 Tryz.ntmps26 ?_
 (repeat' (first|refine jaa fun K hK=>?_|refine wkA ?_|(refine hK _ _ ?_;clear hK K)|(refine jad (fun hc=>?_) (fun hc=>?_)<;>first | contradiction | (exfalso;omega) | skip)|refine bxF 4 ?_|refine bxF 5 ?_|refine alF 6 ?_|refine cp (hnx) ?_|refine cp (hcp) ?_|refine wkB ?_|exact True.intro|(clear hK K)))
 (refine jaN [.cell 6 39] ?_;try simp only [go_sem])
theorem jsZ {p:GProg} (hs:SOk p) {s:GState} (h:StInv p s) (inp:List Int) (hn:inp.length≤1000) (h0:¬ jav p s < 0) (hw:jbR p s (jav p s) inp):PCall Tryz.prog 26 [.agg (jam p),.agg (jai s),jal eI 1 inp] (.agg (jai { s with status:=1 })):=by
 have hnx:=jhG hs h
 have hcp:=jvd hs h
 have h2:¬ (s.status=2∨s.status=3):=fun hh=>h0 (by unfold jav;rw [if_pos hh];decide)
 have hd:=h.doing (fun hh=>h2 (.inl hh)) 0 (by decide)
 have hat:atV p (RS.of { s with status:=0 }).st=jav p s:=by rw [RS.of_st];unfold jav;rw [if_neg h2];rfl
 obtain ⟨s0,s1,s2,s3,s4,s5⟩:=hd.stmt hs
 rw [hat] at s0 s1
 have hin0:=h.in0
 have hin1:=h.in1
 have hwt:=joi hs (jav p s) ((inp.length:Int) - s.in_) s0 s1 (by unfold rng;omega)
 obtain ⟨hls,hk19,hin⟩:=hw
 rw [decide_eq_true ⟨by omega,hls,hk19⟩] at hwt
 generalize jav p s=a at *
 refine jbA Tryz.func26 Tryz.ntmps26 ?_
 (repeat' (first|refine jaa fun K hK=>?_|refine wkA ?_|(refine hK _ _ ?_;clear hK K)|(refine jad (fun hc=>?_) (fun hc=>?_)<;>first | contradiction | (exfalso;omega) | skip)|refine bxF 4 ?_|refine bxF 5 ?_|refine alF 6 ?_|refine cp (hnx) ?_|refine cp (hwt) ?_|refine cp (hcp) ?_|refine wkB ?_|exact True.intro|(clear hK K)))
 (refine jaN [.cell 6 39] ?_;try simp only [go_sem])
theorem jsX {p:GProg} (hs:SOk p) {s:GState} (h:StInv p s) (inp:List Int) (hn:inp.length≤1000) (ht:0≤s.time∧s.time≤1000000) (h0:¬ jav p s < 0) (hw:¬ jbR p s (jav p s) inp)
  (hrg:∀ x:Int,0≤x→x.toNat < p.tree.nodes.length→isE (jan p.tree.nodes x)→rng ((RS.of { s with status:=0 }).val p x).1.n):PCall Tryz.prog 26 [.agg (jam p),.agg (jai s),jal eI 1 inp] (.agg (jai (jbc p s inp))):=by
 have hnx:=jhG hs h
 have hcp:=jvd hs h
 have h2:¬ (s.status=2∨s.status=3):=fun hh=>h0 (by unfold jav;rw [if_pos hh];decide)
 have hI0:StInv p { s with status:=0 }:=h.with (fun hh=>h2 (.inl hh)) 0 s.trap s.time
 have hcr:=StInv.own hs hI0
 have hd:=h.doing (fun hh=>h2 (.inl hh)) 0 (by decide)
 have hst:(RS.of { s with status:=0 }).st={ s with status:=0 }:=RS.of_st _
 have hat:atV p (RS.of { s with status:=0 }).st=jav p s:=by rw [RS.of_st];unfold jav;rw [if_neg h2];rfl
 obtain ⟨s0,s1,s2,s3,s4,s5⟩:=hd.stmt hs
 have hin0:=h.in0
 have hin1:=h.in1
 have hwt:=joi hs (jav p s) ((inp.length:Int) - s.in_) (by rw [← hat];exact s0) (by rw [← hat];exact s1) (by unfold rng;omega)
 rw [decide_eq_false (fun ⟨a,b,c⟩=>hw ⟨b,c,by omega⟩)] at hwt
 have hdo:=jvu hs inp hn _ hd (by rw [hat,hst];exact hw) hrg ((RS.of { s with status:=0 }).does p (atV p (RS.of { s with status:=0 }).st) inp).1 ((RS.of { s with status:=0 }).does p (atV p (RS.of { s with status:=0 }).st) inp).2 rfl
 have hda:=hd.does hs hn (by rw [hat,hst];exact hw)
 rw [hat] at hdo hda
 unfold jbc
 rw [if_neg h0,if_neg hw]
 simp only
 have hgr:=jfJ (RS.of { s with status:=0 }) p (jav p s) inp
 generalize (RS.of { s with status:=0 }).does p (jav p s) inp=D at *
 generalize jav p s=a at *
 have hl1:=hgr.frs
 have hl2:=hgr.heap
 have htm:D.1.time=s.time:=hgr.time
 have hpm:∀ i,jas ((RS.of { s with status:=0 }).rowsT [(4,.var 29 (jam p)),(5,.var 39 (jai { s with status:=0 })),(6,.var 39 [.raw (.slice none 0 0),.raw (.slice none 0 0),rI 0,.raw (.slice none 0 0),rI 0,rI 0,rI 0]),(0,.var 95 (jaj p++(RS.of { s with status:=0 }).c++[jal eI 1 inp,rI 0]))]) i=jas (rnE p inp 0 (RS.of { s with status:=0 }) [(4,.var 29 (jam p)),(5,.var 39 (jai { s with status:=0 })),(6,.var 39 [.raw (.slice none 0 0),.raw (.slice none 0 0),rI 0,.raw (.slice none 0 0),rI 0,rI 0,rI 0])]) i:=RS.e_perm2 (R:=RS.of { s with status:=0 }) rfl rfl fun i hi=>by
  simp only [jas,if_neg hi]
 by_cases hz:D.2=0
 ·rw [if_neg (fun e=>e hz)]
  have hD:=hda hz
  rw [hz] at hdo
  have hset:=jlO hs inp 0 { D.1 with time:=s.time+1 } ⟨⟨hD.inv.ok.nf,hD.inv.ok.jp⟩,hD.inv.frs,hD.inv.fr,hD.inv.busy,hD.inv.go⟩
  have hgs:=jcE p (RS.left { D.1 with time:=s.time+1 }+1) { D.1 with time:=s.time+1 }
  change Grew _ (({ D.1 with time:=s.time+1 }:RS).settle p) at hgs
  have hTok:(({ D.1 with time:=s.time+1 }:RS).settle p).Ok:=(jcx (RS.left { D.1 with time:=s.time+1 }+1) { D.1 with time:=s.time+1 } ⟨⟨hD.inv.ok.nf,hD.inv.ok.jp⟩,hD.inv.frs,hD.inv.fr,hD.inv.busy,hD.inv.go⟩ (by omega)).1.ok
  generalize hT:({ D.1 with time:=s.time+1 }:RS).settle p=T at *
  have hl3:D.1.frs.length≤T.frs.length:=hgs.frs
  have hl4:D.1.heap.length≤T.heap.length:=hgs.heap
  refine jbA Tryz.func26 Tryz.ntmps26 ?_
  (have W:=htm;repeat' (first|refine jaa fun K hK=>?_|refine wkA ?_|(with_reducible refine gR 9 ?_);refine dC 9 ([],[],[30]) [] [0,1,3,2,4,5,6] mixed ?_|(refine hK _ _ ?_;clear hK K)|(refine jad (fun hc=>?_) (fun hc=>?_)<;>first | contradiction | (exfalso;omega) | skip)|refine bxF 4 ?_|refine bxF 5 ?_|refine alF 6 ?_|refine bxF 0 ?_|refine cp (hnx) ?_|refine cp (hcp) ?_|refine cp (hwt) ?_|(refine cRD (R:=RS.of { s with status:=0 }) hcr rfl ?_;try ((refine S ?_;try exact True.intro)))|(refine cEp (R:=RS.of { s with status:=0 }) (R':=D.1) (pre:=jaj p) (post:=[jal eI 1 inp,rI 0]) (pre':=jaj p) (post':=[jal eI 1 inp,rI 0]) (tl:=[(4,.var 29 (jam p)),(5,.var 39 (jai { s with status:=0 })),(6,.var 39 [.raw (.slice none 0 0),.raw (.slice none 0 0),rI 0,.raw (.slice none 0 0),rI 0,rI 0,rI 0])]) hdo rfl hpm hl1 hl2 rfl rfl jac rfl (by simp only [go_sem]) ?_;try ((refine S ?_;try exact True.intro)))|(refine rE (R:={ D.1 with time:=s.time+1 }) hset rfl ?_;try ((refine S ?_;try exact True.intro)))|refine wkB ?_|exact True.intro|(clear hK K)));all_goals (try clear W)
  exact jhb [.cell 6 39] rfl (VToL.agg (ds:=jai T.st) (RS.vto (t:=95) (pre:=jaj p) (post:=[jal eI 1 inp,rI 0]) (R:=T) hTok fun _=>rfl))
 ·rw [if_pos hz]
  have hz':=eq_false hz
  have hes:jai { s with status:=0 }=[jal jaJ 3 s.frames,jal eLI 1 s.heap,rI s.in_,jal eS 1 s.out_,rI 0,rI s.trap,rI s.time]:=rfl
  refine jbA Tryz.func26 Tryz.ntmps26 ?_
  (have W:=And.intro hz' (hes);repeat' (first|refine jaa fun K hK=>?_|refine wkA ?_|(with_reducible refine gR 9 ?_);refine dC 9 ([],[],[30]) [] [0,1,3,2,4,5,6] mixed ?_|(refine hK _ _ ?_;clear hK K)|(refine jad (fun hc=>?_) (fun hc=>?_)<;>first | contradiction | (exfalso;omega) | skip)|refine bxF 4 ?_|refine bxF 5 ?_|refine alF 6 ?_|refine bxF 0 ?_|refine cp (hnx) ?_|refine cp (hcp) ?_|refine cp (hwt) ?_|(refine cRD (R:=RS.of { s with status:=0 }) hcr rfl ?_;try ((refine S ?_;try exact True.intro)))|(refine cEp (R:=RS.of { s with status:=0 }) (R':=D.1) (pre:=jaj p) (post:=[jal eI 1 inp,rI 0]) (pre':=jaj p) (post':=[jal eI 1 inp,rI D.2]) (tl:=[(4,.var 29 (jam p)),(5,.var 39 (jai { s with status:=0 })),(6,.var 39 [.raw (.slice none 0 0),.raw (.slice none 0 0),rI 0,.raw (.slice none 0 0),rI 0,rI 0,rI 0])]) hdo rfl hpm hl1 hl2 rfl rfl jac rfl (by simp only [go_sem]) ?_;try ((refine S ?_;try exact True.intro)))|refine wkB ?_|exact True.intro|(clear hK K)));all_goals (try clear W)
  exact jhb [.cell 6 39] rfl (.same (.agg (jai { s with status:=3,trap:=D.2,time:=s.time+1 })) (by simp only [AV.all];exact jcD _ _))
theorem jkC {p:GProg} (hs:SOk p) {n:Nat} {s:GState} (h:jja p n s) (hn2:n≤1000000) (inp:List Int) (hn:inp.length≤1000):PCall Tryz.prog 26 [.agg (jam p),.agg (jai s),jal eI 1 inp] (.agg (jai (jbc p s inp))):=by
 have hrg:∀ x:Int,0≤x→x.toNat < p.tree.nodes.length→isE (jan p.tree.nodes x)→rng ((RS.of { s with status:=0 }).val p x).1.n:=fun x h0 hl hE=>RngR.val hs (R:=RS.of { s with status:=0 }) ⟨h.rng.sl,h.rng.hp⟩ h.inv.cells h0 hl hE
 by_cases h0:jav p s < 0
 ·have:=jsY hs h.inv inp hn h0
  unfold jbc;rw [if_pos h0];exact this
 by_cases hw:jbR p s (jav p s) inp
 ·have:=jsZ hs h.inv inp hn h0 hw
  unfold jbc;rw [if_neg h0,if_pos hw];exact this
 exact jsX hs h.inv inp hn ⟨h.t0,by have:=h.t1;omega⟩ h0 hw hrg
theorem jjG {p:GProg} (hs:SOk p) (inp:List Int) (hn:inp.length≤1000) (hi:∀ x∈inp,rng x) (n:Nat) (hn2:n≤1000000):PCall Tryz.prog 28 [.agg (jam p),jal eI 1 inp,rI n] (.agg (jai (jbS p inp n))):=by
 have hst:=joh hs
 have hmx:((0:Int) > (n:Int))=False:=eq_false (by omega)
 refine jbA Tryz.func28 Tryz.ntmps28 ?_
 (have W:=hmx;repeat' (first|refine jaa fun K hK=>?_|refine wkA ?_|(refine hK _ _ ?_;clear hK K)|(refine jad (fun hc=>?_) (fun hc=>?_)<;>first | contradiction | (exfalso;omega) | skip)|refine bxF 4 ?_|refine alF 5 ?_|refine alF 6 ?_|refine cp (hst) ?_|refine wkB ?_|exact True.intro|(clear hK K)));all_goals (try clear W)
 have hKo:=hK;clear hK
 refine jah (S:=Nat) [(12,7)] (fun k=>k≤n) (fun k=>[(12,rI k)]) (fun k=>⟨[],[(4,.var 29 (jam p)),(5,.var 39 [.raw (.slice none 0 0),.raw (.slice none 0 0),rI 0,.raw (.slice none 0 0),rI 0,rI 0,rI 0]),(6,.var 39 (jai (jbS p inp k)))]⟩) (fun k=>n - k) 0 (by omega) (jaE rfl lle) ?_
 rintro k hk Kr hKr
 by_cases hlt:k < n
 ·have hsp:=jkC hs (jb1 hs hn hi k) (by omega) inp hn
  (refine S ?_;try exact True.intro)
  (repeat' (first|refine jaa fun K hK=>?_|refine wkA ?_|(refine hK _ _ ?_;clear hK K)|(refine jad (fun hc=>?_) (fun hc=>?_)<;>first | contradiction | (exfalso;omega) | skip)|refine cp (hsp) ?_|refine wkB ?_|exact True.intro|(clear hK K)))
  refine hKr _ _ (jau (k+1) (by omega) (by (try simp only);omega) rfl lle)
 ·have hke:k=n:=by omega
  subst hke
  (refine S ?_;try exact True.intro)
  (repeat' (first|refine jaa fun K hK=>?_|refine wkA ?_|(refine hK _ _ ?_;clear hK K)|(refine jad (fun hc=>?_) (fun hc=>?_)<;>first | contradiction | (exfalso;omega) | skip)|(refine hKo _ _ ?_)|refine wkB ?_|exact True.intro|(clear hK K)))
  (refine jaN [.cell 6 39] ?_;try simp only [go_sem])
end Go.Proofs.YtfkgcobaheegbaaGreatDoor

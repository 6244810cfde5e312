/- What a program means: whether a statement waits; the beginning. What a program means: the program's step, and a run. No conditions. -/
import Derived.Test.YtfkgcobaheegbaaGreatDoorSrF
import Derived.Test.YtfkgcobaheegbaaGreatDoorSoL
import Derived.Test.YtfkgcobaheegbaaGreatDoorGdR
set_option linter.all false
namespace Go.Gd
open Go
theorem FLe.nilS {F:List AV} {H:Hp} (j k sz:Nat) (d:List AV) {t:TypeId} {cs:List AV} (hj:H.get j=some (.var t cs)) (hk:cs[k]?=some (.raw (.slice none 0 0))):FLe F H F ⟨H.B,jhv H.l j (.var t (cs.set k (.sl false sz [] d)))⟩:=by
 have hF:∀ (l:List AV),VToL (fun _=>false) H l l:=fun l=>by
  induction l with
  | nil=>trivial
  | cons a l ih=>exact ⟨.same _ (by
   have:(jcQ fun _=>false)=fun _=>true:=rfl
   rw [this];exact jb2 a),ih⟩
 have hs:∀ (l:List AV) (k:Nat),l[k]?=some (.raw (.slice none 0 0))→VToL (fun _=>false) H l (l.set k (.sl false sz [] d)):=fun l=>by
  induction l with
  | nil=>intro k h;simp at h
  | cons a l ih=>
   intro k h
   cases k with
   | zero=>simp at h;subst h;exact ⟨VTo.nil _ _,hF l⟩
   | succ k=>exact ⟨(hF (a::l)).1,ih k (by simpa using h)⟩
 have hst:∀ (l:List (Nat×Row)),jeu (fun _=>false) l:=fun l=>by
  induction l with
  | nil=>trivial
  | cons x l ih=>exact ⟨.inr (jnx (by
   have:(jcQ fun _=>false)=fun _=>true:=rfl
   rw [this];exact jdO _)),ih⟩
 have:=FLe.freeC (F:=F) (F':=F) (H:=H) (fun _=>false) j (cs.set k (.sl false sz [] d)) hj rfl (hs cs k hk) (List.all_eq_true.2 fun _ _=>rfl) (hst _) (hF F)
 rw [jcP _ _ fun _ _=>rfl] at this
 exact this
end Go.Gd
namespace Go.Proofs.YtfkgcobaheegbaaGreatDoor
open Go Go.Gd
set_option maxHeartbeats 4000000
set_option maxRecDepth 10000
theorem jo6 {p:GProg} (hs:SOk p) (a left:Int) (h0:0≤a) (h1:a.toNat < p.tree.nodes.length) (hl:rng left):PCall Tryz.prog 65 [.agg (jaB p),rI a,rI left] (rB (decide (left≤0∧jgO p a∧(jag p (nth (jag p a).l 0)).kind=19))):=by
 unfold jag jgO
 by_cases c0:left≤0
 rotate_left
 ·rw [decide_eq_false (fun h=>c0 h.1)]
  have c0':=eq_false c0
  refine jb9 Tryz.func65 Tryz.ntmps65 ?_
  (have W:=c0';repeat' (first|refine jaa fun K hK=>?_|refine wkA ?_|(with_reducible refine gR 2 ?_);refine dE 2 [0,1,2,3,4,5,6,7,8,9,10,11,12,13,14,15,16,17,18,19,20,21,22,23,24,25] mixed ?_|(refine hK _ _ ?_;clear hK K)|(refine jae (fun hc=>?_) (fun hc=>?_)<;>first | contradiction | (exfalso;omega) | skip)|refine bxF 4 ?_|refine alF 5 ?_|refine wkB ?_|exact True.intro|(clear hK K)));all_goals (try clear W)
  (refine ja2 [.tmp 6] ?_;try simp only [go_sem])
  rfl
 by_cases c1:(nth p.tree.nodes a.toNat).kind=10∨(nth p.tree.nodes a.toNat).kind=11
 rotate_left
 ·rw [decide_eq_false (fun h=>c1 h.2.1)]
  have c0':=eq_true c0
  have c1a:((nth p.tree.nodes a.toNat).kind=10)=False:=eq_false fun e=>c1 (.inl e)
  have c1b:((nth p.tree.nodes a.toNat).kind=11)=False:=eq_false fun e=>c1 (.inr e)
  refine jb9 Tryz.func65 Tryz.ntmps65 ?_
  (have W:=And.intro c0' (And.intro c1a (c1b));repeat' (first|refine jaa fun K hK=>?_|refine wkA ?_|(with_reducible refine gR 2 ?_);refine dE 2 [0,1,2,3,4,5,6,7,8,9,10,11,12,13,14,15,16,17,18,19,20,21,22,23,24,25] mixed ?_|(refine hK _ _ ?_;clear hK K)|(refine jae (fun hc=>?_) (fun hc=>?_)<;>first | contradiction | (exfalso;omega) | skip)|refine bxF 4 ?_|refine alF 5 ?_|refine wkB ?_|exact True.intro|(clear hK K)));all_goals (try clear W)
  (refine ja2 [.tmp 6] ?_;try simp only [go_sem])
  rfl
 obtain ⟨x,hla,hxr⟩:=(hs.ok.tree.shape a.toNat h1).1.right c1
 have hkx:=(hs.ok.tree.shape a.toNat h1).2.1 x (by rw [hla];simp)
 have hx0:nth (nth p.tree.nodes a.toNat).l 0=x:=by rw [hla];rfl
 have hll:(nth p.tree.nodes a.toNat).l.length=1:=by rw [hla];rfl
 have hx1:x.toNat < p.tree.nodes.length:=by omega
 have hx2:=hkx.1
 rw [hx0]
 have e:decide (left≤0∧((nth p.tree.nodes a.toNat).kind=10∨(nth p.tree.nodes a.toNat).kind=11)∧(nth p.tree.nodes x.toNat).kind=19)=decide ((nth p.tree.nodes x.toNat).kind=19):=by
  by_cases k:(nth p.tree.nodes x.toNat).kind=19
  ·rw [decide_eq_true ⟨c0,c1,k⟩,decide_eq_true k]
  ·rw [decide_eq_false (fun h=>k h.2.2),decide_eq_false k]
 rw [e]
 have c0':=eq_true c0
 rcases c1 with c1 | c1<;>
 ·refine jb9 Tryz.func65 Tryz.ntmps65 ?_
  (have W:=And.intro c0' (And.intro c1 (And.intro hx0 (hll)));repeat' (first|refine jaa fun K hK=>?_|refine wkA ?_|(with_reducible refine gR 2 ?_);refine dE 2 [0,1,2,3,4,5,6,7,8,9,10,11,12,13,14,15,16,17,18,19,20,21,22,23,24,25] mixed ?_|(refine hK _ _ ?_;clear hK K)|(refine jae (fun hc=>?_) (fun hc=>?_)<;>first | contradiction | (exfalso;omega) | skip)|refine bxF 4 ?_|refine alF 5 ?_|refine wkB ?_|exact True.intro|(clear hK K)));all_goals (try clear W)
  (refine ja2 [.tmp 6] ?_;try simp only [go_sem])
theorem jvt (f:GFunc):PCall Tryz.prog 57 [.agg (ja8 f)] (rB (decide (f.name=(⟨#[109,97,105,110]⟩:ByteArray)))):=by
 refine jb9 Tryz.func57 Tryz.ntmps57 ?_
 (repeat' (first|refine jaa fun K hK=>?_|refine wkA ?_|(refine hK _ _ ?_;clear hK K)|(refine jae (fun hc=>?_) (fun hc=>?_)<;>first | contradiction | (exfalso;omega) | skip)|refine bxF 4 ?_|refine wkB ?_|exact True.intro|(clear hK K)))
 (refine ja2 [.tmp 2] ?_;try simp only [go_sem])
theorem js0 (L:List GFunc) (k:Nat) (hL:L.length≤1000) (hk:k < L.length) (hnm:(nth L k).name=(⟨#[109,97,105,110]⟩:ByteArray)) (hone:∀ i,i < k→(nth L i).name≠(⟨#[109,97,105,110]⟩:ByteArray)) :
  PCall Tryz.prog 56 [jal ja8 5 L,.raw (.func (.func 57) #[] #[])] (rI k):=by
 refine jb9 Tryz.func56 Tryz.ntmps56 ?_
 (repeat' (first|refine jaa fun K hK=>?_|refine wkA ?_|(refine hK _ _ ?_;clear hK K)|(refine jae (fun hc=>?_) (fun hc=>?_)<;>first | contradiction | (exfalso;omega) | skip)|refine wkB ?_|exact True.intro|(clear hK K)))
 refine jah (S:=Nat) [(4,2),(8,11)] (fun i=>i≤k) (fun i=>[(8,rI i)]) (fun i=>⟨[],[]⟩) (fun i=>k - i) 0 (by omega) (jaH rfl lle) ?_
 rintro i hi Kr hKr
 have hfc:=jvt (nth L i)
 by_cases e:i=k
 ·subst e
  rw [decide_eq_true hnm] at hfc
  (refine S ?_;try exact True.intro)
  (repeat' (first|refine jaa fun K hK=>?_|refine wkA ?_|(refine hK _ _ ?_;clear hK K)|(refine jae (fun hc=>?_) (fun hc=>?_)<;>first | contradiction | (exfalso;omega) | skip)|refine cp (hfc) ?_|refine wkB ?_|exact True.intro|(clear hK K)))
  (refine ja2 [.tmp 4] ?_;try simp only [go_sem])
 ·rw [decide_eq_false (hone i (by omega))] at hfc
  (refine S ?_;try exact True.intro)
  (repeat' (first|refine jaa fun K hK=>?_|refine wkA ?_|(refine hK _ _ ?_;clear hK K)|(refine jae (fun hc=>?_) (fun hc=>?_)<;>first | contradiction | (exfalso;omega) | skip)|refine cp (hfc) ?_|refine wkB ?_|exact True.intro|(clear hK K)))
  refine hKr _ _ (jaD (i+1) (by omega) (by (try simp only);omega) rfl lle)
theorem jig {p:GProg} (hs:SOk p):PCall Tryz.prog 19 [.agg (jaB p)] (.agg (jao (jjn p))):=by
 obtain ⟨m,hm,hidx,hnm,hpar⟩:=jnl hs
 have hfns:=hs.ok.tree.fns
 have hix:=js0 p.tree.fns m (by omega) hm hnm (fun i hi=>by have:=hs.names.one i m hi hm;rwa [hnm] at this)
 have hR0:(RS.of jjo).push (jbh p m [])=jfV p:=by unfold jfV;rw [hidx];rfl
 have hpu:=jip (args:=[.pt 0 0 0 0,rI m,.raw (.slice none 0 0)]) (args':=[.pt 0 0 0 0,rI m,jal jak 3 []]) ⟨VLe.refl _,VLe.refl _,VLe.nil,trivial⟩ (jrK hs [] 0 (RS.of jjo) (RS.of_ok _) rfl (by show 0≤1000;omega) m hm [] (by rw [hpar];rfl))
 have hset:=jmw hs [] 0 (jfV p) (jdP hs).inv
 have hTok:=(jcF ((jfV p).left+1) (jfV p) (jdP hs).inv (by omega)).1.ok
 have hgs:=jef p ((jfV p).left+1) (jfV p)
 change ((jfV p).settle p).Ok at hTok
 change Grew _ ((jfV p).settle p) at hgs
 rw [jlo]
 rw [hR0] at hpu
 generalize hB0:jfV p=R at *
 generalize hT:R.settle p=T at *
 have hl1:=hgs.frs
 have hl2:=hgs.heap
 have hpm:∀ i,jau [(4,.var 29 (jaB p)),(5,.var 39 [AV.raw (.slice none 0 0),.raw (.slice none 0 0),rI 0,.raw (.slice none 0 0),rI 0,rI 0,rI 0]),(0,.var 95 (jai p++(RS.of jjo).c++[jal eI 1 [],rI 0])),(1,.vec 57 3 []),(2,.vec 22 1 []),(3,.vec 9 1 [])] i=jau (rnE p [] 0 (RS.of jjo) [(4,.var 29 (jaB p)),(5,.var 39 [AV.raw (.slice none 0 0),.raw (.slice none 0 0),rI 0,.raw (.slice none 0 0),rI 0,rI 0,rI 0])]) i:=fun i=>by
  show jau [_,_,_,_,_,_] i=jau [_,_,_,_,_,_] i
  simp only [jau]
  repeat' split
  all_goals first
   | rfl
   | (exfalso;omega)
 refine jb9 Tryz.func19 Tryz.ntmps19 ?_
 (repeat' (first|(refine ja1 (FLe.nilC 1 0 6 57 3 rfl (by decide) rfl rfl) ?_)|(refine ja1 (FLe.nilC 2 0 7 22 1 rfl (by decide) rfl rfl) ?_)|(refine ja1 (FLe.nilC 3 0 9 9 1 rfl (by decide) rfl rfl) ?_)|(refine ja1 (FLe.nilS 0 13 1 (eI default) rfl rfl) ?_)|refine jaa fun K hK=>?_|refine wkA ?_|(refine hK _ _ ?_;clear hK K)|(refine jae (fun hc=>?_) (fun hc=>?_)<;>first | contradiction | (exfalso;omega) | skip)|refine bxF 4 ?_|refine bxF 0 ?_|refine alF 5 ?_|refine cp (hix) ?_|(refine cEp (R:=RS.of jjo) (R':=R) (pre:=jai p) (post:=[jal eI 1 [],rI 0]) (pre':=jai p) (post':=[jal eI 1 [],rI 0]) (tl:=[(4,.var 29 (jaB p)),(5,.var 39 [AV.raw (.slice none 0 0),.raw (.slice none 0 0),rI 0,.raw (.slice none 0 0),rI 0,rI 0,rI 0])]) hpu rfl hpm (Nat.zero_le _) (Nat.zero_le _) rfl rfl jaf rfl (by simp only [go_sem]) ?_;(refine S ?_;try exact True.intro))|(refine rE hset rfl ?_;try ((refine S ?_;try exact True.intro)))|refine wkB ?_|exact True.intro|(clear hK K)))
 exact jry [.cell 2 39] rfl (VToL.agg (ds:=jao T.st) (RS.vto (t:=95) (pre:=jai p) (post:=[jal eI 1 [],rI 0]) (R:=T) hTok fun _=>rfl))
end Go.Proofs.YtfkgcobaheegbaaGreatDoor
namespace Go.Gd
open Go
theorem cRD {P:Program} {A:AS} {f:FuncId} {args:List AV} {H:Hp} {g:AV→Hp→Prop} {d:Dep fun r H'=>HLx A H H'∧g r H'} {R:RS} {r0:AV} {tl:List (Nat×Row)} (hc:ACalls P f args [] fun r l=>r=r0∧l=R.rows) (hH:H=⟨[],tl⟩) (k:g r0 ⟨[],R.rowsT tl⟩) (hl:low tl:=by exact jaf) (h2:jaE noQ args=true:=by rfl) (h0:jad P f=true:=by (simp only [go_sem];done)):jbq P (.raw (.func (.func f) #[] #[])) args H (AP (fun r H'=>HLx A H H'∧g r H') d):=
 cR (K:=fun r H'=>HLx A H H'∧g r H') hc hH hl h2 h0 ⟨fun i r _ hr=>by
  subst hH
  have hr:jau tl i=some r:=hr
  have:=hl i r hr
  show jau (R.rowsT tl) i=some r
  rw [RS.rowsT_app,jbE,RS.rows_no i (.inr this.1) this.2,hr];rfl,k⟩
end Go.Gd
namespace Go.Proofs.YtfkgcobaheegbaaGreatDoor
open Go Go.Gd
set_option maxHeartbeats 4000000
set_option maxRecDepth 10000
@[go_sem] theorem j0U (s:GState):List.drop 7 (jao s)=[]:=(rfl)
attribute [go_sem] List.append_nil
theorem StInv.own {p:GProg} (hs:SOk p) {s:GState} (h:StInv p s):ACalls Tryz.prog 64 [.agg (jao s)] [] (fun r l=>r=.agg (RS.of s).c∧l=(RS.of s).rows):=by
 have h1:s.frames.length≤8:=h.inv.frs
 have h2:=jbI s.heap
 have h3:=h.cells
 refine j2k s (by omega) (by omega) (by have:=h.outs;omega) (fun k hk=>?_) fun k hk=>?_
 ·have hf:FrOk p (nth s.frames k):=h.inv.fr k hk
  have:=hf.len hs
  exact ⟨by have:=(hs.fns (nth s.frames k).fn.toNat (by have:=hf.f0;have:=hf.f1;omega)).hi;have:=hf.sl;omega,by omega⟩
 ·have:=jex s.heap k hk;omega
theorem jvX {p:GProg} (hs:SOk p) {s:GState} (h:StInv p s):PCall Tryz.prog 64 [.agg (jao s)] (.agg (jao s)):=by
 have:=PCall.ofA (StInv.own hs h) (RS.vtoR h.inv.ok)
 rw [RS.of_st] at this
 exact this
theorem jtD {p:GProg} (hs:SOk p) {s:GState} (h:StInv p s) (inp:List Int) (hn:inp.length≤1000) (h0:jaS p s < 0):PCall Tryz.prog 26 [.agg (jaB p),.agg (jao s),jal eI 1 inp] (.agg (jao s)):=by
 have hnx:=jfb hs h
 have hcp:=jvX hs h
 generalize jaS p s=a at *
 refine jb9 Tryz.func26 Tryz.ntmps26 ?_
 (repeat' (first|refine jaa fun K hK=>?_|refine wkA ?_|(refine hK _ _ ?_;clear hK K)|(refine jae (fun hc=>?_) (fun hc=>?_)<;>first | contradiction | (exfalso;omega) | skip)|refine bxF 4 ?_|refine bxF 5 ?_|refine alF 6 ?_|refine cp (hnx) ?_|refine cp (hcp) ?_|refine wkB ?_|exact True.intro|(clear hK K)))
 (refine ja2 [.cell 6 39] ?_;try simp only [go_sem])
theorem jtE {p:GProg} (hs:SOk p) {s:GState} (h:StInv p s) (inp:List Int) (hn:inp.length≤1000) (h0:¬ jaS p s < 0) (hw:jdE p s (jaS p s) inp):PCall Tryz.prog 26 [.agg (jaB p),.agg (jao s),jal eI 1 inp] (.agg (jao { s with status:=1 })):=by
 have hnx:=jfb hs h
 have hcp:=jvX hs h
 have h2:¬ (s.status=2∨s.status=3):=fun hh=>h0 (by unfold jaS;rw [if_pos hh];decide)
 have hd:=h.doing (fun hh=>h2 (.inl hh)) 0 (by decide)
 have hat:atV p (RS.of { s with status:=0 }).st=jaS p s:=by rw [RS.of_st];unfold jaS;rw [if_neg h2];rfl
 obtain ⟨s0,s1,s2,s3,s4,s5⟩:=hd.stmt hs
 rw [hat] at s0 s1
 have hin0:=h.in0
 have hin1:=h.in1
 have hwt:=jo6 hs (jaS p s) ((inp.length:Int) - s.in_) s0 s1 (by unfold rng;omega)
 obtain ⟨hls,hk19,hin⟩:=hw
 rw [decide_eq_true ⟨by omega,hls,hk19⟩] at hwt
 generalize jaS p s=a at *
 refine jb9 Tryz.func26 Tryz.ntmps26 ?_
 (repeat' (first|refine jaa fun K hK=>?_|refine wkA ?_|(refine hK _ _ ?_;clear hK K)|(refine jae (fun hc=>?_) (fun hc=>?_)<;>first | contradiction | (exfalso;omega) | skip)|refine bxF 4 ?_|refine bxF 5 ?_|refine alF 6 ?_|refine cp (hnx) ?_|refine cp (hwt) ?_|refine cp (hcp) ?_|refine wkB ?_|exact True.intro|(clear hK K)))
 (refine ja2 [.cell 6 39] ?_;try simp only [go_sem])
theorem jtC {p:GProg} (hs:SOk p) {s:GState} (h:StInv p s) (inp:List Int) (hn:inp.length≤1000) (ht:0≤s.time∧s.time≤1000000) (h0:¬ jaS p s < 0) (hw:¬ jdE p s (jaS p s) inp)
  (hrg:∀ x:Int,0≤x→x.toNat < p.tree.nodes.length→isE (jaj p.tree.nodes x)→rng ((RS.of { s with status:=0 }).val p x).1.n):PCall Tryz.prog 26 [.agg (jaB p),.agg (jao s),jal eI 1 inp] (.agg (jao (jdo p s inp))):=by
 have hnx:=jfb hs h
 have hcp:=jvX hs h
 have h2:¬ (s.status=2∨s.status=3):=fun hh=>h0 (by unfold jaS;rw [if_pos hh];decide)
 have hI0:StInv p { s with status:=0 }:=h.with (fun hh=>h2 (.inl hh)) 0 s.trap s.time
 have hcr:=StInv.own hs hI0
 have hd:=h.doing (fun hh=>h2 (.inl hh)) 0 (by decide)
 have hst:(RS.of { s with status:=0 }).st={ s with status:=0 }:=RS.of_st _
 have hat:atV p (RS.of { s with status:=0 }).st=jaS p s:=by rw [RS.of_st];unfold jaS;rw [if_neg h2];rfl
 obtain ⟨s0,s1,s2,s3,s4,s5⟩:=hd.stmt hs
 have hin0:=h.in0
 have hin1:=h.in1
 have hwt:=jo6 hs (jaS p s) ((inp.length:Int) - s.in_) (by rw [← hat];exact s0) (by rw [← hat];exact s1) (by unfold rng;omega)
 rw [decide_eq_false (fun ⟨a,b,c⟩=>hw ⟨b,c,by omega⟩)] at hwt
 have hdo:=jwh hs inp hn _ hd (by rw [hat,hst];exact hw) hrg ((RS.of { s with status:=0 }).does p (atV p (RS.of { s with status:=0 }).st) inp).1 ((RS.of { s with status:=0 }).does p (atV p (RS.of { s with status:=0 }).st) inp).2 rfl
 have hda:=hd.does hs hn (by rw [hat,hst];exact hw)
 rw [hat] at hdo hda
 unfold jdo
 rw [if_neg h0,if_neg hw]
 simp only
 have hgr:=jiP (RS.of { s with status:=0 }) p (jaS p s) inp
 generalize (RS.of { s with status:=0 }).does p (jaS p s) inp=D at *
 generalize jaS p s=a at *
 have hl1:=hgr.frs
 have hl2:=hgr.heap
 have htm:D.1.time=s.time:=hgr.time
 have hpm:∀ i,jau ((RS.of { s with status:=0 }).rowsT [(4,.var 29 (jaB p)),(5,.var 39 (jao { s with status:=0 })),(6,.var 39 [.raw (.slice none 0 0),.raw (.slice none 0 0),rI 0,.raw (.slice none 0 0),rI 0,rI 0,rI 0]),(0,.var 95 (jai p++(RS.of { s with status:=0 }).c++[jal eI 1 inp,rI 0]))]) i=jau (rnE p inp 0 (RS.of { s with status:=0 }) [(4,.var 29 (jaB p)),(5,.var 39 (jao { s with status:=0 })),(6,.var 39 [.raw (.slice none 0 0),.raw (.slice none 0 0),rI 0,.raw (.slice none 0 0),rI 0,rI 0,rI 0])]) i:=RS.e_perm2 (R:=RS.of { s with status:=0 }) rfl rfl fun i hi=>by
  simp only [jau,if_neg hi]
 by_cases hz:D.2=0
 ·rw [if_neg (fun e=>e hz)]
  have hD:=hda hz
  rw [hz] at hdo
  have hset:=jmw hs inp 0 { D.1 with time:=s.time+1 } ⟨⟨hD.inv.ok.nf,hD.inv.ok.jp⟩,hD.inv.frs,hD.inv.fr,hD.inv.busy,hD.inv.go⟩
  have hgs:=jef p (RS.left { D.1 with time:=s.time+1 }+1) { D.1 with time:=s.time+1 }
  change Grew _ (({ D.1 with time:=s.time+1 }:RS).settle p) at hgs
  have hTok:(({ D.1 with time:=s.time+1 }:RS).settle p).Ok:=(jcF (RS.left { D.1 with time:=s.time+1 }+1) { D.1 with time:=s.time+1 } ⟨⟨hD.inv.ok.nf,hD.inv.ok.jp⟩,hD.inv.frs,hD.inv.fr,hD.inv.busy,hD.inv.go⟩ (by omega)).1.ok
  generalize hT:({ D.1 with time:=s.time+1 }:RS).settle p=T at *
  have hl3:D.1.frs.length≤T.frs.length:=hgs.frs
  have hl4:D.1.heap.length≤T.heap.length:=hgs.heap
  refine jb9 Tryz.func26 Tryz.ntmps26 ?_
  (have W:=htm;repeat' (first|refine jaa fun K hK=>?_|refine wkA ?_|(with_reducible refine gR 9 ?_);refine dC 9 ([],[],[30]) [] [0,1,3,2,4,5,6] mixed ?_|(refine hK _ _ ?_;clear hK K)|(refine jae (fun hc=>?_) (fun hc=>?_)<;>first | contradiction | (exfalso;omega) | skip)|refine bxF 4 ?_|refine bxF 5 ?_|refine alF 6 ?_|refine bxF 0 ?_|refine cp (hnx) ?_|refine cp (hcp) ?_|refine cp (hwt) ?_|(refine cRD (R:=RS.of { s with status:=0 }) hcr rfl ?_;try ((refine S ?_;try exact True.intro)))|(refine cEp (R:=RS.of { s with status:=0 }) (R':=D.1) (pre:=jai p) (post:=[jal eI 1 inp,rI 0]) (pre':=jai p) (post':=[jal eI 1 inp,rI 0]) (tl:=[(4,.var 29 (jaB p)),(5,.var 39 (jao { s with status:=0 })),(6,.var 39 [.raw (.slice none 0 0),.raw (.slice none 0 0),rI 0,.raw (.slice none 0 0),rI 0,rI 0,rI 0])]) hdo rfl hpm hl1 hl2 rfl rfl jaf rfl (by simp only [go_sem]) ?_;try ((refine S ?_;try exact True.intro)))|(refine rE (R:={ D.1 with time:=s.time+1 }) hset rfl ?_;try ((refine S ?_;try exact True.intro)))|refine wkB ?_|exact True.intro|(clear hK K)));all_goals (try clear W)
  exact jry [.cell 6 39] rfl (VToL.agg (ds:=jao T.st) (RS.vto (t:=95) (pre:=jai p) (post:=[jal eI 1 inp,rI 0]) (R:=T) hTok fun _=>rfl))
 ·rw [if_pos hz]
  have hz':=eq_false hz
  have hes:jao { s with status:=0 }=[jal jaN 3 s.frames,jal eLI 1 s.heap,rI s.in_,jal eS 1 s.out_,rI 0,rI s.trap,rI s.time]:=rfl
  refine jb9 Tryz.func26 Tryz.ntmps26 ?_
  (have W:=And.intro hz' (hes);repeat' (first|refine jaa fun K hK=>?_|refine wkA ?_|(with_reducible refine gR 9 ?_);refine dC 9 ([],[],[30]) [] [0,1,3,2,4,5,6] mixed ?_|(refine hK _ _ ?_;clear hK K)|(refine jae (fun hc=>?_) (fun hc=>?_)<;>first | contradiction | (exfalso;omega) | skip)|refine bxF 4 ?_|refine bxF 5 ?_|refine alF 6 ?_|refine bxF 0 ?_|refine cp (hnx) ?_|refine cp (hcp) ?_|refine cp (hwt) ?_|(refine cRD (R:=RS.of { s with status:=0 }) hcr rfl ?_;try ((refine S ?_;try exact True.intro)))|(refine cEp (R:=RS.of { s with status:=0 }) (R':=D.1) (pre:=jai p) (post:=[jal eI 1 inp,rI 0]) (pre':=jai p) (post':=[jal eI 1 inp,rI D.2]) (tl:=[(4,.var 29 (jaB p)),(5,.var 39 (jao { s with status:=0 })),(6,.var 39 [.raw (.slice none 0 0),.raw (.slice none 0 0),rI 0,.raw (.slice none 0 0),rI 0,rI 0,rI 0])]) hdo rfl hpm hl1 hl2 rfl rfl jaf rfl (by simp only [go_sem]) ?_;try ((refine S ?_;try exact True.intro)))|refine wkB ?_|exact True.intro|(clear hK K)));all_goals (try clear W)
  exact jry [.cell 6 39] rfl (.same (.agg (jao { s with status:=3,trap:=D.2,time:=s.time+1 })) (by simp only [AV.all];exact jea _ _))
theorem jln {p:GProg} (hs:SOk p) {n:Nat} {s:GState} (h:jkv p n s) (hn2:n≤1000000) (inp:List Int) (hn:inp.length≤1000):PCall Tryz.prog 26 [.agg (jaB p),.agg (jao s),jal eI 1 inp] (.agg (jao (jdo p s inp))):=by
 have hrg:∀ x:Int,0≤x→x.toNat < p.tree.nodes.length→isE (jaj p.tree.nodes x)→rng ((RS.of { s with status:=0 }).val p x).1.n:=fun x h0 hl hE=>RngR.val hs (R:=RS.of { s with status:=0 }) ⟨h.rng.sl,h.rng.hp⟩ h.inv.cells h0 hl hE
 by_cases h0:jaS p s < 0
 ·have:=jtD hs h.inv inp hn h0
  unfold jdo;rw [if_pos h0];exact this
 by_cases hw:jdE p s (jaS p s) inp
 ·have:=jtE hs h.inv inp hn h0 hw
  unfold jdo;rw [if_neg h0,if_pos hw];exact this
 exact jtC hs h.inv inp hn ⟨h.t0,by have:=h.t1;omega⟩ h0 hw hrg
theorem jzp {p:GProg} (hs:SOk p) (inp:List Int) (hn:inp.length≤1000) (hi:∀ x∈inp,rng x) (n:Nat) (hn2:n≤1000000):PCall Tryz.prog 28 [.agg (jaB p),jal eI 1 inp,rI n] (.agg (jao (je8 p inp n))):=by
 have hst:=jig hs
 have hmx:((0:Int) > (n:Int))=False:=eq_false (by omega)
 refine jb9 Tryz.func28 Tryz.ntmps28 ?_
 (have W:=hmx;repeat' (first|refine jaa fun K hK=>?_|refine wkA ?_|(refine hK _ _ ?_;clear hK K)|(refine jae (fun hc=>?_) (fun hc=>?_)<;>first | contradiction | (exfalso;omega) | skip)|refine bxF 4 ?_|refine alF 5 ?_|refine alF 6 ?_|refine cp (hst) ?_|refine wkB ?_|exact True.intro|(clear hK K)));all_goals (try clear W)
 have hKo:=hK;clear hK
 refine jah (S:=Nat) [(12,7)] (fun k=>k≤n) (fun k=>[(12,rI k)]) (fun k=>⟨[],[(4,.var 29 (jaB p)),(5,.var 39 [.raw (.slice none 0 0),.raw (.slice none 0 0),rI 0,.raw (.slice none 0 0),rI 0,rI 0,rI 0]),(6,.var 39 (jao (je8 p inp k)))]⟩) (fun k=>n - k) 0 (by omega) (jaH rfl lle) ?_
 rintro k hk Kr hKr
 by_cases hlt:k < n
 ·have hsp:=jln hs (jdd hs hn hi k) (by omega) inp hn
  (refine S ?_;try exact True.intro)
  (repeat' (first|refine jaa fun K hK=>?_|refine wkA ?_|(refine hK _ _ ?_;clear hK K)|(refine jae (fun hc=>?_) (fun hc=>?_)<;>first | contradiction | (exfalso;omega) | skip)|refine cp (hsp) ?_|refine wkB ?_|exact True.intro|(clear hK K)))
  refine hKr _ _ (jaD (k+1) (by omega) (by (try simp only);omega) rfl lle)
 ·have hke:k=n:=by omega
  subst hke
  (refine S ?_;try exact True.intro)
  (repeat' (first|refine jaa fun K hK=>?_|refine wkA ?_|(refine hK _ _ ?_;clear hK K)|(refine jae (fun hc=>?_) (fun hc=>?_)<;>first | contradiction | (exfalso;omega) | skip)|(refine hKo _ _ ?_)|refine wkB ?_|exact True.intro|(clear hK K)))
  (refine ja2 [.cell 6 39] ?_;try simp only [go_sem])
end Go.Proofs.YtfkgcobaheegbaaGreatDoor

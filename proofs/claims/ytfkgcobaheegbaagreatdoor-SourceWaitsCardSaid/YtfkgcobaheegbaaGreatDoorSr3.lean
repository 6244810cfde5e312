/- What a program means: the program's runner, small steps. What a program means: the program's runner: calls that end, that settle. What a program means: the program's runner: expressions, what is asked for. No conditions. -/
import Derived.Test.YtfkgcobaheegbaaGreatDoorSoL
import Derived.Test.YtfkgcobaheegbaaGreatDoorEv6
set_option linter.all false
namespace Go.Gd
open Go
def jaj (p:GProg):List AV:=[jal jao 5 p.tree.nodes,jal jbe 5 p.tree.fns,jal eI 1 p.types,jal eI 1 p.slots,jal eI 1 p.fn,jal eI 1 p.size]
attribute [go_sem] jaj
theorem cEq {P:Program} {f:FuncId} {args:List AV} {H:Hp} {K:AV→Prop} {t:TypeId} {pre post:List AV} {R:RS} {r0:AV} {B:List Nat} {tl:List (Nat×Row)} (hc:ACalls P f args (R.e t pre post []) fun r l'=>r=r0∧l'=R.e t pre post []) (hH:H=⟨B,R.e t pre post tl⟩)
  (hp:jaB noQ pre=true) (hq:jaB noQ post=true) (hl:low tl) (ha:jaB (fun i=>decide (i=0)) args=true) (h0:jab P f=true) (k:K r0):∃ r,(jbm P (.raw (.func (.func f) #[] #[])) args H fun r' H'=>r'=r∧H'=H)∧K r:=
 ⟨r0,cE hc hH (Nat.le_refl _) (Nat.le_refl _) hp hq hl ha h0 ⟨rfl,hH.symm⟩,k⟩
end Go.Gd
namespace Go.Proofs.YtfkgcobaheegbaaGreatDoor
open Go Go.Gd
set_option maxHeartbeats 4000000
set_option maxRecDepth 10000
abbrev rnE (p:GProg) (inp:List Int) (tr:Int) (R:RS) (tl:List (Nat×Row)):List (Nat×Row):=R.e 95 (jaj p) [jal eI 1 inp,rI tr] tl
theorem jiC (p:GProg) (inp:List Int) (tr:Int) (R:RS) (h:R.Ok) (h1:1≤R.nf) (h8:R.frs.length≤1000) :
  ACalls Tryz.prog 98 [.pt 0 0 0 0] (rnE p inp tr R []) (fun r l=>r=.pt 1 R.frs.length (R.nf - 1) 0∧l=rnE p inp tr R []):=by
 have hnf:=h.nf
 suffices key:∀ R':RS,R'=R→ACalls Tryz.prog 98 [.pt 0 0 0 0] (rnE p inp tr R []) (fun r l=>r=.pt 1 R.frs.length (R.nf - 1) 0∧l=rnE p inp tr R' []) from key R rfl
 intro R' hR'
 refine jaw Tryz.func98 Tryz.ntmps98 ?_
 generalize hB:ids (rnE p inp tr R [])=B
 generalize hE:rnE p inp tr R' []=E
 (refine S ?_;try exact True.intro)
 (repeat' (first|refine jaa fun K hK=>?_|refine wkA ?_|(with_reducible refine gR 1 ?_);refine dE 1 [0,1,2,3,4,5,6,7,8,9,10,11,12,13] mixed ?_|(refine hK _ _ ?_;clear hK K)|(refine jad (fun hc=>?_) (fun hc=>?_)<;>first | contradiction | (exfalso;omega) | skip)|refine wkB ?_|exact True.intro|(clear hK K)))
 subst hE
 subst hR'
 exact jsI (R':=R') (pre':=jaj p) (post':=[jal eI 1 inp,rI tr]) rfl hB [.tmp 2] jac rfl rfl rfl
theorem jgK (p:GProg) (inp:List Int) (tr:Int) (R:RS) (a:Int) (h0:0≤a) (h1:a.toNat < p.tree.nodes.length) :
  ACalls Tryz.prog 102 [.pt 0 0 0 0,rI a] (rnE p inp tr R []) (fun r l=>r=.agg (jao (jak p a))∧l=rnE p inp tr R []):=by
 suffices key:∀ R':RS,R'=R→ACalls Tryz.prog 102 [.pt 0 0 0 0,rI a] (rnE p inp tr R []) (fun r l=>r=.agg (jao (jak p a))∧l=rnE p inp tr R' []) from key R rfl
 intro R' hR'
 unfold jak
 refine jaw Tryz.func102 Tryz.ntmps102 ?_
 generalize hB:ids (rnE p inp tr R [])=B
 generalize hE:rnE p inp tr R' []=E
 (refine S ?_;try exact True.intro)
 (repeat' (first|refine jaa fun K hK=>?_|refine wkA ?_|(refine hK _ _ ?_;clear hK K)|(refine jad (fun hc=>?_) (fun hc=>?_)<;>first | contradiction | (exfalso;omega) | skip)|refine alF 4 ?_|refine wkB ?_|exact True.intro|(clear hK K)))
 subst hE
 subst hR'
 exact jb8 (R':=R') (pre':=jaj p) (post':=[jal eI 1 inp,rI tr]) rfl hB [.cell 4 53] jac rfl rfl (by simp only [go_sem])
theorem jhH (p:GProg) (inp:List Int) (tr:Int) (R:RS) (h:R.Ok) (h1:1≤R.nf) (h8:R.frs.length≤1000) (hp:1≤R.topF.path.length) (hp2:R.topF.path.length≤1000) :
  ACalls Tryz.prog 101 [.pt 0 0 0 0] (rnE p inp tr R []) (fun r l=>r=.pt (fid 1 (R.nf - 1)) (R.topF.path.length+(nth R.jp (R.nf - 1)).length) (R.topF.path.length - 1) 0∧l=rnE p inp tr R []):=by
 have hnf:=h.nf
 have htc:=jiC p inp tr R h h1 h8
 have hk:R.nf - 1 < R.frs.length:=by omega
 have e0:R.topF=nth R.frs (R.nf - 1):=rfl
 rw [e0] at hp hp2 ⊢
 suffices key:∀ R':RS,R'=R→ACalls Tryz.prog 101 [.pt 0 0 0 0] (rnE p inp tr R []) (fun r l=>r=.pt (fid 1 (R.nf - 1)) ((nth R.frs (R.nf - 1)).path.length+(nth R.jp (R.nf - 1)).length) ((nth R.frs (R.nf - 1)).path.length - 1) 0∧l=rnE p inp tr R' []) from key R rfl
 intro R' hR'
 refine jaw Tryz.func101 Tryz.ntmps101 ?_
 generalize hB:ids (rnE p inp tr R [])=B
 generalize hE:rnE p inp tr R' []=E
 (refine S ?_;try exact True.intro)
 (repeat' (first|refine jaa fun K hK=>?_|refine wkA ?_|(with_reducible refine gR 2 ?_);refine dE 2 [0,1,2,3,4,5,6,7,8,9,10,11] mixed ?_|(refine hK _ _ ?_;clear hK K)|(refine jad (fun hc=>?_) (fun hc=>?_)<;>first | contradiction | (exfalso;omega) | skip)|(refine cE (R:=R) (R':=R) (pre:=jaj p) (post:=[jal eI 1 inp,rI tr]) (pre':=jaj p) (post':=[jal eI 1 inp,rI tr]) htc rfl (Nat.le_refl _) (Nat.le_refl _) rfl rfl jac rfl (by simp only [go_sem]) ?_;(refine S ?_;try exact True.intro))|refine wkB ?_|exact True.intro|(clear hK K)))
 subst hE
 subst hR'
 exact jsI (R':=R') (pre':=jaj p) (post':=[jal eI 1 inp,rI tr]) rfl hB [.tmp 2] jac rfl rfl (by simp only [AV.all,jcB,jeQ];rfl)
structure Here (p:GProg) (R:RS):Prop where
 ok:R.Ok
 nf:1≤R.nf
 frs:R.frs.length≤1000
 pa:1≤R.topF.path.length
 pas:R.topF.path.length≤1000
 b0:0≤R.topF.pl.block
 b1:R.topF.pl.block < p.tree.nodes.length
 a0:0≤R.topF.pl.at_
 a1:R.topF.pl.at_ < (jb3 p R.topF.pl.block).length
theorem jq1 {p:GProg} {R:RS} (h:StAt p R.st) (hok:R.Ok) (h1:1≤R.nf) (h8:R.frs.length≤1000):Here p R:=by
 have e:R.st.top=R.topF:=RS.top hok h1
 have q1:=h.pa
 have q2:=h.pas
 have q3:=h.b0
 have q4:=h.b1
 have q5:=h.a0
 have q6:=h.a1
 rw [e] at q1 q2 q3 q4 q5 q6
 exact ⟨hok,h1,h8,q1,q2,q3,q4,q5,q6⟩
theorem jvw (p:GProg) (inp:List Int) (tr:Int) (R:RS) (h:Here p R) :
  ACalls Tryz.prog 62 [.pt 0 0 0 0] (rnE p inp tr R []) (fun r l=>r=rI (atV p R.st)∧l=rnE p inp tr R []):=by
 have hnf:=h.ok.nf
 have h1:=h.nf
 have hpc:=jhH p inp tr R h.ok h.nf h.frs h.pa h.pas
 have q1:=h.pa
 have q2:=h.pas
 have q3:=h.b0
 have q4:=h.b1
 have q5:=h.a0
 have q6:=h.a1
 have hk:R.nf - 1 < R.frs.length:=by omega
 have e0:R.topF=nth R.frs (R.nf - 1):=rfl
 have e1:R.st.top=nth R.frs (R.nf - 1):=RS.top h.ok h.nf
 have hnc:=jgK p inp tr R R.topF.pl.block q3 (by omega)
 unfold atV jb3
 rw [e1]
 rw [e0] at q1 q2 q3 q4 q5 q6 hpc hnc
 unfold jb3 at q6
 unfold GFrame.pl at q3 q4 q5 q6 hnc ⊢
 unfold jak at hnc
 suffices key:∀ R':RS,R'=R→ACalls Tryz.prog 62 [.pt 0 0 0 0] (rnE p inp tr R []) (fun r l=>r=rI (nth (nth p.tree.nodes (nth (nth R.frs (R.nf - 1)).path ((nth R.frs (R.nf - 1)).path.length - 1)).block.toNat).l (nth (nth R.frs (R.nf - 1)).path ((nth R.frs (R.nf - 1)).path.length - 1)).at_.toNat)∧l=rnE p inp tr R' []) from key R rfl
 intro R' hR'
 refine jaw Tryz.func62 Tryz.ntmps62 ?_
 generalize hB:ids (rnE p inp tr R [])=B
 generalize hE:rnE p inp tr R' []=E
 (refine S ?_;try exact True.intro)
 (repeat' (first|refine jaa fun K hK=>?_|refine wkA ?_|(with_reducible refine gR 2 ?_);refine dQ 2 mixed ?_|(refine hK _ _ ?_;clear hK K)|(refine jad (fun hc=>?_) (fun hc=>?_)<;>first | contradiction | (exfalso;omega) | skip)|(refine cE (R:=R) (R':=R) (pre:=jaj p) (post:=[jal eI 1 inp,rI tr]) (pre':=jaj p) (post':=[jal eI 1 inp,rI tr]) hpc rfl (Nat.le_refl _) (Nat.le_refl _) rfl rfl jac rfl (by simp only [go_sem]) ?_;(refine S ?_;try exact True.intro))|(refine cE (R:=R) (R':=R) (pre:=jaj p) (post:=[jal eI 1 inp,rI tr]) (pre':=jaj p) (post':=[jal eI 1 inp,rI tr]) hnc rfl (Nat.le_refl _) (Nat.le_refl _) rfl rfl jac rfl (by simp only [go_sem]) ?_;(refine S ?_;try exact True.intro))|(refine cEq (R:=R) (pre:=jaj p) (post:=[jal eI 1 inp,rI tr]) hnc rfl rfl rfl jac rfl (by simp only [go_sem]) ?_;(refine S ?_;try exact True.intro))|refine wkB ?_|exact True.intro|(clear hK K)))
 subst hE
 subst hR'
 exact jb8 (R':=R') (pre':=jaj p) (post':=[jal eI 1 inp,rI tr]) rfl hB [.tmp 2] jac rfl rfl rfl
theorem jtP (R:RS) (h:1≤(nth R.frs (R.nf - 1)).path.length) (j:Nat):(if j=R.nf - 1 then Row.vec 89 2 ((List.map jay (nth R.frs (R.nf - 1)).path++List.map jay (nth R.jp (R.nf - 1))).set ((nth R.frs (R.nf - 1)).path.length - 1) (jay ⟨(nth (nth R.frs (R.nf - 1)).path ((nth R.frs (R.nf - 1)).path.length - 1)).block,(nth (nth R.frs (R.nf - 1)).path ((nth R.frs (R.nf - 1)).path.length - 1)).at_+1⟩)) else Row.vec 89 2 (List.map jay (nth R.frs j).path++List.map jay (nth R.jp j))) =
  if j=R.nf - 1 then Row.vec 89 2 (List.map jay ((nth R.frs (R.nf - 1)).path.set ((nth R.frs (R.nf - 1)).path.length - 1) ⟨(nth (nth R.frs (R.nf - 1)).path ((nth R.frs (R.nf - 1)).path.length - 1)).block,(nth (nth R.frs (R.nf - 1)).path ((nth R.frs (R.nf - 1)).path.length - 1)).at_+1⟩++nth R.jp (R.nf - 1))) else R.pt j:=by
 by_cases e:j=R.nf - 1
 ·rw [if_pos e,if_pos e,← List.map_append,← List.map_set]
  congr 2
  exact List.set_append_left _ _ (by omega)
 ·rw [if_neg e,if_neg e,List.map_append.symm];rfl
theorem jgJ (p:GProg) (inp:List Int) (tr:Int) (a:Int) (v:GValue) (R:RS) (ho:OnOk R) (h0:0≤a) (h1:a.toNat < p.tree.nodes.length) (hsl:p.slots.length=p.tree.nodes.length) (hs:jfn p a→0≤nth p.slots a.toNat∧nth p.slots a.toNat < (nth R.frs (R.nf - 1)).slots.length) :
  ACalls Tryz.prog 153 [.pt 0 0 0 0,rI a,.agg (jag v)] (rnE p inp tr R []) (fun r l=>r=.tup []∧l=rnE p inp tr (if jfn p a then R.setS p a v else R).on []):=by
 have hnf:=ho.ok.nf
 have hn1:=ho.nf
 have hfr:=ho.frs
 have hk:R.nf - 1 < R.frs.length:=by omega
 have hnc:=jgK p inp tr R a h0 h1
 unfold jak at hnc
 have htc:=jiC p inp tr R ho.ok ho.nf ho.frs
 by_cases hls:jfn p a
 ·rw [if_pos hls]
  obtain ⟨hs1,hs2⟩:=hs hls
  have ho2:OnOk (R.setS p a v):=ho.upd rfl
  obtain ⟨R1,hR1⟩:∃ R1,R1=R.setS p a v:=⟨_,rfl⟩
  rw [← hR1] at ho2 ⊢
  have hpl:=jhH p inp tr R1 ho2.ok ho2.nf ho2.frs ho2.pa ho2.pas
  rw [show R1.topF=nth R1.frs (R1.nf - 1) from rfl] at hpl
  have hk1:R1.nf - 1 < R1.frs.length:=by have:=ho2.ok.nf;have:=ho2.nf;omega
  have g1:=ho2.pa
  have g2:=ho2.pas
  have g3:=ho2.a0
  have g4:=ho2.a1
  have g5:=ho2.ok.jp
  unfold GFrame.pl at g3 g4
  have hes:∀ tl,(R.upd (R.nf - 1) { nth R.frs (R.nf - 1) with slots:=(nth R.frs (R.nf - 1)).slots.set (nth p.slots a.toNat).toNat v }).e 95 (jaj p) [jal eI 1 inp,rI tr] tl=R1.e 95 (jaj p) [jal eI 1 inp,rI tr] tl:=fun tl=>by rw [hR1];rfl
  have hj:∀ j,(if j=R.nf - 1 then Row.vec 59 3 ((List.map jag (nth R.frs (R.nf - 1)).slots).set (nth p.slots a.toNat).toNat (jag v++List.drop 3 (jag (nth (nth R.frs (R.nf - 1)).slots (nth p.slots a.toNat).toNat)))) else Row.vec 59 3 (List.map jag (nth R.frs j).slots))=if j=R.nf - 1 then .vec 59 3 (((nth R.frs (R.nf - 1)).slots.set (nth p.slots a.toNat).toNat v).map jag) else R.sl j:=fun j=>by
   by_cases e:j=R.nf - 1
   ·rw [if_pos e,if_pos e,List.map_set];rfl
   ·rw [if_neg e,if_neg e];rfl
  unfold jfn at hls
  refine jaw Tryz.func153 Tryz.ntmps153 ?_
  generalize hB:ids (rnE p inp tr R [])=B
  generalize hE:rnE p inp tr R1.on []=E
  (refine S ?_;try exact True.intro)
  (have W:=hls;repeat' (first|refine jaa fun K hK=>?_|refine wkA ?_|(with_reducible refine gR 3 ?_);refine dC 3 ([],[18],[]) [] [0,1,2,3,4,5,6,7,8,9,10,11,12,13,14,15] mixed ?_|(refine hK _ _ ?_;clear hK K)|(refine jad (fun hc=>?_) (fun hc=>?_)<;>first | contradiction | (exfalso;omega) | skip)|refine bxF 4 ?_|(refine cE (R:=R) (R':=R) (pre:=jaj p) (post:=[jal eI 1 inp,rI tr]) (pre':=jaj p) (post':=[jal eI 1 inp,rI tr]) hnc rfl (Nat.le_refl _) (Nat.le_refl _) rfl rfl jac rfl (by simp only [go_sem]) ?_;(refine S ?_;try exact True.intro))|(refine cEq (R:=R) (pre:=jaj p) (post:=[jal eI 1 inp,rI tr]) hnc rfl rfl rfl jac rfl (by simp only [go_sem]) ?_;(refine S ?_;try exact True.intro))|(refine cE (R:=R) (R':=R) (pre:=jaj p) (post:=[jal eI 1 inp,rI tr]) (pre':=jaj p) (post':=[jal eI 1 inp,rI tr]) htc rfl (Nat.le_refl _) (Nat.le_refl _) rfl rfl jac rfl (by simp only [go_sem]) ?_;(refine S ?_;try exact True.intro))|(refine cEq (R:=R) (pre:=jaj p) (post:=[jal eI 1 inp,rI tr]) htc rfl rfl rfl jac rfl (by simp only [go_sem]) ?_;(refine S ?_;try exact True.intro))|(refine cE (R:=R1) (R':=R1) (pre:=jaj p) (post:=[jal eI 1 inp,rI tr]) (pre':=jaj p) (post':=[jal eI 1 inp,rI tr]) hpl (congrArg (Hp.mk B) ((RS.e_slots (R:=R) (k:=R.nf - 1) hk (List.length_set ..) rfl hj).trans (hes _))) (Nat.le_refl _) (Nat.le_refl _) rfl rfl jac rfl (by simp only [go_sem]) ?_;(refine S ?_;try exact True.intro))|refine wkB ?_|exact True.intro|(clear hK K)));all_goals (try clear W)
  subst hE
  exact jb8 (R':=R1.on) (pre':=jaj p) (post':=[jal eI 1 inp,rI tr]) (tl:=[(4,.var 59 (jag v))]) (congrArg (Hp.mk B) (RS.e_path (R:=R1) (k:=R1.nf - 1) hk1 (by simp) rfl fun j=>jtP R1 g1 j)) hB [] jac rfl rfl rfl
 ·rw [if_neg hls]
  have hpl:=jhH p inp tr R ho.ok ho.nf ho.frs ho.pa ho.pas
  rw [show R.topF=nth R.frs (R.nf - 1) from rfl] at hpl
  have g1:=ho.pa
  have g2:=ho.pas
  have g3:=ho.a0
  have g4:=ho.a1
  have g5:=ho.ok.jp
  unfold GFrame.pl at g3 g4
  unfold jfn at hls
  refine jaw Tryz.func153 Tryz.ntmps153 ?_
  generalize hB:ids (rnE p inp tr R [])=B
  generalize hE:rnE p inp tr R.on []=E
  (refine S ?_;try exact True.intro)
  (have W:=hls;repeat' (first|refine jaa fun K hK=>?_|refine wkA ?_|(refine hK _ _ ?_;clear hK K)|(refine jad (fun hc=>?_) (fun hc=>?_)<;>first | contradiction | (exfalso;omega) | skip)|refine bxF 4 ?_|(refine cE (R:=R) (R':=R) (pre:=jaj p) (post:=[jal eI 1 inp,rI tr]) (pre':=jaj p) (post':=[jal eI 1 inp,rI tr]) hnc rfl (Nat.le_refl _) (Nat.le_refl _) rfl rfl jac rfl (by simp only [go_sem]) ?_;(refine S ?_;try exact True.intro))|(refine cE (R:=R) (R':=R) (pre:=jaj p) (post:=[jal eI 1 inp,rI tr]) (pre':=jaj p) (post':=[jal eI 1 inp,rI tr]) hpl rfl (Nat.le_refl _) (Nat.le_refl _) rfl rfl jac rfl (by simp only [go_sem]) ?_;(refine S ?_;try exact True.intro))|refine wkB ?_|exact True.intro|(clear hK K)));all_goals (try clear W)
  subst hE
  exact jb8 (R':=R.on) (pre':=jaj p) (post':=[jal eI 1 inp,rI tr]) (tl:=[(4,.var 59 (jag v))]) (congrArg (Hp.mk B) (RS.e_path (R:=R) (k:=R.nf - 1) hk (by simp) rfl fun j=>jtP R g1 j)) hB [] jac rfl rfl rfl
theorem jq0 (p:GProg) (inp:List Int) (tr:Int) (v:GValue) (R:RS) (h:R.Ok) (h1:1≤R.nf) (h4:R.frs.length≤1000) (ha:2≤R.nf→StAt p R.pop.st) :
  ACalls Tryz.prog 99 [.pt 0 0 0 0,.agg (jag v)] (rnE p inp tr R []) (fun r l=>r=.tup []∧l=rnE p inp tr (R.tells p v) []):=by
 have hnf:=h.nf
 have hpop:R.pop.Ok:=⟨by show R.nf - 1≤R.frs.length;omega,h.jp⟩
 rcases Nat.lt_or_ge R.nf 2 with h2 | h2
 ·have e:R.tells p v={ R.pop with status:=2 }:=by unfold RS.tells;rw [if_pos (by omega)]
  rw [e]
  have h0:R.nf - 1=0:=by omega
  refine jaw Tryz.func99 Tryz.ntmps99 ?_
  generalize hB:ids (rnE p inp tr R [])=B
  generalize hE:rnE p inp tr { R.pop with status:=2 } []=E
  (refine S ?_;try exact True.intro)
  (repeat' (first|refine jaa fun K hK=>?_|refine wkA ?_|(with_reducible refine gR 1 ?_);refine dE 1 [0,1,2,3,4,5,6,7,8,9,10,11,12,13,14,15,16,17] mixed ?_|(refine hK _ _ ?_;clear hK K)|(refine jad (fun hc=>?_) (fun hc=>?_)<;>first | contradiction | (exfalso;omega) | skip)|refine bxF 4 ?_|refine wkB ?_|exact True.intro|(clear hK K)))
  subst hE
  exact jb8 (R':={ R.pop with status:=2 }) (pre':=jaj p) (post':=[jal eI 1 inp,rI tr]) rfl hB [] jac rfl rfl rfl
 ·have hA:=ha h2
  have hn0:=hA.n0
  have hn1:=hA.n1
  have hsl:=hA.sl
  have hn:1≤R.pop.nf:=by show 1≤R.nf - 1;omega
  have htop:=RS.top hpop hn
  have hH:=jq1 hA hpop hn h4
  have hs0:=hA.s0
  have hpa:=hA.pa
  have hpas:=hA.pas
  have ha0:=hA.a0
  have hats:=hA.ats
  rw [htop] at hs0 hpa hpas ha0 hats
  have hon:OnOk R.pop:=⟨hpop,hn,h4,hpa,hpas,ha0,hats⟩
  have hnx:=jvw p inp tr R.pop hH
  have hdo:=jgJ p inp tr (atV p R.pop.st) v R.pop hon hn0 (by omega) hsl hs0
  have e:R.tells p v=(if jfn p (atV p R.pop.st) then R.pop.setS p (atV p R.pop.st) v else R.pop).on:=by
   unfold RS.tells;rw [if_neg (by omega)];split<;>rfl
  rw [← e] at hdo
  have hlen:=jeD R p v
  generalize R.tells p v=Z at *
  generalize atV p R.pop.st=a at *
  refine jaw Tryz.func99 Tryz.ntmps99 ?_
  generalize hB:ids (rnE p inp tr R [])=B
  generalize hE:rnE p inp tr Z []=E
  (refine S ?_;try exact True.intro)
  (repeat' (first|refine jaa fun K hK=>?_|refine wkA ?_|(with_reducible refine gR 1 ?_);refine dE 1 [0,1,2,3,4,5,6,7,8,9,10,11,12,13,14,15,16,17] mixed ?_|(with_reducible refine gR 4 ?_);refine dC 4 ([],[34],[]) [] [0,1,2,3,4] mixed ?_|(refine hK _ _ ?_;clear hK K)|(refine jad (fun hc=>?_) (fun hc=>?_)<;>first | contradiction | (exfalso;omega) | skip)|refine bxF 4 ?_|(refine cE (R:=R.pop) (R':=R.pop) (pre:=jaj p) (post:=[jal eI 1 inp,rI tr]) (pre':=jaj p) (post':=[jal eI 1 inp,rI tr]) (tl:=[(4,.var 59 (jag v))]) hnx rfl (Nat.le_refl _) (Nat.le_refl _) rfl rfl jac rfl (by simp only [go_sem]) ?_;try ((refine S ?_;try exact True.intro)))|(refine cE (R:=R.pop) (R':=Z) (pre:=jaj p) (post:=[jal eI 1 inp,rI tr]) (pre':=jaj p) (post':=[jal eI 1 inp,rI tr]) (tl:=[(4,.var 59 (jag v))]) hdo rfl (Nat.le_of_eq hlen.1.symm) (Nat.le_of_eq (congrArg List.length hlen.2.symm)) rfl rfl jac rfl (by simp only [go_sem]) ?_;try ((refine S ?_;try exact True.intro)))|(refine cEq (R:=R.pop) (pre:=jaj p) (post:=[jal eI 1 inp,rI tr]) (tl:=[(4,.var 59 (jag v))]) hnx rfl rfl rfl jac rfl (by simp only [go_sem]) ?_;try ((refine S ?_;try exact True.intro)))|refine wkB ?_|exact True.intro|(clear hK K)))
  subst hE
  exact jb8 (R':=Z) (pre':=jaj p) (post':=[jal eI 1 inp,rI tr]) rfl hB [] jac rfl rfl rfl
theorem jlO {p:GProg} (h:SOk p) (inp:List Int) (tr:Int) (R:RS) (hI:InvR p R) :
  ACalls Tryz.prog 58 [.pt 0 0 0 0] (rnE p inp tr R []) (fun r l=>r=.tup []∧l=rnE p inp tr (R.settle p) []):=by
 refine jaw Tryz.func58 Tryz.ntmps58 ?_
 generalize hB:ids (rnE p inp tr R [])=B
 generalize hE:rnE p inp tr (R.settle p) []=E
 (refine S ?_;try exact True.intro)
 (repeat' (first|refine jaa fun K hK=>?_|refine wkA ?_|(refine hK _ _ ?_;clear hK K)|(refine jad (fun hc=>?_) (fun hc=>?_)<;>first | contradiction | (exfalso;omega) | skip)|refine wkB ?_|exact True.intro|(clear hK K)))
 refine jah (S:=RS) [(2,61)] (fun T=>InvR p T∧jbf p (T.left+1) T=R.settle p) (fun _=>[]) (fun T=>⟨B,rnE p inp tr T []⟩) (fun T=>T.left) R ⟨hI,rfl⟩ (jaE rfl lle) ?_
 rintro T ⟨hT,hS⟩ Kr hKr
 have hnf:=hT.ok.nf
 have hfr:=hT.frs
 have hjp:=hT.ok.jp
 unfold jbf at hS
 by_cases e0:T.status=2
 ·rw [if_pos e0] at hS
  (refine S ?_;try exact True.intro)
  (repeat' (first|refine jaa fun K hK=>?_|refine wkA ?_|(refine hK _ _ ?_;clear hK K)|(refine jad (fun hc=>?_) (fun hc=>?_)<;>first | contradiction | (exfalso;omega) | skip)|refine wkB ?_|exact True.intro|(clear hK K)))
  subst hE
  rw [← hS]
  exact jb8 (R':=T) (pre':=jaj p) (post':=[jal eI 1 inp,rI tr]) rfl hB [] jac rfl rfl rfl
 rw [if_neg e0] at hS
 have h1:=hT.go e0
 have hk:T.nf - 1 < T.frs.length:=by omega
 have htop:=hT.fr (T.nf - 1) (by omega)
 have hlen:=htop.len h
 have hf0:=htop.f0
 have hf1:=htop.f1
 have htf:T.topF=nth T.frs (T.nf - 1):=rfl
 have htc:=jiC p inp tr T hT.ok h1 (by omega)
 by_cases e1:T.topF.path.length=0
 ·rw [if_pos e1] at hS
  rw [htf] at e1 hS
  have hte:=jq0 p inp tr (vZ (nth p.tree.fns (nth T.frs (T.nf - 1)).fn.toNat).ret) T hT.ok h1 (by omega) (hT.at_ h)
  obtain ⟨g1,g2,_⟩:=hT.tells h1 (vZ (nth p.tree.fns (nth T.frs (T.nf - 1)).fn.toNat).ret)
  have hle:=jeD T p (vZ (nth p.tree.fns (nth T.frs (T.nf - 1)).fn.toNat).ret)
  have hle1:T.frs.length≤(T.tells p (vZ (nth p.tree.fns (nth T.frs (T.nf - 1)).fn.toNat).ret)).frs.length:=by rw [hle.1];exact Nat.le_refl _
  have hle2:T.heap.length≤(T.tells p (vZ (nth p.tree.fns (nth T.frs (T.nf - 1)).fn.toNat).ret)).heap.length:=by rw [hle.2];exact Nat.le_refl _
  generalize T.tells p (vZ (nth p.tree.fns (nth T.frs (T.nf - 1)).fn.toNat).ret)=T' at *
  (refine S ?_;try exact True.intro)
  (repeat' (first|refine jaa fun K hK=>?_|refine wkA ?_|(with_reducible refine gR 3 ?_);refine dC 3 ([],[32],[]) [] [0,1,2,3,4,5,6,7,8,9,10,11,12,13,14,15] mixed ?_|(refine hK _ _ ?_;clear hK K)|(refine jad (fun hc=>?_) (fun hc=>?_)<;>first | contradiction | (exfalso;omega) | skip)|(refine cE (R:=T) (R':=T) (pre:=jaj p) (post:=[jal eI 1 inp,rI tr]) (pre':=jaj p) (post':=[jal eI 1 inp,rI tr]) htc rfl (Nat.le_refl _) (Nat.le_refl _) rfl rfl jac rfl (by simp only [go_sem]) ?_;try ((refine S ?_;try exact True.intro)))|(refine cEq (R:=T) (pre:=jaj p) (post:=[jal eI 1 inp,rI tr]) htc rfl rfl rfl jac rfl (by simp only [go_sem]) ?_;try ((refine S ?_;try exact True.intro)))|(refine cE (R:=T) (R':=T') (pre:=jaj p) (post:=[jal eI 1 inp,rI tr]) (pre':=jaj p) (post':=[jal eI 1 inp,rI tr]) hte rfl hle1 hle2 rfl rfl jac rfl (by simp only [go_sem]) ?_;try ((refine S ?_;try exact True.intro)))|refine cq (jrr _) ?_|(refine hKr _ _ (jau T' ⟨g1,?_⟩ g2 jgX lle))|refine wkB ?_|exact True.intro|(clear hK K)))
  exact (jcJ _ _ _ g1 (by omega) (by omega)).trans hS
 ·rw [if_neg e1] at hS
  have hpl:=htop.pl _ (jlw (f:=nth T.frs (T.nf - 1)) fun e=>e1 (by rw [htf,e];rfl))
  have hin:=hpl.in_ h hf0 hf1
  have hb0:=hpl.b0
  have ha0:=hpl.a0
  rw [htf] at e1 hS
  have e1':1≤(nth T.frs (T.nf - 1)).path.length:=by omega
  have hpc:=jhH p inp tr T hT.ok h1 (by omega) (by rw [htf];exact e1') (by rw [htf];omega)
  rw [htf] at hpc
  have hnc:=jgK p inp tr T (nth T.frs (T.nf - 1)).pl.block hb0 (by omega)
  unfold jak GFrame.pl at hnc
  by_cases e2:(nth T.frs (T.nf - 1)).pl.at_ < (jb3 p (nth T.frs (T.nf - 1)).pl.block).length
  ·rw [if_pos e2] at hS
   unfold jb3 GFrame.pl at e2
   unfold GFrame.pl at hin hb0 ha0
   (refine S ?_;try exact True.intro)
   (repeat' (first|refine jaa fun K hK=>?_|refine wkA ?_|(with_reducible refine gR 5 ?_);refine dQ 5 mixed ?_|(refine hK _ _ ?_;clear hK K)|(refine jad (fun hc=>?_) (fun hc=>?_)<;>first | contradiction | (exfalso;omega) | skip)|(refine cE (R:=T) (R':=T) (pre:=jaj p) (post:=[jal eI 1 inp,rI tr]) (pre':=jaj p) (post':=[jal eI 1 inp,rI tr]) htc rfl (Nat.le_refl _) (Nat.le_refl _) rfl rfl jac rfl (by simp only [go_sem]) ?_;try ((refine S ?_;try exact True.intro)))|(refine cEq (R:=T) (pre:=jaj p) (post:=[jal eI 1 inp,rI tr]) htc rfl rfl rfl jac rfl (by simp only [go_sem]) ?_;try ((refine S ?_;try exact True.intro)))|(refine cE (R:=T) (R':=T) (pre:=jaj p) (post:=[jal eI 1 inp,rI tr]) (pre':=jaj p) (post':=[jal eI 1 inp,rI tr]) hpc rfl (Nat.le_refl _) (Nat.le_refl _) rfl rfl jac rfl (by simp only [go_sem]) ?_;try ((refine S ?_;try exact True.intro)))|(refine cEq (R:=T) (pre:=jaj p) (post:=[jal eI 1 inp,rI tr]) hpc rfl rfl rfl jac rfl (by simp only [go_sem]) ?_;try ((refine S ?_;try exact True.intro)))|(refine cE (R:=T) (R':=T) (pre:=jaj p) (post:=[jal eI 1 inp,rI tr]) (pre':=jaj p) (post':=[jal eI 1 inp,rI tr]) hnc rfl (Nat.le_refl _) (Nat.le_refl _) rfl rfl jac rfl (by simp only [go_sem]) ?_;try ((refine S ?_;try exact True.intro)))|(refine cEq (R:=T) (pre:=jaj p) (post:=[jal eI 1 inp,rI tr]) hnc rfl rfl rfl jac rfl (by simp only [go_sem]) ?_;try ((refine S ?_;try exact True.intro)))|refine wkB ?_|exact True.intro|(clear hK K)))
   subst hE
   rw [← hS]
   exact jb8 (R':=T) (pre':=jaj p) (post':=[jal eI 1 inp,rI tr]) rfl hB [] jac rfl rfl rfl
  ·rw [if_neg e2] at hS
   obtain ⟨g1,g2⟩:=hT.cut h1 (by rw [htf];exact e1)
   unfold jb3 GFrame.pl at e2
   unfold GFrame.pl at hin hb0 ha0
   (refine S ?_;try exact True.intro)
   (repeat' (first|refine jaa fun K hK=>?_|refine wkA ?_|(with_reducible refine gR 5 ?_);refine dQ 5 mixed ?_|(with_reducible refine gR 6 ?_);refine dE 6 [0,1,2,3,4,5,6,7,8,9,10,11,12,13,14] mixed ?_|(refine hK _ _ ?_;clear hK K)|(refine jad (fun hc=>?_) (fun hc=>?_)<;>first | contradiction | (exfalso;omega) | skip)|(refine cE (R:=T) (R':=T) (pre:=jaj p) (post:=[jal eI 1 inp,rI tr]) (pre':=jaj p) (post':=[jal eI 1 inp,rI tr]) htc rfl (Nat.le_refl _) (Nat.le_refl _) rfl rfl jac rfl (by simp only [go_sem]) ?_;try ((refine S ?_;try exact True.intro)))|(refine cEq (R:=T) (pre:=jaj p) (post:=[jal eI 1 inp,rI tr]) htc rfl rfl rfl jac rfl (by simp only [go_sem]) ?_;try ((refine S ?_;try exact True.intro)))|(refine cE (R:=T) (R':=T) (pre:=jaj p) (post:=[jal eI 1 inp,rI tr]) (pre':=jaj p) (post':=[jal eI 1 inp,rI tr]) hpc rfl (Nat.le_refl _) (Nat.le_refl _) rfl rfl jac rfl (by simp only [go_sem]) ?_;try ((refine S ?_;try exact True.intro)))|(refine cEq (R:=T) (pre:=jaj p) (post:=[jal eI 1 inp,rI tr]) hpc rfl rfl rfl jac rfl (by simp only [go_sem]) ?_;try ((refine S ?_;try exact True.intro)))|(refine cE (R:=T) (R':=T) (pre:=jaj p) (post:=[jal eI 1 inp,rI tr]) (pre':=jaj p) (post':=[jal eI 1 inp,rI tr]) hnc rfl (Nat.le_refl _) (Nat.le_refl _) rfl rfl jac rfl (by simp only [go_sem]) ?_;try ((refine S ?_;try exact True.intro)))|(refine cEq (R:=T) (pre:=jaj p) (post:=[jal eI 1 inp,rI tr]) hnc rfl rfl rfl jac rfl (by simp only [go_sem]) ?_;try ((refine S ?_;try exact True.intro)))|refine wkB ?_|exact True.intro|(clear hK K)))
   all_goals
    refine hKr _ _ (jau T.cut ⟨g1,?_⟩ (by show T.cut.left < T.left;omega) (congrArg (Hp.mk B) (RS.e_cut (tl:=[]) hk hjp e1 rfl fun j=>rfl)) lle)
    exact (jcJ _ _ _ g1 (by omega) (by omega)).trans hS
end Go.Proofs.YtfkgcobaheegbaaGreatDoor
namespace Go.Gd
open Go
theorem cED {P:Program} {A:AS} {H:Hp} {f:FuncId} {args:List AV} {g:AV→Hp→Prop} {d:Dep fun r H'=>HLx A H H'∧g r H'} {t:TypeId} {pre post:List AV} {R:RS} {r0:AV} {B:List Nat} {tl:List (Nat×Row)} (hc:ACalls P f args (R.e t pre post []) fun r l'=>r=r0∧l'=R.e t pre post []) (hH:H=⟨B,R.e t pre post tl⟩)
  (hp:jaB noQ pre=true) (hq:jaB noQ post=true) (hl:low tl) (ha:jaB (fun i=>decide (i=0)) args=true) (h0:jab P f=true) (k:g r0 H):jbm P (.raw (.func (.func f) #[] #[])) args H (AP (fun r H'=>HLx A H H'∧g r H') d):=
 cE (K:=fun r H'=>HLx A H H'∧g r H') hc hH (Nat.le_refl _) (Nat.le_refl _) hp hq hl ha h0 (by rw [← hH];exact ⟨fun i r _ hr=>hr,k⟩)
theorem cLD {P:Program} {A:AS} {H:Hp} {f:FuncId} {args args':List AV} {g:AV→Hp→Prop} {d:Dep fun r H'=>HLx A H H'∧g r H'} {r0:AV} (hc:PCall P f args' r0) (hv:VToL (fun _=>true) H args args') (hr:r0.flat=true) (h0:jab P f=true) (k:g r0 H):jbm P (.raw (.func (.func f) #[] #[])) args H (AP (fun r H'=>HLx A H H'∧g r H') d):=
 cL (K:=fun r H'=>HLx A H H'∧g r H') hc hv hr h0 ⟨fun i r _ hr=>hr,k⟩
end Go.Gd
namespace Go.Proofs.YtfkgcobaheegbaaGreatDoor
open Go Go.Gd
set_option maxHeartbeats 4000000
set_option maxRecDepth 10000
theorem jee {p:GProg} (h:SOk p) (inp:List Int) (tr:Int) (R:RS) (hok:R.Ok) (h1:1≤R.nf) (h8:R.frs.length≤1000) (hh:R.heap.length≤1000000) (a:Int) (h0:0≤a) (hl:a.toNat < p.tree.nodes.length) (hk:isE (jan p.tree.nodes a)) :
  ACalls Tryz.prog 156 [.pt 0 0 0 0,rI a] (rnE p inp tr R []) (fun r l=>r=.tup [rV (R.val p a).1,rB (decide ((R.val p a).2=0))]∧l=rnE p inp (R.val p a).2 R []):=by
 have hnf:=hok.nf
 have hx:=jxd h.ok R.topF.slots R.heap hh p.tree.nodes.length a h0 (by omega) (by omega) hk
 have hkk:R.nf - 1 < R.frs.length:=by omega
 have htc:=jiC p inp tr R hok h1 h8
 change PCall _ _ _ (.tup [rV (R.val p a).1,rI (R.val p a).2]) at hx
 generalize R.val p a=X at hx ⊢
 suffices key:∀ R':RS,R'=R→ACalls Tryz.prog 156 [.pt 0 0 0 0,rI a] (rnE p inp tr R []) (fun r l=>r=.tup [rV X.1,rB (decide (X.2=0))]∧l=rnE p inp X.2 R' []) from key R rfl
 intro R' hR'
 refine jaw Tryz.func156 Tryz.ntmps156 ?_
 generalize hB:ids (rnE p inp tr R [])=B
 generalize hE:rnE p inp X.2 R' []=E
 (refine S ?_;try exact True.intro)
 (repeat' (first|refine jaa fun K hK=>?_|refine wkA ?_|(with_reducible refine gR 1 ?_);refine dC 1 ([],[],[15,24]) [19] [0,1,2,3,4,5,10,11,12,13,14,6,7,8,9,15,16,17,18,19,20,21] mixed ?_|(refine hK _ _ ?_;clear hK K)|(refine jad (fun hc=>?_) (fun hc=>?_)<;>first | contradiction | (exfalso;omega) | skip)|refine alF 4 ?_|refine alF 5 ?_|(refine cED (R:=R) (pre:=jaj p) (post:=[jal eI 1 inp,rI tr]) htc rfl rfl rfl jac rfl (by simp only [go_sem]) ?_;try ((refine S ?_;try exact True.intro)))|(refine cLD (args':=[rP p,rI a,rSl R.topF.slots,rHp R.heap]) hx (show VToL _ ⟨B,rnE p inp tr R _⟩ _ _ from ⟨.same _ rfl,.same _ rfl,RS.vtoS hkk (fun _=>rfl) rfl,RS.vtoH (fun _=>rfl),trivial⟩) rfl (by simp only [go_sem]) ?_;try ((refine S ?_;try exact True.intro)))|refine wkB ?_|exact True.intro|(clear hK K)))
 subst hE
 subst hR'
 exact jb8 (R':=R') (pre':=jaj p) (post':=[jal eI 1 inp,rI X.2]) rfl hB [.cell 4 59,.tmp 5] jac rfl rfl rfl
theorem jhd (p:GProg) (inp:List Int) (tr:Int) (R:RS) (ok:Bool) (t:Int) :
  ACalls Tryz.prog 159 [.pt 0 0 0 0,rB ok,rI t] (rnE p inp tr R []) (fun r l=>r=rB ok∧l=rnE p inp (if ok=true then tr else t) R []):=by
 suffices key:∀ R':RS,R'=R→ACalls Tryz.prog 159 [.pt 0 0 0 0,rB ok,rI t] (rnE p inp tr R []) (fun r l=>r=rB ok∧l=rnE p inp (if ok=true then tr else t) R' []) from key R rfl
 intro R' hR'
 cases ok
 all_goals
  first | rw [if_pos rfl] | rw [if_neg (by decide)]
  refine jaw Tryz.func159 Tryz.ntmps159 ?_
  generalize hB:ids (rnE p inp tr R [])=B
  first | generalize hE:rnE p inp tr R' []=E | generalize hE:rnE p inp t R' []=E
  (refine S ?_;try exact True.intro)
  (repeat' (first|refine jaa fun K hK=>?_|refine wkA ?_|(refine hK _ _ ?_;clear hK K)|(refine jad (fun hc=>?_) (fun hc=>?_)<;>first | contradiction | (exfalso;omega) | skip)|refine wkB ?_|exact True.intro|(clear hK K)))
  subst hE
  subst hR'
  first | exact jb8 (R':=R') (pre':=jaj p) (post':=[jal eI 1 inp,rI tr]) rfl hB [.tmp 6] jac rfl rfl rfl | exact jb8 (R':=R') (pre':=jaj p) (post':=[jal eI 1 inp,rI t]) rfl hB [.tmp 6] jac rfl rfl rfl
end Go.Proofs.YtfkgcobaheegbaaGreatDoor

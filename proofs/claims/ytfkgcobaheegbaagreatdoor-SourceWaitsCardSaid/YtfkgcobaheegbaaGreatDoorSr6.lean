/- What a program means: the program's runner: tests. What a program means: the program's runner: tests of an if. What a program means: the program's runner: returns. No conditions. -/
import Derived.Test.YtfkgcobaheegbaaGreatDoorSr3
import Derived.Test.YtfkgcobaheegbaaGreatDoorSoC
set_option linter.all false
namespace Go.Proofs.YtfkgcobaheegbaaGreatDoor
open Go Go.Gd
set_option maxHeartbeats 4000000
set_option maxRecDepth 10000
theorem jsW {p:GProg} (h:SOk p) (inp:List Int) (R:RS) (hd:Doing p R) (hk:(jak p (atV p R.st)).kind=16) (hb:∀ x,(R.val p x).2=0→x=nth (jak p (atV p R.st)).l 0→(R.val p x).1.n=0∨(R.val p x).1.n=1) (R':RS) (tr:Int) (hR':(R',tr)=R.does p (atV p R.st) inp) :
  ACalls Tryz.prog 112 [.pt 0 0 0 0,.agg (jao (jak p (atV p R.st))),rI (atV p R.st)] (rnE p inp 0 R []) (fun r l=>r=.tup []∧l=rnE p inp tr R' []):=by
 have hok:=hd.inv.ok
 have hnf:=hok.nf
 have h1:=hd.one
 have hfr:=hd.inv.frs
 have hcl:=jaO R.heap
 have hcc:=hd.cells
 have hst:=hd.stAt h
 obtain ⟨s0,s1,s2,s3,s4,s5⟩:=hd.stmt h
 have hsl:=hst.sl
 have hon:=hd.onOk h
 have htp:=hd.topE
 have hpa:=hst.pas
 rw [htp] at hpa
 have hjp:=hd.jp (R.nf - 1) (by omega)
 have hjl:(nth R.jp (R.nf - 1)).length=0:=by rw [hjp];rfl
 have hkk:R.nf - 1 < R.frs.length:=by omega
 have hpl:(nth R.frs (R.nf - 1)).path.length≤1000:=hpa
 generalize atV p R.st=a at *
 have hk':(nth p.tree.nodes a.toNat).kind=16:=hk
 unfold RS.does at hR'
 simp only [hk] at hR'
 rw [if_neg (by omega),if_neg (by omega),if_neg (by omega),if_neg (by omega)] at hR'
 obtain ⟨x,y,hla,hxE,hyB⟩:=(h.ok.tree.shape a.toNat s1).1.while_ hk'
 have hbx:=(h.ok.tree.shape a.toNat s1).2.1 x (by rw [hla];simp)
 have hx0:nth (nth p.tree.nodes a.toNat).l 0=x:=by rw [hla];rfl
 have hy0:nth (nth p.tree.nodes a.toNat).l 1=y:=by rw [hla];rfl
 have hll:(nth p.tree.nodes a.toNat).l.length=2:=by rw [hla];rfl
 have hvx:=jee h inp 0 R hok h1 (by omega) (by omega) x hbx.1 (by omega) hxE
 have hbb:=hb x
 rw [show nth (jak p a).l 0=x from hx0] at hbb hR'
 rw [show nth (jak p a).l 1=y from hy0] at hR'
 have hls:¬ jfn p a:=fun e=>by unfold jfn at e;omega
 have hdn:=jgJ p inp 0 a (R.val p x).1 R hon s0 s1 hsl (fun e=>(hls e).elim)
 rw [if_neg hls] at hdn
 have htc:=jiC p inp 0 R hok h1 (by omega)
 unfold jak
 generalize R.val p x=X at *
 clear hb
 by_cases hz:X.2=0
 rotate_left
 ·rw [if_pos hz] at hR'
  obtain ⟨rfl,rfl⟩:=Prod.mk.inj hR'
  have hz':=eq_false hz
  suffices key2:∀ R2:RS,R2=R'→ACalls Tryz.prog 112 [.pt 0 0 0 0,.agg (jao (nth p.tree.nodes a.toNat)),rI a] (rnE p inp 0 R' []) (fun r l=>r=.tup []∧l=rnE p inp X.2 R2 []) from key2 R' rfl
  intro R2 hR2
  refine jaw Tryz.func112 Tryz.ntmps112 ?_
  generalize hB:ids (rnE p inp 0 R' [])=B
  generalize hE:rnE p inp X.2 R2 []=E
  (refine S ?_;try exact True.intro)
  (have W:=And.intro hk' (And.intro hll (And.intro hx0 (hz')));repeat' (first|refine jaa fun K hK=>?_|refine wkA ?_|(refine hK _ _ ?_;clear hK K)|(refine jad (fun hc=>?_) (fun hc=>?_)<;>first | contradiction | (exfalso;omega) | skip)|refine bxF 4 ?_|refine alF 5 ?_|(refine cE (R:=R') (R':=R') (pre:=jaj p) (post:=[jal eI 1 inp,rI 0]) (pre':=jaj p) (post':=[jal eI 1 inp,rI X.2]) hvx rfl (Nat.le_refl _) (Nat.le_refl _) rfl rfl jac rfl (by simp only [go_sem]) ?_;try ((refine S ?_;try exact True.intro)))|refine wkB ?_|exact True.intro|(clear hK K)));all_goals (try clear W)
  subst hE
  subst hR2
  exact jb8 (R':=R2) (pre':=jaj p) (post':=[jal eI 1 inp,rI X.2]) rfl hB [] jac rfl rfl rfl
 rw [if_neg (fun e=>e hz),if_neg (by omega),if_neg (by omega),if_pos trivial] at hR'
 rw [hz] at hvx
 rcases hbb hz rfl with hn | hn
 ·rw [if_neg (by omega)] at hR'
  obtain ⟨rfl,rfl⟩:=Prod.mk.inj hR'
  refine jaw Tryz.func112 Tryz.ntmps112 ?_
  generalize hB:ids (rnE p inp 0 R [])=B
  generalize hE:rnE p inp 0 R.on []=E
  (refine S ?_;try exact True.intro)
  (have W:=And.intro hk' (And.intro hll (And.intro hx0 (hn)));repeat' (first|refine jaa fun K hK=>?_|refine wkA ?_|(refine hK _ _ ?_;clear hK K)|(refine jad (fun hc=>?_) (fun hc=>?_)<;>first | contradiction | (exfalso;omega) | skip)|refine bxF 4 ?_|refine alF 5 ?_|(refine cE (R:=R) (R':=R) (pre:=jaj p) (post:=[jal eI 1 inp,rI 0]) (pre':=jaj p) (post':=[jal eI 1 inp,rI 0]) hvx rfl (Nat.le_refl _) (Nat.le_refl _) rfl rfl jac rfl (by simp only [go_sem]) ?_;try ((refine S ?_;try exact True.intro)))|(refine cE (R:=R) (R':=R.on) (pre:=jaj p) (post:=[jal eI 1 inp,rI 0]) (pre':=jaj p) (post':=[jal eI 1 inp,rI 0]) hdn rfl (Nat.le_of_eq RS.upd_len) (Nat.le_refl _) rfl rfl jac rfl (by simp only [go_sem]) ?_;try ((refine S ?_;try exact True.intro)))|refine wkB ?_|exact True.intro|(clear hK K)));all_goals (try clear W)
  subst hE
  exact jb8 (R':=R.on) (pre':=jaj p) (post':=[jal eI 1 inp,rI 0]) rfl hB [] jac rfl rfl rfl
 ·rw [if_pos hn] at hR'
  obtain ⟨rfl,rfl⟩:=Prod.mk.inj hR'
  refine jaw Tryz.func112 Tryz.ntmps112 ?_
  generalize hB:ids (rnE p inp 0 R [])=B
  generalize hE:rnE p inp 0 (R.deeper y) []=E
  (refine S ?_;try exact True.intro)
  (have W:=And.intro hk' (And.intro hll (And.intro hx0 (And.intro hy0 (And.intro hn (And.intro hjp (hjl))))));repeat' (first|refine jaa fun K hK=>?_|refine wkA ?_|(with_reducible refine gR 10 ?_);refine dE 10 [0,1,2,3,4,5,6,7,8,9,10,11,12,13,14,15] mixed ?_|(refine hK _ _ ?_;clear hK K)|(refine jad (fun hc=>?_) (fun hc=>?_)<;>first | contradiction | (exfalso;omega) | skip)|refine bxF 4 ?_|refine alF 5 ?_|(refine cE (R:=R) (R':=R) (pre:=jaj p) (post:=[jal eI 1 inp,rI 0]) (pre':=jaj p) (post':=[jal eI 1 inp,rI 0]) hvx rfl (Nat.le_refl _) (Nat.le_refl _) rfl rfl jac rfl (by simp only [go_sem]) ?_;try ((refine S ?_;try exact True.intro)))|(refine cE (R:=R) (R':=R) (pre:=jaj p) (post:=[jal eI 1 inp,rI 0]) (pre':=jaj p) (post':=[jal eI 1 inp,rI 0]) htc rfl (Nat.le_refl _) (Nat.le_refl _) rfl rfl jac rfl (by simp only [go_sem]) ?_;try ((refine S ?_;try exact True.intro)))|refine wkB ?_|exact True.intro|(clear hK K)));all_goals (try clear W)
  subst hE
  refine jb8 (R':=R.deeper y) (pre':=jaj p) (post':=[jal eI 1 inp,rI 0]) (tl:=[(4,.var 53 (jao (nth p.tree.nodes a.toNat))),(5,.var 59 (jag X.1))]) (congrArg (Hp.mk B) (RS.e_deeper (x:=⟨y,0⟩) hkk hjp rfl (fun j=>rfl) fun j=>?_)) hB [] jac rfl rfl rfl
  by_cases e:j=R.nf - 1
  ·rw [if_pos e,if_pos e,List.map_append];rfl
  ·rw [if_neg e,if_neg e];unfold RS.pt;rw [List.map_append]
theorem j1k {p:GProg} (h:SOk p) (inp:List Int) (R:RS) (hd:Doing p R) (hk:(jak p (atV p R.st)).kind=15) (hb:∀ x,(R.val p x).2=0→x=nth (jak p (atV p R.st)).l 0→(R.val p x).1.n=0∨(R.val p x).1.n=1) (R':RS) (tr:Int) (hR':(R',tr)=R.does p (atV p R.st) inp) :
  ACalls Tryz.prog 112 [.pt 0 0 0 0,.agg (jao (jak p (atV p R.st))),rI (atV p R.st)] (rnE p inp 0 R []) (fun r l=>r=.tup []∧l=rnE p inp tr R' []):=by
 have hok:=hd.inv.ok
 have hnf:=hok.nf
 have h1:=hd.one
 have hfr:=hd.inv.frs
 have hcl:=jaO R.heap
 have hcc:=hd.cells
 have hst:=hd.stAt h
 obtain ⟨s0,s1,s2,s3,s4,s5⟩:=hd.stmt h
 have hsl:=hst.sl
 have hon:=hd.onOk h
 have htp:=hd.topE
 have hpa:=hst.pas
 rw [htp] at hpa
 have hjp:=hd.jp (R.nf - 1) (by omega)
 have hjl:(nth R.jp (R.nf - 1)).length=0:=by rw [hjp];rfl
 have hkk:R.nf - 1 < R.frs.length:=by omega
 have hpl:(nth R.frs (R.nf - 1)).path.length≤1000:=hpa
 generalize atV p R.st=a at *
 have hk':(nth p.tree.nodes a.toNat).kind=15:=hk
 unfold RS.does at hR'
 simp only [hk] at hR'
 rw [if_neg (by omega),if_neg (by omega),if_neg (by omega),if_neg (by omega)] at hR'
 obtain ⟨x,y,hxE,hyB,hli⟩:=(h.ok.tree.shape a.toNat s1).1.if_ hk'
 have hx0:nth (nth p.tree.nodes a.toNat).l 0=x:=by rcases hli with e | ⟨d,e,_⟩<;>(rw [e];rfl)
 have hy0:nth (nth p.tree.nodes a.toNat).l 1=y:=by rcases hli with e | ⟨d,e,_⟩<;>(rw [e];rfl)
 have hll0:2≤(nth p.tree.nodes a.toNat).l.length∧(nth p.tree.nodes a.toNat).l.length≤3:=by rcases hli with e | ⟨d,e,_⟩<;>(rw [e];simp)
 have hbx:=(h.ok.tree.shape a.toNat s1).2.1 x (by rcases hli with e | ⟨d,e,_⟩<;>(rw [e];simp))
 have hvx:=jee h inp 0 R hok h1 (by omega) (by omega) x hbx.1 (by omega) hxE
 have hbb:=hb x
 rw [show nth (jak p a).l 0=x from hx0] at hbb hR'
 rw [show nth (jak p a).l 1=y from hy0] at hR'
 have hls:¬ jfn p a:=fun e=>by unfold jfn at e;omega
 have hdn:=jgJ p inp 0 a (R.val p x).1 R hon s0 s1 hsl (fun e=>(hls e).elim)
 rw [if_neg hls] at hdn
 have hlen:R.on.frs.length=R.frs.length:=RS.upd_len.symm
 have htop:R.on.topF=onF R.topF:=RS.topF_upd hok h1 _
 have hok1:R.on.Ok:=⟨by show R.nf≤R.on.frs.length;omega,by show R.jp.length=R.on.frs.length;rw [hlen];exact hok.jp⟩
 have htc:=jiC p inp 0 R.on hok1 h1 (by omega)
 have hpl1:R.on.topF.path.length≤1000:=by
  rw [htop]
  show (R.topF.path.set _ _).length≤1000
  rw [List.length_set];exact hpa
 have hn1e:R.on.nf=R.nf:=rfl
 have hjp1:nth R.on.jp (R.on.nf - 1)=[]:=hjp
 have hnf1:1≤R.on.nf:=h1
 have hl1:R.frs.length≤R.on.frs.length:=Nat.le_of_eq hlen.symm
 unfold jak at *
 generalize R.val p x=X at *
 clear hb
 by_cases hz:X.2=0
 rotate_left
 ·rw [if_pos hz] at hR'
  obtain ⟨rfl,rfl⟩:=Prod.mk.inj hR'
  have hz':=eq_false hz
  clear hlen htop hok1 htc hpl1 hn1e hjp1 hnf1 hl1 hdn
  suffices key2:∀ R2:RS,R2=R'→ACalls Tryz.prog 112 [.pt 0 0 0 0,.agg (jao (nth p.tree.nodes a.toNat)),rI a] (rnE p inp 0 R' []) (fun r l=>r=.tup []∧l=rnE p inp X.2 R2 []) from key2 R' rfl
  intro R2 hR2
  refine jaw Tryz.func112 Tryz.ntmps112 ?_
  generalize hB:ids (rnE p inp 0 R' [])=B
  generalize hE:rnE p inp X.2 R2 []=E
  (refine S ?_;try exact True.intro)
  (have W:=And.intro hk' (And.intro hx0 (hz'));repeat' (first|refine jaa fun K hK=>?_|refine wkA ?_|(refine hK _ _ ?_;clear hK K)|(refine jad (fun hc=>?_) (fun hc=>?_)<;>first | contradiction | (exfalso;omega) | skip)|refine bxF 4 ?_|refine alF 5 ?_|(refine cE (R:=R') (R':=R') (pre:=jaj p) (post:=[jal eI 1 inp,rI 0]) (pre':=jaj p) (post':=[jal eI 1 inp,rI X.2]) hvx rfl (Nat.le_refl _) (Nat.le_refl _) rfl rfl jac rfl (by simp only [go_sem]) ?_;try ((refine S ?_;try exact True.intro)))|refine wkB ?_|exact True.intro|(clear hK K)));all_goals (try clear W)
  subst hE
  subst hR2
  exact jb8 (R':=R2) (pre':=jaj p) (post':=[jal eI 1 inp,rI X.2]) rfl hB [] jac rfl rfl rfl
 rw [if_neg (fun e=>e hz),if_neg (by omega),if_pos trivial] at hR'
 rw [hz] at hvx
 have hfin:∀ b:Int,∀ j,(if j=R.on.nf - 1 then Row.vec 89 2 (List.map jay (nth R.on.frs (R.on.nf - 1)).path++[jay ⟨b,0⟩]) else Row.vec 89 2 (List.map jay (nth R.on.frs j).path++List.map jay (nth R.on.jp j)))=if j=R.on.nf - 1 then .vec 89 2 (((nth R.on.frs (R.on.nf - 1)).path++[(⟨b,0⟩:GPlace)]).map jay) else R.on.pt j:=fun b j=>by
  by_cases e:j=R.on.nf - 1
  ·rw [if_pos e,if_pos e,List.map_append];rfl
  ·rw [if_neg e,if_neg e];unfold RS.pt;rw [List.map_append]
 have hdpd:∀ b,R.on.deeper b=R.on.upd (R.on.nf - 1) { nth R.on.frs (R.on.nf - 1) with path:=(nth R.on.frs (R.on.nf - 1)).path++[⟨b,0⟩] }:=fun b=>rfl
 have hpl2:(nth R.on.frs (R.on.nf - 1)).path.length≤1000:=hpl1
 have hjl1:(nth R.on.jp (R.on.nf - 1)).length=0:=by rw [hjp1];rfl
 have hkk1:R.on.nf - 1 < R.on.frs.length:=by rw [hlen];exact hkk
 have hfr1:R.on.frs.length≤8:=by rw [hlen];exact hfr
 have hl2:R.heap.length≤R.on.heap.length:=Nat.le_refl _
 generalize R.on=R1 at *
 clear hon hok hjp
 rcases hbb hz rfl with hn | hn
 ·rw [if_neg (by omega)] at hR'
  by_cases h3:(nth p.tree.nodes a.toNat).l.length=3
  ·rw [if_pos h3] at hR'
   obtain ⟨rfl,rfl⟩:=Prod.mk.inj hR'
   generalize hw:nth (nth p.tree.nodes a.toNat).l 2=w at *
   rw [hdpd]
   refine jaw Tryz.func112 Tryz.ntmps112 ?_
   generalize hB:ids (rnE p inp 0 R [])=B
   generalize hE:rnE p inp 0 (R1.upd (R1.nf - 1) { nth R1.frs (R1.nf - 1) with path:=(nth R1.frs (R1.nf - 1)).path++[⟨w,0⟩] }) []=E
   (refine S ?_;try exact True.intro)
   (have W:=And.intro hk' (And.intro h3 (And.intro hx0 (And.intro hw (And.intro hn (And.intro hjp1 (hjl1))))));repeat' (first|refine jaa fun K hK=>?_|refine wkA ?_|(with_reducible refine gR 10 ?_);refine dE 10 [0,1,2,3,4,5,6,7,8,9,10,11,12,13,14,15] mixed ?_|(refine hK _ _ ?_;clear hK K)|(refine jad (fun hc=>?_) (fun hc=>?_)<;>first | contradiction | (exfalso;omega) | skip)|refine bxF 4 ?_|refine alF 5 ?_|(refine cE (R:=R) (R':=R) (pre:=jaj p) (post:=[jal eI 1 inp,rI 0]) (pre':=jaj p) (post':=[jal eI 1 inp,rI 0]) hvx rfl (Nat.le_refl _) (Nat.le_refl _) rfl rfl jac rfl (by simp only [go_sem]) ?_;try ((refine S ?_;try exact True.intro)))|(refine cE (R:=R) (R':=R1) (pre:=jaj p) (post:=[jal eI 1 inp,rI 0]) (pre':=jaj p) (post':=[jal eI 1 inp,rI 0]) hdn rfl hl1 hl2 rfl rfl jac rfl (by simp only [go_sem]) ?_;try ((refine S ?_;try exact True.intro)))|(refine cE (R:=R1) (R':=R1) (pre:=jaj p) (post:=[jal eI 1 inp,rI 0]) (pre':=jaj p) (post':=[jal eI 1 inp,rI 0]) htc rfl (Nat.le_refl _) (Nat.le_refl _) rfl rfl jac rfl (by simp only [go_sem]) ?_;try ((refine S ?_;try exact True.intro)))|refine wkB ?_|exact True.intro|(clear hK K)));all_goals (try clear W)
   subst hE
   exact jb8 (R':=R1.upd (R1.nf - 1) { nth R1.frs (R1.nf - 1) with path:=(nth R1.frs (R1.nf - 1)).path++[⟨w,0⟩] }) (pre':=jaj p) (post':=[jal eI 1 inp,rI 0]) (tl:=[(4,.var 53 (jao (nth p.tree.nodes a.toNat))),(5,.var 59 (jag X.1))]) (congrArg (Hp.mk B) (RS.e_deeper (x:=⟨w,0⟩) hkk1 hjp1 rfl (fun j=>rfl) (hfin w))) hB [] jac rfl rfl rfl
  ·rw [if_neg h3] at hR'
   rw [(Prod.mk.inj hR').1,(Prod.mk.inj hR').2]
   have h2:(nth p.tree.nodes a.toNat).l.length=2:=by omega
   refine jaw Tryz.func112 Tryz.ntmps112 ?_
   generalize hB:ids (rnE p inp 0 R [])=B
   generalize hE:rnE p inp 0 (R1) []=E
   (refine S ?_;try exact True.intro)
   (have W:=And.intro hk' (And.intro h2 (And.intro hx0 (hn)));repeat' (first|refine jaa fun K hK=>?_|refine wkA ?_|(refine hK _ _ ?_;clear hK K)|(refine jad (fun hc=>?_) (fun hc=>?_)<;>first | contradiction | (exfalso;omega) | skip)|refine bxF 4 ?_|refine alF 5 ?_|(refine cE (R:=R) (R':=R) (pre:=jaj p) (post:=[jal eI 1 inp,rI 0]) (pre':=jaj p) (post':=[jal eI 1 inp,rI 0]) hvx rfl (Nat.le_refl _) (Nat.le_refl _) rfl rfl jac rfl (by simp only [go_sem]) ?_;try ((refine S ?_;try exact True.intro)))|(refine cE (R:=R) (R':=R1) (pre:=jaj p) (post:=[jal eI 1 inp,rI 0]) (pre':=jaj p) (post':=[jal eI 1 inp,rI 0]) hdn rfl hl1 hl2 rfl rfl jac rfl (by simp only [go_sem]) ?_;try ((refine S ?_;try exact True.intro)))|refine wkB ?_|exact True.intro|(clear hK K)));all_goals (try clear W)
   subst hE
   exact jb8 (R':=R1) (pre':=jaj p) (post':=[jal eI 1 inp,rI 0]) rfl hB [] jac rfl rfl rfl
 ·rw [if_pos hn] at hR'
  obtain ⟨rfl,rfl⟩:=Prod.mk.inj hR'
  generalize hw:y=w at *
  have hw:=hy0
  rw [hdpd]
  refine jaw Tryz.func112 Tryz.ntmps112 ?_
  generalize hB:ids (rnE p inp 0 R [])=B
  generalize hE:rnE p inp 0 (R1.upd (R1.nf - 1) { nth R1.frs (R1.nf - 1) with path:=(nth R1.frs (R1.nf - 1)).path++[⟨w,0⟩] }) []=E
  (refine S ?_;try exact True.intro)
  (have W:=And.intro hk' (And.intro hx0 (And.intro hw (And.intro hn (And.intro hjp1 (hjl1)))));repeat' (first|refine jaa fun K hK=>?_|refine wkA ?_|(with_reducible refine gR 10 ?_);refine dE 10 [0,1,2,3,4,5,6,7,8,9,10,11,12,13,14,15] mixed ?_|(refine hK _ _ ?_;clear hK K)|(refine jad (fun hc=>?_) (fun hc=>?_)<;>first | contradiction | (exfalso;omega) | skip)|refine bxF 4 ?_|refine alF 5 ?_|(refine cE (R:=R) (R':=R) (pre:=jaj p) (post:=[jal eI 1 inp,rI 0]) (pre':=jaj p) (post':=[jal eI 1 inp,rI 0]) hvx rfl (Nat.le_refl _) (Nat.le_refl _) rfl rfl jac rfl (by simp only [go_sem]) ?_;try ((refine S ?_;try exact True.intro)))|(refine cE (R:=R) (R':=R1) (pre:=jaj p) (post:=[jal eI 1 inp,rI 0]) (pre':=jaj p) (post':=[jal eI 1 inp,rI 0]) hdn rfl hl1 hl2 rfl rfl jac rfl (by simp only [go_sem]) ?_;try ((refine S ?_;try exact True.intro)))|(refine cE (R:=R1) (R':=R1) (pre:=jaj p) (post:=[jal eI 1 inp,rI 0]) (pre':=jaj p) (post':=[jal eI 1 inp,rI 0]) htc rfl (Nat.le_refl _) (Nat.le_refl _) rfl rfl jac rfl (by simp only [go_sem]) ?_;try ((refine S ?_;try exact True.intro)))|refine wkB ?_|exact True.intro|(clear hK K)));all_goals (try clear W)
  subst hE
  exact jb8 (R':=R1.upd (R1.nf - 1) { nth R1.frs (R1.nf - 1) with path:=(nth R1.frs (R1.nf - 1)).path++[⟨w,0⟩] }) (pre':=jaj p) (post':=[jal eI 1 inp,rI 0]) (tl:=[(4,.var 53 (jao (nth p.tree.nodes a.toNat))),(5,.var 59 (jag X.1))]) (congrArg (Hp.mk B) (RS.e_deeper (x:=⟨w,0⟩) hkk1 hjp1 rfl (fun j=>rfl) (hfin w))) hB [] jac rfl rfl rfl
theorem jo5 {p:GProg} (h:SOk p) (inp:List Int) (R:RS) (hd:Doing p R) (hk:(jak p (atV p R.st)).kind=17) (R':RS) (tr:Int) (hR':(R',tr)=R.does p (atV p R.st) inp) :
  ACalls Tryz.prog 113 [.pt 0 0 0 0,.agg (jao (jak p (atV p R.st))),rI (atV p R.st)] (rnE p inp 0 R []) (fun r l=>r=.tup []∧l=rnE p inp tr R' []):=by
 have hok:=hd.inv.ok
 have hnf:=hok.nf
 have h1:=hd.one
 have hfr:=hd.inv.frs
 have hcl:=jaO R.heap
 have hcc:=hd.cells
 obtain ⟨s0,s1,s2,s3,s4,s5⟩:=hd.stmt h
 generalize atV p R.st=a at *
 have hk':(nth p.tree.nodes a.toNat).kind=17:=hk
 have htl:∀ v,ACalls Tryz.prog 99 [.pt 0 0 0 0,.agg (jag v)] (rnE p inp 0 R []) (fun r l=>r=.tup []∧l=rnE p inp 0 (R.tells p v) []):=fun v=>jq0 p inp 0 v R hok h1 (by omega) (hd.inv.at_ h)
 have hlen:=fun v=>jeD R p v
 unfold RS.does at hR'
 simp only [hk] at hR'
 rw [if_neg (by omega),if_neg (by omega),if_neg (by omega),if_pos trivial] at hR'
 unfold jak at *
 rcases (h.ok.tree.shape a.toNat s1).1.ret hk' with hla | ⟨x,hla,hxE⟩
 ·have hll:(nth p.tree.nodes a.toNat).l.length=0:=by rw [hla];rfl
  rw [if_pos hll] at hR'
  rw [(Prod.mk.inj hR').1,(Prod.mk.inj hR').2]
  clear hR'
  have ht:=htl v0
  have hl1:=hlen v0
  generalize R.tells p v0=Z at *
  refine jaw Tryz.func113 Tryz.ntmps113 ?_
  generalize hB:ids (rnE p inp 0 R [])=B
  generalize hE:rnE p inp 0 Z []=E
  (refine S ?_;try exact True.intro)
  (have W:=hll;repeat' (first|refine jaa fun K hK=>?_|refine wkA ?_|(refine hK _ _ ?_;clear hK K)|(refine jad (fun hc=>?_) (fun hc=>?_)<;>first | contradiction | (exfalso;omega) | skip)|refine bxF 4 ?_|refine alF 5 ?_|refine wkB ?_|exact True.intro|(clear hK K)));all_goals (try clear W)
  have hKo:=hK;clear hK
  refine jah (S:=Unit) [(8,3),(14,14)] (fun _=>True) (fun _=>[(14,rI 0)]) (fun _=>⟨B,rnE p inp 0 R [(4,.var 53 (jao (nth p.tree.nodes a.toNat))),(5,.var 59 (jag v0))]⟩) (fun _=>0) () trivial (jaE rfl lle) ?_
  rintro _ _ Kr hKr
  (refine S ?_;try exact True.intro)
  (have W:=hll;repeat' (first|refine jaa fun K hK=>?_|refine wkA ?_|(refine hK _ _ ?_;clear hK K)|(refine jad (fun hc=>?_) (fun hc=>?_)<;>first | contradiction | (exfalso;omega) | skip)|(refine cE (R:=R) (R':=Z) (pre:=jaj p) (post:=[jal eI 1 inp,rI 0]) (pre':=jaj p) (post':=[jal eI 1 inp,rI 0]) ht rfl (Nat.le_of_eq hl1.1.symm) (Nat.le_of_eq (congrArg List.length hl1.2.symm)) rfl rfl jac rfl (by simp only [go_sem]) ?_;try ((refine S ?_;try exact True.intro)))|(refine hKo _ _ ?_)|refine wkB ?_|exact True.intro|(clear hK K)));all_goals (try clear W)
  subst hE
  exact jb8 (R':=Z) (pre':=jaj p) (post':=[jal eI 1 inp,rI 0]) rfl hB [] jac rfl rfl rfl
 ·have hll:(nth p.tree.nodes a.toNat).l.length=1:=by rw [hla];rfl
  have hx0:nth (nth p.tree.nodes a.toNat).l 0=x:=by rw [hla];rfl
  have hbx:=(h.ok.tree.shape a.toNat s1).2.1 x (by rw [hla];simp)
  have hvx:=jee h inp 0 R hok h1 (by omega) (by omega) x hbx.1 (by omega) hxE
  rw [if_neg (by omega),hx0] at hR'
  generalize R.val p x=X at *
  by_cases hz:X.2=0
  ·rw [if_neg (fun e=>e hz)] at hR'
   rw [(Prod.mk.inj hR').1,(Prod.mk.inj hR').2]
   clear hR'
   rw [hz] at hvx
   have ht:=htl X.1
   have hl1:=hlen X.1
   generalize R.tells p X.1=Z at *
   refine jaw Tryz.func113 Tryz.ntmps113 ?_
   generalize hB:ids (rnE p inp 0 R [])=B
   generalize hE:rnE p inp 0 Z []=E
   (refine S ?_;try exact True.intro)
   (have W:=hll;repeat' (first|refine jaa fun K hK=>?_|refine wkA ?_|(refine hK _ _ ?_;clear hK K)|(refine jad (fun hc=>?_) (fun hc=>?_)<;>first | contradiction | (exfalso;omega) | skip)|refine bxF 4 ?_|refine alF 5 ?_|refine wkB ?_|exact True.intro|(clear hK K)));all_goals (try clear W)
   have hKo:=hK;clear hK
   refine jah (S:=Nat) [(8,3),(14,14)] (fun k=>k≤1) (fun k=>[(14,rI k)]) (fun k=>⟨B,rnE p inp 0 R [(4,.var 53 (jao (nth p.tree.nodes a.toNat))),(5,.var 59 (jag (if k=0 then v0 else X.1)))]⟩) (fun k=>1 - k) 0 (by omega) (jaE rfl lle) ?_
   rintro k hk1 Kr hKr
   by_cases hk0:k=0
   ·subst hk0
    rw [if_pos rfl]
    (refine S ?_;try exact True.intro)
    (have W:=And.intro hll (hx0);repeat' (first|refine jaa fun K hK=>?_|refine wkA ?_|(refine hK _ _ ?_;clear hK K)|(refine jad (fun hc=>?_) (fun hc=>?_)<;>first | contradiction | (exfalso;omega) | skip)|refine alF 6 ?_|(refine cE (R:=R) (R':=R) (pre:=jaj p) (post:=[jal eI 1 inp,rI 0]) (pre':=jaj p) (post':=[jal eI 1 inp,rI 0]) hvx rfl (Nat.le_refl _) (Nat.le_refl _) rfl rfl jac rfl (by simp only [go_sem]) ?_;try ((refine S ?_;try exact True.intro)))|refine wkB ?_|exact True.intro|(clear hK K)));all_goals (try clear W)
    refine hKr _ _ (jsu (R0:=R) (R':=R) (pre:=jaj p) (post:=[jal eI 1 inp,rI 0]) (pre':=jaj p) (post':=[jal eI 1 inp,rI 0]) 1 [(4,.var 53 (jao (nth p.tree.nodes a.toNat))),(5,.var 59 (jag X.1))] 6 (.var 59 (jag X.1)) (by omega) (by omega) rfl hB rfl (by omega) rfl rfl rfl (fun i r hi=>?_) (by simp [ids]))
    simp only [jas] at hi
    repeat' split at hi
    all_goals first
     | (cases hi;exact jdb _ _)
     | (cases hi;exact jhW _ _)
     | cases hi
   ·have e1:k=1:=by omega
    subst e1
    rw [if_neg (by omega)]
    (refine S ?_;try exact True.intro)
    (have W:=hll;repeat' (first|refine jaa fun K hK=>?_|refine wkA ?_|(refine hK _ _ ?_;clear hK K)|(refine jad (fun hc=>?_) (fun hc=>?_)<;>first | contradiction | (exfalso;omega) | skip)|(refine cE (R:=R) (R':=Z) (pre:=jaj p) (post:=[jal eI 1 inp,rI 0]) (pre':=jaj p) (post':=[jal eI 1 inp,rI 0]) ht rfl (Nat.le_of_eq hl1.1.symm) (Nat.le_of_eq (congrArg List.length hl1.2.symm)) rfl rfl jac rfl (by simp only [go_sem]) ?_;try ((refine S ?_;try exact True.intro)))|(refine hKo _ _ ?_)|refine wkB ?_|exact True.intro|(clear hK K)));all_goals (try clear W)
    subst hE
    exact jb8 (R':=Z) (pre':=jaj p) (post':=[jal eI 1 inp,rI 0]) rfl hB [] jac rfl rfl rfl
  ·rw [if_pos hz] at hR'
   obtain ⟨rfl,rfl⟩:=Prod.mk.inj hR'
   have hz':=eq_false hz
   suffices key2:∀ R2:RS,R2=R'→ACalls Tryz.prog 113 [.pt 0 0 0 0,.agg (jao (nth p.tree.nodes a.toNat)),rI a] (rnE p inp 0 R' []) (fun r l=>r=.tup []∧l=rnE p inp X.2 R2 []) from key2 R' rfl
   intro R2 hR2
   refine jaw Tryz.func113 Tryz.ntmps113 ?_
   generalize hB:ids (rnE p inp 0 R' [])=B
   generalize hE:rnE p inp X.2 R2 []=E
   (refine S ?_;try exact True.intro)
   (have W:=hll;repeat' (first|refine jaa fun K hK=>?_|refine wkA ?_|(refine hK _ _ ?_;clear hK K)|(refine jad (fun hc=>?_) (fun hc=>?_)<;>first | contradiction | (exfalso;omega) | skip)|refine bxF 4 ?_|refine alF 5 ?_|refine wkB ?_|exact True.intro|(clear hK K)));all_goals (try clear W)
   have hKo:=hK;clear hK
   refine jah (S:=Unit) [(8,3),(14,14)] (fun _=>True) (fun _=>[(14,rI 0)]) (fun _=>⟨B,rnE p inp 0 R' [(4,.var 53 (jao (nth p.tree.nodes a.toNat))),(5,.var 59 (jag v0))]⟩) (fun _=>0) () trivial (jaE rfl lle) ?_
   rintro _ _ Kr hKr
   (refine S ?_;try exact True.intro)
   (have W:=And.intro hll (And.intro hx0 (hz'));repeat' (first|refine jaa fun K hK=>?_|refine wkA ?_|(refine hK _ _ ?_;clear hK K)|(refine jad (fun hc=>?_) (fun hc=>?_)<;>first | contradiction | (exfalso;omega) | skip)|refine alF 6 ?_|(refine cE (R:=R') (R':=R') (pre:=jaj p) (post:=[jal eI 1 inp,rI 0]) (pre':=jaj p) (post':=[jal eI 1 inp,rI X.2]) hvx rfl (Nat.le_refl _) (Nat.le_refl _) rfl rfl jac rfl (by simp only [go_sem]) ?_;try ((refine S ?_;try exact True.intro)))|refine wkB ?_|exact True.intro|(clear hK K)));all_goals (try clear W)
   subst hE
   subst hR2
   exact jb8 (R':=R2) (pre':=jaj p) (post':=[jal eI 1 inp,rI X.2]) rfl hB [] jac rfl rfl rfl
end Go.Proofs.YtfkgcobaheegbaaGreatDoor

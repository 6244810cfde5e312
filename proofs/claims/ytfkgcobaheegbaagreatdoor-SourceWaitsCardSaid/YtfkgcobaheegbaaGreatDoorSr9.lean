/- What a program means: the program's runner: prints. What a program means: the program's runner: puts. What a program means: the program's runner: fresh lists. No conditions. -/
import Derived.Test.YtfkgcobaheegbaaGreatDoorSr6
import Derived.Test.YtfkgcobaheegbaaGreatDoorGdR
set_option linter.all false
namespace Go.Proofs.YtfkgcobaheegbaaGreatDoor
open Go Go.Gd
set_option maxHeartbeats 4000000
set_option maxRecDepth 10000
theorem jqY {p:GProg} (h:SOk p) (inp:List Int) (R:RS) (hd:Doing p R) (hk:(jak p (atV p R.st)).kind=14) (hrg:∀ x:Int,0≤x→x.toNat < p.tree.nodes.length→isE (jan p.tree.nodes x)→rng (R.val p x).1.n) (R':RS) (tr:Int) (hR':(R',tr)=R.does p (atV p R.st) inp) :
  ACalls Tryz.prog 111 [.pt 0 0 0 0,.agg (jao (jak p (atV p R.st))),rI (atV p R.st)] (rnE p inp 0 R []) (fun r l=>r=.tup []∧l=rnE p inp tr R' []):=by
 have hok:=hd.inv.ok
 have hnf:=hok.nf
 have h1:=hd.one
 have hfr:=hd.inv.frs
 have hcl:=jaO R.heap
 have hcc:=hd.cells
 have houts:=hd.outs
 have hst:=hd.stAt h
 obtain ⟨s0,s1,s2,s3,s4,s5⟩:=hd.stmt h
 have hsl:=hst.sl
 have hon:=hd.onOk h
 generalize atV p R.st=a at *
 have hk':(nth p.tree.nodes a.toNat).kind=14:=hk
 unfold RS.does at hR'
 simp only [hk] at hR'
 rw [if_neg (by omega),if_neg (by omega),if_neg (by omega),if_neg (by omega)] at hR'
 obtain ⟨x,hla,hxE⟩:=(h.ok.tree.shape a.toNat s1).1.one (by omega)
 have hbx:=(h.ok.tree.shape a.toNat s1).2.1 x (by rw [hla];simp)
 have hx0:nth (nth p.tree.nodes a.toNat).l 0=x:=by rw [hla];rfl
 have hll:(nth p.tree.nodes a.toNat).l.length=1:=by rw [hla];rfl
 have hvx:=jee h inp 0 R hok h1 (by omega) (by omega) x hbx.1 (by omega) hxE
 have hrx:=hrg x hbx.1 (by omega) hxE
 rw [show nth (jak p a).l 0=x from hx0] at hR'
 have hls:¬ jfn p a:=fun e=>by unfold jfn at e;omega
 have hask:=jhd p inp 0 R (decide ((R.out_.length:Int) < 24)) 5
 unfold jak at *
 have hw5:=jv3 (R.val p x).1 hrx
 have hdn:=fun (R2:RS) (ho:OnOk R2)=>show ACalls Tryz.prog 153 _ _ (fun r l=>r=.tup []∧l=rnE p inp 0 R2.on []) by have:=jgJ p inp 0 a (R.val p x).1 R2 ho s0 s1 hsl (fun e=>(hls e).elim);rwa [if_neg hls] at this
 generalize R.val p x=X at *
 by_cases hz:X.2=0
 rotate_left
 ·rw [if_pos hz] at hR'
  obtain ⟨rfl,rfl⟩:=Prod.mk.inj hR'
  have hz':=eq_false hz
  suffices key2:∀ R2:RS,R2=R'→ACalls Tryz.prog 111 [.pt 0 0 0 0,.agg (jao (nth p.tree.nodes a.toNat)),rI a] (rnE p inp 0 R' []) (fun r l=>r=.tup []∧l=rnE p inp X.2 R2 []) from key2 R' rfl
  intro R2 hR2
  refine jaw Tryz.func111 Tryz.ntmps111 ?_
  generalize hB:ids (rnE p inp 0 R' [])=B
  generalize hE:rnE p inp X.2 R2 []=E
  (refine S ?_;try exact True.intro)
  (have W:=And.intro hll (And.intro hx0 (hz'));repeat' (first|(with_reducible refine gR 2 ?_);refine sS [27] ?_|refine jaa fun K hK=>?_|refine wkA ?_|(refine hK _ _ ?_;clear hK K)|(refine jad (fun hc=>?_) (fun hc=>?_)<;>first | contradiction | (exfalso;omega) | skip)|refine bxF 4 ?_|refine alF 5 ?_|(refine cE (R:=R') (R':=R') (pre:=jaj p) (post:=[jal eI 1 inp,rI 0]) (pre':=jaj p) (post':=[jal eI 1 inp,rI X.2]) hvx rfl (Nat.le_refl _) (Nat.le_refl _) rfl rfl jac rfl (by simp only [go_sem]) ?_;try ((refine S ?_;try exact True.intro)))|refine wkB ?_|exact True.intro|(clear hK K)));all_goals (try clear W)
  subst hE
  subst hR2
  exact jb8 (R':=R2) (pre':=jaj p) (post':=[jal eI 1 inp,rI X.2]) rfl hB [] jac rfl rfl rfl
 rw [if_neg (fun e=>e hz),if_pos trivial] at hR'
 rw [hz] at hvx
 by_cases ho:24≤R.out_.length
 ·rw [if_pos ho] at hR'
  obtain ⟨rfl,rfl⟩:=Prod.mk.inj hR'
  have e:(if decide ((R'.out_.length:Int) < 24)=true then (0:Int) else 5)=5:=if_neg (by rw [decide_eq_false (by omega)];decide)
  rw [e] at hask
  suffices key2:∀ R2:RS,R2=R'→ACalls Tryz.prog 111 [.pt 0 0 0 0,.agg (jao (nth p.tree.nodes a.toNat)),rI a] (rnE p inp 0 R' []) (fun r l=>r=.tup []∧l=rnE p inp 5 R2 []) from key2 R' rfl
  intro R2 hR2
  refine jaw Tryz.func111 Tryz.ntmps111 ?_
  generalize hB:ids (rnE p inp 0 R' [])=B
  generalize hE:rnE p inp 5 R2 []=E
  (refine S ?_;try exact True.intro)
  (have W:=And.intro hll (hx0);repeat' (first|(with_reducible refine gR 2 ?_);refine sS [27] ?_|refine jaa fun K hK=>?_|refine wkA ?_|(refine hK _ _ ?_;clear hK K)|(refine jad (fun hc=>?_) (fun hc=>?_)<;>first | contradiction | (exfalso;omega) | skip)|refine bxF 4 ?_|refine alF 5 ?_|(refine cE (R:=R') (R':=R') (pre:=jaj p) (post:=[jal eI 1 inp,rI 0]) (pre':=jaj p) (post':=[jal eI 1 inp,rI 0]) hvx rfl (Nat.le_refl _) (Nat.le_refl _) rfl rfl jac rfl (by simp only [go_sem]) ?_;try ((refine S ?_;try exact True.intro)))|(refine cE (R:=R') (R':=R') (pre:=jaj p) (post:=[jal eI 1 inp,rI 0]) (pre':=jaj p) (post':=[jal eI 1 inp,rI 5]) hask rfl (Nat.le_refl _) (Nat.le_refl _) rfl rfl jac rfl (by simp only [go_sem]) ?_;try ((refine S ?_;try exact True.intro)))|refine wkB ?_|exact True.intro|(clear hK K)));all_goals (try clear W)
  subst hE
  subst hR2
  exact jb8 (R':=R2) (pre':=jaj p) (post':=[jal eI 1 inp,rI 5]) rfl hB [] jac rfl rfl rfl
 ·rw [if_neg ho] at hR'
  obtain ⟨rfl,rfl⟩:=Prod.mk.inj hR'
  have e:(if decide ((R.out_.length:Int) < 24)=true then (0:Int) else 5)=0:=if_pos (decide_eq_true (by omega))
  rw [e] at hask
  have hdn1:=hdn (R.says (jeh X.1)) (jdV hon rfl rfl rfl)
  show ACalls _ _ _ _ (fun r l=>r=.tup []∧l=rnE p inp 0 (R.says (jeh X.1)).on [])
  have hws:(jeh X.1).size≤1000000∨True:=.inr trivial
  refine jaw Tryz.func111 Tryz.ntmps111 ?_
  generalize hB:ids (rnE p inp 0 R [])=B
  generalize hE:rnE p inp 0 (R.says (jeh X.1)).on []=E
  (refine S ?_;try exact True.intro)
  (have W:=And.intro hll (hx0);repeat' (first|(with_reducible refine gR 2 ?_);refine sS [27] ?_|refine jaa fun K hK=>?_|refine wkA ?_|(with_reducible refine gR 3 ?_);refine dC 3 ([],[36],[]) [] [0,1,2,3,4,5,6,7,8,9,10,11,12,13] mixed ?_|(refine hK _ _ ?_;clear hK K)|(refine jad (fun hc=>?_) (fun hc=>?_)<;>first | contradiction | (exfalso;omega) | skip)|refine bxF 4 ?_|refine alF 5 ?_|(refine cE (R:=R) (R':=R) (pre:=jaj p) (post:=[jal eI 1 inp,rI 0]) (pre':=jaj p) (post':=[jal eI 1 inp,rI 0]) hvx rfl (Nat.le_refl _) (Nat.le_refl _) rfl rfl jac rfl (by simp only [go_sem]) ?_;try ((refine S ?_;try exact True.intro)))|(refine cE (R:=R) (R':=R) (pre:=jaj p) (post:=[jal eI 1 inp,rI 0]) (pre':=jaj p) (post':=[jal eI 1 inp,rI 0]) hask rfl (Nat.le_refl _) (Nat.le_refl _) rfl rfl jac rfl (by simp only [go_sem]) ?_;try ((refine S ?_;try exact True.intro)))|(refine cE (R:=R.says (jeh X.1)) (R':=(R.says (jeh X.1)).on) (pre:=jaj p) (post:=[jal eI 1 inp,rI 0]) (pre':=jaj p) (post':=[jal eI 1 inp,rI 0]) hdn1 (congrArg (Hp.mk B) (jtw (w:=jeh X.1) (by simp [RS.c,RS.says,jaj]) (by rfl))) (Nat.le_of_eq RS.upd_len) (Nat.le_refl _) rfl rfl jac rfl (by simp only [go_sem]) ?_;try ((refine S ?_;try exact True.intro)))|refine cq (hw5) ?_|refine wkB ?_|exact True.intro|(clear hK K)));all_goals (try clear W)
  subst hE
  exact jb8 (R':=(R.says (jeh X.1)).on) (pre':=jaj p) (post':=[jal eI 1 inp,rI 0]) rfl hB [] jac rfl rfl rfl
end Go.Proofs.YtfkgcobaheegbaaGreatDoor
namespace Go.Gd
open Go
theorem jxt {P:Program} {f:FuncId} {args:List AV} {H:Hp} {K:AV→Prop} {t:TypeId} {pre post:List AV} {R:RS} {r0:AV} {B:List Nat} {tl:List (Nat×Row)} (hc:ACalls P f args (R.e t pre post []) fun r l'=>r=r0∧l'=R.e t pre post []) (hH:H=⟨B,R.e t pre post tl⟩)
  (hp:jaB noQ pre=true) (hq:jaB noQ post=true) (hl:low tl) (ha:jaB (fun i=>decide (i < 4)) args=true) (h0:jab P f=true) (k:K r0):∃ r,(jbm P (.raw (.func (.func f) #[] #[])) args H fun r' H'=>r'=r∧H'=H)∧K r:=
 ⟨r0,cE4 hc hH (Nat.le_refl _) (Nat.le_refl _) hp hq hl ha h0 ⟨rfl,hH.symm⟩,k⟩
end Go.Gd
namespace Go.Proofs.YtfkgcobaheegbaaGreatDoor
open Go Go.Gd
set_option maxHeartbeats 4000000
set_option maxRecDepth 10000
theorem jvv (p:GProg) (inp:List Int) (tr:Int) (R:RS) (v:GValue) (hh:R.heap.length≤1000000) :
  ACalls Tryz.prog 157 [.rs 2 R.heap.length 1 R.heap.length,rV v] (rnE p inp tr R []) (fun r l=>r=R.listA v∧l=rnE p inp tr R []):=by
 suffices key:∀ R':RS,R'=R→ACalls Tryz.prog 157 [.rs 2 R.heap.length 1 R.heap.length,rV v] (rnE p inp tr R []) (fun r l=>r=R.listA v∧l=rnE p inp tr R' []) from key R rfl
 intro R' hR'
 by_cases c:v.ty≠4∨v.n < 1∨(R.heap.length:Int) < v.n
 all_goals
  unfold RS.listA
  first | rw [if_pos c] | rw [if_neg c]
  refine jaw Tryz.func157 Tryz.ntmps157 ?_
  generalize hB:ids (rnE p inp tr R [])=B
  generalize hE:rnE p inp tr R' []=E
  (refine S ?_;try exact True.intro)
  (repeat' (first|refine jaa fun K hK=>?_|refine wkA ?_|(refine hK _ _ ?_;clear hK K)|(refine jad (fun hc=>?_) (fun hc=>?_)<;>first | contradiction | (exfalso;omega) | skip)|refine bxF 4 ?_|refine wkB ?_|exact True.intro|(clear hK K)))
  subst hE
  subst hR'
  exact jsI (R':=R') (pre':=jaj p) (post':=[jal eI 1 inp,rI tr]) rfl hB [.tmp 4] jac rfl rfl (by simp [go_sem,jeQ])
theorem jvx {p:GProg} (h:SOk p) (inp:List Int) (R:RS) (hd:Doing p R) (hk:(jak p (atV p R.st)).kind=12) :
  ACalls Tryz.prog 110 [.pt 0 0 0 0,.agg (jao (jak p (atV p R.st))),rI (atV p R.st)] (rnE p inp 0 R []) (fun r l=>r=.tup []∧l=rnE p inp (R.put p (atV p R.st)).2 (R.put p (atV p R.st)).1 []):=by
 have hok:=hd.inv.ok
 have hnf:=hok.nf
 have h1:=hd.one
 have hfr:=hd.inv.frs
 have hcl:=jaO R.heap
 have hcc:=hd.cells
 have hst:=hd.stAt h
 obtain ⟨s0,s1,s2,s3,s4,s5⟩:=hd.stmt h
 have hsl:=hst.sl
 have hkk:R.nf - 1 < R.frs.length:=by omega
 have hon:=hd.onOk h
 generalize ha:atV p R.st=a at *
 have hk':(nth p.tree.nodes a.toNat).kind=12:=hk
 obtain ⟨x,y,hla,hx,hy⟩:=(h.ok.tree.shape a.toNat s1).1.two (.inr hk)
 have hkx:=(h.ok.tree.shape a.toNat s1).2.1 x (by rw [hla];simp)
 have hky:=(h.ok.tree.shape a.toNat s1).2.1 y (by rw [hla];simp)
 have hx0:nth (nth p.tree.nodes a.toNat).l 0=x:=by rw [hla];rfl
 have hy0:nth (nth p.tree.nodes a.toNat).l 1=y:=by rw [hla];rfl
 have hll:(nth p.tree.nodes a.toNat).l.length=2:=by rw [hla];rfl
 have hvx:=jee h inp 0 R hok h1 (by omega) (by omega) x hkx.1 (by omega) hx
 have hvy:=jee h inp 0 R hok h1 (by omega) (by omega) y hky.1 (by omega) hy
 have htc:=jiC p inp 0 R hok h1 (by omega)
 have hget:=juO R.topF.slots (nth p.slots a.toNat) 4
 have hl7:=jvv p inp 0 R (jgh R.topF.slots (nth p.slots a.toNat) 4) (by omega)
 have hls:¬ jfn p a:=fun e=>by unfold jfn at e;omega
 have hdn:=fun (R2:RS) (ho:OnOk R2)=>show ACalls Tryz.prog 153 _ _ (fun r l=>r=.tup []∧l=rnE p inp 0 R2.on []) by have:=jgJ p inp 0 a v0 R2 ho s0 s1 hsl (fun e=>(hls e).elim);rwa [if_neg hls] at this
 have hdef:R.put p a=(let x:=R.val p x;let y:=R.val p y;let v:=jgh R.topF.slots (nth p.slots a.toNat) 4;if x.2≠0 then (R,x.2) else if y.2≠0 then (R,y.2) else if x.1.n < 0∨((jb2 R.heap v).length:Int)≤x.1.n then (R,2)
   else ((R.lset (v.n - 1).toNat ((nth R.heap (v.n - 1).toNat).set x.1.n.toNat y.1.n)).on,0)):=by
  unfold RS.put;rw [show nth (jak p a).l 0=x from hx0,show nth (jak p a).l 1=y from hy0];rfl
 rw [hdef]
 unfold jak
 generalize R.val p x=X at hvx ⊢
 generalize R.val p y=Y at hvy ⊢
 generalize hV:jgh R.topF.slots (nth p.slots a.toNat) 4=V at *
 simp only
 have hL:(R.listA V=.raw (.slice none 0 0)∧jb2 R.heap V=[])∨(1≤V.n∧V.n≤R.heap.length∧R.listA V=.rs (fid 2 (V.n - 1).toNat) (nth R.heap (V.n - 1).toNat).length 1 (nth R.heap (V.n - 1).toNat).length∧jb2 R.heap V=nth R.heap (V.n - 1).toNat):=by
  unfold RS.listA jb2
  by_cases c:V.ty≠4∨V.n < 1∨(R.heap.length:Int) < V.n
  ·rw [if_pos c,if_pos c];exact .inl ⟨rfl,rfl⟩
  ·rw [if_neg c,if_neg c];exact .inr ⟨by omega,by omega,rfl,rfl⟩
 have hsm:((jb2 R.heap V).length:Int)≤40:=by
  rcases hL with ⟨_,e⟩ | ⟨c1,c2,_,e⟩
  ·rw [e];simp
  ·rw [e];have:=jdM R.heap (V.n - 1).toNat (by omega);omega
 by_cases c0:X.2=0
 rotate_left
 ·rw [if_pos c0]
  have c0':=eq_false c0
  suffices key2:∀ R2:RS,R2=R→ACalls Tryz.prog 110 [.pt 0 0 0 0,.agg (jao (nth p.tree.nodes a.toNat)),rI a] (rnE p inp 0 R []) (fun r l=>r=.tup []∧l=rnE p inp X.2 R2 []) from key2 R rfl
  intro R2 hR2
  refine jaw Tryz.func110 Tryz.ntmps110 ?_
  generalize hB:ids (rnE p inp 0 R [])=B
  generalize hE:rnE p inp X.2 R2 []=E
  (refine S ?_;try exact True.intro)
  (have W:=And.intro hx0 (And.intro hy0 (And.intro hll (c0')));repeat' (first|refine jaa fun K hK=>?_|refine wkA ?_|(refine hK _ _ ?_;clear hK K)|(refine jad (fun hc=>?_) (fun hc=>?_)<;>first | contradiction | (exfalso;omega) | skip)|refine bxF 4 ?_|refine alF 5 ?_|(refine cE (R:=R) (R':=R) (pre:=jaj p) (post:=[jal eI 1 inp,rI 0]) (pre':=jaj p) (post':=[jal eI 1 inp,rI X.2]) hvx rfl (Nat.le_refl _) (Nat.le_refl _) rfl rfl jac rfl (by simp only [go_sem]) ?_;try ((refine S ?_;try exact True.intro)))|(refine cE (R:=R) (R':=R) (pre:=jaj p) (post:=[jal eI 1 inp,rI 0]) (pre':=jaj p) (post':=[jal eI 1 inp,rI Y.2]) hvy rfl (Nat.le_refl _) (Nat.le_refl _) rfl rfl jac rfl (by simp only [go_sem]) ?_;try ((refine S ?_;try exact True.intro)))|(refine cEq (R:=R) (pre:=jaj p) (post:=[jal eI 1 inp,rI 0]) htc rfl rfl rfl jac rfl (by simp only [go_sem]) ?_;try ((refine S ?_;try exact True.intro)))|(refine cqL (args':=[rSl R.topF.slots,rI (nth p.slots a.toNat),rI 4]) hget (show VToL _ ⟨B,rnE p inp 0 R _⟩ _ _ from ⟨RS.vtoS hkk (fun _=>rfl) rfl,.same _ rfl,.same _ rfl,trivial⟩) rfl (by simp only [go_sem]) ?_;try ((refine S ?_;try exact True.intro)))|(refine jxt (R:=R) (pre:=jaj p) (post:=[jal eI 1 inp,rI 0]) hl7 rfl rfl rfl jac rfl (by simp only [go_sem]) ?_;try ((refine S ?_;try exact True.intro)))|refine wkB ?_|exact True.intro|(clear hK K)));all_goals (try clear W)
  subst hE
  subst hR2
  exact jb8 (R':=R2) (pre':=jaj p) (post':=[jal eI 1 inp,rI X.2]) rfl hB [] jac rfl rfl rfl
 rw [if_neg (fun h=>h c0)]
 rw [c0] at hvx
 by_cases c1:Y.2=0
 rotate_left
 ·rw [if_pos c1]
  have c1':=eq_false c1
  suffices key2:∀ R2:RS,R2=R→ACalls Tryz.prog 110 [.pt 0 0 0 0,.agg (jao (nth p.tree.nodes a.toNat)),rI a] (rnE p inp 0 R []) (fun r l=>r=.tup []∧l=rnE p inp Y.2 R2 []) from key2 R rfl
  intro R2 hR2
  refine jaw Tryz.func110 Tryz.ntmps110 ?_
  generalize hB:ids (rnE p inp 0 R [])=B
  generalize hE:rnE p inp Y.2 R2 []=E
  (refine S ?_;try exact True.intro)
  (have W:=And.intro hx0 (And.intro hy0 (And.intro hll (c1')));repeat' (first|refine jaa fun K hK=>?_|refine wkA ?_|(refine hK _ _ ?_;clear hK K)|(refine jad (fun hc=>?_) (fun hc=>?_)<;>first | contradiction | (exfalso;omega) | skip)|refine bxF 4 ?_|refine alF 5 ?_|refine alF 6 ?_|(refine cE (R:=R) (R':=R) (pre:=jaj p) (post:=[jal eI 1 inp,rI 0]) (pre':=jaj p) (post':=[jal eI 1 inp,rI 0]) hvx rfl (Nat.le_refl _) (Nat.le_refl _) rfl rfl jac rfl (by simp only [go_sem]) ?_;try ((refine S ?_;try exact True.intro)))|(refine cE (R:=R) (R':=R) (pre:=jaj p) (post:=[jal eI 1 inp,rI 0]) (pre':=jaj p) (post':=[jal eI 1 inp,rI Y.2]) hvy rfl (Nat.le_refl _) (Nat.le_refl _) rfl rfl jac rfl (by simp only [go_sem]) ?_;try ((refine S ?_;try exact True.intro)))|(refine cEq (R:=R) (pre:=jaj p) (post:=[jal eI 1 inp,rI 0]) htc rfl rfl rfl jac rfl (by simp only [go_sem]) ?_;try ((refine S ?_;try exact True.intro)))|(refine cqL (args':=[rSl R.topF.slots,rI (nth p.slots a.toNat),rI 4]) hget (show VToL _ ⟨B,rnE p inp 0 R _⟩ _ _ from ⟨RS.vtoS hkk (fun _=>rfl) rfl,.same _ rfl,.same _ rfl,trivial⟩) rfl (by simp only [go_sem]) ?_;try ((refine S ?_;try exact True.intro)))|(refine jxt (R:=R) (pre:=jaj p) (post:=[jal eI 1 inp,rI 0]) hl7 rfl rfl rfl jac rfl (by simp only [go_sem]) ?_;try ((refine S ?_;try exact True.intro)))|refine wkB ?_|exact True.intro|(clear hK K)));all_goals (try clear W)
  subst hE
  subst hR2
  exact jb8 (R':=R2) (pre':=jaj p) (post':=[jal eI 1 inp,rI Y.2]) rfl hB [] jac rfl rfl rfl
 rw [if_neg (fun h=>h c1)]
 rw [c1] at hvy
 by_cases c2:X.1.n < 0∨((jb2 R.heap V).length:Int)≤X.1.n
 ·rw [if_pos c2]
  suffices key2:∀ R2:RS,R2=R→ACalls Tryz.prog 110 [.pt 0 0 0 0,.agg (jao (nth p.tree.nodes a.toNat)),rI a] (rnE p inp 0 R []) (fun r l=>r=.tup []∧l=rnE p inp 2 R2 []) from key2 R rfl
  intro R2 hR2
  have hask:∀ n:Int,(X.1.n < 0∨n≤X.1.n)→ACalls Tryz.prog 159 [.pt 0 0 0 0,rB (decide (0≤X.1.n) && decide (X.1.n < n)),rI 2] (rnE p inp 0 R []) (fun r l=>r=rB false∧l=rnE p inp 2 R []):=fun n hn=>by
   have e:(decide (0≤X.1.n) && decide (X.1.n < n))=false:=by simp;omega
   rw [e]
   exact jhd p inp 0 R false 2
  rcases hL with ⟨e1,e2⟩ | ⟨cv1,cv2,e1,e2⟩
  ·rw [e1] at hl7
   rw [e2] at c2 hsm
   have hask:=hask 0 c2
   refine jaw Tryz.func110 Tryz.ntmps110 ?_
   generalize hB:ids (rnE p inp 0 R [])=B
   generalize hE:rnE p inp 2 R2 []=E
   (refine S ?_;try exact True.intro)
   (have W:=And.intro hx0 (And.intro hy0 (hll));repeat' (first|refine jaa fun K hK=>?_|refine wkA ?_|(with_reducible refine gR 5 ?_);refine dQ 5 mixed ?_|(refine hK _ _ ?_;clear hK K)|(refine jad (fun hc=>?_) (fun hc=>?_)<;>first | contradiction | (exfalso;omega) | skip)|refine bxF 4 ?_|refine alF 5 ?_|refine alF 6 ?_|(refine cE (R:=R) (R':=R) (pre:=jaj p) (post:=[jal eI 1 inp,rI 0]) (pre':=jaj p) (post':=[jal eI 1 inp,rI 0]) hvx rfl (Nat.le_refl _) (Nat.le_refl _) rfl rfl jac rfl (by simp only [go_sem]) ?_;try ((refine S ?_;try exact True.intro)))|(refine cE (R:=R) (R':=R) (pre:=jaj p) (post:=[jal eI 1 inp,rI 0]) (pre':=jaj p) (post':=[jal eI 1 inp,rI 0]) hvy rfl (Nat.le_refl _) (Nat.le_refl _) rfl rfl jac rfl (by simp only [go_sem]) ?_;try ((refine S ?_;try exact True.intro)))|(refine cEq (R:=R) (pre:=jaj p) (post:=[jal eI 1 inp,rI 0]) htc rfl rfl rfl jac rfl (by simp only [go_sem]) ?_;try ((refine S ?_;try exact True.intro)))|(refine cqL (args':=[rSl R.topF.slots,rI (nth p.slots a.toNat),rI 4]) hget (show VToL _ ⟨B,rnE p inp 0 R _⟩ _ _ from ⟨RS.vtoS hkk (fun _=>rfl) rfl,.same _ rfl,.same _ rfl,trivial⟩) rfl (by simp only [go_sem]) ?_;try ((refine S ?_;try exact True.intro)))|(refine jxt (R:=R) (pre:=jaj p) (post:=[jal eI 1 inp,rI 0]) hl7 rfl rfl rfl jac rfl (by simp only [go_sem]) ?_;try ((refine S ?_;try exact True.intro)))|(refine cE (R:=R) (R':=R) (pre:=jaj p) (post:=[jal eI 1 inp,rI 0]) (pre':=jaj p) (post':=[jal eI 1 inp,rI 2]) hask rfl (Nat.le_refl _) (Nat.le_refl _) rfl rfl jac rfl (by simp only [go_sem]) ?_;try ((refine S ?_;try exact True.intro)))|refine wkB ?_|exact True.intro|(clear hK K)));all_goals (try clear W)
   all_goals
    subst hE
    subst hR2
    exact jb8 (R':=R2) (pre':=jaj p) (post':=[jal eI 1 inp,rI 2]) rfl hB [] jac rfl rfl rfl
  ·rw [e1] at hl7
   rw [e2] at c2 hsm
   have hask:=hask _ c2
   refine jaw Tryz.func110 Tryz.ntmps110 ?_
   generalize hB:ids (rnE p inp 0 R [])=B
   generalize hE:rnE p inp 2 R2 []=E
   (refine S ?_;try exact True.intro)
   (have W:=And.intro hx0 (And.intro hy0 (hll));repeat' (first|refine jaa fun K hK=>?_|refine wkA ?_|(with_reducible refine gR 5 ?_);refine dQ 5 mixed ?_|(refine hK _ _ ?_;clear hK K)|(refine jad (fun hc=>?_) (fun hc=>?_)<;>first | contradiction | (exfalso;omega) | skip)|refine bxF 4 ?_|refine alF 5 ?_|refine alF 6 ?_|(refine cE (R:=R) (R':=R) (pre:=jaj p) (post:=[jal eI 1 inp,rI 0]) (pre':=jaj p) (post':=[jal eI 1 inp,rI 0]) hvx rfl (Nat.le_refl _) (Nat.le_refl _) rfl rfl jac rfl (by simp only [go_sem]) ?_;try ((refine S ?_;try exact True.intro)))|(refine cE (R:=R) (R':=R) (pre:=jaj p) (post:=[jal eI 1 inp,rI 0]) (pre':=jaj p) (post':=[jal eI 1 inp,rI 0]) hvy rfl (Nat.le_refl _) (Nat.le_refl _) rfl rfl jac rfl (by simp only [go_sem]) ?_;try ((refine S ?_;try exact True.intro)))|(refine cEq (R:=R) (pre:=jaj p) (post:=[jal eI 1 inp,rI 0]) htc rfl rfl rfl jac rfl (by simp only [go_sem]) ?_;try ((refine S ?_;try exact True.intro)))|(refine cqL (args':=[rSl R.topF.slots,rI (nth p.slots a.toNat),rI 4]) hget (show VToL _ ⟨B,rnE p inp 0 R _⟩ _ _ from ⟨RS.vtoS hkk (fun _=>rfl) rfl,.same _ rfl,.same _ rfl,trivial⟩) rfl (by simp only [go_sem]) ?_;try ((refine S ?_;try exact True.intro)))|(refine jxt (R:=R) (pre:=jaj p) (post:=[jal eI 1 inp,rI 0]) hl7 rfl rfl rfl jac rfl (by simp only [go_sem]) ?_;try ((refine S ?_;try exact True.intro)))|(refine cE (R:=R) (R':=R) (pre:=jaj p) (post:=[jal eI 1 inp,rI 0]) (pre':=jaj p) (post':=[jal eI 1 inp,rI 2]) hask rfl (Nat.le_refl _) (Nat.le_refl _) rfl rfl jac rfl (by simp only [go_sem]) ?_;try ((refine S ?_;try exact True.intro)))|refine wkB ?_|exact True.intro|(clear hK K)));all_goals (try clear W)
   all_goals
    subst hE
    subst hR2
    exact jb8 (R':=R2) (pre':=jaj p) (post':=[jal eI 1 inp,rI 2]) rfl hB [] jac rfl rfl rfl
 rw [if_neg c2]
 rcases hL with ⟨e1,e2⟩ | ⟨cv1,cv2,e1,e2⟩
 ·rw [e2] at c2;exfalso;simp at c2;omega
 rw [e1] at hl7
 rw [e2] at c2 hsm
 have hkv:(V.n - 1).toNat < R.heap.length:=by omega
 have hask:ACalls Tryz.prog 159 [.pt 0 0 0 0,rB (decide (0≤X.1.n) && decide (X.1.n < (nth R.heap (V.n - 1).toNat).length)),rI 2] (rnE p inp 0 R []) (fun r l=>r=rB true∧l=rnE p inp 0 R []):=by
  have e:(decide (0≤X.1.n) && decide (X.1.n < ((nth R.heap (V.n - 1).toNat).length:Int)))=true:=by simp only [Bool.and_eq_true,decide_eq_true_eq];omega
  rw [e]
  exact jhd p inp 0 R true 2
 have hdn1:=hdn (R.lset (V.n - 1).toNat ((nth R.heap (V.n - 1).toNat).set X.1.n.toNat Y.1.n)) (jdV hon rfl rfl rfl)
 have hle:(R.lset (V.n - 1).toNat ((nth R.heap (V.n - 1).toNat).set X.1.n.toNat Y.1.n)).heap.length=R.heap.length:=by simp [RS.lset]
 refine jaw Tryz.func110 Tryz.ntmps110 ?_
 generalize hB:ids (rnE p inp 0 R [])=B
 generalize hE:rnE p inp 0 (R.lset (V.n - 1).toNat ((nth R.heap (V.n - 1).toNat).set X.1.n.toNat Y.1.n)).on []=E
 (refine S ?_;try exact True.intro)
 (have W:=And.intro hx0 (And.intro hy0 (hll));repeat' (first|refine jaa fun K hK=>?_|refine wkA ?_|(with_reducible refine gR 5 ?_);refine dQ 5 mixed ?_|(refine hK _ _ ?_;clear hK K)|(refine jad (fun hc=>?_) (fun hc=>?_)<;>first | contradiction | (exfalso;omega) | skip)|refine bxF 4 ?_|refine alF 5 ?_|refine alF 6 ?_|(refine cE (R:=R) (R':=R) (pre:=jaj p) (post:=[jal eI 1 inp,rI 0]) (pre':=jaj p) (post':=[jal eI 1 inp,rI 0]) hvx rfl (Nat.le_refl _) (Nat.le_refl _) rfl rfl jac rfl (by simp only [go_sem]) ?_;try ((refine S ?_;try exact True.intro)))|(refine cE (R:=R) (R':=R) (pre:=jaj p) (post:=[jal eI 1 inp,rI 0]) (pre':=jaj p) (post':=[jal eI 1 inp,rI 0]) hvy rfl (Nat.le_refl _) (Nat.le_refl _) rfl rfl jac rfl (by simp only [go_sem]) ?_;try ((refine S ?_;try exact True.intro)))|(refine cEq (R:=R) (pre:=jaj p) (post:=[jal eI 1 inp,rI 0]) htc rfl rfl rfl jac rfl (by simp only [go_sem]) ?_;try ((refine S ?_;try exact True.intro)))|(refine cqL (args':=[rSl R.topF.slots,rI (nth p.slots a.toNat),rI 4]) hget (show VToL _ ⟨B,rnE p inp 0 R _⟩ _ _ from ⟨RS.vtoS hkk (fun _=>rfl) rfl,.same _ rfl,.same _ rfl,trivial⟩) rfl (by simp only [go_sem]) ?_;try ((refine S ?_;try exact True.intro)))|(refine jxt (R:=R) (pre:=jaj p) (post:=[jal eI 1 inp,rI 0]) hl7 rfl rfl rfl jac rfl (by simp only [go_sem]) ?_;try ((refine S ?_;try exact True.intro)))|(refine cE (R:=R) (R':=R) (pre:=jaj p) (post:=[jal eI 1 inp,rI 0]) (pre':=jaj p) (post':=[jal eI 1 inp,rI 0]) hask rfl (Nat.le_refl _) (Nat.le_refl _) rfl rfl jac rfl (by simp only [go_sem]) ?_;try ((refine S ?_;try exact True.intro)))|(refine cE (R:=(R.lset (V.n - 1).toNat ((nth R.heap (V.n - 1).toNat).set X.1.n.toNat Y.1.n))) (R':=(R.lset (V.n - 1).toNat ((nth R.heap (V.n - 1).toNat).set X.1.n.toNat Y.1.n)).on) (pre:=jaj p) (post:=[jal eI 1 inp,rI 0]) (pre':=jaj p) (post':=[jal eI 1 inp,rI 0]) hdn1 (congrArg (Hp.mk B) (RS.e_lset (R:=R) (k:=(V.n - 1).toNat) (l:=(nth R.heap (V.n - 1).toNat).set X.1.n.toNat Y.1.n) hkv (by simp) rfl fun j=>rfl)) (Nat.le_of_eq RS.upd_len) (Nat.le_refl _) rfl rfl jac rfl (by simp only [go_sem]) ?_;try ((refine S ?_;try exact True.intro)))|refine wkB ?_|exact True.intro|(clear hK K)));all_goals (try clear W)
 subst hE
 exact jb8 (R':=(R.lset (V.n - 1).toNat ((nth R.heap (V.n - 1).toNat).set X.1.n.toNat Y.1.n)).on) (pre':=jaj p) (post':=[jal eI 1 inp,rI 0]) rfl hB [] jac rfl rfl rfl
end Go.Proofs.YtfkgcobaheegbaaGreatDoor
namespace Go.Gd
open Go
theorem cEA {P:Program} {A:AS} {H:Hp} {f:FuncId} {args:List AV} {g:AV→Hp→Prop} {d:Dep fun r H'=>HLx A H H'∧g r H'} {t:TypeId} {pre post pre' post':List AV} {R:RS} {r0:AV} {B:List Nat} {tl:List (Nat×Row)} (hc:ACalls P f args (R.e t pre post []) fun r l'=>r=r0∧l'=R.e t pre' post' []) (hH:H=⟨B,R.e t pre post tl⟩)
  (hA:A.1.contains 0=true) (hp:jaB noQ pre=true) (hq:jaB noQ post=true) (hl:low tl) (ha:jaB (fun i=>decide (i=0)) args=true) (h0:jab P f=true) (k:g r0 ⟨B,R.e t pre' post' tl⟩):jbm P (.raw (.func (.func f) #[] #[])) args H (AP (fun r H'=>HLx A H H'∧g r H') d):=by
 refine cE (K:=fun r H'=>HLx A H H'∧g r H') hc hH (Nat.le_refl _) (Nat.le_refl _) hp hq hl ha h0 ⟨fun i r hi hr=>?_,k⟩
 subst hH
 by_cases e:i=0
 ·subst e;rw [hA] at hi;cases hi
 ·have h1:jas (R.e t pre post tl) i=some r:=hr
  show jas (R.e t pre' post' tl) i=some r
  rw [← h1]
  unfold RS.e
  simp only [jas,if_neg e]
end Go.Gd
namespace Go.Proofs.YtfkgcobaheegbaaGreatDoor
open Go Go.Gd
set_option maxHeartbeats 4000000
set_option maxRecDepth 10000
theorem jog (h:List (List Int)) (hh:jbh h≤1000000):PCall Tryz.prog 24 [rHp h] (rI (jbh h)):=by
 have hlen:=jaO h
 have hf:∀ k,(h.take k).foldl jfv (h.length:Int)≤jbh h∧0≤(h.take k).foldl jfv (h.length:Int):=fun k=>by
  have e:jbh h=(h.drop k).foldl jfv ((h.take k).foldl jfv (h.length:Int)):=by
   unfold jbh;rw [← List.foldl_append,List.take_append_drop]
  rw [e,ja2 (h.drop k),ja2 (h.take k)]
  have:=jfl (h.drop k);have:=jfl (h.take k);omega
 refine jbA Tryz.func24 Tryz.ntmps24 ?_
 (repeat' (first|refine jaa fun K hK=>?_|refine wkA ?_|(refine hK _ _ ?_;clear hK K)|(refine jad (fun hc=>?_) (fun hc=>?_)<;>first | contradiction | (exfalso;omega) | skip)|refine wkB ?_|exact True.intro|(clear hK K)))
 have hKo:=hK;clear hK
 refine jah (S:=Nat) [(3,1),(5,1),(10,9)] (fun k=>k≤h.length) (fun k=>[(3,rI ((h.take k).foldl jfv (h.length:Int))),(10,rI k)]) (fun k=>⟨[],[]⟩) (fun k=>h.length - k) 0 (by omega) (jaE (by simp only [go_sem]) lle) ?_
 rintro k hk Kr hKr
 have h1:=hf k
 have h2:k < h.length→(h.take k).foldl jfv (h.length:Int)+(nth h k).length≤1000000:=fun hk=>by
  have:=hf (k+1)
  rw [jeH h k hk] at this;omega
 (refine S ?_;try exact True.intro)
 (repeat' (first|refine jaa fun K hK=>?_|refine wkA ?_|(refine hK _ _ ?_;clear hK K)|(refine jad (fun hc=>?_) (fun hc=>?_)<;>first | contradiction | (exfalso;omega) | skip)|(refine hKo _ _ ?_)|refine wkB ?_|exact True.intro|(clear hK K)))
 ·have e:=jeH h k (by omega) (h.length:Int)
  refine hKr _ _ (jau (k+1) (by omega) (by (try simp only);omega) (by simp only [go_sem]) ?_)
  rw [e]
  exact lle
 ·(refine jaN [.tmp 2] ?_;try simp only [go_sem])
  rw [show k=h.length by omega,List.take_length];rfl
theorem jsV {p:GProg} (h:SOk p) (inp:List Int) (R:RS) (hd:Doing p R) (a:Int) (h0:0≤a) (hl:a.toNat < p.tree.nodes.length) (hk:(jak p a).kind=20) :
  ACalls Tryz.prog 155 [.pt 0 0 0 0,rI (nth (jak p a).l 0)] (rnE p inp 0 R []) (fun r l=>r=.tup [rV (R.fresh p a).2.1,rB (decide ((R.fresh p a).2.2=0))]∧l=rnE p inp (R.fresh p a).2.2 (R.fresh p a).1 []):=by
 have hok:=hd.inv.ok
 have hnf:=hok.nf
 have h1:=hd.one
 have hfr:=hd.inv.frs
 have hcl:=jaO R.heap
 have hcc:=hd.cells
 obtain ⟨x,hla,hx⟩:=(h.ok.tree.shape a.toNat hl).1.one (.inr (.inr (.inr (.inr (.inr hk)))))
 have hkid:=(h.ok.tree.shape a.toNat hl).2.1 x (by rw [hla];simp)
 have hx0:nth (nth p.tree.nodes a.toNat).l 0=x:=by rw [hla];rfl
 have hll:(nth p.tree.nodes a.toNat).l.length=1:=by rw [hla];rfl
 have hv:=jee h inp 0 R hok h1 (by omega) (by omega) x hkid.1 (by omega) hx
 have hcel:=jog R.heap (by omega)
 have hdef:R.fresh p a=(let v:=R.val p x;if v.2≠0 then (R,v0,v.2) else if v.1.n < 0∨16 < v.1.n then (R,v0,7) else if 40 < jbh R.heap+v.1.n+1 then (R,v0,4) else (R.grow (List.replicate v.1.n.toNat 0),⟨4,R.heap.length+1,sE⟩,0)):=by
  unfold RS.fresh;rw [show nth (jak p a).l 0=x from hx0];rfl
 rw [hdef,show nth (jak p a).l 0=x from hx0]
 generalize R.val p x=X at hv ⊢
 simp only
 by_cases c0:X.2=0
 rotate_left
 ·rw [if_pos c0]
  have c0':=eq_false c0
  show ACalls _ _ _ _ (fun r l=>r=.tup [rV v0,rB (decide (X.2=0))]∧l=rnE p inp X.2 R [])
  rw [decide_eq_false c0] at hv ⊢
  suffices key2:∀ R2:RS,R2=R→ACalls Tryz.prog 155 [.pt 0 0 0 0,rI x] (rnE p inp 0 R []) (fun r l=>r=.tup [rV v0,rB false]∧l=rnE p inp X.2 R2 []) from key2 R rfl
  intro R2 hR2
  refine jaw Tryz.func155 Tryz.ntmps155 ?_
  generalize hB:ids (rnE p inp 0 R [])=B
  generalize hE:rnE p inp X.2 R2 []=E
  (refine S ?_;try exact True.intro)
  (repeat' (first|refine jaa fun K hK=>?_|refine wkA ?_|(with_reducible refine gR 2 ?_);refine dC 2 ([0],[36],[26,42]) [] [0,1,2,3,4,5,6,7,8,9,10,11,12,13,14,15,16,17,18,19,20,21,22,23,24,25,26,27,28,29,30] mixed ?_|(refine hK _ _ ?_;clear hK K)|(refine jad (fun hc=>?_) (fun hc=>?_)<;>first | contradiction | (exfalso;omega) | skip)|refine alF 4 ?_|refine alF 5 ?_|(refine cE (R:=R) (R':=R) (pre:=jaj p) (post:=[jal eI 1 inp,rI 0]) (pre':=jaj p) (post':=[jal eI 1 inp,rI X.2]) hv rfl (Nat.le_refl _) (Nat.le_refl _) rfl rfl jac rfl (by simp only [go_sem]) ?_;try ((refine S ?_;try exact True.intro)))|(refine cqL (args':=[rHp R.heap]) hcel (show VToL _ ⟨B,rnE p inp 0 R _⟩ _ _ from ⟨RS.vtoH (fun _=>rfl),trivial⟩) rfl (by simp only [go_sem]) ?_;try ((refine S ?_;try exact True.intro)))|(refine ⟨rI 0,?_⟩;try ((refine S ?_;try exact True.intro)))|refine wkB ?_|exact True.intro|(clear hK K)))
  subst hE
  subst hR2
  exact jb8 (R':=R2) (pre':=jaj p) (post':=[jal eI 1 inp,rI X.2]) rfl hB [.cell 4 59,.tmp 5] jac rfl rfl rfl
 rw [if_neg (fun h=>h c0)]
 rw [c0] at hv
 rw [decide_eq_true rfl] at hv
 by_cases c1:X.1.n < 0∨16 < X.1.n
 ·rw [if_pos c1]
  have hask:ACalls Tryz.prog 159 [.pt 0 0 0 0,rB (decide (0≤X.1.n) && decide (X.1.n≤16)),rI 7] (rnE p inp 0 R []) (fun r l=>r=rB false∧l=rnE p inp 7 R []):=by
   have e:(decide (0≤X.1.n) && decide (X.1.n≤16))=false:=by simp;omega
   rw [e]
   exact jhd p inp 0 R false 7
  show ACalls _ _ _ _ (fun r l=>r=.tup [rV v0,rB false]∧l=rnE p inp 7 R [])
  suffices key2:∀ R2:RS,R2=R→ACalls Tryz.prog 155 [.pt 0 0 0 0,rI x] (rnE p inp 0 R []) (fun r l=>r=.tup [rV v0,rB false]∧l=rnE p inp 7 R2 []) from key2 R rfl
  intro R2 hR2
  refine jaw Tryz.func155 Tryz.ntmps155 ?_
  generalize hB:ids (rnE p inp 0 R [])=B
  generalize hE:rnE p inp 7 R2 []=E
  (refine S ?_;try exact True.intro)
  (repeat' (first|refine jaa fun K hK=>?_|refine wkA ?_|(with_reducible refine gR 2 ?_);refine dC 2 ([0],[36],[26,42]) [] [0,1,2,3,4,5,6,7,8,9,10,11,12,13,14,15,16,17,18,19,20,21,22,23,24,25,26,27,28,29,30] mixed ?_|(refine hK _ _ ?_;clear hK K)|(refine jad (fun hc=>?_) (fun hc=>?_)<;>first | contradiction | (exfalso;omega) | skip)|refine alF 4 ?_|refine alF 5 ?_|(refine cE (R:=R) (R':=R) (pre:=jaj p) (post:=[jal eI 1 inp,rI 0]) (pre':=jaj p) (post':=[jal eI 1 inp,rI 0]) hv rfl (Nat.le_refl _) (Nat.le_refl _) rfl rfl jac rfl (by simp only [go_sem]) ?_;try ((refine S ?_;try exact True.intro)))|(refine cqL (args':=[rHp R.heap]) hcel (show VToL _ ⟨B,rnE p inp 0 R _⟩ _ _ from ⟨RS.vtoH (fun _=>rfl),trivial⟩) rfl (by simp only [go_sem]) ?_;try ((refine S ?_;try exact True.intro)))|(refine cEA (R:=R) (pre:=jaj p) (post:=[jal eI 1 inp,rI 0]) (pre':=jaj p) (post':=[jal eI 1 inp,rI 7]) hask rfl rfl rfl rfl jac rfl (by simp only [go_sem]) ?_;try ((refine S ?_;try exact True.intro)))|(refine ⟨rI 0,?_⟩;try ((refine S ?_;try exact True.intro)))|refine wkB ?_|exact True.intro|(clear hK K)))
  subst hE
  subst hR2
  exact jb8 (R':=R2) (pre':=jaj p) (post':=[jal eI 1 inp,rI 7]) rfl hB [.cell 4 59,.tmp 5] jac rfl rfl rfl
 rw [if_neg c1]
 have hask1:ACalls Tryz.prog 159 [.pt 0 0 0 0,rB (decide (0≤X.1.n) && decide (X.1.n≤16)),rI 7] (rnE p inp 0 R []) (fun r l=>r=rB true∧l=rnE p inp 0 R []):=by
  have e:(decide (0≤X.1.n) && decide (X.1.n≤16))=true:=by simp;omega
  rw [e]
  exact jhd p inp 0 R true 7
 have hask2:∀ b,decide (jbh R.heap+X.1.n+1≤40)=b→ACalls Tryz.prog 159 [.pt 0 0 0 0,rB (decide (jbh R.heap+X.1.n+1≤40)),rI 4] (rnE p inp 0 R []) (fun r l=>r=rB b∧l=rnE p inp (if b=true then 0 else 4) R []):=fun b e=>by
  have:=jhd p inp 0 R b 4
  rw [e];exact this
 by_cases c2:40 < jbh R.heap+X.1.n+1
 ·rw [if_pos c2]
  have hask2:=hask2 false (decide_eq_false (by omega))
  rw [if_neg (by decide)] at hask2
  show ACalls _ _ _ _ (fun r l=>r=.tup [rV v0,rB false]∧l=rnE p inp 4 R [])
  suffices key2:∀ R2:RS,R2=R→ACalls Tryz.prog 155 [.pt 0 0 0 0,rI x] (rnE p inp 0 R []) (fun r l=>r=.tup [rV v0,rB false]∧l=rnE p inp 4 R2 []) from key2 R rfl
  intro R2 hR2
  refine jaw Tryz.func155 Tryz.ntmps155 ?_
  generalize hB:ids (rnE p inp 0 R [])=B
  generalize hE:rnE p inp 4 R2 []=E
  (refine S ?_;try exact True.intro)
  (repeat' (first|refine jaa fun K hK=>?_|refine wkA ?_|(with_reducible refine gR 2 ?_);refine dC 2 ([0],[36],[26,42]) [] [0,1,2,3,4,5,6,7,8,9,10,11,12,13,14,15,16,17,18,19,20,21,22,23,24,25,26,27,28,29,30] mixed ?_|(refine hK _ _ ?_;clear hK K)|(refine jad (fun hc=>?_) (fun hc=>?_)<;>first | contradiction | (exfalso;omega) | skip)|refine alF 4 ?_|refine alF 5 ?_|(refine cE (R:=R) (R':=R) (pre:=jaj p) (post:=[jal eI 1 inp,rI 0]) (pre':=jaj p) (post':=[jal eI 1 inp,rI 0]) hv rfl (Nat.le_refl _) (Nat.le_refl _) rfl rfl jac rfl (by simp only [go_sem]) ?_;try ((refine S ?_;try exact True.intro)))|(refine cqL (args':=[rHp R.heap]) hcel (show VToL _ ⟨B,rnE p inp 0 R _⟩ _ _ from ⟨RS.vtoH (fun _=>rfl),trivial⟩) rfl (by simp only [go_sem]) ?_;try ((refine S ?_;try exact True.intro)))|(refine cEA (R:=R) (pre:=jaj p) (post:=[jal eI 1 inp,rI 0]) (pre':=jaj p) (post':=[jal eI 1 inp,rI 0]) hask1 rfl rfl rfl rfl jac rfl (by simp only [go_sem]) ?_;try ((refine S ?_;try exact True.intro)))|(refine cEA (R:=R) (pre:=jaj p) (post:=[jal eI 1 inp,rI 0]) (pre':=jaj p) (post':=[jal eI 1 inp,rI 4]) hask2 rfl rfl rfl rfl jac rfl (by simp only [go_sem]) ?_;try ((refine S ?_;try exact True.intro)))|refine wkB ?_|exact True.intro|(clear hK K)))
  subst hE
  subst hR2
  exact jb8 (R':=R2) (pre':=jaj p) (post':=[jal eI 1 inp,rI 4]) rfl hB [.cell 4 59,.tmp 5] jac rfl rfl rfl
 rw [if_neg c2]
 have hask2:=hask2 true (decide_eq_true (by omega))
 rw [if_pos rfl] at hask2
 obtain ⟨m,hm⟩:∃ m:Nat,X.1.n=(m:Int):=⟨X.1.n.toNat,by omega⟩
 rw [hm] at c1 c2 hask1 hask2 ⊢
 rw [Int.toNat_natCast]
 show ACalls _ _ _ _ (fun r l=>r=.tup [rV ⟨4,R.heap.length+1,sE⟩,rB true]∧l=rnE p inp 0 (R.grow (List.replicate m 0)) [])
 refine jaw Tryz.func155 Tryz.ntmps155 ?_
 generalize hB:ids (rnE p inp 0 R [])=B
 generalize hE:rnE p inp 0 (R.grow (List.replicate m 0)) []=E
 (refine S ?_;try exact True.intro)
 (have W:=hm;repeat' (first|refine jaa fun K hK=>?_|refine wkA ?_|(with_reducible refine gR 2 ?_);refine dC 2 ([0],[36],[26,42]) [] [0,1,2,3,4,5,6,7,8,9,10,11,12,13,14,15,16,17,18,19,20,21,22,23,24,25,26,27,28,29,30] mixed ?_|(with_reducible refine gR 4 ?_);refine dC 4 ([],[],[54,55]) [] [0,1,2,3,4,5,6,7,8,9,10,11,12,13,14] mixed ?_|(refine hK _ _ ?_;clear hK K)|(refine jad (fun hc=>?_) (fun hc=>?_)<;>first | contradiction | (exfalso;omega) | skip)|refine mkN (n:=m) (fid 2 R.heap.length) ?_|refine jwQ 7 ?_|refine alF 4 ?_|refine alF 5 ?_|(refine cE (R:=R) (R':=R) (pre:=jaj p) (post:=[jal eI 1 inp,rI 0]) (pre':=jaj p) (post':=[jal eI 1 inp,rI 0]) hv rfl (Nat.le_refl _) (Nat.le_refl _) rfl rfl jac rfl (by simp only [go_sem]) ?_;try ((refine S ?_;try exact True.intro)))|(refine cqL (args':=[rHp R.heap]) hcel (show VToL _ ⟨B,rnE p inp 0 R _⟩ _ _ from ⟨RS.vtoH (fun _=>rfl),trivial⟩) rfl (by simp only [go_sem]) ?_;try ((refine S ?_;try exact True.intro)))|(refine cEA (R:=R) (pre:=jaj p) (post:=[jal eI 1 inp,rI 0]) (pre':=jaj p) (post':=[jal eI 1 inp,rI 0]) hask1 rfl rfl rfl rfl jac rfl (by simp only [go_sem]) ?_;try ((refine S ?_;try exact True.intro)))|(refine cEA (R:=R) (pre:=jaj p) (post:=[jal eI 1 inp,rI 0]) (pre':=jaj p) (post':=[jal eI 1 inp,rI 0]) hask2 rfl rfl rfl rfl jac rfl (by simp only [go_sem]) ?_;try ((refine S ?_;try exact True.intro)))|refine wkB ?_|exact True.intro|(clear hK K)));all_goals (try clear W)
 subst hE
 refine jsJ (R':=R.grow (List.replicate m 0)) (pre':=jaj p) (post':=[jal eI 1 inp,rI 0]) (tl:=[(4,.var 59 (jag ⟨4,R.heap.length+1,sE⟩)),(5,.var 59 (jag X.1)),(7,.vec 22 1 [[.rs (fid 2 R.heap.length) m 1 m]])]) rfl (RS.perm_grow (r:=.vec 3 1 (List.replicate m [rI 0])) ?_ (fun k hk=>?_) ?_ (fun i=>?_) jac) hB [.cell 4 59,.tmp 5] jac rfl rfl rfl
 ·simp [RS.c,RS.grow,jaj]
 ·by_cases e:k=R.heap.length
  ·subst e;rw [if_pos rfl,jcL];simp
  ·rw [if_neg e,jbb (by omega)]
 ·rw [List.map_replicate];rfl
 ·simp only [jas,List.cons_append,List.nil_append]
  have hge:=jbU 2 R.heap.length
  repeat' split
  all_goals first
   | rfl
   | (exfalso;omega)
end Go.Proofs.YtfkgcobaheegbaaGreatDoor

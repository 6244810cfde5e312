/- What a program means: the program's runner: a function begun. What a program means: the program's runner: calls. What a program means: the program's runner: lets, jjB. No conditions. -/
import Derived.Test.YtfkgcobaheegbaaGreatDoorSr9
import Derived.Test.YtfkgcobaheegbaaGreatDoorGdR
set_option linter.all false
namespace Go.Proofs.YtfkgcobaheegbaaGreatDoor
open Go Go.Gd
set_option maxHeartbeats 4000000
set_option maxRecDepth 10000
section
variable {f:FuncId} {args:List AV} {H:Hp} {r0:AV} {B:List Nat} {tl:List (Nat×Row)} {p:GProg} {inp:List Int} {tr tr':Int} {R R':RS}
theorem rE {K:AV→Hp→Prop} (hc:ACalls Tryz.prog f args (rnE p inp tr R []) fun r l'=>r=r0∧l'=rnE p inp tr' R' []) (hH:H=⟨B,rnE p inp tr R tl⟩) (k:K r0 ⟨B,rnE p inp tr' R' tl⟩) (h1:R.frs.length≤R'.frs.length:=by first | exact Nat.le_refl _ | assumption | fail) (h2:R.heap.length≤R'.heap.length:=by first | exact Nat.le_refl _ | assumption | fail)
  (hl:low tl:=by exact jac) (ha:jaB (fun i=>decide (i=0)) args=true:=by rfl) (h0:jab Tryz.prog f=true:=by (simp only [go_sem];done)):jbm Tryz.prog (.raw (.func (.func f) #[] #[])) args H K:=
 cE (pre:=jaj p) (post:=[jal eI 1 inp,rI tr]) (pre':=jaj p) (post':=[jal eI 1 inp,rI tr']) hc hH h1 h2 rfl rfl hl ha h0 k
theorem rQ {K:AV→Prop} (hc:ACalls Tryz.prog f args (rnE p inp tr R []) fun r l'=>r=r0∧l'=rnE p inp tr R []) (hH:H=⟨B,rnE p inp tr R tl⟩) (k:K r0) (hl:low tl:=by exact jac) (ha:jaB (fun i=>decide (i=0)) args=true:=by rfl) (h0:jab Tryz.prog f=true:=by (simp only [go_sem];done)) :
  ∃ r,(jbm Tryz.prog (.raw (.func (.func f) #[] #[])) args H fun r' H'=>r'=r∧H'=H)∧K r:=cEq (pre:=jaj p) (post:=[jal eI 1 inp,rI tr]) hc hH rfl rfl hl ha h0 k
theorem jlz {fn:Func} {F out:List AV} {e:Exit} (hB:ids (rnE p inp tr R [])=B) (rs:List ResultVar) (hH:H=⟨B,rnE p inp tr' R' tl⟩) (hl:low tl:=by exact jac) (hr:r0.all noQ=true:=by rfl)
  (hrs:fn.results.toList=rs:=by rfl) (he:e=.normal∨e=.ret:=by first | exact Or.inr rfl | exact Or.inl rfl | fail) (ho:jgg Tryz.prog H F rs=some out:=by first | rfl | (simp (disch:=first | omega | fail) only [go_sem,↓reduceIte,Nat.reduceEqDiff,Nat.reduceLeDiff,Nat.reduceSub,Nat.reduceAdd];rfl)) (hok:jbT Tryz.prog H F rs:=by first | exact True.intro | (simp (disch:=first | omega | fail) only [go_sem,↓reduceIte,Nat.reduceEqDiff,Nat.reduceLeDiff,Nat.reduceSub,Nat.reduceAdd])) (hv:jbo out=r0:=by first | rfl | (simp only [go_sem];done)):jhu Tryz.prog fn (fun r l=>r=r0∧l=rnE p inp tr' R' []) e F H:=
 jb8 (pre':=jaj p) (post':=[jal eI 1 inp,rI tr']) hH hB rs hl rfl rfl hr hrs he ho hok hv
end
theorem jsA (args:List GValue) (m:Nat) (h:args.length≤m):jfw (List.replicate m (jag v0)) 0 (args.map jag)=(args++List.replicate (m - args.length) v0).map jag:=by
 unfold jfw
 rw [List.take_zero,List.nil_append,Nat.zero_add,List.length_map,List.drop_replicate,List.map_append,List.map_replicate]
theorem jqZ {p:GProg} (h:SOk p) (inp:List Int) (tr:Int) (R:RS) (hok:R.Ok) (hf:R.nf=R.frs.length) (h8:R.frs.length≤1000) (k:Nat) (hk:k < p.tree.fns.length) (args:List GValue) (ha:args.length=(nth p.tree.fns k).params.length) :
  ACalls Tryz.prog 55 [.pt 0 0 0 0,rI k,jal jag 3 args] (rnE p inp tr R []) (fun r l=>r=.tup []∧l=rnE p inp tr (R.push (jbi p k args)) []):=by
 obtain ⟨f1,f2,f3,f4⟩:=jfI h hk ha
 have hsz:=h.ok.size
 have hbig:=h.ok.tree.fns
 obtain ⟨m,hm⟩:∃ m:Nat,nth p.size k=(m:Int):=⟨(nth p.size k).toNat,by omega⟩
 have hsl:(jbi p k args).slots=args++List.replicate (m - args.length) v0:=by
  show args++List.replicate _ v0=_
  congr 2
  rw [Int.toNat_natCast,hm];omega
 have hml:(jbi p k args).slots.length=m:=by rw [← f2,hm];rfl
 have hle:args.length≤m:=by rw [hsl] at hml;simp at hml;omega
 have hmx:((args.length:Int) > (m:Int))=False:=eq_false (by omega)
 refine jaw Tryz.func55 Tryz.ntmps55 ?_
 generalize hB:ids (rnE p inp tr R [])=B
 generalize hE:rnE p inp tr (R.push (jbi p k args)) []=E
 (refine S ?_;try exact True.intro)
 (have W:=And.intro hm (And.intro hmx (hf));repeat' (first|refine jaa fun K hK=>?_|refine wkA ?_|(with_reducible refine gR 2 ?_);refine dC 2 ([],[],[41,43]) [] [0,1,2,3,4,5,6,7,8,9,10,11,12,13,14,15,16,17,18,19,20,21,22,23,24,25,26] mixed ?_|(refine hK _ _ ?_;clear hK K)|(refine jad (fun hc=>?_) (fun hc=>?_)<;>first | contradiction | (exfalso;omega) | skip)|refine mkF (n:=m) (fid 0 R.frs.length) ?_|refine jur ?_|refine jwQ (fid 1 R.frs.length) ?_|refine jwQ 7 ?_|refine wkB ?_|exact True.intro|(clear hK K)));all_goals (try clear W)
 subst hE
 have hg0:=jbU 0 R.frs.length
 have hg1:=jbU 1 R.frs.length
 have hg2:fid 1 R.frs.length≠fid 0 R.frs.length:=fun e=>by have:=(jcX (by omega) (by omega) e).1;omega
 have hro:jfw (List.replicate m [rI 0,rI 0,rS ⟨#[]⟩]) 0 (List.map jag args)=(jbi p k args).slots.map jag:=by
  rw [hsl];exact jsA args m hle
 refine jsJ (R':=R.push (jbi p k args)) (pre':=jaj p) (post':=[jal eI 1 inp,rI tr]) (tl:=[(7,.vec 57 3 [[.raw (.int .i64 k),.rs (fid 0 R.frs.length) m 3 m,.rs (fid 1 R.frs.length) 1 2 1]])]) rfl (RS.perm_push hok hf ?_ (fun j hj=>?_) (fun j=>?_) jac) hB [] jac rfl rfl rfl
 ·simp [RS.c,RS.push,hf,jaj]
 ·unfold ju9;rw [hml];rfl
 ·simp only [jas,jtM,hro,List.cons_append,List.nil_append]
  repeat' split
  all_goals first
   | rfl
   | (exfalso;omega)
theorem jr9 (n:GNode) (f:GFunc):ACalls Tryz.prog 161 [.agg (jbe f),.pt 4 0 0 0] [(4,.var 53 (jao n))] (fun r l=>r=rB (decide (f.name=n.name))∧l=[(4,.var 53 (jao n))]):=by
 refine jaw Tryz.func161 Tryz.ntmps161 ?_
 (repeat' (first|refine jaa fun K hK=>?_|refine wkA ?_|(refine hK _ _ ?_;clear hK K)|(refine jad (fun hc=>?_) (fun hc=>?_)<;>first | contradiction | (exfalso;omega) | skip)|refine bx 5 ?_|refine wkB ?_|exact True.intro|(clear hK K)))
 (refine jaN [.tmp 3] ?_;try simp only [go_sem])
theorem jp3 (n:GNode) (L:List GFunc) (k:Nat) (hL:L.length≤1000) (hk:k < L.length) (hnm:(nth L k).name=n.name) (hone:∀ i,i < k→(nth L i).name≠n.name) :
  ACalls Tryz.prog 56 [jal jbe 5 L,.clo 161 [.pt 4 0 0 0]] [(4,.var 53 (jao n))] (fun r l=>r=rI k∧l=[(4,.var 53 (jao n))]):=by
 refine jaw Tryz.func56 Tryz.ntmps56 ?_
 (repeat' (first|refine jaa fun K hK=>?_|refine wkA ?_|(refine hK _ _ ?_;clear hK K)|(refine jad (fun hc=>?_) (fun hc=>?_)<;>first | contradiction | (exfalso;omega) | skip)|refine wkB ?_|exact True.intro|(clear hK K)))
 refine jah (S:=Nat) [(4,2),(8,11)] (fun i=>i≤k) (fun i=>[(8,rI i)]) (fun i=>⟨[4],[(4,.var 53 (jao n))]⟩) (fun i=>k - i) 0 (by omega) (jaE rfl lle) ?_
 rintro i hi Kr hKr
 have hfc:=jr9 n (nth L i)
 by_cases e:i=k
 ·subst e
  rw [decide_eq_true hnm] at hfc
  (refine S ?_;try exact True.intro)
  (repeat' (first|refine jaa fun K hK=>?_|refine wkA ?_|(refine hK _ _ ?_;clear hK K)|(refine jad (fun hc=>?_) (fun hc=>?_)<;>first | contradiction | (exfalso;omega) | skip)|refine cl hfc ?_|refine wkB ?_|exact True.intro|(clear hK K)))
  (refine jaN [.tmp 4] ?_;try simp only [go_sem])
 ·rw [decide_eq_false (hone i (by omega))] at hfc
  (refine S ?_;try exact True.intro)
  (repeat' (first|refine jaa fun K hK=>?_|refine wkA ?_|(refine hK _ _ ?_;clear hK K)|(refine jad (fun hc=>?_) (fun hc=>?_)<;>first | contradiction | (exfalso;omega) | skip)|refine cl hfc ?_|refine wkB ?_|exact True.intro|(clear hK K)))
  refine hKr _ _ (jau (i+1) (by omega) (by (try simp only);omega) rfl lle)
theorem jqX {p:GProg} (h:SOk p) (inp:List Int) (R:RS) (hd:Doing p R) (a:Int) (h0:0≤a) (hl:a.toNat < p.tree.nodes.length) (hk:(jak p a).kind=21) (R':RS) (tr:Int) (hR':(R',tr)=R.call p a) :
  ACalls Tryz.prog 115 [.pt 0 0 0 0,.agg (jao (jak p a))] (rnE p inp 0 R []) (fun r l=>r=.tup []∧l=rnE p inp tr R' []):=by
 have hok:=hd.inv.ok
 have hnf:=hok.nf
 have h1:=hd.one
 have hfr:=hd.inv.frs
 have hcl:=jaO R.heap
 have hcc:=hd.cells
 have hfull:=hd.full
 obtain ⟨k,hcal⟩:=callee h hl hk
 have hshape:=(h.ok.tree.shape a.toNat hl)
 have hkids:=hshape.1.call hk
 have hlt:=hshape.2.1
 have hfew:(nth p.tree.nodes a.toNat).l.length≤3:=hcal.few
 have hv:∀ j,j < (nth p.tree.nodes a.toNat).l.length→ACalls Tryz.prog 156 [.pt 0 0 0 0,rI (nth (nth p.tree.nodes a.toNat).l j)] (rnE p inp 0 R []) (fun r l=>r=.tup [rV (R.val p (nth (nth p.tree.nodes a.toNat).l j)).1,rB (decide ((R.val p (nth (nth p.tree.nodes a.toNat).l j)).2=0))]∧l=rnE p inp (R.val p (nth (nth p.tree.nodes a.toNat).l j)).2 R []):=fun j hj=>by
  have hm:=jaP hj
  have hb:=hlt _ hm
  exact jee h inp 0 R hok h1 (by omega) (by omega) _ hb.1 (by omega) (hkids _ hm)
 unfold RS.call at hR'
 simp only [hcal.at_] at hR'
 unfold jak at *
 generalize hN:nth p.tree.nodes a.toNat=N at *
 generalize hL:N.l=L at *
 refine jaw Tryz.func115 Tryz.ntmps115 ?_
 generalize hB:ids (rnE p inp 0 R [])=B
 generalize hE:rnE p inp tr R' []=E
 (refine S ?_;try exact True.intro)
 (have W:=hL;repeat' (first|refine jaa fun K hK=>?_|refine wkA ?_|(refine hK _ _ ?_;clear hK K)|(refine jad (fun hc=>?_) (fun hc=>?_)<;>first | contradiction | (exfalso;omega) | skip)|refine bxF 4 ?_|refine wkB ?_|exact True.intro|(clear hK K)));all_goals (try clear W)
 refine jaU (FLe.nil 5 4 59 (sz:=3) (by show jas (rnE p inp 0 R _) 5=_;rw [RS.getL 5 (by omega) (by omega)];rfl) (by decide) (Or.inl rfl)) ?_
 (refine S ?_;try exact True.intro)
 have hKo:=hK;clear hK
 have hta:∀ k,k≤L.length→((L.take k).map fun x=>(R.val p x).1).length=k:=fun k hk=>by simp;omega
 refine jah (S:=Nat) [(4,1),(6,3),(13,17)] (fun k=>k≤L.length∧∀ j,j < k→(R.val p (nth L j)).2=0) (fun k=>[(4,.rs 5 k 3 k),(13,rI k)])
  (fun k=>⟨B,rnE p inp 0 R [(4,.var 53 (jao N)),(5,.vec 59 3 (((L.take k).map fun x=>(R.val p x).1).map jag))]⟩)
  (fun k=>L.length - k) 0 ⟨by omega,fun j hj=>by omega⟩ (jaE rfl lle) ?_
 rintro q ⟨hq,hq0⟩ Kr hKr
 have hlen:=hta q hq
 have hat:=jl7 (p:=p) R L [] q hq hq0
 rw [List.nil_append] at hat
 by_cases hqL:q < L.length
 ·have hvq:=hv q hqL
  have hdrop:L.drop q=nth L q::L.drop (q+1):=by rw [jbl hqL];exact List.drop_eq_getElem_cons hqL
  rw [hdrop,jkR] at hat
  generalize hX:R.val p (nth L q)=X at *
  by_cases hx0:X.2=0
  ·rw [hx0,decide_eq_true rfl] at hvq
   (refine S ?_;try exact True.intro)
   (have W:=And.intro hL (hlen);repeat' (first|refine jaa fun K hK=>?_|refine wkA ?_|(refine hK _ _ ?_;clear hK K)|(refine jad (fun hc=>?_) (fun hc=>?_)<;>first | contradiction | (exfalso;omega) | skip)|refine alF 6 ?_|(refine rE hvq rfl ?_;try ((refine S ?_;try exact True.intro)))|refine wkB ?_|exact True.intro|(clear hK K)));all_goals (try clear W)
   have e6:((L.take (q+1)).map fun x=>(R.val p x).1).map jag=List.map jag (List.map (fun x=>(R.val p x).1) (L.take q))++[jag X.1]:=by
    rw [jgc hqL];simp [hX]
   refine hKr _ _ (jsu (R0:=R) (R':=R) (pre:=jaj p) (post:=[jal eI 1 inp,rI 0]) (pre':=jaj p) (post':=[jal eI 1 inp,rI 0]) (q+1) [(4,.var 53 (jao N)),(5,.vec 59 3 (List.map jag (List.map (fun x=>(R.val p x).1) (L.take q))++[jag X.1]))] 6 (.var 59 (jag X.1)) ⟨by omega,fun j hj=>?_⟩ (by show L.length - (q+1) < L.length - q;omega) rfl hB ?_ (by omega) rfl rfl rfl (fun i r hi=>?_) (by simp [ids]))
   ·by_cases e:j < q
    ·exact hq0 j e
    ·rw [show j=q by omega,hX];exact hx0
   ·show Hp.mk B (R.e _ _ _ [_,(5,Row.vec _ _ _)])=_
    rw [e6]
   ·simp only [jas] at hi
    repeat' split at hi
    all_goals first
     | (cases hi;exact jdb _ _)
     | (cases hi;exact jdr (jir (jb7 _) (jqJ (by simp [go_sem]) (jn2 _))))
     | cases hi
  ·rw [if_pos hx0] at hat
   rw [hat] at hR'
   simp only at hR'
   rw [if_pos hx0] at hR'
   obtain ⟨rfl,rfl⟩:=Prod.mk.inj hR'
   rw [decide_eq_false hx0] at hvq
   (refine S ?_;try exact True.intro)
   (have W:=And.intro hL (hlen);repeat' (first|refine jaa fun K hK=>?_|refine wkA ?_|(refine hK _ _ ?_;clear hK K)|(refine jad (fun hc=>?_) (fun hc=>?_)<;>first | contradiction | (exfalso;omega) | skip)|refine alF 6 ?_|(refine rE hvq rfl ?_;try ((refine S ?_;try exact True.intro)))|refine wkB ?_|exact True.intro|(clear hK K)));all_goals (try clear W)
   subst hE
   exact jlz hB [] rfl
 ·have hqe:q=L.length:=by omega
  subst hqe
  rw [List.drop_length,List.take_length,jnc] at hat
  rw [List.take_length] at hlen
  rw [hat] at hR'
  simp only at hR'
  rw [if_neg (fun h=>h rfl)] at hR'
  generalize hA:L.map (fun x=>(R.val p x).1)=args at *
  have hix:=jp3 N p.tree.fns k (by have:=h.ok.tree.fns;omega) hcal.lt (by have:=hcal.name;unfold jak at this;rw [hN] at this;exact this) (fun i hi=>by
   have:=h.names.one i k hi hcal.lt
   have e:=hcal.name
   unfold jak at e
   rw [hN] at e
   rwa [e] at this)
  rw [List.take_length,hA]
  by_cases h8:8≤R.nf
  ·rw [if_pos h8] at hR'
   obtain ⟨rfl,rfl⟩:=Prod.mk.inj hR'
   have hask:ACalls Tryz.prog 159 [.pt 0 0 0 0,rB (decide ((R'.nf:Int) < 8)),rI 3] (rnE p inp 0 R' []) (fun r l=>r=rB false∧l=rnE p inp 3 R' []):=by
    rw [decide_eq_false (by omega)]
    exact jhd p inp 0 R' false 3
   (refine S ?_;try exact True.intro)
   (have W:=And.intro hL (hlen);repeat' (first|refine jaa fun K hK=>?_|refine wkA ?_|(refine hK _ _ ?_;clear hK K)|(refine jad (fun hc=>?_) (fun hc=>?_)<;>first | contradiction | (exfalso;omega) | skip)|refine cm (hix) ?_|(refine rE hask rfl ?_;try ((refine S ?_;try exact True.intro)))|(refine hKo _ _ ?_)|refine wkB ?_|exact True.intro|(clear hK K)));all_goals (try clear W)
   subst hE
   exact jlz hB [] rfl
  ·rw [if_neg h8] at hR'
   obtain ⟨rfl,rfl⟩:=Prod.mk.inj hR'
   have hAl:L.length=args.length:=by rw [← hA];simp
   have hargs:args.length=(nth p.tree.fns k).params.length:=by
    have:=hcal.args
    unfold jak at this
    rw [hN,hL] at this
    rw [← hAl];exact this
   have hask:ACalls Tryz.prog 159 [.pt 0 0 0 0,rB (decide ((R.nf:Int) < 8)),rI 3] (rnE p inp 0 R []) (fun r l=>r=rB true∧l=rnE p inp 0 R []):=by
    rw [decide_eq_true (by omega)]
    exact jhd p inp 0 R true 3
   have hpu:=jqZ h inp 0 R hok hfull (by omega) k hcal.lt args hargs
   have hl1:R.frs.length≤(R.push (jbi p k args)).frs.length:=by simp [RS.push]
   have hl2:R.heap.length≤(R.push (jbi p k args)).heap.length:=Nat.le_refl _
   generalize R.push (jbi p k args)=Z at *
   have hrow:VTo (fun i=>[5].contains i) ⟨B,rnE p inp 0 R [(4,.var 53 (jao N)),(5,.vec 59 3 (args.map jag))]⟩ (.rs 5 L.length 3 L.length) (jal jag 3 args):=
    VTo.row args rfl (by show jas (R.e _ _ _ _) 5=_;rw [RS.getL 5 (by omega) (by omega)];rfl) hAl
   (refine S ?_;try exact True.intro)
   refine jyH (R:=R) (R':=R) (t:=95) (pre:=jaj p) (post:=[jal eI 1 inp,rI 0]) (t':=95) (pre':=jaj p) (post':=[jal eI 1 inp,rI 0]) [5] [(4,jal jag 3 args)] [(4,.var 53 (jao N)),(5,.vec 59 3 (args.map jag))] rfl rfl rfl hB rfl rfl ?_ ?_ ?_
   ·exact ⟨.inr (jdb _ _),.inl rfl,trivial⟩
   ·simp only [jjB,List.foldl_cons,List.foldl_nil,List.set_cons_zero,List.set_cons_succ,VToL]
    repeat' (first | exact True.intro | exact jm3 _ | exact hrow | exact .same _ rfl | exact .drop _ | refine And.intro ?_ ?_)
   (refine S ?_;try exact True.intro)
   (have W:=And.intro hL (hlen);repeat' (first|refine jaa fun K hK=>?_|refine wkA ?_|(refine hK _ _ ?_;clear hK K)|(refine jad (fun hc=>?_) (fun hc=>?_)<;>first | contradiction | (exfalso;omega) | skip)|refine cm (hix) ?_|(refine rE hask rfl ?_;try ((refine S ?_;try exact True.intro)))|(refine rE hpu rfl ?_;try ((refine S ?_;try exact True.intro)))|(refine hKo _ _ ?_)|refine wkB ?_|exact True.intro|(clear hK K)));all_goals (try clear W)
   subst hE
   exact jlz hB [] rfl
theorem jvy {p:GProg} (h:SOk p) (inp:List Int) (hn:inp.length≤1000) (R:RS) (hd:Doing p R) (hls:jfn p (atV p R.st)) (hw:¬ jbR p R.st (atV p R.st) inp) (R':RS) (tr:Int) (hR':(R',tr)=R.right p (atV p R.st) inp) :
  ACalls Tryz.prog 109 [.pt 0 0 0 0,.agg (jao (jak p (atV p R.st))),rI (atV p R.st)] (rnE p inp 0 R []) (fun r l=>r=.tup []∧l=rnE p inp tr R' []):=by
 have hok:=hd.inv.ok
 have hnf:=hok.nf
 have h1:=hd.one
 have hfr:=hd.inv.frs
 have hcl:=jaO R.heap
 have hcc:=hd.cells
 have hin0:=hd.in0
 have hin1:=hd.in1
 have hst:=hd.stAt h
 obtain ⟨s0,s1,s2,s3,s4,s5⟩:=hd.stmt h
 have hsl:=hst.sl
 have hs0:=hst.s0 hls
 rw [hd.topE] at hs0
 have hon:=hd.onOk h
 unfold jbR at hw
 generalize ha:atV p R.st=a at *
 obtain ⟨x,hla,hxr⟩:=(h.ok.tree.shape a.toNat s1).1.right hls
 have hkx:=(h.ok.tree.shape a.toNat s1).2.1 x (by rw [hla];simp)
 have hx0:nth (nth p.tree.nodes a.toNat).l 0=x:=by rw [hla];rfl
 have hx1:nth (jak p a).l 0=x:=hx0
 have hll:(nth p.tree.nodes a.toNat).l.length=1:=by rw [hla];rfl
 have hxn:x.toNat < p.tree.nodes.length:=by omega
 have hdo:∀ (R1:RS) (v:GValue),R1.frs=R.frs→R1.nf=R.nf→R1.jp=R.jp→ACalls Tryz.prog 153 [.pt 0 0 0 0,rI a,.agg (jag v)] (rnE p inp 0 R1 []) (fun r l=>r=.tup []∧l=rnE p inp 0 (R1.store p a v) []):=fun R1 v e1 e2 e3=>by
  have:=jgJ p inp 0 a v R1 (jdV hon e1 e2 e3) s0 s1 hsl (fun _=>by rw [e1,e2];exact hs0)
  rw [if_pos hls] at this
  exact this
 have hnc:=jgK p inp 0 R x hkx.1 hxn
 unfold RS.right at hR'
 simp only [hx1] at hR'
 have hkind:(jak p x).kind=(nth p.tree.nodes x.toNat).kind:=rfl
 rw [hx1,hkind] at hw
 rw [hkind] at hR'
 by_cases k21:(nth p.tree.nodes x.toNat).kind=21
 ·rw [if_pos k21] at hR'
  have hca:=jqX h inp R hd x hkx.1 hxn k21 R' tr hR'
  have hle:=jfD R p x
  rw [← hR'] at hle
  obtain ⟨hl1,hl2⟩:=hle
  clear hR' hdo
  unfold jak at *
  refine jaw Tryz.func109 Tryz.ntmps109 ?_
  generalize hB:ids (rnE p inp 0 R [])=B
  generalize hE:rnE p inp tr R' []=E
  (refine S ?_;try exact True.intro)
  (have W:=And.intro hx0 (And.intro hll (k21));repeat' (first|refine jaa fun K hK=>?_|refine wkA ?_|(refine hK _ _ ?_;clear hK K)|(refine jad (fun hc=>?_) (fun hc=>?_)<;>first | contradiction | (exfalso;omega) | skip)|refine bxF 4 ?_|refine alF 5 ?_|refine alF 6 ?_|(refine rE hnc rfl ?_;try ((refine S ?_;try exact True.intro)))|(refine rE hca rfl ?_;try ((refine S ?_;try exact True.intro)))|refine wkB ?_|exact True.intro|(clear hK K)));all_goals (try clear W)
  subst hE
  exact jlz hB [] rfl
 rw [if_neg k21] at hR'
 by_cases k19:(nth p.tree.nodes x.toNat).kind=19
 ·rw [if_pos k19] at hR'
  obtain ⟨rfl,rfl⟩:=Prod.mk.inj hR'
  have hin:R.in_.toNat < inp.length:=by
   have:¬ ((inp.length:Int)≤R.in_):=fun hle=>hw ⟨hls,k19,hle⟩
   omega
  have hd1:=hdo { R with in_:=R.in_+1 } (vI (nth inp R.in_.toNat)) rfl rfl rfl
  have hl1:R.frs.length≤(({ R with in_:=R.in_+1 }:RS).store p a (vI (nth inp R.in_.toNat))).frs.length:=by simp [RS.store,RS.setS,RS.on,RS.upd]
  have hl2:R.heap.length≤(({ R with in_:=R.in_+1 }:RS).store p a (vI (nth inp R.in_.toNat))).heap.length:=Nat.le_refl _
  have hvi:=joL (nth inp R.in_.toNat)
  generalize ({ R with in_:=R.in_+1 }:RS).store p a (vI (nth inp R.in_.toNat))=Z at *
  unfold jak at *
  refine jaw Tryz.func109 Tryz.ntmps109 ?_
  generalize hB:ids (rnE p inp 0 R [])=B
  generalize hE:rnE p inp 0 Z []=E
  (refine S ?_;try exact True.intro)
  (have W:=And.intro hx0 (And.intro hll (k19));repeat' (first|refine jaa fun K hK=>?_|refine wkA ?_|(with_reducible refine gR 9 ?_);refine dE 9 [0,1,2,3,4,5,6,7,8,9,10,11,12] mixed ?_|(refine hK _ _ ?_;clear hK K)|(refine jad (fun hc=>?_) (fun hc=>?_)<;>first | contradiction | (exfalso;omega) | skip)|refine bxF 4 ?_|refine alF 5 ?_|refine alF 6 ?_|(refine rE hnc rfl ?_;try ((refine S ?_;try exact True.intro)))|refine cp (hvi) ?_|(refine rE (R:={ R with in_:=R.in_+1 }) hd1 rfl ?_;try ((refine S ?_;try exact True.intro)))|refine wkB ?_|exact True.intro|(clear hK K)));all_goals (try clear W)
  subst hE
  exact jlz hB [] rfl
 rw [if_neg k19] at hR'
 by_cases k20:(nth p.tree.nodes x.toNat).kind=20
 ·rw [if_pos k20] at hR'
  have hfc:=jsV h inp R hd x hkx.1 hxn k20
  have hff:=jh4 R p x
  have hw0:nth (jak p x).l 0=nth (nth p.tree.nodes x.toNat).l 0:=rfl
  obtain ⟨y,hly,_⟩:=(h.ok.tree.shape x.toNat hxn).1.one (.inr (.inr (.inr (.inr (.inr k20)))))
  have hlly:(nth p.tree.nodes x.toNat).l.length=1:=by rw [hly];rfl
  rw [hw0] at hfc
  have hd1:=hdo (R.fresh p x).1 (R.fresh p x).2.1 hff.1 hff.2.1 hff.2.2.1
  have hlf:R.frs.length≤(R.fresh p x).1.frs.length:=by rw [hff.1];exact Nat.le_refl _
  have hlh:=hff.2.2.2
  have hl1:(R.fresh p x).1.frs.length≤((R.fresh p x).1.store p a (R.fresh p x).2.1).frs.length:=by simp [RS.store,RS.setS,RS.on,RS.upd]
  have hl2:(R.fresh p x).1.heap.length≤((R.fresh p x).1.store p a (R.fresh p x).2.1).heap.length:=Nat.le_refl _
  clear hff
  generalize (R.fresh p x).1.store p a (R.fresh p x).2.1=Z at *
  generalize R.fresh p x=F at *
  obtain ⟨F1,F2,F3⟩:=F
  simp only at *
  by_cases hz:F3=0
  ·rw [if_pos hz] at hR'
   obtain ⟨rfl,rfl⟩:=Prod.mk.inj hR'
   rw [hz,decide_eq_true rfl] at hfc
   unfold jak at *
   refine jaw Tryz.func109 Tryz.ntmps109 ?_
   generalize hB:ids (rnE p inp 0 R [])=B
   generalize hE:rnE p inp 0 R' []=E
   (refine S ?_;try exact True.intro)
   (have W:=And.intro hx0 (And.intro hll (And.intro k20 (hlly)));repeat' (first|refine jaa fun K hK=>?_|refine wkA ?_|(refine hK _ _ ?_;clear hK K)|(refine jad (fun hc=>?_) (fun hc=>?_)<;>first | contradiction | (exfalso;omega) | skip)|refine bxF 4 ?_|refine alF 5 ?_|refine alF 6 ?_|(refine rE hnc rfl ?_;try ((refine S ?_;try exact True.intro)))|(refine rE (R':=F1) hfc rfl ?_;try ((refine S ?_;try exact True.intro)))|(refine rE (R:=F1) hd1 rfl ?_;try ((refine S ?_;try exact True.intro)))|refine wkB ?_|exact True.intro|(clear hK K)));all_goals (try clear W)
   subst hE
   exact jlz hB [] rfl
  ·rw [if_neg hz] at hR'
   obtain ⟨rfl,rfl⟩:=Prod.mk.inj hR'
   rw [decide_eq_false hz] at hfc
   unfold jak at *
   refine jaw Tryz.func109 Tryz.ntmps109 ?_
   generalize hB:ids (rnE p inp 0 R [])=B
   generalize hE:rnE p inp tr R' []=E
   (refine S ?_;try exact True.intro)
   (have W:=And.intro hx0 (And.intro hll (And.intro k20 (hlly)));repeat' (first|refine jaa fun K hK=>?_|refine wkA ?_|(refine hK _ _ ?_;clear hK K)|(refine jad (fun hc=>?_) (fun hc=>?_)<;>first | contradiction | (exfalso;omega) | skip)|refine bxF 4 ?_|refine alF 5 ?_|refine alF 6 ?_|(refine rE hnc rfl ?_;try ((refine S ?_;try exact True.intro)))|(refine rE hfc rfl ?_;try ((refine S ?_;try exact True.intro)))|refine wkB ?_|exact True.intro|(clear hK K)));all_goals (try clear W)
   subst hE
   exact jlz hB [] rfl
 rw [if_neg k20] at hR'
 have hxE:isE (jan p.tree.nodes x):=by
  rcases hxr with e | e
  ·exact e
  ·unfold jan at e;omega
 have hvx:=jee h inp 0 R hok h1 (by omega) (by omega) x hkx.1 hxn hxE
 have hd1:=hdo R (R.val p x).1 rfl rfl rfl
 have hl1:R.frs.length≤(R.store p a (R.val p x).1).frs.length:=by simp [RS.store,RS.setS,RS.on,RS.upd]
 have hl2:R.heap.length≤(R.store p a (R.val p x).1).heap.length:=Nat.le_refl _
 generalize R.store p a (R.val p x).1=Z at *
 generalize R.val p x=X at *
 by_cases hz:X.2=0
 ·rw [if_pos hz] at hR'
  obtain ⟨rfl,rfl⟩:=Prod.mk.inj hR'
  rw [hz,decide_eq_true rfl] at hvx
  have e21:=eq_false k21
  have e19:=eq_false k19
  have e20:=eq_false k20
  unfold jak at *
  refine jaw Tryz.func109 Tryz.ntmps109 ?_
  generalize hB:ids (rnE p inp 0 R [])=B
  generalize hE:rnE p inp 0 R' []=E
  (refine S ?_;try exact True.intro)
  (have W:=And.intro hx0 (And.intro hll (And.intro e21 (And.intro e19 (e20))));repeat' (first|refine jaa fun K hK=>?_|refine wkA ?_|(refine hK _ _ ?_;clear hK K)|(refine jad (fun hc=>?_) (fun hc=>?_)<;>first | contradiction | (exfalso;omega) | skip)|refine bxF 4 ?_|refine alF 5 ?_|refine alF 6 ?_|(refine rE hnc rfl ?_;try ((refine S ?_;try exact True.intro)))|(refine rE hvx rfl ?_;try ((refine S ?_;try exact True.intro)))|(refine rE hd1 rfl ?_;try ((refine S ?_;try exact True.intro)))|refine wkB ?_|exact True.intro|(clear hK K)));all_goals (try clear W)
  subst hE
  exact jlz hB [] rfl
 ·rw [if_neg hz] at hR'
  obtain ⟨rfl,rfl⟩:=Prod.mk.inj hR'
  rw [decide_eq_false hz] at hvx
  have e21:=eq_false k21
  have e19:=eq_false k19
  have e20:=eq_false k20
  unfold jak at *
  suffices key2:∀ R2:RS,R2=R'→ACalls Tryz.prog 109 [.pt 0 0 0 0,.agg (jao (nth p.tree.nodes a.toNat)),rI a] (rnE p inp 0 R' []) (fun r l=>r=.tup []∧l=rnE p inp X.2 R2 []) from key2 R' rfl
  intro R2 hR2
  refine jaw Tryz.func109 Tryz.ntmps109 ?_
  generalize hB:ids (rnE p inp 0 R' [])=B
  generalize hE:rnE p inp X.2 R2 []=E
  (refine S ?_;try exact True.intro)
  (have W:=And.intro hx0 (And.intro hll (And.intro e21 (And.intro e19 (e20))));repeat' (first|refine jaa fun K hK=>?_|refine wkA ?_|(refine hK _ _ ?_;clear hK K)|(refine jad (fun hc=>?_) (fun hc=>?_)<;>first | contradiction | (exfalso;omega) | skip)|refine bxF 4 ?_|refine alF 5 ?_|refine alF 6 ?_|(refine rE hnc rfl ?_;try ((refine S ?_;try exact True.intro)))|(refine rE hvx rfl ?_;try ((refine S ?_;try exact True.intro)))|refine wkB ?_|exact True.intro|(clear hK K)));all_goals (try clear W)
  subst hE
  subst hR2
  exact jlz hB [] rfl
end Go.Proofs.YtfkgcobaheegbaaGreatDoor

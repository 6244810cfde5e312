/- What a program means: the program's runner: a statement. What a program means: the program's states that share nothing. What a program means: the statement that is next, and whether it waits. No conditions. -/
import Derived.Test.YtfkgcobaheegbaaGreatDoorSrC
import Derived.Test.YtfkgcobaheegbaaGreatDoorGdTm
set_option linter.all false
namespace Go.Gd
open Go
def ju4:Nat→Bool:=fun i=>lowQ i && !(i == 4)
theorem jkf {i:Nat} (h:lowQ i=false):ju4 i=false:=by unfold ju4;rw [h];rfl
theorem j1j {P:Program} {fn:Func} {F:List AV} {H:Hp} {out:List AV} {e:Exit} {r0:AV} {t t':TypeId} {pre post pre' post':List AV} {R R':RS} {x x':Row} {tl:List (Nat×Row)} {B:List Nat} (hH:H=⟨B,R'.e t' pre' post' ((4,x')::tl)⟩) (hB:ids (R.e t pre post [(4,x)])=B) (rs:List ResultVar) (hl:low tl) (h4:(ids tl).all (fun i=>!(i == 4))=true) (hp:jaB noQ pre'=true) (hq:jaB noQ post'=true) (hx:jaB (jcB ju4) x'.cells=true) (hr:r0.all noQ=true)
  (hrs:fn.results.toList=rs:=by rfl) (he:e=.normal∨e=.ret:=by first | exact Or.inr rfl | exact Or.inl rfl | fail) (ho:jgg P H F rs=some out:=by first | rfl | (simp (disch:=first | omega | fail) only [go_sem,↓reduceIte,Nat.reduceEqDiff,Nat.reduceLeDiff,Nat.reduceSub,Nat.reduceAdd];rfl)) (hok:jbT P H F rs:=by first | exact True.intro | (simp (disch:=first | omega | fail) only [go_sem,↓reduceIte,Nat.reduceEqDiff,Nat.reduceLeDiff,Nat.reduceSub,Nat.reduceAdd])) (hv:jbo out=r0:=by first | rfl | (simp only [go_sem];done)):jhu P fn (fun r l=>r=r0∧l=R'.e t' pre' post' [(4,x')]) e F H:=by
 subst hrs hH
 have htl:∀ i∈ids tl,ju4 i=true:=fun i hi=>by
  obtain ⟨r,hr⟩:=Option.ne_none_iff_exists'.1 ((jbY _ _).1 hi)
  have h1:lowQ i=true:=decide_eq_true (hl i r hr)
  unfold ju4
  rw [h1,Bool.true_and]
  exact List.all_eq_true.1 h4 i hi
 refine jfZ ju4 he ho hok ?_ ?_ (jiP hv (jds (fun _ h=>by cases h) _ (hv ▸ hr))) ?_
 ·rw [List.all_eq_true]
  intro i hi
  rw [← hB,RS.e_app] at hi
  unfold jcB
  rcases List.mem_append.1 (by simpa [ids] using hi:i∈ids (R.e t pre post [])++[4]) with hi | hi
  ·rw [jkf (RS.lowQ hi)];rfl
  ·rw [List.mem_singleton.1 hi];rfl
 ·rw [RS.e_app]
  refine jeW _ _ _ (jd0 _ _ RS.nodup fun i r hi=>jbg (fun j hj=>?_) _ (RS.closed hp hq i r hi)) ⟨.inr (jmP hx),jhI _ _ htl⟩
  unfold jcB
  rw [jkf (RS.lowQ (List.contains_iff_mem.1 hj))];rfl
 ·rw [RS.e_app,jdQ,jcG _ _ (fun i hi=>jkf (RS.lowQ hi)),RS.e_app (tl:=[(4,x')])]
  show _++(4,x')::ja9 ju4 tl=_
  rw [jfP _ _ htl]
theorem j5l {P:Program} {f:FuncId} {args:List AV} {H:Hp} {K:AV→Hp→Prop} {t:TypeId} {pre post pre' post':List AV} {R R':RS} {x x':Row} {r0:AV} {B:List Nat} {tl:List (Nat×Row)} (hc:ACalls P f (args++[.pt 4 0 0 0]) (R.e t pre post [(4,x)]) fun r l'=>r=r0∧l'=R'.e t pre' post' [(4,x')]) (hH:H=⟨B,R.e t pre post ((4,x)::tl)⟩)
  (h1:R.frs.length≤R'.frs.length) (h2:R.heap.length≤R'.heap.length) (hp:jaB noQ pre=true) (hq:jaB noQ post=true) (hx:jaB (fun i=>decide (i=0)) x.cells=true) (hl:low tl) (h4:(ids tl).all (fun i=>!(i == 4))=true) (ha:jaB (fun i=>decide (i=0)) args=true) (h0:jab P f=true) (k:K r0 ⟨B,R'.e t pre' post' ((4,x')::tl)⟩):jbm P (.clo f [.pt 4 0 0 0]) args H K:=by
 subst hH
 have hn4:∀ {R:RS} {pre post},jas (R.e t pre post []) 4=none:=fun {R pre post}=>RS.no 4 (by omega) (by omega)
 have ly:∀ {R:RS} {pre post:List AV} {x:Row},Lays (fun tl=>R.e t pre post ((4,x)::tl)) tl:=fun {R pre post x}=>⟨fun i=>by
  rw [RS.e_app,RS.e_app (tl:=[(4,x)]),jbB,jbB,Option.or_assoc]
  congr 1
  simp only [jas]
  split<;>rfl,fun i r hi=>by
  have:=hl i r hi
  have h5:i≠4:=fun e=>by
   have:=List.all_eq_true.1 h4 i ((jbY _ _).2 (by rw [hi];simp))
   subst e;simp at this
  rw [RS.e_app (tl:=[(4,x)]),jbB,RS.no i this.1 this.2]
  simp only [jas,if_neg h5,Option.or_none]⟩
 have up:∀ {R:RS} {pre post:List AV} {x:Row} {i:Nat},(ids (R.e t pre post [])).contains i=true→(ids (R.e t pre post [(4,x)])).contains i=true:=fun {R pre post x i} h=>by
  rw [RS.e_app,show ids (R.e t pre post []++[(4,x)])=ids (R.e t pre post [])++[4] by simp [ids]]
  rw [List.contains_iff_mem] at h ⊢
  exact List.mem_append_left _ h
 have i0:∀ {R:RS} {pre post:List AV} {x:Row} (i:Nat),decide (i=0)=true→(ids (R.e t pre post [(4,x)])).contains i=true:=fun {R pre post x} i h=>by
  have:i=0:=of_decide_eq_true h
  subst this
  exact up (jdu RS.get0)
 refine jlY h0 (jeL (E:=fun tl=>R.e t pre post ((4,x)::tl)) (E':=fun tl=>R'.e t pre' post' ((4,x')::tl)) hc ly ly ?_ ?_ (fun i r hi=>?_) k fun i hi=>?_)
 ·show (ids (R'.e t pre' post' [(4,x')])).Nodup
  rw [RS.e_app,show ids (R'.e t pre' post' []++[(4,x')])=ids (R'.e t pre' post' [])++[4] by simp [ids],List.nodup_append]
  refine ⟨RS.nodup,by simp,fun i hi j hj e=>?_⟩
  rw [List.mem_singleton.1 hj] at e
  subst e
  exact (jbY _ _).1 hi hn4
 ·show jaB (fun i=>(ids (R.e t pre post [(4,x)])).contains i) (args++[.pt 4 0 0 0])=true
  rw [jfz,jbg i0 _ ha]
  show (List.contains _ 4 && true)=true
  rw [Bool.and_true]
  refine jdu (r:=x) ?_
  rw [RS.e_app,jbB,hn4];rfl
 ·have hi:jas (R.e t pre post [(4,x)]) i=some r:=hi
  rw [RS.e_app,jbB] at hi
  cases e:jas (R.e t pre post []) i with
  | some y=>
   rw [e] at hi
   cases hi
   exact jbg (fun _ h=>up h) _ (RS.closed hp hq i r e)
  | none=>
   rw [e,Option.none_or] at hi
   simp only [jas] at hi
   split at hi
   ·cases hi;exact jbg i0 _ hx
   ·cases hi
 ·have hi:jas (R.e t pre post [(4,x)]) i≠none:=hi
  show jas (R'.e t pre' post' [(4,x')]) i≠none
  rw [RS.e_app,jbB] at hi ⊢
  by_cases e:i=4
  ·subst e;rw [hn4];simp [jas]
  ·intro e2
   have:=RS.size (t:=t) (pre:=pre) (post:=post) (pre':=pre') (post':=post') h1 h2 i (fun e3=>hi (by rw [e3];simp [jas,e]))
   cases e3:jas (R'.e t pre' post' []) i with
   | none=>exact this e3
   | some y=>rw [e3] at e2;cases e2
end Go.Gd
namespace Go.Proofs.YtfkgcobaheegbaaGreatDoor
open Go Go.Gd
set_option maxHeartbeats 4000000
set_option maxRecDepth 10000
section
variable {f:FuncId} {args:List AV} {H:Hp} {r0:AV} {B:List Nat} {tl:List (Nat×Row)} {p:GProg} {inp:List Int} {tr tr':Int} {R R':RS}
theorem rMv {K:AV→Hp→Prop} (hc:ACalls Tryz.prog f (.pt 0 0 0 0::args) (rnE p inp tr R []) fun r l'=>r=r0∧l'=rnE p inp tr' R' []) (hH:H=⟨B,rnE p inp tr R tl⟩) (k:K r0 ⟨B,rnE p inp tr' R' tl⟩) (h1:R.frs.length≤R'.frs.length:=by first | exact Nat.le_refl _ | assumption | fail) (h2:R.heap.length≤R'.heap.length:=by first | exact Nat.le_refl _ | assumption | fail)
  (hl:low tl:=by exact jac) (ha:jaB (fun i=>decide (i=0)) args=true:=by rfl) (h0:jab Tryz.prog f=true:=by (simp only [go_sem];done)):jbm Tryz.prog (.bd f [.pt 0 0 0 0]) args H K:=by
 have:=rE (args:=.pt 0 0 0 0::args) hc hH k h1 h2 hl (by show (true && _)=true;rw [ha];rfl) h0
 unfold jbm at this ⊢
 simp only [jzi,List.append_nil,Array.toList,List.map_nil,List.nil_append] at this ⊢
 exact this
abbrev jrv:Row:=.var 93 [.pt 0 0 0 0]
theorem rC {K:AV→Hp→Prop} (hc:ACalls Tryz.prog f (args++[.pt 4 0 0 0]) (rnE p inp tr R [(4,jrv)]) fun r l'=>r=r0∧l'=rnE p inp tr' R' [(4,jrv)]) (hH:H=⟨B,rnE p inp tr R ((4,jrv)::tl)⟩) (k:K r0 ⟨B,rnE p inp tr' R' ((4,jrv)::tl)⟩) (h1:R.frs.length≤R'.frs.length:=by first | exact Nat.le_refl _ | assumption | fail) (h2:R.heap.length≤R'.heap.length:=by first | exact Nat.le_refl _ | assumption | fail)
  (hl:low tl:=by exact jac) (h4:(ids tl).all (fun i=>!(i == 4))=true:=by rfl) (ha:jaB (fun i=>decide (i=0)) args=true:=by rfl) (h0:jab Tryz.prog f=true:=by (simp only [go_sem];done)):jbm Tryz.prog (.clo f [.pt 4 0 0 0]) args H K:=
 j5l (pre:=jaj p) (post:=[jal eI 1 inp,rI tr]) (pre':=jaj p) (post':=[jal eI 1 inp,rI tr']) hc hH h1 h2 rfl rfl rfl hl h4 ha h0 k
end
theorem j0z {p:GProg} (h:SOk p) (inp:List Int) (R:RS) (hd:Doing p R) (a:Int) (b:Int) (hl:a.toNat < p.tree.nodes.length) (hk:(jak p a).kind=13) (R':RS) (tr:Int) (hR':(R',tr)=R.call p (nth (jak p a).l 0)) :
  ACalls Tryz.prog 114 [.agg (jao (jak p a)),rI b,.pt 4 0 0 0] (rnE p inp 0 R [(4,jrv)]) (fun r l=>r=.tup []∧l=rnE p inp tr R' [(4,jrv)]):=by
 obtain ⟨x,hla,hx⟩:=(h.ok.tree.shape a.toNat hl).1.do_ hk
 have hkx:=(h.ok.tree.shape a.toNat hl).2.1 x (by rw [hla];simp)
 have hla:(jak p a).l=[x]:=hla
 have hx0:nth (jak p a).l 0=x:=by rw [hla];rfl
 have hll:(jak p a).l.length=1:=by rw [hla];rfl
 rw [hx0] at hR'
 have hnc:=jgK p inp 0 R x hkx.1 (by omega)
 have hca:=jqX h inp R hd x hkx.1 (by omega) hx R' tr hR'
 have hle:=jfD R p x
 rw [← hR'] at hle
 obtain ⟨hl1,hl2⟩:=hle
 clear hR'
 generalize jak p x=X at *
 generalize jak p a=N at *
 refine jaw Tryz.func114 Tryz.ntmps114 ?_
 generalize hB:ids (rnE p inp 0 R [(4,jrv)])=B
 generalize hE:rnE p inp tr R' [(4,jrv)]=E
 (refine S ?_;try exact True.intro)
 (have W:=And.intro hx0 (hll);repeat' (first|refine jaa fun K hK=>?_|refine wkA ?_|(with_reducible refine gR 1 ?_);refine dC 1 ([],[11],[]) [] [0,1,2,3,4,5,6,7] mixed ?_|(refine hK _ _ ?_;clear hK K)|(refine jad (fun hc=>?_) (fun hc=>?_)<;>first | contradiction | (exfalso;omega) | skip)|refine bxF 5 ?_|(refine rQ hnc rfl ?_;try ((refine S ?_;try exact True.intro)))|(refine rE hca rfl ?_;try ((refine S ?_;try exact True.intro)))|refine wkB ?_|exact True.intro|(clear hK K)));all_goals (try clear W)
 subst hE
 exact j1j (R':=R') (x:=jrv) (x':=jrv) (pre':=jaj p) (post':=[jal eI 1 inp,rI tr]) rfl hB [] jac rfl rfl rfl rfl rfl
theorem jsq {v:GValue} (h:v.ty=2) (hm:jl1 v=true):v.n=0∨v.n=1:=by
 unfold jl1 at hm
 rw [h] at hm
 simp at hm
 omega
theorem jnh {p:GProg} (h:SOk p) (R:RS) {a:Int} (hl:a.toNat < p.tree.nodes.length) (hk:(jak p a).kind=15∨(jak p a).kind=16) (x:Int) (hx:(R.val p x).2=0) (e:x=nth (jak p a).l 0):(R.val p x).1.n=0∨(R.val p x).1.n=1:=by
 have hsh:=h.ok.tree.shape a.toNat hl
 have hty:=(h.ok.ty a.toNat (by omega) hl).cond hk
 have hxx:0≤x∧x.toNat < p.tree.nodes.length∧isE (jan p.tree.nodes x):=by
  rcases hk with hk | hk
  ·obtain ⟨y,z,hy,hz,hla⟩:=hsh.1.if_ hk
   have hyx:y=x:=by rw [e];unfold jak;rcases hla with hla | ⟨d,hla,_⟩<;>(rw [hla];rfl)
   subst hyx
   have:=hsh.2.1 y (by rcases hla with hla | ⟨d,hla,_⟩<;>(rw [hla];simp))
   exact ⟨this.1,by omega,hy⟩
  ·obtain ⟨y,z,hla,hy,hz⟩:=hsh.1.while_ hk
   have hyx:y=x:=by rw [e];unfold jak;rw [hla];rfl
   subst hyx
   have:=hsh.2.1 y (by rw [hla];simp)
   exact ⟨this.1,by omega,hy⟩
 have ht:=jgN (jyN h R hxx.1 hxx.2.1 hxx.2.2) hx
 have e2:nth p.types x.toNat=2:=by rw [e];exact hty
 exact jsq (by rw [ht.1,e2]) ht.2
theorem jr2 (R:RS) (p:GProg) (a:Int) (inp:List Int):R.frs.length≤(R.does p a inp).1.frs.length∧R.heap.length≤(R.does p a inp).1.heap.length:=⟨(jfJ R p a inp).frs,(jfJ R p a inp).heap⟩
theorem jvu {p:GProg} (h:SOk p) (inp:List Int) (hn:inp.length≤1000) (R:RS) (hd:Doing p R) (hw:¬ jbR p R.st (atV p R.st) inp) (hrg:∀ x:Int,0≤x→x.toNat < p.tree.nodes.length→isE (jan p.tree.nodes x)→rng (R.val p x).1.n) (R':RS) (tr:Int) (hR':(R',tr)=R.does p (atV p R.st) inp) :
  ACalls Tryz.prog 66 [.pt 0 0 0 0,rI (atV p R.st)] (rnE p inp 0 R []) (fun r l=>r=.tup []∧l=rnE p inp tr R' []):=by
 obtain ⟨s0,s1,s2,_⟩:=hd.stmt h
 have s2:10≤(jak p (atV p R.st)).kind∧(jak p (atV p R.st)).kind≤17:=s2
 have hnc:=jgK p inp 0 R (atV p R.st) s0 s1
 have hle:R.frs.length≤R'.frs.length∧R.heap.length≤R'.heap.length:=by
  have:=jr2 R p (atV p R.st) inp
  rw [← hR'] at this;exact this
 obtain ⟨hl1,hl2⟩:=hle
 by_cases k1:(jak p (atV p R.st)).kind=10∨(jak p (atV p R.st)).kind=11
 ·have hcon:=jvy h inp hn R hd k1 hw R' tr (by rw [hR'];unfold RS.does;simp only;rw [if_pos k1])
  clear hR' hd hw hrg
  generalize atV p R.st=a at *
  unfold jak at *
  rcases k1 with hk' | hk'
  ·refine jaw Tryz.func66 Tryz.ntmps66 ?_
   generalize hB:ids (rnE p inp 0 R [])=B
   generalize hE:rnE p inp tr R' []=E
   (refine S ?_;try exact True.intro)
   (have W:=hk';repeat' (first|refine jaa fun K hK=>?_|refine wkA ?_|(refine hK _ _ ?_;clear hK K)|(refine jad (fun hc=>?_) (fun hc=>?_)<;>first | contradiction | (exfalso;omega) | skip)|refine bxF 4 ?_|refine alF 5 ?_|refine mkM 6 ?_|refine jci (vs:=[]) [] jat ?_|refine jci (vs:=[.bd 109 [.pt 0 0 0 0]]) [10] jat ?_|refine jci (vs:=[.bd 109 [.pt 0 0 0 0],.bd 109 [.pt 0 0 0 0]]) [10,11] jat ?_|refine jci (vs:=[.bd 109 [.pt 0 0 0 0],.bd 109 [.pt 0 0 0 0],.bd 110 [.pt 0 0 0 0]]) [10,11,12] jat ?_|refine jci (vs:=[.bd 109 [.pt 0 0 0 0],.bd 109 [.pt 0 0 0 0],.bd 110 [.pt 0 0 0 0],.bd 111 [.pt 0 0 0 0]]) [10,11,12,14] jat ?_|refine jci (vs:=[.bd 109 [.pt 0 0 0 0],.bd 109 [.pt 0 0 0 0],.bd 110 [.pt 0 0 0 0],.bd 111 [.pt 0 0 0 0],.bd 112 [.pt 0 0 0 0]]) [10,11,12,14,15] jat ?_|refine jci (vs:=[.bd 109 [.pt 0 0 0 0],.bd 109 [.pt 0 0 0 0],.bd 110 [.pt 0 0 0 0],.bd 111 [.pt 0 0 0 0],.bd 112 [.pt 0 0 0 0],.bd 112 [.pt 0 0 0 0]]) [10,11,12,14,15,16] jat ?_|refine jci (vs:=[.bd 109 [.pt 0 0 0 0],.bd 109 [.pt 0 0 0 0],.bd 110 [.pt 0 0 0 0],.bd 111 [.pt 0 0 0 0],.bd 112 [.pt 0 0 0 0],.bd 112 [.pt 0 0 0 0],.bd 113 [.pt 0 0 0 0]]) [10,11,12,14,15,16,17] jat ?_|(refine jtC (c:=false) (n:=10) (vs:=[.bd 109 [.pt 0 0 0 0],.bd 109 [.pt 0 0 0 0],.bd 110 [.pt 0 0 0 0],.bd 111 [.pt 0 0 0 0],.bd 112 [.pt 0 0 0 0],.bd 112 [.pt 0 0 0 0],.bd 113 [.pt 0 0 0 0],.clo 114 [.pt 4 0 0 0]]) [10,11,12,14,15,16,17,13] .nilFunc (.bd 109 [.pt 0 0 0 0]) jat (by kernel_rfl) rfl ?_)|(refine rE hnc rfl ?_;try ((refine S ?_;try exact True.intro)))|(refine rMv hcon rfl ?_;try ((refine S ?_;try exact True.intro)))|refine wkB ?_|exact True.intro|(clear hK K)));all_goals (try clear W)
   subst hE
   exact jlz hB [] rfl
  ·refine jaw Tryz.func66 Tryz.ntmps66 ?_
   generalize hB:ids (rnE p inp 0 R [])=B
   generalize hE:rnE p inp tr R' []=E
   (refine S ?_;try exact True.intro)
   (have W:=hk';repeat' (first|refine jaa fun K hK=>?_|refine wkA ?_|(refine hK _ _ ?_;clear hK K)|(refine jad (fun hc=>?_) (fun hc=>?_)<;>first | contradiction | (exfalso;omega) | skip)|refine bxF 4 ?_|refine alF 5 ?_|refine mkM 6 ?_|refine jci (vs:=[]) [] jat ?_|refine jci (vs:=[.bd 109 [.pt 0 0 0 0]]) [10] jat ?_|refine jci (vs:=[.bd 109 [.pt 0 0 0 0],.bd 109 [.pt 0 0 0 0]]) [10,11] jat ?_|refine jci (vs:=[.bd 109 [.pt 0 0 0 0],.bd 109 [.pt 0 0 0 0],.bd 110 [.pt 0 0 0 0]]) [10,11,12] jat ?_|refine jci (vs:=[.bd 109 [.pt 0 0 0 0],.bd 109 [.pt 0 0 0 0],.bd 110 [.pt 0 0 0 0],.bd 111 [.pt 0 0 0 0]]) [10,11,12,14] jat ?_|refine jci (vs:=[.bd 109 [.pt 0 0 0 0],.bd 109 [.pt 0 0 0 0],.bd 110 [.pt 0 0 0 0],.bd 111 [.pt 0 0 0 0],.bd 112 [.pt 0 0 0 0]]) [10,11,12,14,15] jat ?_|refine jci (vs:=[.bd 109 [.pt 0 0 0 0],.bd 109 [.pt 0 0 0 0],.bd 110 [.pt 0 0 0 0],.bd 111 [.pt 0 0 0 0],.bd 112 [.pt 0 0 0 0],.bd 112 [.pt 0 0 0 0]]) [10,11,12,14,15,16] jat ?_|refine jci (vs:=[.bd 109 [.pt 0 0 0 0],.bd 109 [.pt 0 0 0 0],.bd 110 [.pt 0 0 0 0],.bd 111 [.pt 0 0 0 0],.bd 112 [.pt 0 0 0 0],.bd 112 [.pt 0 0 0 0],.bd 113 [.pt 0 0 0 0]]) [10,11,12,14,15,16,17] jat ?_|(refine jtC (c:=false) (n:=11) (vs:=[.bd 109 [.pt 0 0 0 0],.bd 109 [.pt 0 0 0 0],.bd 110 [.pt 0 0 0 0],.bd 111 [.pt 0 0 0 0],.bd 112 [.pt 0 0 0 0],.bd 112 [.pt 0 0 0 0],.bd 113 [.pt 0 0 0 0],.clo 114 [.pt 4 0 0 0]]) [10,11,12,14,15,16,17,13] .nilFunc (.bd 109 [.pt 0 0 0 0]) jat (by kernel_rfl) rfl ?_)|(refine rE hnc rfl ?_;try ((refine S ?_;try exact True.intro)))|(refine rMv hcon rfl ?_;try ((refine S ?_;try exact True.intro)))|refine wkB ?_|exact True.intro|(clear hK K)));all_goals (try clear W)
   subst hE
   exact jlz hB [] rfl
 by_cases k13:(jak p (atV p R.st)).kind=13
 ·have hcon:=j0z h inp R hd (atV p R.st) (atV p R.st) s1 k13 R' tr (by rw [hR'];unfold RS.does;simp only;rw [if_neg k1,if_pos k13])
  clear hR' hd hw hrg
  generalize atV p R.st=a at *
  unfold jak at *
  have hk':(nth p.tree.nodes a.toNat).kind=13:=by assumption
  refine jaw Tryz.func66 Tryz.ntmps66 ?_
  generalize hB:ids (rnE p inp 0 R [])=B
  generalize hE:rnE p inp tr R' []=E
  (refine S ?_;try exact True.intro)
  (have W:=hk';repeat' (first|refine jaa fun K hK=>?_|refine wkA ?_|(refine hK _ _ ?_;clear hK K)|(refine jad (fun hc=>?_) (fun hc=>?_)<;>first | contradiction | (exfalso;omega) | skip)|refine bxF 4 ?_|refine alF 5 ?_|refine mkM 6 ?_|refine jci (vs:=[]) [] jat ?_|refine jci (vs:=[.bd 109 [.pt 0 0 0 0]]) [10] jat ?_|refine jci (vs:=[.bd 109 [.pt 0 0 0 0],.bd 109 [.pt 0 0 0 0]]) [10,11] jat ?_|refine jci (vs:=[.bd 109 [.pt 0 0 0 0],.bd 109 [.pt 0 0 0 0],.bd 110 [.pt 0 0 0 0]]) [10,11,12] jat ?_|refine jci (vs:=[.bd 109 [.pt 0 0 0 0],.bd 109 [.pt 0 0 0 0],.bd 110 [.pt 0 0 0 0],.bd 111 [.pt 0 0 0 0]]) [10,11,12,14] jat ?_|refine jci (vs:=[.bd 109 [.pt 0 0 0 0],.bd 109 [.pt 0 0 0 0],.bd 110 [.pt 0 0 0 0],.bd 111 [.pt 0 0 0 0],.bd 112 [.pt 0 0 0 0]]) [10,11,12,14,15] jat ?_|refine jci (vs:=[.bd 109 [.pt 0 0 0 0],.bd 109 [.pt 0 0 0 0],.bd 110 [.pt 0 0 0 0],.bd 111 [.pt 0 0 0 0],.bd 112 [.pt 0 0 0 0],.bd 112 [.pt 0 0 0 0]]) [10,11,12,14,15,16] jat ?_|refine jci (vs:=[.bd 109 [.pt 0 0 0 0],.bd 109 [.pt 0 0 0 0],.bd 110 [.pt 0 0 0 0],.bd 111 [.pt 0 0 0 0],.bd 112 [.pt 0 0 0 0],.bd 112 [.pt 0 0 0 0],.bd 113 [.pt 0 0 0 0]]) [10,11,12,14,15,16,17] jat ?_|(refine jtC (c:=false) (n:=13) (vs:=[.bd 109 [.pt 0 0 0 0],.bd 109 [.pt 0 0 0 0],.bd 110 [.pt 0 0 0 0],.bd 111 [.pt 0 0 0 0],.bd 112 [.pt 0 0 0 0],.bd 112 [.pt 0 0 0 0],.bd 113 [.pt 0 0 0 0],.clo 114 [.pt 4 0 0 0]]) [10,11,12,14,15,16,17,13] .nilFunc (.clo 114 [.pt 4 0 0 0]) jat (by kernel_rfl) rfl ?_)|(refine rE hnc rfl ?_;try ((refine S ?_;try exact True.intro)))|(refine rC hcon rfl ?_;try ((refine S ?_;try exact True.intro)))|refine wkB ?_|exact True.intro|(clear hK K)));all_goals (try clear W)
  subst hE
  exact jlz hB [] rfl
 by_cases k12:(jak p (atV p R.st)).kind=12
 ·have hcon:=jvx h inp R hd k12
  rw [show R.put p (atV p R.st)=(R',tr) by rw [hR'];unfold RS.does;simp only;rw [if_neg k1,if_neg k13,if_pos k12]] at hcon
  simp only at hcon
  clear hR' hd hw hrg
  generalize atV p R.st=a at *
  unfold jak at *
  have hk':(nth p.tree.nodes a.toNat).kind=12:=by assumption
  refine jaw Tryz.func66 Tryz.ntmps66 ?_
  generalize hB:ids (rnE p inp 0 R [])=B
  generalize hE:rnE p inp tr R' []=E
  (refine S ?_;try exact True.intro)
  (have W:=hk';repeat' (first|refine jaa fun K hK=>?_|refine wkA ?_|(refine hK _ _ ?_;clear hK K)|(refine jad (fun hc=>?_) (fun hc=>?_)<;>first | contradiction | (exfalso;omega) | skip)|refine bxF 4 ?_|refine alF 5 ?_|refine mkM 6 ?_|refine jci (vs:=[]) [] jat ?_|refine jci (vs:=[.bd 109 [.pt 0 0 0 0]]) [10] jat ?_|refine jci (vs:=[.bd 109 [.pt 0 0 0 0],.bd 109 [.pt 0 0 0 0]]) [10,11] jat ?_|refine jci (vs:=[.bd 109 [.pt 0 0 0 0],.bd 109 [.pt 0 0 0 0],.bd 110 [.pt 0 0 0 0]]) [10,11,12] jat ?_|refine jci (vs:=[.bd 109 [.pt 0 0 0 0],.bd 109 [.pt 0 0 0 0],.bd 110 [.pt 0 0 0 0],.bd 111 [.pt 0 0 0 0]]) [10,11,12,14] jat ?_|refine jci (vs:=[.bd 109 [.pt 0 0 0 0],.bd 109 [.pt 0 0 0 0],.bd 110 [.pt 0 0 0 0],.bd 111 [.pt 0 0 0 0],.bd 112 [.pt 0 0 0 0]]) [10,11,12,14,15] jat ?_|refine jci (vs:=[.bd 109 [.pt 0 0 0 0],.bd 109 [.pt 0 0 0 0],.bd 110 [.pt 0 0 0 0],.bd 111 [.pt 0 0 0 0],.bd 112 [.pt 0 0 0 0],.bd 112 [.pt 0 0 0 0]]) [10,11,12,14,15,16] jat ?_|refine jci (vs:=[.bd 109 [.pt 0 0 0 0],.bd 109 [.pt 0 0 0 0],.bd 110 [.pt 0 0 0 0],.bd 111 [.pt 0 0 0 0],.bd 112 [.pt 0 0 0 0],.bd 112 [.pt 0 0 0 0],.bd 113 [.pt 0 0 0 0]]) [10,11,12,14,15,16,17] jat ?_|(refine jtC (c:=false) (n:=12) (vs:=[.bd 109 [.pt 0 0 0 0],.bd 109 [.pt 0 0 0 0],.bd 110 [.pt 0 0 0 0],.bd 111 [.pt 0 0 0 0],.bd 112 [.pt 0 0 0 0],.bd 112 [.pt 0 0 0 0],.bd 113 [.pt 0 0 0 0],.clo 114 [.pt 4 0 0 0]]) [10,11,12,14,15,16,17,13] .nilFunc (.bd 110 [.pt 0 0 0 0]) jat (by kernel_rfl) rfl ?_)|(refine rE hnc rfl ?_;try ((refine S ?_;try exact True.intro)))|(refine rMv hcon rfl ?_;try ((refine S ?_;try exact True.intro)))|refine wkB ?_|exact True.intro|(clear hK K)));all_goals (try clear W)
  subst hE
  exact jlz hB [] rfl
 by_cases k17:(jak p (atV p R.st)).kind=17
 ·have hcon:=jo5 h inp R hd k17 R' tr hR'
  clear hR' hd hw hrg
  generalize atV p R.st=a at *
  unfold jak at *
  have hk':(nth p.tree.nodes a.toNat).kind=17:=by assumption
  refine jaw Tryz.func66 Tryz.ntmps66 ?_
  generalize hB:ids (rnE p inp 0 R [])=B
  generalize hE:rnE p inp tr R' []=E
  (refine S ?_;try exact True.intro)
  (have W:=hk';repeat' (first|refine jaa fun K hK=>?_|refine wkA ?_|(refine hK _ _ ?_;clear hK K)|(refine jad (fun hc=>?_) (fun hc=>?_)<;>first | contradiction | (exfalso;omega) | skip)|refine bxF 4 ?_|refine alF 5 ?_|refine mkM 6 ?_|refine jci (vs:=[]) [] jat ?_|refine jci (vs:=[.bd 109 [.pt 0 0 0 0]]) [10] jat ?_|refine jci (vs:=[.bd 109 [.pt 0 0 0 0],.bd 109 [.pt 0 0 0 0]]) [10,11] jat ?_|refine jci (vs:=[.bd 109 [.pt 0 0 0 0],.bd 109 [.pt 0 0 0 0],.bd 110 [.pt 0 0 0 0]]) [10,11,12] jat ?_|refine jci (vs:=[.bd 109 [.pt 0 0 0 0],.bd 109 [.pt 0 0 0 0],.bd 110 [.pt 0 0 0 0],.bd 111 [.pt 0 0 0 0]]) [10,11,12,14] jat ?_|refine jci (vs:=[.bd 109 [.pt 0 0 0 0],.bd 109 [.pt 0 0 0 0],.bd 110 [.pt 0 0 0 0],.bd 111 [.pt 0 0 0 0],.bd 112 [.pt 0 0 0 0]]) [10,11,12,14,15] jat ?_|refine jci (vs:=[.bd 109 [.pt 0 0 0 0],.bd 109 [.pt 0 0 0 0],.bd 110 [.pt 0 0 0 0],.bd 111 [.pt 0 0 0 0],.bd 112 [.pt 0 0 0 0],.bd 112 [.pt 0 0 0 0]]) [10,11,12,14,15,16] jat ?_|refine jci (vs:=[.bd 109 [.pt 0 0 0 0],.bd 109 [.pt 0 0 0 0],.bd 110 [.pt 0 0 0 0],.bd 111 [.pt 0 0 0 0],.bd 112 [.pt 0 0 0 0],.bd 112 [.pt 0 0 0 0],.bd 113 [.pt 0 0 0 0]]) [10,11,12,14,15,16,17] jat ?_|(refine jtC (c:=false) (n:=17) (vs:=[.bd 109 [.pt 0 0 0 0],.bd 109 [.pt 0 0 0 0],.bd 110 [.pt 0 0 0 0],.bd 111 [.pt 0 0 0 0],.bd 112 [.pt 0 0 0 0],.bd 112 [.pt 0 0 0 0],.bd 113 [.pt 0 0 0 0],.clo 114 [.pt 4 0 0 0]]) [10,11,12,14,15,16,17,13] .nilFunc (.bd 113 [.pt 0 0 0 0]) jat (by kernel_rfl) rfl ?_)|(refine rE hnc rfl ?_;try ((refine S ?_;try exact True.intro)))|(refine rMv hcon rfl ?_;try ((refine S ?_;try exact True.intro)))|refine wkB ?_|exact True.intro|(clear hK K)));all_goals (try clear W)
  subst hE
  exact jlz hB [] rfl
 by_cases k14:(jak p (atV p R.st)).kind=14
 ·have hcon:=jqY h inp R hd k14 hrg R' tr hR'
  clear hR' hd hw hrg
  generalize atV p R.st=a at *
  unfold jak at *
  have hk':(nth p.tree.nodes a.toNat).kind=14:=by assumption
  refine jaw Tryz.func66 Tryz.ntmps66 ?_
  generalize hB:ids (rnE p inp 0 R [])=B
  generalize hE:rnE p inp tr R' []=E
  (refine S ?_;try exact True.intro)
  (have W:=hk';repeat' (first|refine jaa fun K hK=>?_|refine wkA ?_|(refine hK _ _ ?_;clear hK K)|(refine jad (fun hc=>?_) (fun hc=>?_)<;>first | contradiction | (exfalso;omega) | skip)|refine bxF 4 ?_|refine alF 5 ?_|refine mkM 6 ?_|refine jci (vs:=[]) [] jat ?_|refine jci (vs:=[.bd 109 [.pt 0 0 0 0]]) [10] jat ?_|refine jci (vs:=[.bd 109 [.pt 0 0 0 0],.bd 109 [.pt 0 0 0 0]]) [10,11] jat ?_|refine jci (vs:=[.bd 109 [.pt 0 0 0 0],.bd 109 [.pt 0 0 0 0],.bd 110 [.pt 0 0 0 0]]) [10,11,12] jat ?_|refine jci (vs:=[.bd 109 [.pt 0 0 0 0],.bd 109 [.pt 0 0 0 0],.bd 110 [.pt 0 0 0 0],.bd 111 [.pt 0 0 0 0]]) [10,11,12,14] jat ?_|refine jci (vs:=[.bd 109 [.pt 0 0 0 0],.bd 109 [.pt 0 0 0 0],.bd 110 [.pt 0 0 0 0],.bd 111 [.pt 0 0 0 0],.bd 112 [.pt 0 0 0 0]]) [10,11,12,14,15] jat ?_|refine jci (vs:=[.bd 109 [.pt 0 0 0 0],.bd 109 [.pt 0 0 0 0],.bd 110 [.pt 0 0 0 0],.bd 111 [.pt 0 0 0 0],.bd 112 [.pt 0 0 0 0],.bd 112 [.pt 0 0 0 0]]) [10,11,12,14,15,16] jat ?_|refine jci (vs:=[.bd 109 [.pt 0 0 0 0],.bd 109 [.pt 0 0 0 0],.bd 110 [.pt 0 0 0 0],.bd 111 [.pt 0 0 0 0],.bd 112 [.pt 0 0 0 0],.bd 112 [.pt 0 0 0 0],.bd 113 [.pt 0 0 0 0]]) [10,11,12,14,15,16,17] jat ?_|(refine jtC (c:=false) (n:=14) (vs:=[.bd 109 [.pt 0 0 0 0],.bd 109 [.pt 0 0 0 0],.bd 110 [.pt 0 0 0 0],.bd 111 [.pt 0 0 0 0],.bd 112 [.pt 0 0 0 0],.bd 112 [.pt 0 0 0 0],.bd 113 [.pt 0 0 0 0],.clo 114 [.pt 4 0 0 0]]) [10,11,12,14,15,16,17,13] .nilFunc (.bd 111 [.pt 0 0 0 0]) jat (by kernel_rfl) rfl ?_)|(refine rE hnc rfl ?_;try ((refine S ?_;try exact True.intro)))|(refine rMv hcon rfl ?_;try ((refine S ?_;try exact True.intro)))|refine wkB ?_|exact True.intro|(clear hK K)));all_goals (try clear W)
  subst hE
  exact jlz hB [] rfl
 by_cases k15:(jak p (atV p R.st)).kind=15
 ·have hcon:=j1k h inp R hd k15 (fun x hx e=>jnh h R s1 (.inl k15) x hx e) R' tr hR'
  clear hR' hd hw hrg
  generalize atV p R.st=a at *
  unfold jak at *
  have hk':(nth p.tree.nodes a.toNat).kind=15:=by assumption
  refine jaw Tryz.func66 Tryz.ntmps66 ?_
  generalize hB:ids (rnE p inp 0 R [])=B
  generalize hE:rnE p inp tr R' []=E
  (refine S ?_;try exact True.intro)
  (have W:=hk';repeat' (first|refine jaa fun K hK=>?_|refine wkA ?_|(refine hK _ _ ?_;clear hK K)|(refine jad (fun hc=>?_) (fun hc=>?_)<;>first | contradiction | (exfalso;omega) | skip)|refine bxF 4 ?_|refine alF 5 ?_|refine mkM 6 ?_|refine jci (vs:=[]) [] jat ?_|refine jci (vs:=[.bd 109 [.pt 0 0 0 0]]) [10] jat ?_|refine jci (vs:=[.bd 109 [.pt 0 0 0 0],.bd 109 [.pt 0 0 0 0]]) [10,11] jat ?_|refine jci (vs:=[.bd 109 [.pt 0 0 0 0],.bd 109 [.pt 0 0 0 0],.bd 110 [.pt 0 0 0 0]]) [10,11,12] jat ?_|refine jci (vs:=[.bd 109 [.pt 0 0 0 0],.bd 109 [.pt 0 0 0 0],.bd 110 [.pt 0 0 0 0],.bd 111 [.pt 0 0 0 0]]) [10,11,12,14] jat ?_|refine jci (vs:=[.bd 109 [.pt 0 0 0 0],.bd 109 [.pt 0 0 0 0],.bd 110 [.pt 0 0 0 0],.bd 111 [.pt 0 0 0 0],.bd 112 [.pt 0 0 0 0]]) [10,11,12,14,15] jat ?_|refine jci (vs:=[.bd 109 [.pt 0 0 0 0],.bd 109 [.pt 0 0 0 0],.bd 110 [.pt 0 0 0 0],.bd 111 [.pt 0 0 0 0],.bd 112 [.pt 0 0 0 0],.bd 112 [.pt 0 0 0 0]]) [10,11,12,14,15,16] jat ?_|refine jci (vs:=[.bd 109 [.pt 0 0 0 0],.bd 109 [.pt 0 0 0 0],.bd 110 [.pt 0 0 0 0],.bd 111 [.pt 0 0 0 0],.bd 112 [.pt 0 0 0 0],.bd 112 [.pt 0 0 0 0],.bd 113 [.pt 0 0 0 0]]) [10,11,12,14,15,16,17] jat ?_|(refine jtC (c:=false) (n:=15) (vs:=[.bd 109 [.pt 0 0 0 0],.bd 109 [.pt 0 0 0 0],.bd 110 [.pt 0 0 0 0],.bd 111 [.pt 0 0 0 0],.bd 112 [.pt 0 0 0 0],.bd 112 [.pt 0 0 0 0],.bd 113 [.pt 0 0 0 0],.clo 114 [.pt 4 0 0 0]]) [10,11,12,14,15,16,17,13] .nilFunc (.bd 112 [.pt 0 0 0 0]) jat (by kernel_rfl) rfl ?_)|(refine rE hnc rfl ?_;try ((refine S ?_;try exact True.intro)))|(refine rMv hcon rfl ?_;try ((refine S ?_;try exact True.intro)))|refine wkB ?_|exact True.intro|(clear hK K)));all_goals (try clear W)
  subst hE
  exact jlz hB [] rfl
 have k16:(jak p (atV p R.st)).kind=16:=by omega
 have hcon:=jsW h inp R hd k16 (fun x hx e=>jnh h R s1 (.inr k16) x hx e) R' tr hR'
 clear hR' hd hw hrg
 generalize atV p R.st=a at *
 unfold jak at *
 have hk':(nth p.tree.nodes a.toNat).kind=16:=by assumption
 refine jaw Tryz.func66 Tryz.ntmps66 ?_
 generalize hB:ids (rnE p inp 0 R [])=B
 generalize hE:rnE p inp tr R' []=E
 (refine S ?_;try exact True.intro)
 (have W:=hk';repeat' (first|refine jaa fun K hK=>?_|refine wkA ?_|(refine hK _ _ ?_;clear hK K)|(refine jad (fun hc=>?_) (fun hc=>?_)<;>first | contradiction | (exfalso;omega) | skip)|refine bxF 4 ?_|refine alF 5 ?_|refine mkM 6 ?_|refine jci (vs:=[]) [] jat ?_|refine jci (vs:=[.bd 109 [.pt 0 0 0 0]]) [10] jat ?_|refine jci (vs:=[.bd 109 [.pt 0 0 0 0],.bd 109 [.pt 0 0 0 0]]) [10,11] jat ?_|refine jci (vs:=[.bd 109 [.pt 0 0 0 0],.bd 109 [.pt 0 0 0 0],.bd 110 [.pt 0 0 0 0]]) [10,11,12] jat ?_|refine jci (vs:=[.bd 109 [.pt 0 0 0 0],.bd 109 [.pt 0 0 0 0],.bd 110 [.pt 0 0 0 0],.bd 111 [.pt 0 0 0 0]]) [10,11,12,14] jat ?_|refine jci (vs:=[.bd 109 [.pt 0 0 0 0],.bd 109 [.pt 0 0 0 0],.bd 110 [.pt 0 0 0 0],.bd 111 [.pt 0 0 0 0],.bd 112 [.pt 0 0 0 0]]) [10,11,12,14,15] jat ?_|refine jci (vs:=[.bd 109 [.pt 0 0 0 0],.bd 109 [.pt 0 0 0 0],.bd 110 [.pt 0 0 0 0],.bd 111 [.pt 0 0 0 0],.bd 112 [.pt 0 0 0 0],.bd 112 [.pt 0 0 0 0]]) [10,11,12,14,15,16] jat ?_|refine jci (vs:=[.bd 109 [.pt 0 0 0 0],.bd 109 [.pt 0 0 0 0],.bd 110 [.pt 0 0 0 0],.bd 111 [.pt 0 0 0 0],.bd 112 [.pt 0 0 0 0],.bd 112 [.pt 0 0 0 0],.bd 113 [.pt 0 0 0 0]]) [10,11,12,14,15,16,17] jat ?_|(refine jtC (c:=false) (n:=16) (vs:=[.bd 109 [.pt 0 0 0 0],.bd 109 [.pt 0 0 0 0],.bd 110 [.pt 0 0 0 0],.bd 111 [.pt 0 0 0 0],.bd 112 [.pt 0 0 0 0],.bd 112 [.pt 0 0 0 0],.bd 113 [.pt 0 0 0 0],.clo 114 [.pt 4 0 0 0]]) [10,11,12,14,15,16,17,13] .nilFunc (.bd 112 [.pt 0 0 0 0]) jat (by kernel_rfl) rfl ?_)|(refine rE hnc rfl ?_;try ((refine S ?_;try exact True.intro)))|(refine rMv hcon rfl ?_;try ((refine S ?_;try exact True.intro)))|refine wkB ?_|exact True.intro|(clear hK K)));all_goals (try clear W)
 subst hE
 exact jlz hB [] rfl
end Go.Proofs.YtfkgcobaheegbaaGreatDoor
namespace Go.Gd
open Go
theorem RLe.nil {r:AV} {H:Hp} (i:Nat) (e:TypeId) {sz:Nat} (hi:H.get i=none) (h0:0 < sz) (hs:r=.raw (.slice none 0 0)):RLe r H (.rs i 0 sz 0) (H.put i (.vec e sz [])):=fun w v h1 h2=>by
 obtain ⟨w',e,a,b,c⟩:=FLe.nil (F:=[r]) i 0 e hi h0 (.inl (by rw [hs];rfl)) w #[v] h1 ⟨rfl,fun k a x ha hx=>by
  match k with
  | 0=>cases ha;cases hx;exact h2
  | k+1=>simp at ha⟩
 exact ⟨w',e,a,b.2 0 _ v rfl rfl,c⟩
theorem jjy {P:Program} {fn:Func} {F:List AV} {out:List AV} {e:Exit} (i:Nat) (t:TypeId) (sz:Nat) (h0:0 < sz) (rs:List ResultVar) (hout:jbo out=.raw (.slice none 0 0)) (ho:jgg P ⟨[],[]⟩ F rs=some out) (hok:jbT P ⟨[],[]⟩ F rs) (hrs:fn.results.toList=rs:=by rfl) (he:e=.normal∨e=.ret:=by first | exact Or.inr rfl | exact Or.inl rfl | fail) :
  jhu P fn (fun r l=>r=.rs i 0 sz 0∧l=[(i,.vec t sz [])]) e F ⟨[],[]⟩:=by
 subst hrs
 exact jjz he ho hok _ _ (RLe.nil i t rfl h0 hout) ⟨rfl,rfl⟩
theorem jra {α:Type} [Inhabited α] (f:α→List AV) (l:List α):l.map f=tab l.length fun k=>f (nth l k):=jmT (by simp) fun k hk=>by rw [jdO _ _ _ hk,jbl hk]
end Go.Gd
namespace Go.Proofs.YtfkgcobaheegbaaGreatDoor
open Go Go.Gd
set_option maxHeartbeats 4000000
set_option maxRecDepth 10000
theorem j51 (l:List (GFrame)) (hl:l.length≤1000) (i:Nat):ACalls Tryz.prog 105 [jal jaJ 3 l] [] (fun r l'=>r=.rs i l.length 3 l.length∧l'=[(i,.vec 57 3 (l.map jaJ))]):=by
 refine jaw Tryz.func105 Tryz.ntmps105 ?_
 (repeat' (first|refine jaa fun K hK=>?_|refine wkA ?_|(refine hK _ _ ?_;clear hK K)|(refine jad (fun hc=>?_) (fun hc=>?_)<;>first | contradiction | (exfalso;omega) | skip)|(with_reducible refine fun (b:Bool) hb=>?_)|refine jnH i ?_|refine wkB ?_|exact True.intro|(clear hK K)))
 ·have hb':l=[]:=by simpa using hb hc
  subst hb'
  exact jjy i 57 3 (by decide) [.tmp 2] rfl rfl trivial
 ·(refine jbM [.tmp 2] ?_ ?_<;>(try simp only [go_sem]))
theorem j52 (l:List (List Int)) (hl:l.length≤1000) (i:Nat):ACalls Tryz.prog 106 [jal eLI 1 l] [] (fun r l'=>r=.rs i l.length 1 l.length∧l'=[(i,.vec 22 1 (l.map eLI))]):=by
 refine jaw Tryz.func106 Tryz.ntmps106 ?_
 (repeat' (first|refine jaa fun K hK=>?_|refine wkA ?_|(refine hK _ _ ?_;clear hK K)|(refine jad (fun hc=>?_) (fun hc=>?_)<;>first | contradiction | (exfalso;omega) | skip)|(with_reducible refine fun (b:Bool) hb=>?_)|refine jnH i ?_|refine wkB ?_|exact True.intro|(clear hK K)))
 ·have hb':l=[]:=by simpa using hb hc
  subst hb'
  exact jjy i 22 1 (by decide) [.tmp 2] rfl rfl trivial
 ·(refine jbM [.tmp 2] ?_ ?_<;>(try simp only [go_sem]))
theorem j55 (l:List (ByteArray)) (hl:l.length≤1000) (i:Nat):ACalls Tryz.prog 80 [jal eS 1 l] [] (fun r l'=>r=.rs i l.length 1 l.length∧l'=[(i,.vec 9 1 (l.map eS))]):=by
 refine jaw Tryz.func80 Tryz.ntmps80 ?_
 (repeat' (first|refine jaa fun K hK=>?_|refine wkA ?_|(refine hK _ _ ?_;clear hK K)|(refine jad (fun hc=>?_) (fun hc=>?_)<;>first | contradiction | (exfalso;omega) | skip)|(with_reducible refine fun (b:Bool) hb=>?_)|refine jnH i ?_|refine wkB ?_|exact True.intro|(clear hK K)))
 ·have hb':l=[]:=by simpa using hb hc
  subst hb'
  exact jjy i 9 1 (by decide) [.tmp 2] rfl rfl trivial
 ·(refine jbM [.tmp 2] ?_ ?_<;>(try simp only [go_sem]))
theorem j56 (l:List (GValue)) (hl:l.length≤1000) (i:Nat):ACalls Tryz.prog 81 [jal jag 3 l] [] (fun r l'=>r=.rs i l.length 3 l.length∧l'=[(i,.vec 59 3 (l.map jag))]):=by
 refine jaw Tryz.func81 Tryz.ntmps81 ?_
 (repeat' (first|refine jaa fun K hK=>?_|refine wkA ?_|(refine hK _ _ ?_;clear hK K)|(refine jad (fun hc=>?_) (fun hc=>?_)<;>first | contradiction | (exfalso;omega) | skip)|(with_reducible refine fun (b:Bool) hb=>?_)|refine jnH i ?_|refine wkB ?_|exact True.intro|(clear hK K)))
 ·have hb':l=[]:=by simpa using hb hc
  subst hb'
  exact jjy i 59 3 (by decide) [.tmp 2] rfl rfl trivial
 ·(refine jbM [.tmp 2] ?_ ?_<;>(try simp only [go_sem]))
theorem j54 (l:List (GPlace)) (hl:l.length≤1000) (i:Nat):ACalls Tryz.prog 107 [jal jay 2 l] [] (fun r l'=>r=.rs i l.length 2 l.length∧l'=[(i,.vec 89 2 (l.map jay))]):=by
 refine jaw Tryz.func107 Tryz.ntmps107 ?_
 (repeat' (first|refine jaa fun K hK=>?_|refine wkA ?_|(refine hK _ _ ?_;clear hK K)|(refine jad (fun hc=>?_) (fun hc=>?_)<;>first | contradiction | (exfalso;omega) | skip)|(with_reducible refine fun (b:Bool) hb=>?_)|refine jnH i ?_|refine wkB ?_|exact True.intro|(clear hK K)))
 ·have hb':l=[]:=by simpa using hb hc
  subst hb'
  exact jjy i 89 2 (by decide) [.tmp 2] rfl rfl trivial
 ·(refine jbM [.tmp 2] ?_ ?_<;>(try simp only [go_sem]))
theorem j53 (l:List (Int)) (hl:l.length≤1000) (i:Nat):ACalls Tryz.prog 108 [jal eI 1 l] [] (fun r l'=>r=.rs i l.length 1 l.length∧l'=[(i,.vec 3 1 (l.map eI))]):=by
 refine jaw Tryz.func108 Tryz.ntmps108 ?_
 (repeat' (first|refine jaa fun K hK=>?_|refine wkA ?_|(refine hK _ _ ?_;clear hK K)|(refine jad (fun hc=>?_) (fun hc=>?_)<;>first | contradiction | (exfalso;omega) | skip)|(with_reducible refine fun (b:Bool) hb=>?_)|refine jnH i ?_|refine wkB ?_|exact True.intro|(clear hK K)))
 ·have hb':l=[]:=by simpa using hb hc
  subst hb'
  exact jjy i 3 1 (by decide) [.tmp 2] rfl rfl trivial
 ·(refine jbM [.tmp 2] ?_ ?_<;>(try simp only [go_sem]))
theorem j1g (s:GState) (h1:s.frames.length≤1000) (h2:s.heap.length≤1000) (h3:s.out_.length≤1000) (h4:∀ k,k < s.frames.length→(nth s.frames k).slots.length≤1000∧(nth s.frames k).path.length≤1000) (h5:∀ k,k < s.heap.length→(nth s.heap k).length≤1000) :
  ACalls Tryz.prog 64 [.agg (jai s)] [] (fun r l=>r=.agg (RS.of s).c∧l=(RS.of s).rows):=by
 generalize hR:RS.of s=R
 refine jaw Tryz.func64 Tryz.ntmps64 ?_
 (repeat' (first|refine jaa fun K hK=>?_|refine wkA ?_|(with_reducible refine gR 1 ?_);refine dC 1 ([],[],[9,12,15,1000000]) [] [0,1,3,4,6,7,2,9,5,8,10,11,12,13,14] mixed ?_|(refine hK _ _ ?_;clear hK K)|(refine jad (fun hc=>?_) (fun hc=>?_)<;>first | contradiction | (exfalso;omega) | skip)|refine bxF 4 ?_|refine alF 5 ?_|refine cN (j51 s.frames h1 1) ?_|refine cN (j52 s.heap h2 2) ?_|refine cN (j55 s.out_ h3 3) ?_|refine wkB ?_|exact True.intro|(clear hK K)))
 have hKo:=hK;clear hK
 refine jah (S:=Nat) [(3,2),(22,22)] (fun k=>k≤s.frames.length) (fun k=>[(22,rI k)])
  (fun k=>⟨[],(4,.var 39 [.rs 1 s.frames.length 3 s.frames.length,.rs 2 s.heap.length 1 s.heap.length,rI s.in_,.rs 3 s.out_.length 1 s.out_.length,rI s.status,rI s.trap,rI s.time])::(5,.var 39 [.raw (.slice none 0 0),.raw (.slice none 0 0),rI 0,.raw (.slice none 0 0),rI 0,rI 0,rI 0])::(1,.vec 57 3 (tab s.frames.length fun j=>if j < k then R.fr j else jaJ (nth s.frames j)))::(2,.vec 22 1 (s.heap.map eLI))::(3,.vec 9 1 (s.out_.map eS))::fam 0 k R.sl (fam 1 k R.pt [])⟩)
  (fun k=>s.frames.length - k) 0 (by omega) (jaE ?_ lle) ?_
 ·rw [jra jaJ]
  simp only [Nat.not_lt_zero,if_false]
  rfl
 rintro k hk Kr hKr
 by_cases hkl:k < s.frames.length
 ·obtain ⟨g1,g2⟩:=h4 k hkl
  have hfr:jaJ (nth s.frames k)=[rI (nth s.frames k).fn,jal jag 3 (nth s.frames k).slots,jal jay 2 (nth s.frames k).path]:=rfl
  have hkk:(k < k)=False:=eq_false (Nat.lt_irrefl k)
  have hcv:=j56 (nth s.frames k).slots g1 (fid 0 k)
  have hcp:=j54 (nth s.frames k).path g2 (fid 1 k)
  have hfi:(fid 0 k=fid 1 k)=False:=eq_false fun e=>by have:=(jcX (by omega) (by omega) e).1;omega
  (refine S ?_;try exact True.intro)
  (have W:=And.intro hkk (hfr);repeat' (first|refine jaa fun K hK=>?_|refine wkA ?_|(with_reducible refine gR 5 ?_);refine dC 5 ([1],[],[35,38]) [] [0,1,2,3,4,5,6,7,9,10,8,11,12,13,14,15,16,17] mixed ?_|(refine hK _ _ ?_;clear hK K)|(refine jad (fun hc=>?_) (fun hc=>?_)<;>first | contradiction | (exfalso;omega) | skip)|refine alF 6 ?_|refine cN hcv ?_|refine cN hcp ?_|refine wkB ?_|exact True.intro|(clear hK K)));all_goals (try clear W)
  have hRf:∀ j,j < s.frames.length→(if j=k then [rI (nth s.frames k).fn,.rs (fid 0 k) (nth s.frames k).slots.length 3 (nth s.frames k).slots.length,.rs (fid 1 k) (nth s.frames k).path.length 2 (nth s.frames k).path.length] else if j=k then [rI (nth s.frames k).fn,.rs (fid 0 k) (nth s.frames k).slots.length 3 (nth s.frames k).slots.length,jal jay 2 (nth s.frames k).path] else if j < k then R.fr j else jaJ (nth s.frames j))=if j < k+1 then R.fr j else jaJ (nth s.frames j):=fun j hj=>by
   by_cases e:j=k
   ·subst e
    rw [if_pos rfl,if_pos (by omega)]
    subst hR
    unfold RS.fr
    rw [show nth (RS.of s).jp j=[] from jey _ _ _ hkl]
    rfl
   ·rw [if_neg e,if_neg e]
    by_cases e2:j < k
    ·rw [if_pos e2,if_pos (by omega)]
    ·rw [if_neg e2,if_neg (by omega)]
  have hg0:=jbU 0 k
  have hg1:=jbU 1 k
  have hg2:fid 1 k≠fid 0 k:=fun e=>by have:=(jcX (by omega) (by omega) e).1;omega
  refine hKr _ _ (jfT ((4,.var 39 [.rs 1 s.frames.length 3 s.frames.length,.rs 2 s.heap.length 1 s.heap.length,rI s.in_,.rs 3 s.out_.length 1 s.out_.length,rI s.status,rI s.trap,rI s.time])::(5,.var 39 [.raw (.slice none 0 0),.raw (.slice none 0 0),rI 0,.raw (.slice none 0 0),rI 0,rI 0,rI 0])::(1,.vec 57 3 (tab s.frames.length fun j=>if j < (k+1) then R.fr j else jaJ (nth s.frames j)))::(2,.vec 22 1 (s.heap.map eLI))::(3,.vec 9 1 (s.out_.map eS))::fam 0 (k+1) R.sl (fam 1 (k+1) R.pt [(6,.var 57 (jaJ (nth s.frames k)))]))
   (fun i=>[6].contains i) (k+1) (by omega) (by show s.frames.length - (k+1) < s.frames.length - k;omega) (jaH _ _ (jaH _ _ (jbp _ ?_ (jaH _ _ (jaH _ _ fun i=>?_))))) rfl ?_ ?_ ?_)
  ·exact congrArg (Row.vec _ _) (jch rfl hRf)
  ·refine (jaW 0 k R.sl (fun i=>jaW 1 k R.pt (l':=[_]++[(fid 1 k,.vec 89 2 ((nth s.frames k).path.map jay)),(fid 0 k,.vec 59 3 ((nth s.frames k).slots.map jag))]) (fun i=>?_) i) i).trans (jj2 (h:=0) (q:=R.hp) R.sl R.pt (fun _ _=>rfl) (fun _ _=>rfl) ?_ ?_ jac i)
   ·simp only [jas,List.cons_append,List.nil_append]
    repeat' split
    all_goals first
     | rfl
     | (exfalso;omega)
   ·subst hR;rfl
   ·subst hR
    unfold RS.pt
    rw [show nth (RS.of s).jp k=[] from jey _ _ _ hkl,List.append_nil];rfl
  ·refine ⟨.inr rfl,.inr rfl,.inr (jha fun j _=>?_),.inr (jb7 (enc:=eLI) (sz:=1) _),.inr (jb7 (enc:=eS) (sz:=1) _),jcM (fun j _=>jkt _ _ _) (jcM (fun j _=>jks _ _ _) ⟨.inl rfl,trivial⟩)⟩
   split
   ·simp only [RS.fr,jaB,AV.all,jcB,jbs (L:=[6]) rfl];rfl
   ·exact jhV _ _
  ·show Hp.mk [] (_::_::_::_::_::ja9 _ (fam 0 _ _ _))=_
   rw [jce (jbs rfl 0),jce (jbs rfl 1)]
   rfl
  ·exact vtl
 ·have hke:k=s.frames.length:=by omega
  subst hke
  have hRn:(tab s.frames.length fun j=>if j < s.frames.length then R.fr j else jaJ (nth s.frames j))=tab s.frames.length R.fr:=jch rfl fun j hj=>by rw [if_pos hj]
  simp only [hRn]
  (refine S ?_;try exact True.intro)
  (repeat' (first|refine jaa fun K hK=>?_|refine wkA ?_|(refine hK _ _ ?_;clear hK K)|(refine jad (fun hc=>?_) (fun hc=>?_)<;>first | contradiction | (exfalso;omega) | skip)|(refine hKo _ _ ?_)|refine wkB ?_|exact True.intro|(clear hK K)))
  have hKp:=hK;clear hK
  refine jah (S:=Nat) [(5,2),(47,12)] (fun j=>j≤s.heap.length) (fun j=>[(47,rI j)])
   (fun i=>⟨[],(4,.var 39 [.rs 1 s.frames.length 3 s.frames.length,.rs 2 s.heap.length 1 s.heap.length,rI s.in_,.rs 3 s.out_.length 1 s.out_.length,rI s.status,rI s.trap,rI s.time])::(5,.var 39 [.raw (.slice none 0 0),.raw (.slice none 0 0),rI 0,.raw (.slice none 0 0),rI 0,rI 0,rI 0])::(1,.vec 57 3 (tab s.frames.length R.fr))::(2,.vec 22 1 (tab s.heap.length fun j=>if j < i then [.rs (fid 2 j) (nth s.heap j).length 1 (nth s.heap j).length] else eLI (nth s.heap j)))::(3,.vec 9 1 (s.out_.map eS))::fam 0 s.frames.length R.sl (fam 1 s.frames.length R.pt (fam 2 i R.hp []))⟩)
   (fun j=>s.heap.length - j) 0 (by omega) (jaE ?_ lle) ?_
  ·rw [jra eLI]
   simp only [Nat.not_lt_zero,if_false]
   rfl
  rintro i hi Ks hKs
  by_cases hil:i < s.heap.length
  ·have g3:=h5 i hil
   have hcj:=j53 (nth s.heap i) g3 (fid 2 i)
   have hii:(i < i)=False:=eq_false (Nat.lt_irrefl i)
   have hel:eLI (nth s.heap i)=[jal eI 1 (nth s.heap i)]:=rfl
   (refine S ?_;try exact True.intro)
   (have W:=And.intro hii (hel);repeat' (first|refine jaa fun K hK=>?_|refine wkA ?_|(with_reducible refine gR 10 ?_);refine dC 10 ([2],[],[56]) [] [0,1,2,3,4,5,6] mixed ?_|(refine hK _ _ ?_;clear hK K)|(refine jad (fun hc=>?_) (fun hc=>?_)<;>first | contradiction | (exfalso;omega) | skip)|refine cN hcj ?_|refine wkB ?_|exact True.intro|(clear hK K)));all_goals (try clear W)
   have hRp:∀ j,j < s.heap.length→(if j=i then [AV.rs (fid 2 i) (nth s.heap i).length 1 (nth s.heap i).length] else if j < i then [AV.rs (fid 2 j) (nth s.heap j).length 1 (nth s.heap j).length] else eLI (nth s.heap j))=if j < i+1 then [AV.rs (fid 2 j) (nth s.heap j).length 1 (nth s.heap j).length] else eLI (nth s.heap j):=fun j hj=>by
    by_cases e:j=i
    ·subst e
     rw [if_pos rfl,if_pos (by omega)]
    ·rw [if_neg e]
     by_cases e2:j < i
     ·rw [if_pos e2,if_pos (by omega)]
     ·rw [if_neg e2,if_neg (by omega)]
   have hg2:=jbU 2 i
   refine hKs _ _ (jfT ((4,.var 39 [.rs 1 s.frames.length 3 s.frames.length,.rs 2 s.heap.length 1 s.heap.length,rI s.in_,.rs 3 s.out_.length 1 s.out_.length,rI s.status,rI s.trap,rI s.time])::(5,.var 39 [.raw (.slice none 0 0),.raw (.slice none 0 0),rI 0,.raw (.slice none 0 0),rI 0,rI 0,rI 0])::(1,.vec 57 3 (tab s.frames.length R.fr))::(2,.vec 22 1 (tab s.heap.length fun j=>if j < (i+1) then [.rs (fid 2 j) (nth s.heap j).length 1 (nth s.heap j).length] else eLI (nth s.heap j)))::(3,.vec 9 1 (s.out_.map eS))::fam 0 s.frames.length R.sl (fam 1 s.frames.length R.pt (fam 2 (i+1) R.hp [])))
    (fun i=>[6].contains i) (i+1) (by omega) (by show s.heap.length - (i+1) < s.heap.length - i;omega) (jaH _ _ (jaH _ _ (jaH _ _ (jbp _ ?_ (jaH _ _ fun j=>?_))))) rfl ?_ ?_ ?_)
   ·exact congrArg (Row.vec _ _) (jch rfl hRp)
   ·refine (jaW 0 _ R.sl (fun j=>jaW 1 _ R.pt (fun j=>jaW 2 i R.hp (l':=[]++[(fid 2 i,.vec 3 1 ((nth s.heap i).map eI))]) (fun j=>?_) j) j) j).trans (jj1 R.hp (fun _ _=>rfl) ?_ jac j)
    ·rfl
    ·subst hR
     unfold RS.hp
     rfl
   ·refine ⟨.inr rfl,.inr rfl,.inr (jha fun j _=>?_),.inr (jha fun j _=>?_),.inr (jb7 (enc:=eS) (sz:=1) _),jcM (fun j _=>jkt _ _ _) (jcM (fun j _=>jks _ _ _) (jcM (fun j _=>jqS _ _ _) trivial))⟩
    ·simp only [RS.fr,jaB,AV.all,jcB,jbs (L:=[6]) rfl];rfl
    ·split
     ·simp only [jaB,AV.all,jcB,jbs (L:=[6]) rfl];rfl
     ·rfl
   ·show Hp.mk [] (_::_::_::_::_::ja9 _ (fam 0 _ _ _))=_
    rw [jce (jbs rfl 0),jce (jbs rfl 1),jce (jbs rfl 2)]
    rfl
   ·exact vtl
  ·have hie:i=s.heap.length:=by omega
   subst hie
   have hRm:(tab s.heap.length fun j=>if j < s.heap.length then [AV.rs (fid 2 j) (nth s.heap j).length 1 (nth s.heap j).length] else eLI (nth s.heap j))=tab s.heap.length fun j=>[AV.rs (fid 2 j) (nth s.heap j).length 1 (nth s.heap j).length]:=jch rfl fun j hj=>by rw [if_pos hj]
   simp only [hRm]
   (refine S ?_;try exact True.intro)
   (repeat' (first|refine jaa fun K hK=>?_|refine wkA ?_|(refine hK _ _ ?_;clear hK K)|(refine jad (fun hc=>?_) (fun hc=>?_)<;>first | contradiction | (exfalso;omega) | skip)|(refine hKp _ _ ?_)|refine wkB ?_|exact True.intro|(clear hK K)))
   refine jyq (l':=R.rowsT [(4,.var 39 R.c),(5,.var 39 R.c)]) (fun i=>?_) [.cell 2 39] ?_ ?_ ?_ ?_
   ·subst hR
    rw [RS.rowsT_app,jbB]
    by_cases i4:i=4
    ·subst i4;rw [RS.rows_no 4 (by omega) (by omega)];rfl
    by_cases i5:i=5
    ·subst i5;rw [RS.rows_no 5 (by omega) (by omega)];rfl
    rw [show jas [(4,Row.var 39 (RS.of s).c),(5,.var 39 (RS.of s).c)] i=none by simp only [jas,if_neg i4,if_neg i5],Option.or_none]
    unfold RS.rows
    simp only [jas,if_neg i4,if_neg i5]
    by_cases i1:i=1
    ·subst i1;rfl
    by_cases i2:i=2
    ·subst i2;rfl
    by_cases i3:i=3
    ·subst i3;rfl
    simp only [if_neg i1,if_neg i2,if_neg i3]
    rfl
   ·subst hR;rfl
   ·exact (RS.free (t:=0) (pre:=[]) (post:=[]) (R:=R) (t':=0) (pre':=[]) (post':=[]) (R':=R) rfl jac rfl rfl).2.1.2
   ·rfl
   ·have:=(RS.free (t:=0) (pre:=[]) (post:=[]) (R:=R) (t':=0) (pre':=[]) (post':=[]) (R':=R) (tl:=[(4,.var 39 R.c),(5,.var 39 R.c)]) rfl jac rfl rfl).2.2
    exact (List.cons.inj this).2
def rnT (p:GProg) (s:GState):Row:=.var 95 [jal jao 5 p.tree.nodes,jal jbe 5 p.tree.fns,jal eI 1 p.types,jal eI 1 p.slots,jal eI 1 p.fn,jal eI 1 p.size,jal jaJ 3 s.frames,jal eLI 1 s.heap,rI s.in_,jal eS 1 s.out_,rI s.status,rI s.trap,rI s.time,.raw (.slice none 0 0),rI 0]
theorem jyr (p:GProg) (s:GState) (h1:1≤s.frames.length) (h2:s.frames.length≤1000) :
  ACalls Tryz.prog 98 [.pt 0 0 0 0] [(0,rnT p s)] (fun r l=>r=.ip (jaJ s.top)∧l=[(0,rnT p s)]):=by
 unfold GState.top rnT
 refine jaw Tryz.func98 Tryz.ntmps98 ?_
 (repeat' (first|refine jaa fun K hK=>?_|refine wkA ?_|(with_reducible refine gR 1 ?_);refine dE 1 [0,1,2,3,4,5,6,7,8,9,10,11,12,13] mixed ?_|(refine hK _ _ ?_;clear hK K)|(refine jad (fun hc=>?_) (fun hc=>?_)<;>first | contradiction | (exfalso;omega) | skip)|refine wkB ?_|exact True.intro|(clear hK K)))
 (refine jbM [.tmp 2] ?_ ?_<;>(try simp only [go_sem]))
theorem jsR (p:GProg) (s:GState) (h1:1≤s.frames.length) (h2:s.frames.length≤1000) (h3:1≤s.top.path.length) (h4:s.top.path.length≤1000) :
  ACalls Tryz.prog 101 [.pt 0 0 0 0] [(0,rnT p s)] (fun r l=>r=.ip (jay s.top.pl)∧l=[(0,rnT p s)]):=by
 have ht:=jyr p s h1 h2
 unfold GFrame.pl
 unfold rnT at *
 generalize s.top=f at *
 refine jaw Tryz.func101 Tryz.ntmps101 ?_
 (repeat' (first|refine jaa fun K hK=>?_|refine wkA ?_|(with_reducible refine gR 2 ?_);refine dE 2 [0,1,2,3,4,5,6,7,8,9,10,11] mixed ?_|(refine hK _ _ ?_;clear hK K)|(refine jad (fun hc=>?_) (fun hc=>?_)<;>first | contradiction | (exfalso;omega) | skip)|refine cm (ht) ?_|refine wkB ?_|exact True.intro|(clear hK K)))
 (refine jbM [.tmp 2] ?_ ?_<;>(try simp only [go_sem]))
theorem jvo (p:GProg) (s:GState) (a:Int) (h0:0≤a) (h1:a.toNat < p.tree.nodes.length) :
  ACalls Tryz.prog 102 [.pt 0 0 0 0,rI a] [(0,rnT p s)] (fun r l=>r=.agg (jao (jak p a))∧l=[(0,rnT p s)]):=by
 unfold jak rnT
 refine jaw Tryz.func102 Tryz.ntmps102 ?_
 (repeat' (first|refine jaa fun K hK=>?_|refine wkA ?_|(refine hK _ _ ?_;clear hK K)|(refine jad (fun hc=>?_) (fun hc=>?_)<;>first | contradiction | (exfalso;omega) | skip)|refine alF 4 ?_|refine wkB ?_|exact True.intro|(clear hK K)))
 (refine jaN [.cell 4 53] ?_;try simp only [go_sem])
theorem jvn {p:GProg} {s:GState} (h:StAt p s):ACalls Tryz.prog 62 [.pt 0 0 0 0] [(0,rnT p s)] (fun r l=>r=rI (atV p s)∧l=[(0,rnT p s)]):=by
 have hp:=jsR p s h.fr h.frs h.pa h.pas
 have hn:=jvo p s s.top.pl.block h.b0 (by have:=h.b0;have:=h.b1;omega)
 have a0:=h.a0
 have a1:=h.a1
 unfold atV
 unfold jb3 jak rnT at *
 generalize s.top.pl=x at *
 generalize nth p.tree.nodes x.block.toNat=n at *
 refine jaw Tryz.func62 Tryz.ntmps62 ?_
 (repeat' (first|refine jaa fun K hK=>?_|refine wkA ?_|(with_reducible refine gR 2 ?_);refine dC 2 ([],[11],[]) [] [0,1,2,3,4,5,6,7,8,9,10,11,12,13] mixed ?_|(refine hK _ _ ?_;clear hK K)|(refine jad (fun hc=>?_) (fun hc=>?_)<;>first | contradiction | (exfalso;omega) | skip)|refine cm (hp) ?_|refine cmq hn ?_|refine wkB ?_|exact True.intro|(clear hK K)))
 (refine jaN [.tmp 2] ?_;try simp only [go_sem])
theorem jhG {p:GProg} (hs:SOk p) {s:GState} (h:StInv p s):PCall Tryz.prog 22 [.agg (jam p),.agg (jai s)] (rI (jav p s)):=by
 by_cases h2:s.status=2∨s.status=3
 ·unfold jav
  rw [if_pos h2]
  rcases h2 with h2 | h2<;>
  ·refine jbA Tryz.func22 Tryz.ntmps22 ?_
   (have W:=h2;repeat' (first|refine jaa fun K hK=>?_|refine wkA ?_|(refine hK _ _ ?_;clear hK K)|(refine jad (fun hc=>?_) (fun hc=>?_)<;>first | contradiction | (exfalso;omega) | skip)|refine bxF 4 ?_|refine bxF 5 ?_|refine wkB ?_|exact True.intro|(clear hK K)));all_goals (try clear W)
   (refine jaN [.tmp 4] ?_;try simp only [go_sem])
 ·have hd:=h.doing (fun e=>h2 (.inl e)) 0 (by decide)
  have hst:=hd.stAt hs
  rw [RS.of_st] at hst
  have hst:StAt p s:=⟨hst.fr,hst.frs,hst.pa,hst.pas,hst.b0,hst.b1,hst.a0,hst.a1,hst.ats,hst.n0,hst.n1,hst.sl,hst.s0⟩
  have hx:=jvn hst
  unfold rnT at hx
  unfold jav
  rw [if_neg h2]
  generalize atV p s=a at *
  have h2a:(s.status=2)=False:=eq_false fun e=>h2 (.inl e)
  have h2b:(s.status=3)=False:=eq_false fun e=>h2 (.inr e)
  have hes:jai s=[jal jaJ 3 s.frames,jal eLI 1 s.heap,rI s.in_,jal eS 1 s.out_,rI s.status,rI s.trap,rI s.time]:=rfl
  refine jbA Tryz.func22 Tryz.ntmps22 ?_
  (have W:=And.intro h2a (And.intro h2b (hes));repeat' (first|refine jaa fun K hK=>?_|refine wkA ?_|(refine hK _ _ ?_;clear hK K)|(refine jad (fun hc=>?_) (fun hc=>?_)<;>first | contradiction | (exfalso;omega) | skip)|refine bxF 4 ?_|refine bxF 5 ?_|refine bxF 0 ?_|refine cm (hx) ?_|refine wkB ?_|exact True.intro|(clear hK K)));all_goals (try clear W)
  (refine jaN [.tmp 4] ?_;try simp only [go_sem])
end Go.Proofs.YtfkgcobaheegbaaGreatDoor

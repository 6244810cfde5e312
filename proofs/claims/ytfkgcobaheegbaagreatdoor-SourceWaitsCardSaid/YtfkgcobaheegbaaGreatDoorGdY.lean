/- The steps of a walk as lemmas; what each asks beside is reckoned by its own default. The data of the program as Lean structures, and their cells. No conditions. -/
import Derived.Test.YtfkgcobaheegbaaGreatDoorGdO
set_option linter.all false
namespace Go.Gd
open Go
universe u
theorem sm_ {q:Prop} (e:q:=by first | (simp (disch:=first | omega | assumption | fail) only [go_sem,jeG,W,↓reduceIte,Int.reduceEq,Int.reduceLE,Int.reduceLT,Int.reduceNe,Int.reduceToNat,Nat.reduceMul,Nat.reduceAdd,Nat.reduceLeDiff,Nat.reduceSub,Nat.reduceEqDiff,Nat.reduceBEq,List.nodup_cons,List.nodup_nil,List.mem_cons,List.not_mem_nil,List.mem_nil_iff];done) | (simp (disch:=first | omega | assumption | fail) only [go_sem,jeG,↓reduceIte,Int.reduceEq,Int.reduceLE,Int.reduceLT,Int.reduceNe,Int.reduceToNat,Nat.reduceMul,Nat.reduceAdd,Nat.reduceLeDiff,Nat.reduceSub,Nat.reduceEqDiff,Nat.reduceBEq,List.nodup_cons,List.nodup_nil,List.mem_cons,List.not_mem_nil,List.mem_nil_iff];done) | fail):q:=e
theorem rf_ {q:Prop} (e:q:=by first | (simp (disch:=first | omega | assumption | fail) only [go_sem,jeG,W,↓reduceIte,Int.reduceEq,Int.reduceLE,Int.reduceLT,Int.reduceNe,Int.reduceToNat,Nat.reduceMul,Nat.reduceAdd,Nat.reduceLeDiff,Nat.reduceSub,Nat.reduceEqDiff,Nat.reduceBEq,List.nodup_cons,List.nodup_nil,List.mem_cons,List.not_mem_nil,List.mem_nil_iff];rfl) | (simp (disch:=first | omega | assumption | fail) only [go_sem,jeG,↓reduceIte,Int.reduceEq,Int.reduceLE,Int.reduceLT,Int.reduceNe,Int.reduceToNat,Nat.reduceMul,Nat.reduceAdd,Nat.reduceLeDiff,Nat.reduceSub,Nat.reduceEqDiff,Nat.reduceBEq,List.nodup_cons,List.nodup_nil,List.mem_cons,List.not_mem_nil,List.mem_nil_iff];rfl) | rfl | fail):q:=e
theorem rg_ {q:Prop} (e:q:=by first | (simp (disch:=first | omega | assumption | fail) only [go_sem,jeG,W,↓reduceIte,Int.reduceEq,Int.reduceLE,Int.reduceLT,Int.reduceNe,Int.reduceToNat,Nat.reduceMul,Nat.reduceAdd,Nat.reduceLeDiff,Nat.reduceSub,Nat.reduceEqDiff,Nat.reduceBEq,List.nodup_cons,List.nodup_nil,List.mem_cons,List.not_mem_nil,List.mem_nil_iff];rfl) | (simp (disch:=first | omega | assumption | fail) only [go_sem,jeG,↓reduceIte,Int.reduceEq,Int.reduceLE,Int.reduceLT,Int.reduceNe,Int.reduceToNat,Nat.reduceMul,Nat.reduceAdd,Nat.reduceLeDiff,Nat.reduceSub,Nat.reduceEqDiff,Nat.reduceBEq,List.nodup_cons,List.nodup_nil,List.mem_cons,List.not_mem_nil,List.mem_nil_iff];rfl) | fail):q:=e
theorem r0_ {q:Prop} (e:q:=by first | (simp only [go_sem,↓reduceIte,Int.reduceEq,Int.reduceLE,Int.reduceLT,Int.reduceNe,Int.reduceToNat,Nat.reduceMul,Nat.reduceAdd,Nat.reduceLeDiff,Nat.reduceSub,Nat.reduceEqDiff,Nat.reduceBEq,List.nodup_cons,List.nodup_nil,List.mem_cons,List.not_mem_nil,List.mem_nil_iff];rfl) | rfl | fail):q:=e
@[go_sem] theorem jtB {α:Type} [Inhabited α] (f:α→List AV) (a:List α) (b:List (List AV)) (k:Nat) (h:k < a.length):(a.map f++b).getD k []=f (nth a k):=by
 rw [jbl h,List.getD_eq_getElem?_getD,List.getElem?_append_left (by simpa using h)]
 simp [h]
attribute [go_sem] List.isEmpty_nil
@[congr] theorem jxm {P:Program} {c:Code} {Q:Exit→List AV→Hp→Prop} {F F':List AV} {H H':Hp} (h1:F=F') (h2:H=H'):AWP P c Q F H=AWP P c Q F' H':=by rw [h1,h2]
def jl5 (p q:Prop):Prop:=q→p
section
variable {P:Program} {Q:Exit→List AV→Hp→Prop} {F:List AV} {H:Hp}
theorem jq2 {id:Nat} {l:List Oper} {q:Prop} (e:vcl P l.toArray (Q .normal) l F H=q):jl5 (AWP P (.region id l.toArray false) Q F H) q:=fun h=>jiV (e ▸ h)
theorem js1 {id:Nat} {c:Code}:jl5 (AWP P (.block id c) Q F H) (AWP P c (jgQ id Q) F H):=jpy
theorem jvC {q:Prop} (e:Q .normal F H=q):jl5 (AWP P .skip Q F H) q:=fun h=>jrP (e ▸ h)
theorem jvz {id:Nat} {q:Prop} (e:Q (.exit id) F H=q):jl5 (AWP P (.exit id) Q F H) q:=fun h=>jrN (e ▸ h)
theorem jyC {q:Prop} (e:Q .ret F H=q):jl5 (AWP P .ret Q F H) q:=fun h=>juf (e ▸ h)
end
section
variable {P:Program} {H:Hp} {K:AV→Hp→Prop}
theorem js0 {t:TypeId} {zs:List Value} {q:Prop} (hz:jbK P t=some zs) (e:K (.pt (nx H.l) 0 0 0) (H.put (nx H.l) (.var t (zs.map .raw)))=q):jl5 (jdA P H t K) q:=fun h=>jmZ hz (e ▸ h)
theorem jyB {t:TypeId} {x:AV} {q:Prop} (ho:ones x.cells=true) (e:K (.pt (nx H.l) 0 0 0) (H.put (nx H.l) (.var t x.cells))=q):jl5 (js9 H t x K) q:=fun h=>jrl ho (e ▸ h)
theorem js2 {A:Nat→Prop} {d:Dep A} {q:Prop} (e:A (nx H.l)=q):jl5 (jjH H A d) q:=fun h=>jm2 (e ▸ h)
theorem jvB {t:TypeId} {sz:Nat} {q:Prop} (h0:0 < sz) (e:K (.rs (nx H.l) 0 sz 0) (H.put (nx H.l) (.vec t sz []))=q):jl5 (jkI t sz [] H K) q:=fun h=>jpi h0 (e ▸ h)
theorem jvA {t:TypeId} {sz:Nat} {css:List (List AV)} {q:Prop} (h1:jaB noQ css.flatten=true) (e:K (.sl true sz css []) H=q):jl5 (jkI t sz css H K) q:=fun h=>jph h1 (e ▸ h)
theorem jyA {t:TypeId} {a x:AV} {q:Prop} (e:jyK P t a x H K=q):jl5 (jcZ P t t a x H K) q:=fun h=>jgS (e ▸ h)
theorem j1l {d:Dep K} {r:AV} {q:Prop} (e:K r H=q):jl5 (AP K d r H) q:=fun h=>jrK (e ▸ h)
theorem jyz {a b:Prop} (h:a):jl5 (a∧b) b:=fun k=>⟨h,k⟩
end
theorem wkA {p q:Prop} (h:q) (e:jl5 p q:=by first
 | ((with_reducible apply jq2);exact rf_)
 | with_reducible exact js1
 | ((with_reducible apply jvz);exact r0_)
 | ((with_reducible apply jyC);exact r0_)
 | ((with_reducible apply jvC);exact r0_)
 | fail):p:=e h
theorem wkB {p q:Prop} (h:q) (e:jl5 p q:=by first
 | ((with_reducible apply jyA);exact rf_)
 | ((with_reducible apply j1l);exact rf_)
 | ((with_reducible apply jvB);(focus (exact sm_));exact rf_)
 | ((with_reducible apply jvA);(focus (simp only [go_sem]));exact rf_)
 | ((with_reducible apply js0);(focus (simp only [go_sem];rfl));exact rf_)
 | ((with_reducible apply jyB);(focus (simp only [go_sem]));exact rf_)
 | ((with_reducible apply js2);exact rf_)
 | ((with_reducible apply jyz);first | omega | (simp +contextual;done) | (simp +contextual;intros;omega) | fail)
 | fail):p:=e h
theorem S {p q:Prop} (h:q) (e:p=q:=by exact rg_):p:=e ▸ h
theorem Sd {p:Prop} (e:p=True:=by exact sm_):p:=of_eq_true e
theorem jad {P:Program} {Q:Exit→List AV→Hp→Prop} {F:List AV} {H:Hp} {c:Operand} {x y:Code} {b:Bool} {pt pf:Prop} (ht:pt→AWP P x Q F H) (hf:pf→AWP P y Q F H) (hc:evA F c=.raw (.bool b):=by rfl)
 (et:(b=true)=pt:=by first | (simp only [Int.reduceEq,Int.reduceLE,Int.reduceLT,Int.reduceNe,false_and,and_false,true_and,and_true,or_false,false_or,true_or,or_true,Bool.false_eq_true,Bool.true_eq_false,eq_self,reduceCtorEq,Bool.not_true,Bool.not_false,Bool.and_eq_true,Bool.or_eq_true,Bool.and_eq_false_iff,Bool.or_eq_false_iff,decide_eq_true_eq,decide_eq_false_iff_not,Bool.not_eq_true',Bool.not_eq_false',Int.not_lt,Int.not_le];rfl) | rfl) (ef:(b=false)=pf:=by first | (simp only [Int.reduceEq,Int.reduceLE,Int.reduceLT,Int.reduceNe,false_and,and_false,true_and,and_true,or_false,false_or,true_or,or_true,Bool.false_eq_true,Bool.true_eq_false,eq_self,reduceCtorEq,Bool.not_true,Bool.not_false,Bool.and_eq_true,Bool.or_eq_true,Bool.and_eq_false_iff,Bool.or_eq_false_iff,decide_eq_true_eq,decide_eq_false_iff_not,Bool.not_eq_true',Bool.not_eq_false',Int.not_lt,Int.not_le];rfl) | rfl):AWP P (.cond c x y) Q F H:=jrM hc (fun h=>ht (et ▸ h)) (fun h=>hf (ef ▸ h))
section
variable {P:Program} {f:FuncId} {args:List AV} {H:Hp} {K:AV→Hp→Prop} {q:Prop}
theorem cm {l l0:List (Nat×Row)} {r0:AV} (hc:ACalls P f args l fun r l'=>r=r0∧l'=l0) (k:q) (h1:fits l H:=by exact sm_) (h0:jab P f=true:=by exact sm_) (h2:jaB (fun i=>(ids l).contains i) args=true:=by exact sm_) (h3:jtU (fun i=>(ids l).contains i) l:=by exact sm_)
 (h4:fresh (ids l) H l0:=by exact sm_) (h5:(ids l0).Nodup:=by exact sm_) (e:K r0 ⟨H.B,je6 H.l l0⟩=q:=by exact rf_):jbm P (.raw (.func (.func f) #[] #[])) args H K:=jbQ h0 (jer hc h1 h2 h3 h4 h5 (e ▸ k))
theorem cp {r0:AV} (hc:PCall P f args r0) (k:q) (h0:jab P f=true:=by exact sm_) (h2:jaB noQ args=true:=by exact sm_) (e:K r0 H=q:=by exact rf_):jbm P (.raw (.func (.func f) #[] #[])) args H K:=jbQ h0 (jeM hc h2 (e ▸ k))
theorem cg {g:Prop} {R:AV→Prop} {A:Prop} {r0:AV} (hc:PCall P f args r0) (k:q) (h0:jab P f=true:=by exact sm_) (h2:jaB noQ args=true:=by exact sm_) (hA:g→A:=by first | exact id | (intro _;exact True.intro) | fail) (e:R r0=q:=by exact rf_) :
  ∃ r,(g→A∧jbm P (.raw (.func (.func f) #[] #[])) args H fun r' H'=>r'=r∧H'=H)∧R r:=⟨r0,fun hg=>⟨hA hg,jbQ h0 (jeM hc h2 ⟨rfl,rfl⟩)⟩,e ▸ k⟩
theorem cg' {g:Prop} {R:AV→Prop} {r0:AV} (hc:PCall P f args r0) (k:q) (h0:jab P f=true:=by exact sm_) (h2:jaB noQ args=true:=by exact sm_) (e:R r0=q:=by exact rf_) :
  ∃ r,(g→jbm P (.raw (.func (.func f) #[] #[])) args H fun r' H'=>r'=r∧H'=H)∧R r:=⟨r0,fun _=>jbQ h0 (jeM hc h2 ⟨rfl,rfl⟩),e ▸ k⟩
end
theorem FLe.perm {F:List AV} {B:List Nat} {l:List (Nat×Row)} (l':List (Nat×Row)) (h:∀ i,jas l i=jas l' i):FLe F ⟨B,l⟩ F ⟨B,l'⟩:=fun w tm h1 h2=>by
 have hg:∀ i,(Hp.mk B l').get i=(Hp.mk B l).get i:=fun i=>(h i).symm
 exact ⟨w,rfl,{ rows:=fun i r hi=>h1.rows i r ((hg i) ▸ hi),dom:=fun i m z hz=>by rw [hg];exact h1.dom i m z hz,inj:=h1.inj,own:=h1.own,fin:=h1.fin,glob:=h1.glob },h2,{ ExtQ.refl _ w with base:=rfl }⟩
theorem al {P:Program} (i:Nat) {t:TypeId} {H:Hp} {K:AV→Hp→Prop} {zs:List Value} {q:Prop} (k:q) (hi:H.get i=none:=by rfl) (hz:jbK P t=some zs:=by (simp only [go_sem];rfl)) (e:K (.pt i 0 0 0) (H.put i (.var t (zs.map .raw)))=q:=by exact rf_):jdA P H t K:=jdB i hz hi (e ▸ k)
theorem bx (i:Nat) {t:TypeId} {x:AV} {H:Hp} {K:AV→Hp→Prop} {q:Prop} (k:q) (hi:H.get i=none:=by rfl) (ho:ones x.cells=true:=by simp only [go_sem]) (e:K (.pt i 0 0 0) (H.put i (.var t x.cells))=q:=by exact rf_):js9 H t x K:=je1 i ho hi (e ▸ k)
theorem jgi {α:Type} {enc:α→List AV} (vars more ys:List α) {i:Nat} {t:TypeId} {m sz n:Nat} {css yss:List (List AV)} {H:Hp} {K:AV→Hp→Prop} {q:Prop} (k:q) (hm:m=vars.length+more.length:=by first | rfl | (simp only [go_sem];done) | omega) (hn:n=vars.length:=by rfl) (hc:css=(vars++more).map enc:=by first | rfl | exact List.map_append.symm | (simp only [go_sem,List.map_append];done)) (hy:yss=ys.map enc:=by rfl)
 (e:K (.rs i (vars.length+ys.length+(more.drop ys.length).length) sz (vars.length+ys.length)) (H.put i (.vec t sz ((vars++ys++more.drop ys.length).map enc)))=q:=by exact rf_):jiM i t m sz n css yss H K:=jm1 vars more ys hm hn hc hy (e ▸ k)
section
variable {P:Program} {Q:Exit→List AV→Hp→Prop} {F:List AV} {H:Hp}
theorem gR {P:Program} {Q:Exit→List AV→Hp→Prop} {F:List AV} {H:Hp} (id:Nat) {l:Array Oper} {b:Bool} (h:AWP P (.region id l b) Q F H):AWP P (.region id l b) Q F H:=h
theorem dE (id:Nat) {l:List Oper} {q:Prop} (ord:List Nat) (hm:P.follows .mixedOrders=true) (h:q) (hok:jkY ([],[],[]) [] l ord=true:=by decide +kernel) (e:jdF ([],[],[]) P l.toArray (Q .normal) (ord.map (atO l)) F H=q:=by (simp only [List.map_cons,List.map_nil,atO,List.getD_cons_zero,List.getD_cons_succ];exact rf_)):AWP P (.region id l.toArray true) Q F H:=jiU ord hm hok (e ▸ h)
theorem dA (id:Nat) {l:List Oper} {q:Prop} (A ord:List Nat) (hm:P.follows .mixedOrders=true) (h:q) (hok:jkY (A,[],[]) [] l ord=true:=by decide +kernel) (e:jdF (A,[],[]) P l.toArray (Q .normal) (ord.map (atO l)) F H=q:=by (simp only [List.map_cons,List.map_nil,atO,List.getD_cons_zero,List.getD_cons_succ];exact rf_)):AWP P (.region id l.toArray true) Q F H:=jen (A,[],[]) ord hm hok (e ▸ h)
theorem dL (id:Nat) {l:List Oper} {q:Prop} (A E ord:List Nat) (hm:P.follows .mixedOrders=true) (h:q) (hok:jkY (A,[],[]) E l ord=true:=by decide +kernel) (hE:jfF P l E:=by simp only [jfF,atO,List.getD_cons_zero,List.getD_cons_succ,go_sem]) (e:jdF (A,[],[]) P l.toArray (Q .normal) (ord.map (atO l)) F H=q:=by (simp only [List.map_cons,List.map_nil,atO,List.getD_cons_zero,List.getD_cons_succ];exact rf_)):AWP P (.region id l.toArray true) Q F H:=jde (A,[],[]) E ord hm hok hE (e ▸ h)
theorem dC (id:Nat) {l:List Oper} {q:Prop} (A:AS) (E ord:List Nat) (hm:P.follows .mixedOrders=true) (h:q) (hok:jkY A E l ord=true:=by decide +kernel) (hE:jfF P l E:=by simp only [jfF,atO,List.getD_cons_zero,List.getD_cons_succ,go_sem]) (e:jdF A P l.toArray (Q .normal) (ord.map (atO l)) F H=q:=by (simp only [List.map_cons,List.map_nil,atO,List.getD_cons_zero,List.getD_cons_succ];exact rf_)):AWP P (.region id l.toArray true) Q F H:=jde A E ord hm hok hE (e ▸ h)
theorem dQ (id:Nat) {l:List Oper} {q:Prop} (hm:P.follows .mixedOrders=true) (h:q) (hok:jhU l=true:=by decide +kernel) (e:je7 P l.toArray H (fun F'=>Q .normal F' H) l F=q:=by exact rf_):AWP P (.region id l.toArray true) Q F H:=jhO hm hok (e ▸ h)
theorem jnd {c:Code} (L:List Nat) (slot:Nat) (a:AV) (hB:H.B.all (jcB fun i=>L.contains i)=true) (hl:jek (fun i=>L.contains i) H.l) (hv:VToL (fun i=>L.contains i) H F (F.set slot a)) (h:AWP P c Q (F.set slot a) ⟨H.B,ja9 (fun i=>L.contains i) H.l⟩):AWP P c Q F H:=jaU (FLe.free _ hB hl hv) h
theorem jpz {c:Code} (L:List Nat) (W:List (Nat×Nat)) (J:List (Nat×AV)) (h0:(L.any fun i=>(H.get i).isSome)=true) (hB:H.B.all (jcB fun i=>L.contains i)=true) (hl:jek (fun i=>L.contains i) H.l) (hv:VToL (fun i=>L.contains i) H F (jjB J (jmC W F))) (h:AWP P c Q (jjB J (jmC W F)) ⟨H.B,ja9 (fun i=>L.contains i) H.l⟩):AWP P c Q F H:=jaU (FLe.free _ hB hl hv) h
end
theorem jgX {H H':Hp} (e:H=H':=by first | (simp only [go_sem];done) | (simp only [go_sem];rfl) | rfl | fail):H=H':=e
theorem lle {F F':List AV} (e:LLe F F':=by (simp only [go_sem,LLe,Nat.reduceAdd,AV.raw.injEq,Value.int.injEq,Value.slice.injEq,Value.pointer.injEq,AV.rs.injEq];try omega)):LLe F F':=e
theorem vtl {D:Nat→Bool} {H:Hp} {l m:List AV} (e:VToL D H l m:=by (simp only [go_sem,↓reduceIte,Int.reduceEq,Int.reduceLE,Int.reduceLT,Int.reduceNe,Int.reduceToNat,Nat.reduceMul,Nat.reduceAdd,Nat.reduceLeDiff,Nat.reduceSub,Nat.reduceEqDiff,Nat.reduceBEq,List.nodup_cons,List.nodup_nil,List.mem_cons,List.not_mem_nil,List.mem_nil_iff];repeat' (first | exact True.intro | exact jm3 _ | exact VTo.nil _ _ | exact VTo.lit _ _ _ _ _ | exact VTo.same _ rfl | (exact VTo.same _ (by simp only [go_sem,↓reduceIte,Int.reduceEq,Int.reduceLE,Int.reduceLT,Int.reduceNe,Int.reduceToNat,Nat.reduceMul,Nat.reduceAdd,Nat.reduceLeDiff,Nat.reduceSub,Nat.reduceEqDiff,Nat.reduceBEq,List.nodup_cons,List.nodup_nil,List.mem_cons,List.not_mem_nil,List.mem_nil_iff])) | (exact VTo.row _ (by first | rfl | (simp only [go_sem,↓reduceIte,Int.reduceEq,Int.reduceLE,Int.reduceLT,Int.reduceNe,Int.reduceToNat,Nat.reduceMul,Nat.reduceAdd,Nat.reduceLeDiff,Nat.reduceSub,Nat.reduceEqDiff,Nat.reduceBEq,List.nodup_cons,List.nodup_nil,List.mem_cons,List.not_mem_nil,List.mem_nil_iff];done)) (by first | (simp only [go_sem,↓reduceIte,Int.reduceEq,Int.reduceLE,Int.reduceLT,Int.reduceNe,Int.reduceToNat,Nat.reduceMul,Nat.reduceAdd,Nat.reduceLeDiff,Nat.reduceSub,Nat.reduceEqDiff,Nat.reduceBEq,List.nodup_cons,List.nodup_nil,List.mem_cons,List.not_mem_nil,List.mem_nil_iff];done) | rfl | (simp only [go_sem,↓reduceIte,Int.reduceEq,Int.reduceLE,Int.reduceLT,Int.reduceNe,Int.reduceToNat,Nat.reduceMul,Nat.reduceAdd,Nat.reduceLeDiff,Nat.reduceSub,Nat.reduceEqDiff,Nat.reduceBEq,List.nodup_cons,List.nodup_nil,List.mem_cons,List.not_mem_nil,List.mem_nil_iff];rfl)) (by first | rfl | (simp only [go_sem];done) | omega)) | refine And.intro ?_ ?_ | fail))):VToL D H l m:=e
theorem jfA {P:Program} {id:Nat} {l:List Oper} {b:Bool} {Q:Exit→List AV→Hp→Prop} {F:List AV} {H:Hp} {q:Prop} (L:List Nat) (W:List (Nat×Nat)) (J:List (Nat×AV)) (h:q) (h0:(L.any fun i=>(H.get i).isSome)=true:=by rfl) (hB:H.B.all (jcB fun i=>L.contains i)=true:=by exact sm_) (hl:jek (fun i=>L.contains i) H.l:=by exact sm_)
 (hv:VToL (fun i=>L.contains i) H F (jjB J (jmC W F)):=by exact vtl) (e:AWP P (.region id l.toArray b) Q (jjB J (jmC W F)) ⟨H.B,ja9 (fun i=>L.contains i) H.l⟩=q:=by exact rf_):AWP P (.region id l.toArray b) Q F H:=jpz L W J h0 hB hl hv (e ▸ h)
theorem jbA {P:Program} {f:FuncId} {fn:Func} {c:Code} {args:List AV} {r:AV} {k:Nat} (hf:P.funcs[f]?=some fn) (hn:fn.ntmps=k) {F:List AV} (h:AWP P c (jhu P fn fun r' l'=>r'=r∧l'=[]) F ⟨[],[]⟩) (hb:fn.body=some c:=by rfl)
 (hF:args++List.replicate (k - args.length) .any=F:=by (simp only [List.length_cons,List.length_nil,Nat.reduceAdd,Nat.reduceSub,List.replicate,List.cons_append,List.nil_append];rfl)):PCall P f args r:=jmI hf hb (by rw [hn];exact hF) h
theorem jaw {P:Program} {f:FuncId} {fn:Func} {c:Code} {args:List AV} {l:List (Nat×Row)} {R:AV→List (Nat×Row)→Prop} {k:Nat} (hf:P.funcs[f]?=some fn) (hn:fn.ntmps=k) {F:List AV} {L:List Nat} (h:AWP P c (jhu P fn R) F ⟨L,l⟩) (hb:fn.body=some c:=by rfl) (hL:ids l=L:=by rfl)
 (hF:args++List.replicate (k - args.length) .any=F:=by (simp only [List.length_cons,List.length_nil,Nat.reduceAdd,Nat.reduceSub,List.replicate,List.cons_append,List.nil_append];rfl)):ACalls P f args l R:=jkN hf hb (by rw [hn];exact hF) hL h
section
variable {P:Program} {fn:Func} {F:List AV} {H:Hp} {out:List AV} {e:Exit} {r:AV} {l:List (Nat×Row)}
theorem jbM (rs:List ResultVar) (h1:jbo out=r) (h2:H.l=l) (hrs:fn.results.toList=rs:=by rfl) (he:e=.normal∨e=.ret:=by first | exact Or.inr rfl | exact Or.inl rfl | fail) (ho:jgg P H F rs=some out:=by (simp only [go_sem,↓reduceIte,Int.reduceEq,Int.reduceLE,Int.reduceLT,Int.reduceNe,Int.reduceToNat,Nat.reduceMul,Nat.reduceAdd,Nat.reduceLeDiff,Nat.reduceSub,Nat.reduceEqDiff,Nat.reduceBEq,List.nodup_cons,List.nodup_nil,List.mem_cons,List.not_mem_nil,List.mem_nil_iff];rfl)) (hok:jbT P H F rs:=by simp only [go_sem,↓reduceIte,Int.reduceEq,Int.reduceLE,Int.reduceLT,Int.reduceNe,Int.reduceToNat,Nat.reduceMul,Nat.reduceAdd,Nat.reduceLeDiff,Nat.reduceSub,Nat.reduceEqDiff,Nat.reduceBEq,List.nodup_cons,List.nodup_nil,List.mem_cons,List.not_mem_nil,List.mem_nil_iff]) :
  jhu P fn (fun r' l'=>r'=r∧l'=l) e F H:=jsL rs hrs he ho hok h1 h2
theorem jaN (rs:List ResultVar) (hv:jbo out=r) (hrs:fn.results.toList=rs:=by rfl) (he:e=.normal∨e=.ret:=by first | exact Or.inr rfl | exact Or.inl rfl | fail) (ho:jgg P H F rs=some out:=by (simp only [go_sem,↓reduceIte,Int.reduceEq,Int.reduceLE,Int.reduceLT,Int.reduceNe,Int.reduceToNat,Nat.reduceMul,Nat.reduceAdd,Nat.reduceLeDiff,Nat.reduceSub,Nat.reduceEqDiff,Nat.reduceBEq,List.nodup_cons,List.nodup_nil,List.mem_cons,List.not_mem_nil,List.mem_nil_iff];rfl)) (hok:jbT P H F rs:=by simp only [go_sem,↓reduceIte,Int.reduceEq,Int.reduceLE,Int.reduceLT,Int.reduceNe,Int.reduceToNat,Nat.reduceMul,Nat.reduceAdd,Nat.reduceLeDiff,Nat.reduceSub,Nat.reduceEqDiff,Nat.reduceBEq,List.nodup_cons,List.nodup_nil,List.mem_cons,List.not_mem_nil,List.mem_nil_iff]) (hl:jek (jd9 H.B) H.l:=by exact sm_)
 (hq:(jbo out).all (jcB (jd9 H.B))=true:=by exact sm_) (h2:ja9 (jd9 H.B) H.l=l:=by first | rfl | (exact sm_) | (simp only [go_sem,↓reduceIte,Int.reduceEq,Int.reduceLE,Int.reduceLT,Int.reduceNe,Int.reduceToNat,Nat.reduceMul,Nat.reduceAdd,Nat.reduceLeDiff,Nat.reduceSub,Nat.reduceEqDiff,Nat.reduceBEq,List.nodup_cons,List.nodup_nil,List.mem_cons,List.not_mem_nil,List.mem_nil_iff];rfl) | fail):jhu P fn (fun r' l'=>r'=r∧l'=l) e F H:=jlE rs hrs he ho hok hl (jiP hv hq) h2
theorem jlF (rs:List ResultVar) (hv:VTo (jd9 H.B) H (jbo out) r) (hrs:fn.results.toList=rs:=by rfl) (he:e=.normal∨e=.ret:=by first | exact Or.inr rfl | exact Or.inl rfl | fail) (ho:jgg P H F rs=some out:=by (simp only [go_sem,↓reduceIte,Int.reduceEq,Int.reduceLE,Int.reduceLT,Int.reduceNe,Int.reduceToNat,Nat.reduceMul,Nat.reduceAdd,Nat.reduceLeDiff,Nat.reduceSub,Nat.reduceEqDiff,Nat.reduceBEq,List.nodup_cons,List.nodup_nil,List.mem_cons,List.not_mem_nil,List.mem_nil_iff];rfl)) (hok:jbT P H F rs:=by simp only [go_sem,↓reduceIte,Int.reduceEq,Int.reduceLE,Int.reduceLT,Int.reduceNe,Int.reduceToNat,Nat.reduceMul,Nat.reduceAdd,Nat.reduceLeDiff,Nat.reduceSub,Nat.reduceEqDiff,Nat.reduceBEq,List.nodup_cons,List.nodup_nil,List.mem_cons,List.not_mem_nil,List.mem_nil_iff]) (hl:jek (jd9 H.B) H.l:=by exact sm_)
 (h2:ja9 (jd9 H.B) H.l=l:=by first | rfl | (exact sm_) | (simp only [go_sem,↓reduceIte,Int.reduceEq,Int.reduceLE,Int.reduceLT,Int.reduceNe,Int.reduceToNat,Nat.reduceMul,Nat.reduceAdd,Nat.reduceLeDiff,Nat.reduceSub,Nat.reduceEqDiff,Nat.reduceBEq,List.nodup_cons,List.nodup_nil,List.mem_cons,List.not_mem_nil,List.mem_nil_iff];rfl) | fail):jhu P fn (fun r' l'=>r'=r∧l'=l) e F H:=jlE rs hrs he ho hok hl hv h2
end
attribute [go_sem] List.length_set
def eI (x:Int):List AV:=[.raw (.int .i64 x)]
instance:EncOK eI 1:=⟨fun _=>rfl,fun _=>rfl,fun _=>rfl⟩
@[go_sem] theorem j3K (x:Int):(eI x).length=1:=(rfl)
@[go_sem] theorem j3J (q:Nat→Bool) (x:Int):jaB q (eI x)=true:=(rfl)
@[go_sem] theorem j58 (x:Int):(eI x).getD 0 .any=.raw (.int .i64 x):=(rfl)
@[go_sem] theorem j57 (x:Int):(eI x).drop 1=[]:=(rfl)
@[go_sem] theorem j3L (l:List Int) (k:Nat) (x:Int):(l.map eI).set k [.raw (.int .i64 x)]=(l.set k x).map eI:=(List.map_set (f:=eI)).symm
def eS (x:ByteArray):List AV:=[.raw (.string x)]
instance:EncOK eS 1:=⟨fun _=>rfl,fun _=>rfl,fun _=>rfl⟩
@[go_sem] theorem j3N (x:ByteArray):(eS x).length=1:=(rfl)
@[go_sem] theorem j59 (x:ByteArray):(eS x).getD 0 .any=.raw (.string x):=(rfl)
def eB (x:Bool):List AV:=[.raw (.bool x)]
instance:EncOK eB 1:=⟨fun _=>rfl,fun _=>rfl,fun _=>rfl⟩
def eU (x:Int):List AV:=[.raw (.int .u8 x)]
instance:EncOK eU 1:=⟨fun _=>rfl,fun _=>rfl,fun _=>rfl⟩
def eLI (x:List Int):List AV:=[jal eI 1 x]
instance:EncOK eLI 1:=⟨fun _=>rfl,fun _=>rfl,fun _=>rfl⟩
@[go_sem] theorem j0w (x:List Int):(eLI x).length=1:=(rfl)
@[go_sem] theorem j3M (x:List Int):(eLI x).getD 0 .any=jal eI 1 x:=(rfl)
structure GToken where
 kind:Int
 text:ByteArray
 at_:Int
 deriving Inhabited,DecidableEq
def jb4 (x:GToken):List AV:=[.raw (.int .i64 x.kind),.raw (.string x.text),.raw (.int .i64 x.at_)]
section
variable (x y:GToken)
@[go_sem] theorem juE:(jb4 x).length=3:=(rfl)
@[go_sem] theorem jts:(jb4 x).all AV.one=true:=(rfl)
@[go_sem] theorem jml (q:Nat→Bool):jaB q (jb4 x)=true:=by simp [jb4,jaB,AV.all]
instance:EncOK jb4 3:=⟨fun _=>rfl,fun _=>rfl,fun x=>jml x _⟩
@[go_sem] theorem jtt:(jb4 x).take 3=jb4 x:=(rfl)
@[go_sem] theorem jwv:(jb4 x).getD 0 .any=.raw (.int .i64 x.kind):=(rfl)
@[go_sem] theorem jww:(jb4 x).getD 1 .any=.raw (.string x.text):=(rfl)
@[go_sem] theorem jwx:(jb4 x).getD 2 .any=.raw (.int .i64 x.at_):=(rfl)
end
structure GNode where
 kind:Int
 line:Int
 n:Int
 name:ByteArray
 l:List Int
 deriving Inhabited,DecidableEq
def jao (x:GNode):List AV:=[.raw (.int .i64 x.kind),.raw (.int .i64 x.line),.raw (.int .i64 x.n),.raw (.string x.name),jal eI 1 x.l]
section
variable (x y:GNode)
@[go_sem] theorem jwc:(jao x).length=5:=(rfl)
@[go_sem] theorem jux:(jao x).all AV.one=true:=(rfl)
@[go_sem] theorem jdb (q:Nat→Bool):jaB q (jao x)=true:=by simp [jao,jaB,AV.all]
instance:EncOK jao 5:=⟨fun _=>rfl,fun _=>rfl,fun x=>jdb x _⟩
@[go_sem] theorem juy:(jao x).take 5=jao x:=(rfl)
@[go_sem] theorem jxB:(jao x).getD 0 .any=.raw (.int .i64 x.kind):=(rfl)
@[go_sem] theorem jxC:(jao x).getD 1 .any=.raw (.int .i64 x.line):=(rfl)
@[go_sem] theorem jxD:(jao x).getD 2 .any=.raw (.int .i64 x.n):=(rfl)
@[go_sem] theorem jxE:(jao x).getD 3 .any=.raw (.string x.name):=(rfl)
@[go_sem] theorem jxF:(jao x).getD 4 .any=jal eI 1 x.l:=(rfl)
end
structure GValue where
 ty:Int
 n:Int
 s:ByteArray
 deriving Inhabited,DecidableEq
def jag (x:GValue):List AV:=[.raw (.int .i64 x.ty),.raw (.int .i64 x.n),.raw (.string x.s)]
section
variable (x y:GValue)
@[go_sem] theorem juH:(jag x).length=3:=(rfl)
@[go_sem] theorem jtu:(jag x).all AV.one=true:=(rfl)
@[go_sem] theorem jhW (q:Nat→Bool):jaB q (jag x)=true:=by simp [jag,jaB,AV.all]
instance:EncOK jag 3:=⟨fun _=>rfl,fun _=>rfl,fun x=>jhW x _⟩
@[go_sem] theorem jtv:(jag x).take 3=jag x:=(rfl)
@[go_sem] theorem jwB:(jag x).getD 0 .any=.raw (.int .i64 x.ty):=(rfl)
@[go_sem] theorem jwC:(jag x).getD 1 .any=.raw (.int .i64 x.n):=(rfl)
@[go_sem] theorem jwE (v:Int):List.take 1 (jag x)++[.raw (.int .i64 v)]++List.drop 2 (jag x)=jag { x with n:=v }:=(rfl)
@[go_sem] theorem jwD:(jag x).getD 2 .any=.raw (.string x.s):=(rfl)
@[go_sem] theorem jr4:(jag x).map jc4=[some (.int .i64),some (.int .i64),some .str]:=(rfl)
@[go_sem] theorem jwA:eqL (jag x) (jag y)=decide (x=y):=by
 rw [Bool.eq_iff_iff]
 obtain ⟨a7,a8,a9⟩:=x;obtain ⟨b10,b11,b12⟩:=y
 simp [jag,eqL]
end
structure GParam where
 name:ByteArray
 ty:Int
 deriving Inhabited,DecidableEq
def jcC (x:GParam):List AV:=[.raw (.string x.name),.raw (.int .i64 x.ty)]
section
variable (x y:GParam)
@[go_sem] theorem juz:(jcC x).length=2:=(rfl)
@[go_sem] theorem jmi (q:Nat→Bool):jaB q (jcC x)=true:=by simp [jcC,jaB,AV.all]
instance:EncOK jcC 2:=⟨fun _=>rfl,fun _=>rfl,fun x=>jmi x _⟩
@[go_sem] theorem jwd:(jcC x).getD 0 .any=.raw (.string x.name):=(rfl)
@[go_sem] theorem jwe:(jcC x).getD 1 .any=.raw (.int .i64 x.ty):=(rfl)
end
structure GFunc where
 name:ByteArray
 line:Int
 params:List GParam
 ret:Int
 body:Int
 deriving Inhabited,DecidableEq
def jbe (x:GFunc):List AV:=[.raw (.string x.name),.raw (.int .i64 x.line),jal jcC 2 x.params,.raw (.int .i64 x.ret),.raw (.int .i64 x.body)]
section
variable (x y:GFunc)
@[go_sem] theorem jwb:(jbe x).length=5:=(rfl)
@[go_sem] theorem juv:(jbe x).all AV.one=true:=(rfl)
@[go_sem] theorem jow (q:Nat→Bool):jaB q (jbe x)=true:=by simp [jbe,jaB,AV.all]
instance:EncOK jbe 5:=⟨fun _=>rfl,fun _=>rfl,fun x=>jow x _⟩
@[go_sem] theorem juw:(jbe x).take 5=jbe x:=(rfl)
@[go_sem] theorem jxx:(jbe x).getD 0 .any=.raw (.string x.name):=(rfl)
@[go_sem] theorem jxy:(jbe x).getD 2 .any=jal jcC 2 x.params:=(rfl)
@[go_sem] theorem jxz:(jbe x).getD 3 .any=.raw (.int .i64 x.ret):=(rfl)
@[go_sem] theorem jxA:(jbe x).getD 4 .any=.raw (.int .i64 x.body):=(rfl)
end
structure GTree where
 nodes:List GNode
 fns:List GFunc
 deriving Inhabited,DecidableEq
def jco (x:GTree):List AV:=[jal jao 5 x.nodes,jal jbe 5 x.fns]
section
variable (x y:GTree)
@[go_sem] theorem jwz:(jco x).length=2:=(rfl)
@[go_sem] theorem juF:(jco x).all AV.one=true:=(rfl)
@[go_sem] theorem joA (q:Nat→Bool):jaB q (jco x)=true:=by simp [jco,jaB,AV.all]
instance:EncOK jco 2:=⟨fun _=>rfl,fun _=>rfl,fun x=>joA x _⟩
@[go_sem] theorem juG:(jco x).take 2=jco x:=(rfl)
@[go_sem] theorem jxL:(jco x).getD 0 .any=jal jao 5 x.nodes:=(rfl)
@[go_sem] theorem jxM:(jco x).getD 1 .any=jal jbe 5 x.fns:=(rfl)
end
structure GVar where
 name:ByteArray
 ty:Int
 slot:Int
 deriving Inhabited,DecidableEq
def jkX (x:GVar):List AV:=[.raw (.string x.name),.raw (.int .i64 x.ty),.raw (.int .i64 x.slot)]
section
variable (x y:GVar)
@[go_sem] theorem jxN:(jkX x).length=3:=(rfl)
@[go_sem] theorem jpP (q:Nat→Bool):jaB q (jkX x)=true:=by simp [jkX,jaB,AV.all]
instance:EncOK jkX 3:=⟨fun _=>rfl,fun _=>rfl,fun x=>jpP x _⟩
@[go_sem] theorem jze:(jkX x).getD 0 .any=.raw (.string x.name):=(rfl)
@[go_sem] theorem jzf:(jkX x).getD 1 .any=.raw (.int .i64 x.ty):=(rfl)
@[go_sem] theorem jzg:(jkX x).getD 2 .any=.raw (.int .i64 x.slot):=(rfl)
end
structure GProg where
 tree:GTree
 types:List Int
 slots:List Int
 fn:List Int
 size:List Int
 deriving Inhabited,DecidableEq
def jam (x:GProg):List AV:=[jal jao 5 x.tree.nodes,jal jbe 5 x.tree.fns,jal eI 1 x.types,jal eI 1 x.slots,jal eI 1 x.fn,jal eI 1 x.size]
section
variable (x y:GProg)
@[go_sem] theorem jwk:(jam x).length=6:=(rfl)
@[go_sem] theorem juB:(jam x).all AV.one=true:=(rfl)
@[go_sem] theorem jgn (q:Nat→Bool):jaB q (jam x)=true:=by simp [jam,jaB,AV.all]
instance:EncOK jam 6:=⟨fun _=>rfl,fun _=>rfl,fun x=>jgn x _⟩
@[go_sem] theorem juC:(jam x).take 6=jam x:=(rfl)
@[go_sem] theorem jxG:(jam x).getD 0 .any=jal jao 5 x.tree.nodes:=(rfl)
@[go_sem] theorem jxH:(jam x).getD 1 .any=jal jbe 5 x.tree.fns:=(rfl)
@[go_sem] theorem jxI:(jam x).getD 2 .any=jal eI 1 x.types:=(rfl)
@[go_sem] theorem jxJ:(jam x).getD 3 .any=jal eI 1 x.slots:=(rfl)
@[go_sem] theorem jxK:(jam x).getD 5 .any=jal eI 1 x.size:=(rfl)
end
structure GPlace where
 block:Int
 at_:Int
 deriving Inhabited,DecidableEq
def jay (x:GPlace):List AV:=[.raw (.int .i64 x.block),.raw (.int .i64 x.at_)]
section
variable (x y:GPlace)
@[go_sem] theorem juA:(jay x).length=2:=(rfl)
@[go_sem] theorem jto:(jay x).all AV.one=true:=(rfl)
@[go_sem] theorem jmj (q:Nat→Bool):jaB q (jay x)=true:=by simp [jay,jaB,AV.all]
instance:EncOK jay 2:=⟨fun _=>rfl,fun _=>rfl,fun x=>jmj x _⟩
@[go_sem] theorem jtp:(jay x).take 2=jay x:=(rfl)
@[go_sem] theorem jwg:(jay x).getD 0 .any=.raw (.int .i64 x.block):=(rfl)
@[go_sem] theorem jwh:(jay x).getD 1 .any=.raw (.int .i64 x.at_):=(rfl)
@[go_sem] theorem jwi (v:Int):List.take 1 (jay x)++[.raw (.int .i64 v)]++List.drop 2 (jay x)=jay { x with at_:=v }:=(rfl)
@[go_sem] theorem jr3:(jay x).map jc4=[some (.int .i64),some (.int .i64)]:=(rfl)
@[go_sem] theorem jwf:eqL (jay x) (jay y)=decide (x=y):=by
 rw [Bool.eq_iff_iff]
 obtain ⟨a23,a24⟩:=x;obtain ⟨b25,b26⟩:=y
 simp [jay,eqL]
end
structure GFrame where
 fn:Int
 slots:List GValue
 path:List GPlace
 deriving Inhabited,DecidableEq
def jaJ (x:GFrame):List AV:=[.raw (.int .i64 x.fn),jal jag 3 x.slots,jal jay 2 x.path]
section
variable (x y:GFrame)
@[go_sem] theorem juu:(jaJ x).length=3:=(rfl)
@[go_sem] theorem jtm:(jaJ x).all AV.one=true:=(rfl)
@[go_sem] theorem jhV (q:Nat→Bool):jaB q (jaJ x)=true:=by simp [jaJ,jaB,AV.all]
instance:EncOK jaJ 3:=⟨fun _=>rfl,fun _=>rfl,fun x=>jhV x _⟩
@[go_sem] theorem jtn:(jaJ x).take 3=jaJ x:=(rfl)
@[go_sem] theorem jv8:(jaJ x).getD 0 .any=.raw (.int .i64 x.fn):=(rfl)
@[go_sem] theorem jv9:(jaJ x).getD 1 .any=jal jag 3 x.slots:=(rfl)
@[go_sem] theorem jwa:(jaJ x).getD 2 .any=jal jay 2 x.path:=(rfl)
end
structure GState where
 frames:List GFrame
 heap:List (List Int)
 in_:Int
 out_:List ByteArray
 status:Int
 trap:Int
 time:Int
 deriving Inhabited,DecidableEq
def jai (x:GState):List AV:=[jal jaJ 3 x.frames,jal eLI 1 x.heap,.raw (.int .i64 x.in_),jal eS 1 x.out_,.raw (.int .i64 x.status),.raw (.int .i64 x.trap),.raw (.int .i64 x.time)]
section
variable (x y:GState)
@[go_sem] theorem juD:(jai x).length=7:=(rfl)
@[go_sem] theorem jtq:(jai x).all AV.one=true:=(rfl)
@[go_sem] theorem jcD (q:Nat→Bool):jaB q (jai x)=true:=by simp [jai,jaB,AV.all]
instance:EncOK jai 7:=⟨fun _=>rfl,fun _=>rfl,fun x=>jcD x _⟩
@[go_sem] theorem jtr:(jai x).take 7=jai x:=(rfl)
@[go_sem] theorem jwl:(jai x).getD 0 .any=jal jaJ 3 x.frames:=(rfl)
@[go_sem] theorem jwm:(jai x).getD 1 .any=jal eLI 1 x.heap:=(rfl)
@[go_sem] theorem jwn:(jai x).getD 2 .any=.raw (.int .i64 x.in_):=(rfl)
@[go_sem] theorem jwo:(jai x).getD 3 .any=jal eS 1 x.out_:=(rfl)
@[go_sem] theorem jwp:(jai x).getD 4 .any=.raw (.int .i64 x.status):=(rfl)
@[go_sem] theorem jws (v:Int):List.take 4 (jai x)++[.raw (.int .i64 v)]++List.drop 5 (jai x)=jai { x with status:=v }:=(rfl)
@[go_sem] theorem jwq:(jai x).getD 5 .any=.raw (.int .i64 x.trap):=(rfl)
@[go_sem] theorem jwt (v:Int):List.take 5 (jai x)++[.raw (.int .i64 v)]++List.drop 6 (jai x)=jai { x with trap:=v }:=(rfl)
@[go_sem] theorem jwr:(jai x).getD 6 .any=.raw (.int .i64 x.time):=(rfl)
@[go_sem] theorem jwu (v:Int):List.take 6 (jai x)++[.raw (.int .i64 v)]++List.drop 7 (jai x)=jai { x with time:=v }:=(rfl)
end
structure GSpot where
 fn:Int
 node:Int
 slots:List GValue
 deriving Inhabited,DecidableEq
def jnj (x:GSpot):List AV:=[.raw (.int .i64 x.fn),.raw (.int .i64 x.node),jal jag 3 x.slots]
section
variable (x y:GSpot)
@[go_sem] theorem joz (q:Nat→Bool):jaB q (jnj x)=true:=by simp [jnj,jaB,AV.all]
instance:EncOK jnj 3:=⟨fun _=>rfl,fun _=>rfl,fun x=>joz x _⟩
end
structure GShot where
 calls:List GSpot
 heap:List (List Int)
 in_:Int
 out_:List ByteArray
 status:Int
 trap:Int
 time:Int
 deriving Inhabited,DecidableEq
def jpO (x:GShot):List AV:=[jal jnj 3 x.calls,jal eLI 1 x.heap,.raw (.int .i64 x.in_),jal eS 1 x.out_,.raw (.int .i64 x.status),.raw (.int .i64 x.trap),.raw (.int .i64 x.time)]
section
variable (x y:GShot)
@[go_sem] theorem joy (q:Nat→Bool):jaB q (jpO x)=true:=by simp [jpO,jaB,AV.all]
instance:EncOK jpO 7:=⟨fun _=>rfl,fun _=>rfl,fun x=>joy x _⟩
end
structure GShown where
 name:ByteArray
 text:ByteArray
 deriving Inhabited,DecidableEq
def jjW (x:GShown):List AV:=[.raw (.string x.name),.raw (.string x.text)]
section
variable (x y:GShown)
@[go_sem] theorem jmk (q:Nat→Bool):jaB q (jjW x)=true:=by simp [jjW,jaB,AV.all]
instance:EncOK jjW 2:=⟨fun _=>rfl,fun _=>rfl,fun x=>jmk x _⟩
end
structure GSeen where
 name:ByteArray
 line:Int
 vars:List GShown
 deriving Inhabited,DecidableEq
def jni (x:GSeen):List AV:=[.raw (.string x.name),.raw (.int .i64 x.line),jal jjW 2 x.vars]
section
variable (x y:GSeen)
@[go_sem] theorem jox (q:Nat→Bool):jaB q (jni x)=true:=by simp [jni,jaB,AV.all]
instance:EncOK jni 3:=⟨fun _=>rfl,fun _=>rfl,fun x=>jox x _⟩
end
structure GView where
 calls:List GSeen
 out_:List ByteArray
 in_:Int
 status:Int
 trap:Int
 deriving Inhabited,DecidableEq
def jpQ (x:GView):List AV:=[jal jni 3 x.calls,jal eS 1 x.out_,.raw (.int .i64 x.in_),.raw (.int .i64 x.status),.raw (.int .i64 x.trap)]
section
variable (x y:GView)
@[go_sem] theorem joB (q:Nat→Bool):jaB q (jpQ x)=true:=by simp [jpQ,jaB,AV.all]
instance:EncOK jpQ 5:=⟨fun _=>rfl,fun _=>rfl,fun x=>joB x _⟩
end
structure GInstr where
 op:Int
 a:Int
 b:Int
 s:ByteArray
 deriving Inhabited,DecidableEq
def jjV (x:GInstr):List AV:=[.raw (.int .i64 x.op),.raw (.int .i64 x.a),.raw (.int .i64 x.b),.raw (.string x.s)]
section
variable (x y:GInstr)
@[go_sem] theorem jmh (q:Nat→Bool):jaB q (jjV x)=true:=by simp [jjV,jaB,AV.all]
instance:EncOK jjV 4:=⟨fun _=>rfl,fun _=>rfl,fun x=>jmh x _⟩
end
structure GCode where
 ins:List GInstr
 entry:List Int
 deriving Inhabited,DecidableEq
def jpN (x:GCode):List AV:=[jal jjV 4 x.ins,jal eI 1 x.entry]
section
variable (x y:GCode)
@[go_sem] theorem jov (q:Nat→Bool):jaB q (jpN x)=true:=by simp [jpN,jaB,AV.all]
instance:EncOK jpN 2:=⟨fun _=>rfl,fun _=>rfl,fun x=>jov x _⟩
end
end Go.Gd

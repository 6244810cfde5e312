/- The steps of a walk as lemmas; what each asks beside is reckoned by its own default. The data of the program as Lean structures, and their cells. No conditions. -/
import Derived.Test.YtfkgcobaheegbaaGreatDoorGdO
set_option linter.all false
namespace Go.Gd
open Go
universe u
theorem sm_ {q:Prop} (e:q:=by first | (simp (disch:=first | omega | assumption | fail) only [go_sem,jeR,W,↓reduceIte,Int.reduceEq,Int.reduceLE,Int.reduceLT,Int.reduceNe,Int.reduceToNat,Nat.reduceMul,Nat.reduceAdd,Nat.reduceLeDiff,Nat.reduceSub,Nat.reduceEqDiff,Nat.reduceBEq,List.nodup_cons,List.nodup_nil,List.mem_cons,List.not_mem_nil,List.mem_nil_iff];done) | (simp (disch:=first | omega | assumption | fail) only [go_sem,jeR,↓reduceIte,Int.reduceEq,Int.reduceLE,Int.reduceLT,Int.reduceNe,Int.reduceToNat,Nat.reduceMul,Nat.reduceAdd,Nat.reduceLeDiff,Nat.reduceSub,Nat.reduceEqDiff,Nat.reduceBEq,List.nodup_cons,List.nodup_nil,List.mem_cons,List.not_mem_nil,List.mem_nil_iff];done) | fail):q:=e
theorem rf_ {q:Prop} (e:q:=by first | (simp (disch:=first | omega | assumption | fail) only [go_sem,jeR,W,↓reduceIte,Int.reduceEq,Int.reduceLE,Int.reduceLT,Int.reduceNe,Int.reduceToNat,Nat.reduceMul,Nat.reduceAdd,Nat.reduceLeDiff,Nat.reduceSub,Nat.reduceEqDiff,Nat.reduceBEq,List.nodup_cons,List.nodup_nil,List.mem_cons,List.not_mem_nil,List.mem_nil_iff];rfl) | (simp (disch:=first | omega | assumption | fail) only [go_sem,jeR,↓reduceIte,Int.reduceEq,Int.reduceLE,Int.reduceLT,Int.reduceNe,Int.reduceToNat,Nat.reduceMul,Nat.reduceAdd,Nat.reduceLeDiff,Nat.reduceSub,Nat.reduceEqDiff,Nat.reduceBEq,List.nodup_cons,List.nodup_nil,List.mem_cons,List.not_mem_nil,List.mem_nil_iff];rfl) | rfl | fail):q:=e
theorem rg_ {q:Prop} (e:q:=by first | (simp (disch:=first | omega | assumption | fail) only [go_sem,jeR,W,↓reduceIte,Int.reduceEq,Int.reduceLE,Int.reduceLT,Int.reduceNe,Int.reduceToNat,Nat.reduceMul,Nat.reduceAdd,Nat.reduceLeDiff,Nat.reduceSub,Nat.reduceEqDiff,Nat.reduceBEq,List.nodup_cons,List.nodup_nil,List.mem_cons,List.not_mem_nil,List.mem_nil_iff];rfl) | (simp (disch:=first | omega | assumption | fail) only [go_sem,jeR,↓reduceIte,Int.reduceEq,Int.reduceLE,Int.reduceLT,Int.reduceNe,Int.reduceToNat,Nat.reduceMul,Nat.reduceAdd,Nat.reduceLeDiff,Nat.reduceSub,Nat.reduceEqDiff,Nat.reduceBEq,List.nodup_cons,List.nodup_nil,List.mem_cons,List.not_mem_nil,List.mem_nil_iff];rfl) | fail):q:=e
theorem r0_ {q:Prop} (e:q:=by first | (simp only [go_sem,↓reduceIte,Int.reduceEq,Int.reduceLE,Int.reduceLT,Int.reduceNe,Int.reduceToNat,Nat.reduceMul,Nat.reduceAdd,Nat.reduceLeDiff,Nat.reduceSub,Nat.reduceEqDiff,Nat.reduceBEq,List.nodup_cons,List.nodup_nil,List.mem_cons,List.not_mem_nil,List.mem_nil_iff];rfl) | rfl | fail):q:=e
@[go_sem] theorem jub {α:Type} [Inhabited α] (f:α→List AV) (a:List α) (b:List (List AV)) (k:Nat) (h:k < a.length):(a.map f++b).getD k []=f (nth a k):=by
 rw [ja3 h,List.getD_eq_getElem?_getD,List.getElem?_append_left (by simpa using h)]
 simp [h]
attribute [go_sem] List.isEmpty_nil
@[congr] theorem jx6 {P:Program} {c:Code} {Q:Exit→List AV→Hp→Prop} {F F':List AV} {H H':Hp} (h1:F=F') (h2:H=H'):AWP P c Q F H=AWP P c Q F' H':=by rw [h1,h2]
def jmQ (p q:Prop):Prop:=q→p
section
variable {P:Program} {Q:Exit→List AV→Hp→Prop} {F:List AV} {H:Hp}
theorem jrN {id:Nat} {l:List Oper} {q:Prop} (e:vcl P l.toArray (Q .normal) l F H=q):jmQ (AWP P (.region id l.toArray false) Q F H) q:=fun h=>jjG (e ▸ h)
theorem jtG {id:Nat} {c:Code}:jmQ (AWP P (.block id c) Q F H) (AWP P c (jhf id Q) F H):=jqp
theorem jwp {q:Prop} (e:Q .normal F H=q):jmQ (AWP P .skip Q F H) q:=fun h=>jsx (e ▸ h)
theorem jwm {id:Nat} {q:Prop} (e:Q (.exit id) F H=q):jmQ (AWP P (.exit id) Q F H) q:=fun h=>jsv (e ▸ h)
theorem jzt {q:Prop} (e:Q .ret F H=q):jmQ (AWP P .ret Q F H) q:=fun h=>juU (e ▸ h)
end
section
variable {P:Program} {H:Hp} {K:AV→Hp→Prop}
theorem jtF {t:TypeId} {zs:List Value} {q:Prop} (hz:jbN P t=some zs) (e:K (.pt (nx H.l) 0 0 0) (H.put (nx H.l) (.var t (zs.map .raw)))=q):jmQ (jdC P H t K) q:=fun h=>jnH hz (e ▸ h)
theorem jzs {t:TypeId} {x:AV} {q:Prop} (ho:ones x.cells=true) (e:K (.pt (nx H.l) 0 0 0) (H.put (nx H.l) (.var t x.cells))=q):jmQ (jtM H t x K) q:=fun h=>jr1 ho (e ▸ h)
theorem jtH {A:Nat→Prop} {d:Dep A} {q:Prop} (e:A (nx H.l)=q):jmQ (jkq H A d) q:=fun h=>jnK (e ▸ h)
theorem jwo {t:TypeId} {sz:Nat} {q:Prop} (h0:0 < sz) (e:K (.rs (nx H.l) 0 sz 0) (H.put (nx H.l) (.vec t sz []))=q):jmQ (jls t sz [] H K) q:=fun h=>jp7 h0 (e ▸ h)
theorem jwn {t:TypeId} {sz:Nat} {css:List (List AV)} {q:Prop} (h1:jaE noQ css.flatten=true) (e:K (.sl true sz css []) H=q):jmQ (jls t sz css H K) q:=fun h=>jp6 h1 (e ▸ h)
theorem jzr {t:TypeId} {a x:AV} {q:Prop} (e:jzC P t a x H K=q):jmQ (jc5 P t t a x H K) q:=fun h=>jhh (e ▸ h)
theorem j2s {d:Dep K} {r:AV} {q:Prop} (e:K r H=q):jmQ (AP K d r H) q:=fun h=>jsq (e ▸ h)
theorem jzq {a b:Prop} (h:a):jmQ (a∧b) b:=fun k=>⟨h,k⟩
end
theorem wkA {p q:Prop} (h:q) (e:jmQ p q:=by first
 | ((with_reducible apply jrN);exact rf_)
 | with_reducible exact jtG
 | ((with_reducible apply jwm);exact r0_)
 | ((with_reducible apply jzt);exact r0_)
 | ((with_reducible apply jwp);exact r0_)
 | fail):p:=e h
theorem wkB {p q:Prop} (h:q) (e:jmQ p q:=by first
 | ((with_reducible apply jzr);exact rf_)
 | ((with_reducible apply j2s);exact rf_)
 | ((with_reducible apply jwo);(focus (exact sm_));exact rf_)
 | ((with_reducible apply jwn);(focus (simp only [go_sem]));exact rf_)
 | ((with_reducible apply jtF);(focus (simp only [go_sem];rfl));exact rf_)
 | ((with_reducible apply jzs);(focus (simp only [go_sem]));exact rf_)
 | ((with_reducible apply jtH);exact rf_)
 | ((with_reducible apply jzq);first | omega | (simp +contextual;done) | (simp +contextual;intros;omega) | fail)
 | fail):p:=e h
theorem S {p q:Prop} (h:q) (e:p=q:=by exact rg_):p:=e ▸ h
theorem Sd {p:Prop} (e:p=True:=by exact sm_):p:=of_eq_true e
theorem jae {P:Program} {Q:Exit→List AV→Hp→Prop} {F:List AV} {H:Hp} {c:Operand} {x y:Code} {b:Bool} {pt pf:Prop} (ht:pt→AWP P x Q F H) (hf:pf→AWP P y Q F H) (hc:evA F c=.raw (.bool b):=by rfl)
 (et:(b=true)=pt:=by first | (simp only [Int.reduceEq,Int.reduceLE,Int.reduceLT,Int.reduceNe,false_and,and_false,true_and,and_true,or_false,false_or,true_or,or_true,Bool.false_eq_true,Bool.true_eq_false,eq_self,reduceCtorEq,Bool.not_true,Bool.not_false,Bool.and_eq_true,Bool.or_eq_true,Bool.and_eq_false_iff,Bool.or_eq_false_iff,decide_eq_true_eq,decide_eq_false_iff_not,Bool.not_eq_true',Bool.not_eq_false',Int.not_lt,Int.not_le];rfl) | rfl) (ef:(b=false)=pf:=by first | (simp only [Int.reduceEq,Int.reduceLE,Int.reduceLT,Int.reduceNe,false_and,and_false,true_and,and_true,or_false,false_or,true_or,or_true,Bool.false_eq_true,Bool.true_eq_false,eq_self,reduceCtorEq,Bool.not_true,Bool.not_false,Bool.and_eq_true,Bool.or_eq_true,Bool.and_eq_false_iff,Bool.or_eq_false_iff,decide_eq_true_eq,decide_eq_false_iff_not,Bool.not_eq_true',Bool.not_eq_false',Int.not_lt,Int.not_le];rfl) | rfl):AWP P (.cond c x y) Q F H:=jsu hc (fun h=>ht (et ▸ h)) (fun h=>hf (ef ▸ h))
section
variable {P:Program} {f:FuncId} {args:List AV} {H:Hp} {K:AV→Hp→Prop} {q:Prop}
theorem cm {l l0:List (Nat×Row)} {r0:AV} (hc:ACalls P f args l fun r l'=>r=r0∧l'=l0) (k:q) (h1:fits l H:=by exact sm_) (h0:jad P f=true:=by exact sm_) (h2:jaE (fun i=>(ids l).contains i) args=true:=by exact sm_) (h3:jux (fun i=>(ids l).contains i) l:=by exact sm_)
 (h4:fresh (ids l) H l0:=by exact sm_) (h5:(ids l0).Nodup:=by exact sm_) (e:K r0 ⟨H.B,jfk H.l l0⟩=q:=by exact rf_):jbq P (.raw (.func (.func f) #[] #[])) args H K:=jbU h0 (jeB hc h1 h2 h3 h4 h5 (e ▸ k))
theorem cp {r0:AV} (hc:PCall P f args r0) (k:q) (h0:jad P f=true:=by exact sm_) (h2:jaE noQ args=true:=by exact sm_) (e:K r0 H=q:=by exact rf_):jbq P (.raw (.func (.func f) #[] #[])) args H K:=jbU h0 (jeZ hc h2 (e ▸ k))
theorem cg {g:Prop} {R:AV→Prop} {A:Prop} {r0:AV} (hc:PCall P f args r0) (k:q) (h0:jad P f=true:=by exact sm_) (h2:jaE noQ args=true:=by exact sm_) (hA:g→A:=by first | exact id | (intro _;exact True.intro) | fail) (e:R r0=q:=by exact rf_) :
  ∃ r,(g→A∧jbq P (.raw (.func (.func f) #[] #[])) args H fun r' H'=>r'=r∧H'=H)∧R r:=⟨r0,fun hg=>⟨hA hg,jbU h0 (jeZ hc h2 ⟨rfl,rfl⟩)⟩,e ▸ k⟩
theorem cg' {g:Prop} {R:AV→Prop} {r0:AV} (hc:PCall P f args r0) (k:q) (h0:jad P f=true:=by exact sm_) (h2:jaE noQ args=true:=by exact sm_) (e:R r0=q:=by exact rf_) :
  ∃ r,(g→jbq P (.raw (.func (.func f) #[] #[])) args H fun r' H'=>r'=r∧H'=H)∧R r:=⟨r0,fun _=>jbU h0 (jeZ hc h2 ⟨rfl,rfl⟩),e ▸ k⟩
end
theorem FLe.perm {F:List AV} {B:List Nat} {l:List (Nat×Row)} (l':List (Nat×Row)) (h:∀ i,jau l i=jau l' i):FLe F ⟨B,l⟩ F ⟨B,l'⟩:=fun w tm h1 h2=>by
 have hg:∀ i,(Hp.mk B l').get i=(Hp.mk B l).get i:=fun i=>(h i).symm
 exact ⟨w,rfl,{ rows:=fun i r hi=>h1.rows i r ((hg i) ▸ hi),dom:=fun i m z hz=>by rw [hg];exact h1.dom i m z hz,inj:=h1.inj,own:=h1.own,fin:=h1.fin,glob:=h1.glob },h2,{ ExtQ.refl _ w with base:=rfl }⟩
theorem al {P:Program} (i:Nat) {t:TypeId} {H:Hp} {K:AV→Hp→Prop} {zs:List Value} {q:Prop} (k:q) (hi:H.get i=none:=by rfl) (hz:jbN P t=some zs:=by (simp only [go_sem];rfl)) (e:K (.pt i 0 0 0) (H.put i (.var t (zs.map .raw)))=q:=by exact rf_):jdC P H t K:=jdD i hz hi (e ▸ k)
theorem bx (i:Nat) {t:TypeId} {x:AV} {H:Hp} {K:AV→Hp→Prop} {q:Prop} (k:q) (hi:H.get i=none:=by rfl) (ho:ones x.cells=true:=by simp only [go_sem]) (e:K (.pt i 0 0 0) (H.put i (.var t x.cells))=q:=by exact rf_):jtM H t x K:=jfg i ho hi (e ▸ k)
theorem jgB {α:Type} {enc:α→List AV} (vars more ys:List α) {i:Nat} {t:TypeId} {m sz n:Nat} {css yss:List (List AV)} {H:Hp} {K:AV→Hp→Prop} {q:Prop} (k:q) (hm:m=vars.length+more.length:=by first | rfl | (simp only [go_sem];done) | omega) (hn:n=vars.length:=by rfl) (hc:css=(vars++more).map enc:=by first | rfl | exact List.map_append.symm | (simp only [go_sem,List.map_append];done)) (hy:yss=ys.map enc:=by rfl)
 (e:K (.rs i (vars.length+ys.length+(more.drop ys.length).length) sz (vars.length+ys.length)) (H.put i (.vec t sz ((vars++ys++more.drop ys.length).map enc)))=q:=by exact rf_):jjw i t m sz n css yss H K:=jnJ vars more ys hm hn hc hy (e ▸ k)
section
variable {P:Program} {Q:Exit→List AV→Hp→Prop} {F:List AV} {H:Hp}
theorem gR {P:Program} {Q:Exit→List AV→Hp→Prop} {F:List AV} {H:Hp} (id:Nat) {l:Array Oper} {b:Bool} (h:AWP P (.region id l b) Q F H):AWP P (.region id l b) Q F H:=h
theorem dE (id:Nat) {l:List Oper} {q:Prop} (ord:List Nat) (hm:P.follows .mixedOrders=true) (h:q) (hok:jlK ([],[],[]) [] l ord=true:=by decide +kernel) (e:jdK ([],[],[]) P l.toArray (Q .normal) (ord.map (atO l)) F H=q:=by (simp only [List.map_cons,List.map_nil,atO,List.getD_cons_zero,List.getD_cons_succ];exact rf_)):AWP P (.region id l.toArray true) Q F H:=jjF ord hm hok (e ▸ h)
theorem dA (id:Nat) {l:List Oper} {q:Prop} (A ord:List Nat) (hm:P.follows .mixedOrders=true) (h:q) (hok:jlK (A,[],[]) [] l ord=true:=by decide +kernel) (e:jdK (A,[],[]) P l.toArray (Q .normal) (ord.map (atO l)) F H=q:=by (simp only [List.map_cons,List.map_nil,atO,List.getD_cons_zero,List.getD_cons_succ];exact rf_)):AWP P (.region id l.toArray true) Q F H:=jew (A,[],[]) ord hm hok (e ▸ h)
theorem dL (id:Nat) {l:List Oper} {q:Prop} (A E ord:List Nat) (hm:P.follows .mixedOrders=true) (h:q) (hok:jlK (A,[],[]) E l ord=true:=by decide +kernel) (hE:jfY P l E:=by simp only [jfY,atO,List.getD_cons_zero,List.getD_cons_succ,go_sem]) (e:jdK (A,[],[]) P l.toArray (Q .normal) (ord.map (atO l)) F H=q:=by (simp only [List.map_cons,List.map_nil,atO,List.getD_cons_zero,List.getD_cons_succ];exact rf_)):AWP P (.region id l.toArray true) Q F H:=jdg (A,[],[]) E ord hm hok hE (e ▸ h)
theorem dC (id:Nat) {l:List Oper} {q:Prop} (A:AS) (E ord:List Nat) (hm:P.follows .mixedOrders=true) (h:q) (hok:jlK A E l ord=true:=by decide +kernel) (hE:jfY P l E:=by simp only [jfY,atO,List.getD_cons_zero,List.getD_cons_succ,go_sem]) (e:jdK A P l.toArray (Q .normal) (ord.map (atO l)) F H=q:=by (simp only [List.map_cons,List.map_nil,atO,List.getD_cons_zero,List.getD_cons_succ];exact rf_)):AWP P (.region id l.toArray true) Q F H:=jdg A E ord hm hok hE (e ▸ h)
theorem dQ (id:Nat) {l:List Oper} {q:Prop} (hm:P.follows .mixedOrders=true) (h:q) (hok:jiz l=true:=by decide +kernel) (e:jfo P l.toArray H (fun F'=>Q .normal F' H) l F=q:=by exact rf_):AWP P (.region id l.toArray true) Q F H:=jir hm hok (e ▸ h)
theorem jnW {c:Code} (L:List Nat) (slot:Nat) (a:AV) (hB:H.B.all (jcQ fun i=>L.contains i)=true) (hl:jeu (fun i=>L.contains i) H.l) (hv:VToL (fun i=>L.contains i) H F (F.set slot a)) (h:AWP P c Q (F.set slot a) ⟨H.B,jbf (fun i=>L.contains i) H.l⟩):AWP P c Q F H:=ja1 (FLe.free _ hB hl hv) h
theorem jqq {c:Code} (L:List Nat) (W:List (Nat×Nat)) (J:List (Nat×AV)) (h0:(L.any fun i=>(H.get i).isSome)=true) (hB:H.B.all (jcQ fun i=>L.contains i)=true) (hl:jeu (fun i=>L.contains i) H.l) (hv:VToL (fun i=>L.contains i) H F (jly J (joC W F))) (h:AWP P c Q (jly J (joC W F)) ⟨H.B,jbf (fun i=>L.contains i) H.l⟩):AWP P c Q F H:=ja1 (FLe.free _ hB hl hv) h
end
theorem jhO {H H':Hp} (e:H=H':=by first | (simp only [go_sem];done) | (simp only [go_sem];rfl) | rfl | fail):H=H':=e
theorem lle {F F':List AV} (e:LLe F F':=by (simp only [go_sem,LLe,Nat.reduceAdd,AV.raw.injEq,Value.int.injEq,Value.slice.injEq,Value.pointer.injEq,AV.rs.injEq];try omega)):LLe F F':=e
theorem vtl {D:Nat→Bool} {H:Hp} {l m:List AV} (e:VToL D H l m:=by (simp only [go_sem,↓reduceIte,Int.reduceEq,Int.reduceLE,Int.reduceLT,Int.reduceNe,Int.reduceToNat,Nat.reduceMul,Nat.reduceAdd,Nat.reduceLeDiff,Nat.reduceSub,Nat.reduceEqDiff,Nat.reduceBEq,List.nodup_cons,List.nodup_nil,List.mem_cons,List.not_mem_nil,List.mem_nil_iff];repeat' (first | exact True.intro | exact jr5 _ | exact VTo.nil _ _ | exact VTo.lit _ _ _ _ _ | exact VTo.same _ rfl | (exact VTo.same _ (by simp only [go_sem,↓reduceIte,Int.reduceEq,Int.reduceLE,Int.reduceLT,Int.reduceNe,Int.reduceToNat,Nat.reduceMul,Nat.reduceAdd,Nat.reduceLeDiff,Nat.reduceSub,Nat.reduceEqDiff,Nat.reduceBEq,List.nodup_cons,List.nodup_nil,List.mem_cons,List.not_mem_nil,List.mem_nil_iff])) | (exact VTo.row _ (by first | rfl | (simp only [go_sem,↓reduceIte,Int.reduceEq,Int.reduceLE,Int.reduceLT,Int.reduceNe,Int.reduceToNat,Nat.reduceMul,Nat.reduceAdd,Nat.reduceLeDiff,Nat.reduceSub,Nat.reduceEqDiff,Nat.reduceBEq,List.nodup_cons,List.nodup_nil,List.mem_cons,List.not_mem_nil,List.mem_nil_iff];done)) (by first | (simp only [go_sem,↓reduceIte,Int.reduceEq,Int.reduceLE,Int.reduceLT,Int.reduceNe,Int.reduceToNat,Nat.reduceMul,Nat.reduceAdd,Nat.reduceLeDiff,Nat.reduceSub,Nat.reduceEqDiff,Nat.reduceBEq,List.nodup_cons,List.nodup_nil,List.mem_cons,List.not_mem_nil,List.mem_nil_iff];done) | rfl | (simp only [go_sem,↓reduceIte,Int.reduceEq,Int.reduceLE,Int.reduceLT,Int.reduceNe,Int.reduceToNat,Nat.reduceMul,Nat.reduceAdd,Nat.reduceLeDiff,Nat.reduceSub,Nat.reduceEqDiff,Nat.reduceBEq,List.nodup_cons,List.nodup_nil,List.mem_cons,List.not_mem_nil,List.mem_nil_iff];rfl)) (by first | rfl | (simp only [go_sem];done) | omega)) | refine And.intro ?_ ?_ | fail))):VToL D H l m:=e
theorem jis {P:Program} {id:Nat} {l:List Oper} {b:Bool} {Q:Exit→List AV→Hp→Prop} {F:List AV} {H:Hp} {q:Prop} (L:List Nat) (W:List (Nat×Nat)) (J:List (Nat×AV)) (h:q) (h0:(L.any fun i=>(H.get i).isSome)=true:=by rfl) (hB:H.B.all (jcQ fun i=>L.contains i)=true:=by exact sm_) (hl:jeu (fun i=>L.contains i) H.l:=by exact sm_)
 (hv:VToL (fun i=>L.contains i) H F (jly J (joC W F)):=by exact vtl) (e:AWP P (.region id l.toArray b) Q (jly J (joC W F)) ⟨H.B,jbf (fun i=>L.contains i) H.l⟩=q:=by exact rf_):AWP P (.region id l.toArray b) Q F H:=jqq L W J h0 hB hl hv (e ▸ h)
theorem jb9 {P:Program} {f:FuncId} {fn:Func} {c:Code} {args:List AV} {r:AV} {k:Nat} (hf:P.funcs[f]?=some fn) (hn:fn.ntmps=k) {F:List AV} (h:AWP P c (jjz P fn fun r' l'=>r'=r∧l'=[]) F ⟨[],[]⟩) (hb:fn.body=some c:=by rfl)
 (hF:args++List.replicate (k - args.length) .any=F:=by (simp only [List.length_cons,List.length_nil,Nat.reduceAdd,Nat.reduceSub,List.replicate,List.cons_append,List.nil_append];rfl)):PCall P f args r:=jnp hf hb (by rw [hn];exact hF) h
theorem jaK {P:Program} {f:FuncId} {fn:Func} {c:Code} {args:List AV} {l:List (Nat×Row)} {R:AV→List (Nat×Row)→Prop} {k:Nat} (hf:P.funcs[f]?=some fn) (hn:fn.ntmps=k) {F:List AV} {L:List Nat} (h:AWP P c (jjz P fn R) F ⟨L,l⟩) (hb:fn.body=some c:=by rfl) (hL:ids l=L:=by rfl)
 (hF:args++List.replicate (k - args.length) .any=F:=by (simp only [List.length_cons,List.length_nil,Nat.reduceAdd,Nat.reduceSub,List.replicate,List.cons_append,List.nil_append];rfl)):ACalls P f args l R:=jlA hf hb (by rw [hn];exact hF) hL h
section
variable {P:Program} {fn:Func} {F:List AV} {H:Hp} {out:List AV} {e:Exit} {r:AV} {l:List (Nat×Row)}
theorem jbS (rs:List ResultVar) (h1:jby out=r) (h2:H.l=l) (hrs:fn.results.toList=rs:=by rfl) (he:e=.normal∨e=.ret:=by first | exact Or.inr rfl | exact Or.inl rfl | fail) (ho:jgC P H F rs=some out:=by (simp only [go_sem,↓reduceIte,Int.reduceEq,Int.reduceLE,Int.reduceLT,Int.reduceNe,Int.reduceToNat,Nat.reduceMul,Nat.reduceAdd,Nat.reduceLeDiff,Nat.reduceSub,Nat.reduceEqDiff,Nat.reduceBEq,List.nodup_cons,List.nodup_nil,List.mem_cons,List.not_mem_nil,List.mem_nil_iff];rfl)) (hok:jbW P H F rs:=by simp only [go_sem,↓reduceIte,Int.reduceEq,Int.reduceLE,Int.reduceLT,Int.reduceNe,Int.reduceToNat,Nat.reduceMul,Nat.reduceAdd,Nat.reduceLeDiff,Nat.reduceSub,Nat.reduceEqDiff,Nat.reduceBEq,List.nodup_cons,List.nodup_nil,List.mem_cons,List.not_mem_nil,List.mem_nil_iff]) :
  jjz P fn (fun r' l'=>r'=r∧l'=l) e F H:=jts rs hrs he ho hok h1 h2
theorem ja2 (rs:List ResultVar) (hv:jby out=r) (hrs:fn.results.toList=rs:=by rfl) (he:e=.normal∨e=.ret:=by first | exact Or.inr rfl | exact Or.inl rfl | fail) (ho:jgC P H F rs=some out:=by (simp only [go_sem,↓reduceIte,Int.reduceEq,Int.reduceLE,Int.reduceLT,Int.reduceNe,Int.reduceToNat,Nat.reduceMul,Nat.reduceAdd,Nat.reduceLeDiff,Nat.reduceSub,Nat.reduceEqDiff,Nat.reduceBEq,List.nodup_cons,List.nodup_nil,List.mem_cons,List.not_mem_nil,List.mem_nil_iff];rfl)) (hok:jbW P H F rs:=by simp only [go_sem,↓reduceIte,Int.reduceEq,Int.reduceLE,Int.reduceLT,Int.reduceNe,Int.reduceToNat,Nat.reduceMul,Nat.reduceAdd,Nat.reduceLeDiff,Nat.reduceSub,Nat.reduceEqDiff,Nat.reduceBEq,List.nodup_cons,List.nodup_nil,List.mem_cons,List.not_mem_nil,List.mem_nil_iff]) (hl:jeu (jei H.B) H.l:=by exact sm_)
 (hq:(jby out).all (jcQ (jei H.B))=true:=by exact sm_) (h2:jbf (jei H.B) H.l=l:=by first | rfl | (exact sm_) | (simp only [go_sem,↓reduceIte,Int.reduceEq,Int.reduceLE,Int.reduceLT,Int.reduceNe,Int.reduceToNat,Nat.reduceMul,Nat.reduceAdd,Nat.reduceLeDiff,Nat.reduceSub,Nat.reduceEqDiff,Nat.reduceBEq,List.nodup_cons,List.nodup_nil,List.mem_cons,List.not_mem_nil,List.mem_nil_iff];rfl) | fail):jjz P fn (fun r' l'=>r'=r∧l'=l) e F H:=jmq rs hrs he ho hok hl (jks hv hq) h2
theorem jlx (rs:List ResultVar) (hv:VTo (jei H.B) H (jby out) r) (hrs:fn.results.toList=rs:=by rfl) (he:e=.normal∨e=.ret:=by first | exact Or.inr rfl | exact Or.inl rfl | fail) (ho:jgC P H F rs=some out:=by (simp only [go_sem,↓reduceIte,Int.reduceEq,Int.reduceLE,Int.reduceLT,Int.reduceNe,Int.reduceToNat,Nat.reduceMul,Nat.reduceAdd,Nat.reduceLeDiff,Nat.reduceSub,Nat.reduceEqDiff,Nat.reduceBEq,List.nodup_cons,List.nodup_nil,List.mem_cons,List.not_mem_nil,List.mem_nil_iff];rfl)) (hok:jbW P H F rs:=by simp only [go_sem,↓reduceIte,Int.reduceEq,Int.reduceLE,Int.reduceLT,Int.reduceNe,Int.reduceToNat,Nat.reduceMul,Nat.reduceAdd,Nat.reduceLeDiff,Nat.reduceSub,Nat.reduceEqDiff,Nat.reduceBEq,List.nodup_cons,List.nodup_nil,List.mem_cons,List.not_mem_nil,List.mem_nil_iff]) (hl:jeu (jei H.B) H.l:=by exact sm_)
 (h2:jbf (jei H.B) H.l=l:=by first | rfl | (exact sm_) | (simp only [go_sem,↓reduceIte,Int.reduceEq,Int.reduceLE,Int.reduceLT,Int.reduceNe,Int.reduceToNat,Nat.reduceMul,Nat.reduceAdd,Nat.reduceLeDiff,Nat.reduceSub,Nat.reduceEqDiff,Nat.reduceBEq,List.nodup_cons,List.nodup_nil,List.mem_cons,List.not_mem_nil,List.mem_nil_iff];rfl) | fail):jjz P fn (fun r' l'=>r'=r∧l'=l) e F H:=jmq rs hrs he ho hok hl hv h2
end
attribute [go_sem] List.length_set
def eI (x:Int):List AV:=[.raw (.int .i64 x)]
instance:EncOK eI 1:=⟨fun _=>rfl,fun _=>rfl,fun _=>rfl⟩
@[go_sem] theorem j4x (x:Int):(eI x).length=1:=(rfl)
@[go_sem] theorem j6L (x:Int):(eI x).getD 0 .any=.raw (.int .i64 x):=(rfl)
@[go_sem] theorem j6K (x:Int):(eI x).drop 1=[]:=(rfl)
@[go_sem] theorem j4y (l:List Int) (k:Nat) (x:Int):(l.map eI).set k [.raw (.int .i64 x)]=(l.set k x).map eI:=(List.map_set (f:=eI)).symm
def eS (x:ByteArray):List AV:=[.raw (.string x)]
instance:EncOK eS 1:=⟨fun _=>rfl,fun _=>rfl,fun _=>rfl⟩
@[go_sem] theorem j4A (x:ByteArray):(eS x).length=1:=(rfl)
@[go_sem] theorem j6M (x:ByteArray):(eS x).getD 0 .any=.raw (.string x):=(rfl)
def eB (x:Bool):List AV:=[.raw (.bool x)]
instance:EncOK eB 1:=⟨fun _=>rfl,fun _=>rfl,fun _=>rfl⟩
def eU (x:Int):List AV:=[.raw (.int .u8 x)]
instance:EncOK eU 1:=⟨fun _=>rfl,fun _=>rfl,fun _=>rfl⟩
def eLI (x:List Int):List AV:=[jal eI 1 x]
instance:EncOK eLI 1:=⟨fun _=>rfl,fun _=>rfl,fun _=>rfl⟩
@[go_sem] theorem j1x (x:List Int):(eLI x).length=1:=(rfl)
@[go_sem] theorem j4z (x:List Int):(eLI x).getD 0 .any=jal eI 1 x:=(rfl)
structure GToken where
 kind:Int
 text:ByteArray
 at_:Int
 deriving Inhabited,DecidableEq
def jb1 (x:GToken):List AV:=[.raw (.int .i64 x.kind),.raw (.string x.text),.raw (.int .i64 x.at_)]
section
variable (x y:GToken)
@[go_sem] theorem jvj:(jb1 x).length=3:=(rfl)
@[go_sem] theorem jt5:(jb1 x).all AV.one=true:=(rfl)
@[go_sem] theorem jm2 (q:Nat→Bool):jaE q (jb1 x)=true:=by simp [jb1,jaE,AV.all]
instance:EncOK jb1 3:=⟨fun _=>rfl,fun _=>rfl,fun x=>jm2 x _⟩
@[go_sem] theorem jt6:(jb1 x).take 3=jb1 x:=(rfl)
@[go_sem] theorem jxh:(jb1 x).getD 0 .any=.raw (.int .i64 x.kind):=(rfl)
@[go_sem] theorem jxi:(jb1 x).getD 1 .any=.raw (.string x.text):=(rfl)
@[go_sem] theorem jxj:(jb1 x).getD 2 .any=.raw (.int .i64 x.at_):=(rfl)
end
structure GNode where
 kind:Int
 line:Int
 n:Int
 name:ByteArray
 l:List Int
 deriving Inhabited,DecidableEq
def jaq (x:GNode):List AV:=[.raw (.int .i64 x.kind),.raw (.int .i64 x.line),.raw (.int .i64 x.n),.raw (.string x.name),jal eI 1 x.l]
section
variable (x y:GNode)
@[go_sem] theorem jw1:(jaq x).length=5:=(rfl)
@[go_sem] theorem jvc:(jaq x).all AV.one=true:=(rfl)
@[go_sem] theorem jeT (q:Nat→Bool):jaE q (jaq x)=true:=by simp [jaq,jaE,AV.all]
instance:EncOK jaq 5:=⟨fun _=>rfl,fun _=>rfl,fun x=>jeT x _⟩
@[go_sem] theorem jvd:(jaq x).take 5=jaq x:=(rfl)
@[go_sem] theorem jyn:(jaq x).getD 0 .any=.raw (.int .i64 x.kind):=(rfl)
@[go_sem] theorem jyo:(jaq x).getD 1 .any=.raw (.int .i64 x.line):=(rfl)
@[go_sem] theorem jyp:(jaq x).getD 2 .any=.raw (.int .i64 x.n):=(rfl)
@[go_sem] theorem jyq:(jaq x).getD 3 .any=.raw (.string x.name):=(rfl)
@[go_sem] theorem jyr:(jaq x).getD 4 .any=jal eI 1 x.l:=(rfl)
end
structure GValue where
 ty:Int
 n:Int
 s:ByteArray
 deriving Inhabited,DecidableEq
def jak (x:GValue):List AV:=[.raw (.int .i64 x.ty),.raw (.int .i64 x.n),.raw (.string x.s)]
section
variable (x y:GValue)
@[go_sem] theorem jvm:(jak x).length=3:=(rfl)
@[go_sem] theorem jt7:(jak x).all AV.one=true:=(rfl)
@[go_sem] theorem jiB (q:Nat→Bool):jaE q (jak x)=true:=by simp [jak,jaE,AV.all]
instance:EncOK jak 3:=⟨fun _=>rfl,fun _=>rfl,fun x=>jiB x _⟩
@[go_sem] theorem jt8:(jak x).take 3=jak x:=(rfl)
@[go_sem] theorem jxn:(jak x).getD 0 .any=.raw (.int .i64 x.ty):=(rfl)
@[go_sem] theorem jxo:(jak x).getD 1 .any=.raw (.int .i64 x.n):=(rfl)
@[go_sem] theorem jxq (v:Int):List.take 1 (jak x)++[.raw (.int .i64 v)]++List.drop 2 (jak x)=jak { x with n:=v }:=(rfl)
@[go_sem] theorem jxp:(jak x).getD 2 .any=.raw (.string x.s):=(rfl)
@[go_sem] theorem jsM:(jak x).map jdk=[some (.int .i64),some (.int .i64),some .str]:=(rfl)
@[go_sem] theorem jxm:eqL (jak x) (jak y)=decide (x=y):=by
 rw [Bool.eq_iff_iff]
 obtain ⟨a7,a8,a9⟩:=x;obtain ⟨b10,b11,b12⟩:=y
 simp [jak,eqL]
end
structure GParam where
 name:ByteArray
 ty:Int
 deriving Inhabited,DecidableEq
def jcM (x:GParam):List AV:=[.raw (.string x.name),.raw (.int .i64 x.ty)]
section
variable (x y:GParam)
@[go_sem] theorem jve:(jcM x).length=2:=(rfl)
@[go_sem] theorem jmZ (q:Nat→Bool):jaE q (jcM x)=true:=by simp [jcM,jaE,AV.all]
instance:EncOK jcM 2:=⟨fun _=>rfl,fun _=>rfl,fun x=>jmZ x _⟩
@[go_sem] theorem jw2:(jcM x).getD 0 .any=.raw (.string x.name):=(rfl)
@[go_sem] theorem jw3:(jcM x).getD 1 .any=.raw (.int .i64 x.ty):=(rfl)
end
structure GFunc where
 name:ByteArray
 line:Int
 params:List GParam
 ret:Int
 body:Int
 deriving Inhabited,DecidableEq
def ja8 (x:GFunc):List AV:=[.raw (.string x.name),.raw (.int .i64 x.line),jal jcM 2 x.params,.raw (.int .i64 x.ret),.raw (.int .i64 x.body)]
section
variable (x y:GFunc)
@[go_sem] theorem jw0:(ja8 x).length=5:=(rfl)
@[go_sem] theorem jva:(ja8 x).all AV.one=true:=(rfl)
@[go_sem] theorem jpm (q:Nat→Bool):jaE q (ja8 x)=true:=by simp [ja8,jaE,AV.all]
instance:EncOK ja8 5:=⟨fun _=>rfl,fun _=>rfl,fun x=>jpm x _⟩
@[go_sem] theorem jvb:(ja8 x).take 5=ja8 x:=(rfl)
@[go_sem] theorem jyj:(ja8 x).getD 0 .any=.raw (.string x.name):=(rfl)
@[go_sem] theorem jyk:(ja8 x).getD 2 .any=jal jcM 2 x.params:=(rfl)
@[go_sem] theorem jyl:(ja8 x).getD 3 .any=.raw (.int .i64 x.ret):=(rfl)
@[go_sem] theorem jym:(ja8 x).getD 4 .any=.raw (.int .i64 x.body):=(rfl)
end
structure GTree where
 nodes:List GNode
 fns:List GFunc
 deriving Inhabited,DecidableEq
def jcr (x:GTree):List AV:=[jal jaq 5 x.nodes,jal ja8 5 x.fns]
section
variable (x y:GTree)
@[go_sem] theorem jxl:(jcr x).length=2:=(rfl)
@[go_sem] theorem jvk:(jcr x).all AV.one=true:=(rfl)
@[go_sem] theorem jpr (q:Nat→Bool):jaE q (jcr x)=true:=by simp [jcr,jaE,AV.all]
instance:EncOK jcr 2:=⟨fun _=>rfl,fun _=>rfl,fun x=>jpr x _⟩
@[go_sem] theorem jvl:(jcr x).take 2=jcr x:=(rfl)
@[go_sem] theorem jyx:(jcr x).getD 0 .any=jal jaq 5 x.nodes:=(rfl)
@[go_sem] theorem jyy:(jcr x).getD 1 .any=jal ja8 5 x.fns:=(rfl)
end
structure GVar where
 name:ByteArray
 ty:Int
 slot:Int
 deriving Inhabited,DecidableEq
def jdT (x:GVar):List AV:=[.raw (.string x.name),.raw (.int .i64 x.ty),.raw (.int .i64 x.slot)]
section
variable (x y:GVar)
@[go_sem] theorem jyz:(jdT x).length=3:=(rfl)
@[go_sem] theorem jqw (q:Nat→Bool):jaE q (jdT x)=true:=by simp [jdT,jaE,AV.all]
instance:EncOK jdT 3:=⟨fun _=>rfl,fun _=>rfl,fun x=>jqw x _⟩
@[go_sem] theorem j0c:(jdT x).getD 0 .any=.raw (.string x.name):=(rfl)
@[go_sem] theorem j0d:(jdT x).getD 1 .any=.raw (.int .i64 x.ty):=(rfl)
@[go_sem] theorem j0e:(jdT x).getD 2 .any=.raw (.int .i64 x.slot):=(rfl)
end
structure GProg where
 tree:GTree
 types:List Int
 slots:List Int
 fn:List Int
 size:List Int
 deriving Inhabited,DecidableEq
def jaB (x:GProg):List AV:=[jal jaq 5 x.tree.nodes,jal ja8 5 x.tree.fns,jal eI 1 x.types,jal eI 1 x.slots,jal eI 1 x.fn,jal eI 1 x.size]
section
variable (x y:GProg)
@[go_sem] theorem jw8:(jaB x).length=6:=(rfl)
@[go_sem] theorem jvg:(jaB x).all AV.one=true:=(rfl)
@[go_sem] theorem jpn (q:Nat→Bool):jaE q (jaB x)=true:=by simp [jaB,jaE,AV.all]
instance:EncOK jaB 6:=⟨fun _=>rfl,fun _=>rfl,fun x=>jpn x _⟩
@[go_sem] theorem jvh:(jaB x).take 6=jaB x:=(rfl)
@[go_sem] theorem jys:(jaB x).getD 0 .any=jal jaq 5 x.tree.nodes:=(rfl)
@[go_sem] theorem jyt:(jaB x).getD 1 .any=jal ja8 5 x.tree.fns:=(rfl)
@[go_sem] theorem jyu:(jaB x).getD 2 .any=jal eI 1 x.types:=(rfl)
@[go_sem] theorem jyv:(jaB x).getD 3 .any=jal eI 1 x.slots:=(rfl)
@[go_sem] theorem jyw:(jaB x).getD 4 .any=jal eI 1 x.fn:=(rfl)
end
structure GPlace where
 block:Int
 at_:Int
 deriving Inhabited,DecidableEq
def jaV (x:GPlace):List AV:=[.raw (.int .i64 x.block),.raw (.int .i64 x.at_)]
section
variable (x y:GPlace)
@[go_sem] theorem jvf:(jaV x).length=2:=(rfl)
@[go_sem] theorem jm0 (q:Nat→Bool):jaE q (jaV x)=true:=by simp [jaV,jaE,AV.all]
instance:EncOK jaV 2:=⟨fun _=>rfl,fun _=>rfl,fun x=>jm0 x _⟩
@[go_sem] theorem jw4:(jaV x).getD 0 .any=.raw (.int .i64 x.block):=(rfl)
@[go_sem] theorem jw5:(jaV x).getD 1 .any=.raw (.int .i64 x.at_):=(rfl)
@[go_sem] theorem jw6 (v:Int):List.take 1 (jaV x)++[.raw (.int .i64 v)]++List.drop 2 (jaV x)=jaV { x with at_:=v }:=(rfl)
end
structure GFrame where
 fn:Int
 slots:List GValue
 path:List GPlace
 deriving Inhabited,DecidableEq
def jaN (x:GFrame):List AV:=[.raw (.int .i64 x.fn),jal jak 3 x.slots,jal jaV 2 x.path]
section
variable (x y:GFrame)
@[go_sem] theorem ju9:(jaN x).length=3:=(rfl)
@[go_sem] theorem jt1:(jaN x).all AV.one=true:=(rfl)
@[go_sem] theorem jiA (q:Nat→Bool):jaE q (jaN x)=true:=by simp [jaN,jaE,AV.all]
instance:EncOK jaN 3:=⟨fun _=>rfl,fun _=>rfl,fun x=>jiA x _⟩
@[go_sem] theorem jt2:(jaN x).take 3=jaN x:=(rfl)
@[go_sem] theorem jwX:(jaN x).getD 0 .any=.raw (.int .i64 x.fn):=(rfl)
@[go_sem] theorem jwY:(jaN x).getD 1 .any=jal jak 3 x.slots:=(rfl)
@[go_sem] theorem jwZ:(jaN x).getD 2 .any=jal jaV 2 x.path:=(rfl)
end
structure GState where
 frames:List GFrame
 heap:List (List Int)
 in_:Int
 out_:List ByteArray
 status:Int
 trap:Int
 time:Int
 deriving Inhabited,DecidableEq
def jao (x:GState):List AV:=[jal jaN 3 x.frames,jal eLI 1 x.heap,.raw (.int .i64 x.in_),jal eS 1 x.out_,.raw (.int .i64 x.status),.raw (.int .i64 x.trap),.raw (.int .i64 x.time)]
section
variable (x y:GState)
@[go_sem] theorem jvi:(jao x).length=7:=(rfl)
@[go_sem] theorem jt3:(jao x).all AV.one=true:=(rfl)
@[go_sem] theorem jea (q:Nat→Bool):jaE q (jao x)=true:=by simp [jao,jaE,AV.all]
instance:EncOK jao 7:=⟨fun _=>rfl,fun _=>rfl,fun x=>jea x _⟩
@[go_sem] theorem jt4:(jao x).take 7=jao x:=(rfl)
@[go_sem] theorem jw9:(jao x).getD 0 .any=jal jaN 3 x.frames:=(rfl)
@[go_sem] theorem jxa:(jao x).getD 1 .any=jal eLI 1 x.heap:=(rfl)
@[go_sem] theorem jxb:(jao x).getD 2 .any=.raw (.int .i64 x.in_):=(rfl)
@[go_sem] theorem jxc:(jao x).getD 3 .any=jal eS 1 x.out_:=(rfl)
@[go_sem] theorem jxd:(jao x).getD 4 .any=.raw (.int .i64 x.status):=(rfl)
@[go_sem] theorem jxg (v:Int):List.take 4 (jao x)++[.raw (.int .i64 v)]++List.drop 5 (jao x)=jao { x with status:=v }:=(rfl)
@[go_sem] theorem jxe:(jao x).getD 5 .any=.raw (.int .i64 x.trap):=(rfl)
@[go_sem] theorem jxf:(jao x).getD 6 .any=.raw (.int .i64 x.time):=(rfl)
end
structure GSpot where
 fn:Int
 node:Int
 slots:List GValue
 deriving Inhabited,DecidableEq
def jn3 (x:GSpot):List AV:=[.raw (.int .i64 x.fn),.raw (.int .i64 x.node),jal jak 3 x.slots]
section
variable (x y:GSpot)
@[go_sem] theorem jpq (q:Nat→Bool):jaE q (jn3 x)=true:=by simp [jn3,jaE,AV.all]
instance:EncOK jn3 3:=⟨fun _=>rfl,fun _=>rfl,fun x=>jpq x _⟩
end
structure GShot where
 calls:List GSpot
 heap:List (List Int)
 in_:Int
 out_:List ByteArray
 status:Int
 trap:Int
 time:Int
 deriving Inhabited,DecidableEq
def jqv (x:GShot):List AV:=[jal jn3 3 x.calls,jal eLI 1 x.heap,.raw (.int .i64 x.in_),jal eS 1 x.out_,.raw (.int .i64 x.status),.raw (.int .i64 x.trap),.raw (.int .i64 x.time)]
section
variable (x y:GShot)
@[go_sem] theorem jpp (q:Nat→Bool):jaE q (jqv x)=true:=by simp [jqv,jaE,AV.all]
instance:EncOK jqv 7:=⟨fun _=>rfl,fun _=>rfl,fun x=>jpp x _⟩
end
structure GShown where
 name:ByteArray
 text:ByteArray
 deriving Inhabited,DecidableEq
def jkH (x:GShown):List AV:=[.raw (.string x.name),.raw (.string x.text)]
section
variable (x y:GShown)
@[go_sem] theorem jm1 (q:Nat→Bool):jaE q (jkH x)=true:=by simp [jkH,jaE,AV.all]
instance:EncOK jkH 2:=⟨fun _=>rfl,fun _=>rfl,fun x=>jm1 x _⟩
end
structure GSeen where
 name:ByteArray
 line:Int
 vars:List GShown
 deriving Inhabited,DecidableEq
def jn2 (x:GSeen):List AV:=[.raw (.string x.name),.raw (.int .i64 x.line),jal jkH 2 x.vars]
section
variable (x y:GSeen)
@[go_sem] theorem jpo (q:Nat→Bool):jaE q (jn2 x)=true:=by simp [jn2,jaE,AV.all]
instance:EncOK jn2 3:=⟨fun _=>rfl,fun _=>rfl,fun x=>jpo x _⟩
end
structure GView where
 calls:List GSeen
 out_:List ByteArray
 in_:Int
 status:Int
 trap:Int
 deriving Inhabited,DecidableEq
def jqx (x:GView):List AV:=[jal jn2 3 x.calls,jal eS 1 x.out_,.raw (.int .i64 x.in_),.raw (.int .i64 x.status),.raw (.int .i64 x.trap)]
section
variable (x y:GView)
@[go_sem] theorem jps (q:Nat→Bool):jaE q (jqx x)=true:=by simp [jqx,jaE,AV.all]
instance:EncOK jqx 5:=⟨fun _=>rfl,fun _=>rfl,fun x=>jps x _⟩
end
structure GInstr where
 op:Int
 a:Int
 b:Int
 s:ByteArray
 deriving Inhabited,DecidableEq
def jkG (x:GInstr):List AV:=[.raw (.int .i64 x.op),.raw (.int .i64 x.a),.raw (.int .i64 x.b),.raw (.string x.s)]
section
variable (x y:GInstr)
@[go_sem] theorem jmY (q:Nat→Bool):jaE q (jkG x)=true:=by simp [jkG,jaE,AV.all]
instance:EncOK jkG 4:=⟨fun _=>rfl,fun _=>rfl,fun x=>jmY x _⟩
end
structure GCode where
 ins:List GInstr
 entry:List Int
 deriving Inhabited,DecidableEq
def jqu (x:GCode):List AV:=[jal jkG 4 x.ins,jal eI 1 x.entry]
section
variable (x y:GCode)
@[go_sem] theorem jpl (q:Nat→Bool):jaE q (jqu x)=true:=by simp [jqu,jaE,AV.all]
instance:EncOK jqu 2:=⟨fun _=>rfl,fun _=>rfl,fun x=>jpl x _⟩
end
end Go.Gd

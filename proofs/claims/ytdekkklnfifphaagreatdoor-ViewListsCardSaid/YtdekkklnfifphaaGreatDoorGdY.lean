/- The steps of a walk as lemmas; what each asks beside is reckoned by its own default. The data of the program as Lean structures, and their cells. No conditions. -/
import Derived.Test.YtdekkklnfifphaaGreatDoorGdO
set_option linter.all false
namespace Go.Gd
open Go
universe u
@[go_sem] theorem jul {α:Type} [Inhabited α] (f:α→List AV) (a:List α) (b:List (List AV)) (k:Nat) (h:k < a.length):(a.map f++b).getD k []=f (nth a k):=by
 rw [jbc h,List.getD_eq_getElem?_getD,List.getElem?_append_left (by simpa using h)]
 simp [h]
attribute [go_sem] List.isEmpty_nil
@[congr] theorem jx8 {P:Program} {c:Code} {Q:Exit→List AV→Hp→Prop} {F F':List AV} {H H':Hp} (h1:F=F') (h2:H=H'):AWP P c Q F H=AWP P c Q F' H':=by rw [h1,h2]
def jmc (p q:Prop):Prop:=q→p
section
variable {P:Program} {Q:Exit→List AV→Hp→Prop} {F:List AV} {H:Hp}
theorem jrF {id:Nat} {l:List Oper} {q:Prop} (e:vcl P l.toArray (Q .normal) l F H=q):jmc (AWP P (.region id l.toArray false) Q F H) q:=fun h=>jiN (e ▸ h)
theorem jtD {id:Nat} {c:Code}:jmc (AWP P (.block id c) Q F H) (AWP P c (jgP id Q) F H):=jpW
theorem jwp {q:Prop} (e:Q .normal F H=q):jmc (AWP P .skip Q F H) q:=fun h=>jsy (e ▸ h)
theorem jwm {id:Nat} {q:Prop} (e:Q (.exit id) F H=q):jmc (AWP P (.exit id) Q F H) q:=fun h=>jsw (e ▸ h)
theorem jzO {q:Prop} (e:Q .ret F H=q):jmc (AWP P .ret Q F H) q:=fun h=>juV (e ▸ h)
end
section
variable {P:Program} {H:Hp} {K:AV→Hp→Prop}
theorem jtC {t:TypeId} {zs:List Value} {q:Prop} (hz:jbt P t=some zs) (e:K (.pt (nx H.l) 0 0 0) (H.put (nx H.l) (.var t (zs.map .raw)))=q):jmc (jdD P H t K) q:=fun h=>jm3 hz (e ▸ h)
theorem jzN {t:TypeId} {x:AV} {q:Prop} (ho:ones x.cells=true) (e:K (.pt (nx H.l) 0 0 0) (H.put (nx H.l) (.var t x.cells))=q):jmc (jtO H t x K) q:=fun h=>jrZ ho (e ▸ h)
theorem jtE {A:Nat→Prop} {d:Dep A} {q:Prop} (e:A (nx H.l)=q):jmc (jjt H A d) q:=fun h=>jm6 (e ▸ h)
theorem jwo {t:TypeId} {sz:Nat} {q:Prop} (h0:0 < sz) (e:K (.rs (nx H.l) 0 sz 0) (H.put (nx H.l) (.vec t sz []))=q):jmc (jkz t sz [] H K) q:=fun h=>jpD h0 (e ▸ h)
theorem jwn {t:TypeId} {sz:Nat} {css:List (List AV)} {q:Prop} (h1:jaQ noQ css.flatten=true) (e:K (.sl true sz css []) H=q):jmc (jkz t sz css H K) q:=fun h=>jpC h1 (e ▸ h)
theorem jzM {t:TypeId} {a x:AV} {q:Prop} (e:jzW P t a x H K=q):jmc (jc0 P t t a x H K) q:=fun h=>jgR (e ▸ h)
theorem j2E {d:Dep K} {r:AV} {q:Prop} (e:K r H=q):jmc (AP K d r H) q:=fun h=>jsr (e ▸ h)
theorem jzL {a b:Prop} (h:a):jmc (a∧b) b:=fun k=>⟨h,k⟩
end
theorem wkA {p q:Prop} (h:q) (e:jmc p q:=by first
 | ((with_reducible apply jrF);first | (simp (disch:=first | omega | assumption | fail) only [go_sem,jac,W,↓reduceIte,Int.reduceEq,Int.reduceLE,Int.reduceLT,Int.reduceNe,Int.reduceToNat,Nat.reduceMul,Nat.reduceAdd,Nat.reduceLeDiff,Nat.reduceSub,Nat.reduceEqDiff,Nat.reduceBEq,List.nodup_cons,List.nodup_nil,List.mem_cons,List.not_mem_nil,List.mem_nil_iff];rfl) | (simp (disch:=first | omega | assumption | fail) only [go_sem,jac,↓reduceIte,Int.reduceEq,Int.reduceLE,Int.reduceLT,Int.reduceNe,Int.reduceToNat,Nat.reduceMul,Nat.reduceAdd,Nat.reduceLeDiff,Nat.reduceSub,Nat.reduceEqDiff,Nat.reduceBEq,List.nodup_cons,List.nodup_nil,List.mem_cons,List.not_mem_nil,List.mem_nil_iff];rfl) | rfl | fail)
 | with_reducible exact jtD
 | ((with_reducible apply jwm);first | (simp only [go_sem,↓reduceIte,Int.reduceEq,Int.reduceLE,Int.reduceLT,Int.reduceNe,Int.reduceToNat,Nat.reduceMul,Nat.reduceAdd,Nat.reduceLeDiff,Nat.reduceSub,Nat.reduceEqDiff,Nat.reduceBEq,List.nodup_cons,List.nodup_nil,List.mem_cons,List.not_mem_nil,List.mem_nil_iff];rfl) | rfl | fail)
 | ((with_reducible apply jzO);first | (simp only [go_sem,↓reduceIte,Int.reduceEq,Int.reduceLE,Int.reduceLT,Int.reduceNe,Int.reduceToNat,Nat.reduceMul,Nat.reduceAdd,Nat.reduceLeDiff,Nat.reduceSub,Nat.reduceEqDiff,Nat.reduceBEq,List.nodup_cons,List.nodup_nil,List.mem_cons,List.not_mem_nil,List.mem_nil_iff];rfl) | rfl | fail)
 | ((with_reducible apply jwp);first | (simp only [go_sem,↓reduceIte,Int.reduceEq,Int.reduceLE,Int.reduceLT,Int.reduceNe,Int.reduceToNat,Nat.reduceMul,Nat.reduceAdd,Nat.reduceLeDiff,Nat.reduceSub,Nat.reduceEqDiff,Nat.reduceBEq,List.nodup_cons,List.nodup_nil,List.mem_cons,List.not_mem_nil,List.mem_nil_iff];rfl) | rfl | fail)
 | fail):p:=e h
theorem wkB {p q:Prop} (h:q) (e:jmc p q:=by first
 | ((with_reducible apply jzM);first | (simp (disch:=first | omega | assumption | fail) only [go_sem,jac,W,↓reduceIte,Int.reduceEq,Int.reduceLE,Int.reduceLT,Int.reduceNe,Int.reduceToNat,Nat.reduceMul,Nat.reduceAdd,Nat.reduceLeDiff,Nat.reduceSub,Nat.reduceEqDiff,Nat.reduceBEq,List.nodup_cons,List.nodup_nil,List.mem_cons,List.not_mem_nil,List.mem_nil_iff];rfl) | (simp (disch:=first | omega | assumption | fail) only [go_sem,jac,↓reduceIte,Int.reduceEq,Int.reduceLE,Int.reduceLT,Int.reduceNe,Int.reduceToNat,Nat.reduceMul,Nat.reduceAdd,Nat.reduceLeDiff,Nat.reduceSub,Nat.reduceEqDiff,Nat.reduceBEq,List.nodup_cons,List.nodup_nil,List.mem_cons,List.not_mem_nil,List.mem_nil_iff];rfl) | rfl | fail)
 | ((with_reducible apply j2E);first | (simp (disch:=first | omega | assumption | fail) only [go_sem,jac,W,↓reduceIte,Int.reduceEq,Int.reduceLE,Int.reduceLT,Int.reduceNe,Int.reduceToNat,Nat.reduceMul,Nat.reduceAdd,Nat.reduceLeDiff,Nat.reduceSub,Nat.reduceEqDiff,Nat.reduceBEq,List.nodup_cons,List.nodup_nil,List.mem_cons,List.not_mem_nil,List.mem_nil_iff];rfl) | (simp (disch:=first | omega | assumption | fail) only [go_sem,jac,↓reduceIte,Int.reduceEq,Int.reduceLE,Int.reduceLT,Int.reduceNe,Int.reduceToNat,Nat.reduceMul,Nat.reduceAdd,Nat.reduceLeDiff,Nat.reduceSub,Nat.reduceEqDiff,Nat.reduceBEq,List.nodup_cons,List.nodup_nil,List.mem_cons,List.not_mem_nil,List.mem_nil_iff];rfl) | rfl | fail)
 | ((with_reducible apply jwo);(focus (first | (simp (disch:=first | omega | assumption | fail) only [go_sem,jac,W,↓reduceIte,Int.reduceEq,Int.reduceLE,Int.reduceLT,Int.reduceNe,Int.reduceToNat,Nat.reduceMul,Nat.reduceAdd,Nat.reduceLeDiff,Nat.reduceSub,Nat.reduceEqDiff,Nat.reduceBEq,List.nodup_cons,List.nodup_nil,List.mem_cons,List.not_mem_nil,List.mem_nil_iff];done) | (simp (disch:=first | omega | assumption | fail) only [go_sem,jac,↓reduceIte,Int.reduceEq,Int.reduceLE,Int.reduceLT,Int.reduceNe,Int.reduceToNat,Nat.reduceMul,Nat.reduceAdd,Nat.reduceLeDiff,Nat.reduceSub,Nat.reduceEqDiff,Nat.reduceBEq,List.nodup_cons,List.nodup_nil,List.mem_cons,List.not_mem_nil,List.mem_nil_iff];done) | fail));first | (simp (disch:=first | omega | assumption | fail) only [go_sem,jac,W,↓reduceIte,Int.reduceEq,Int.reduceLE,Int.reduceLT,Int.reduceNe,Int.reduceToNat,Nat.reduceMul,Nat.reduceAdd,Nat.reduceLeDiff,Nat.reduceSub,Nat.reduceEqDiff,Nat.reduceBEq,List.nodup_cons,List.nodup_nil,List.mem_cons,List.not_mem_nil,List.mem_nil_iff];rfl) | (simp (disch:=first | omega | assumption | fail) only [go_sem,jac,↓reduceIte,Int.reduceEq,Int.reduceLE,Int.reduceLT,Int.reduceNe,Int.reduceToNat,Nat.reduceMul,Nat.reduceAdd,Nat.reduceLeDiff,Nat.reduceSub,Nat.reduceEqDiff,Nat.reduceBEq,List.nodup_cons,List.nodup_nil,List.mem_cons,List.not_mem_nil,List.mem_nil_iff];rfl) | rfl | fail)
 | ((with_reducible apply jwn);(focus (simp only [go_sem]));first | (simp (disch:=first | omega | assumption | fail) only [go_sem,jac,W,↓reduceIte,Int.reduceEq,Int.reduceLE,Int.reduceLT,Int.reduceNe,Int.reduceToNat,Nat.reduceMul,Nat.reduceAdd,Nat.reduceLeDiff,Nat.reduceSub,Nat.reduceEqDiff,Nat.reduceBEq,List.nodup_cons,List.nodup_nil,List.mem_cons,List.not_mem_nil,List.mem_nil_iff];rfl) | (simp (disch:=first | omega | assumption | fail) only [go_sem,jac,↓reduceIte,Int.reduceEq,Int.reduceLE,Int.reduceLT,Int.reduceNe,Int.reduceToNat,Nat.reduceMul,Nat.reduceAdd,Nat.reduceLeDiff,Nat.reduceSub,Nat.reduceEqDiff,Nat.reduceBEq,List.nodup_cons,List.nodup_nil,List.mem_cons,List.not_mem_nil,List.mem_nil_iff];rfl) | rfl | fail)
 | ((with_reducible apply jtC);(focus (simp only [go_sem];rfl));first | (simp (disch:=first | omega | assumption | fail) only [go_sem,jac,W,↓reduceIte,Int.reduceEq,Int.reduceLE,Int.reduceLT,Int.reduceNe,Int.reduceToNat,Nat.reduceMul,Nat.reduceAdd,Nat.reduceLeDiff,Nat.reduceSub,Nat.reduceEqDiff,Nat.reduceBEq,List.nodup_cons,List.nodup_nil,List.mem_cons,List.not_mem_nil,List.mem_nil_iff];rfl) | (simp (disch:=first | omega | assumption | fail) only [go_sem,jac,↓reduceIte,Int.reduceEq,Int.reduceLE,Int.reduceLT,Int.reduceNe,Int.reduceToNat,Nat.reduceMul,Nat.reduceAdd,Nat.reduceLeDiff,Nat.reduceSub,Nat.reduceEqDiff,Nat.reduceBEq,List.nodup_cons,List.nodup_nil,List.mem_cons,List.not_mem_nil,List.mem_nil_iff];rfl) | rfl | fail)
 | ((with_reducible apply jzN);(focus (simp only [go_sem]));first | (simp (disch:=first | omega | assumption | fail) only [go_sem,jac,W,↓reduceIte,Int.reduceEq,Int.reduceLE,Int.reduceLT,Int.reduceNe,Int.reduceToNat,Nat.reduceMul,Nat.reduceAdd,Nat.reduceLeDiff,Nat.reduceSub,Nat.reduceEqDiff,Nat.reduceBEq,List.nodup_cons,List.nodup_nil,List.mem_cons,List.not_mem_nil,List.mem_nil_iff];rfl) | (simp (disch:=first | omega | assumption | fail) only [go_sem,jac,↓reduceIte,Int.reduceEq,Int.reduceLE,Int.reduceLT,Int.reduceNe,Int.reduceToNat,Nat.reduceMul,Nat.reduceAdd,Nat.reduceLeDiff,Nat.reduceSub,Nat.reduceEqDiff,Nat.reduceBEq,List.nodup_cons,List.nodup_nil,List.mem_cons,List.not_mem_nil,List.mem_nil_iff];rfl) | rfl | fail)
 | ((with_reducible apply jtE);first | (simp (disch:=first | omega | assumption | fail) only [go_sem,jac,W,↓reduceIte,Int.reduceEq,Int.reduceLE,Int.reduceLT,Int.reduceNe,Int.reduceToNat,Nat.reduceMul,Nat.reduceAdd,Nat.reduceLeDiff,Nat.reduceSub,Nat.reduceEqDiff,Nat.reduceBEq,List.nodup_cons,List.nodup_nil,List.mem_cons,List.not_mem_nil,List.mem_nil_iff];rfl) | (simp (disch:=first | omega | assumption | fail) only [go_sem,jac,↓reduceIte,Int.reduceEq,Int.reduceLE,Int.reduceLT,Int.reduceNe,Int.reduceToNat,Nat.reduceMul,Nat.reduceAdd,Nat.reduceLeDiff,Nat.reduceSub,Nat.reduceEqDiff,Nat.reduceBEq,List.nodup_cons,List.nodup_nil,List.mem_cons,List.not_mem_nil,List.mem_nil_iff];rfl) | rfl | fail)
 | ((with_reducible apply jzL);first | omega | (simp +contextual;done) | (simp +contextual;intros;omega) | fail)
 | fail):p:=e h
theorem S {p q:Prop} (h:q) (e:p=q:=by first | (simp (disch:=first | omega | assumption | fail) only [go_sem,jac,W,↓reduceIte,Int.reduceEq,Int.reduceLE,Int.reduceLT,Int.reduceNe,Int.reduceToNat,Nat.reduceMul,Nat.reduceAdd,Nat.reduceLeDiff,Nat.reduceSub,Nat.reduceEqDiff,Nat.reduceBEq,List.nodup_cons,List.nodup_nil,List.mem_cons,List.not_mem_nil,List.mem_nil_iff];rfl) | (simp (disch:=first | omega | assumption | fail) only [go_sem,jac,↓reduceIte,Int.reduceEq,Int.reduceLE,Int.reduceLT,Int.reduceNe,Int.reduceToNat,Nat.reduceMul,Nat.reduceAdd,Nat.reduceLeDiff,Nat.reduceSub,Nat.reduceEqDiff,Nat.reduceBEq,List.nodup_cons,List.nodup_nil,List.mem_cons,List.not_mem_nil,List.mem_nil_iff];rfl) | fail):p:=e ▸ h
theorem Sd {p:Prop} (e:p=True:=by first | (simp (disch:=first | omega | assumption | fail) only [go_sem,jac,W,↓reduceIte,Int.reduceEq,Int.reduceLE,Int.reduceLT,Int.reduceNe,Int.reduceToNat,Nat.reduceMul,Nat.reduceAdd,Nat.reduceLeDiff,Nat.reduceSub,Nat.reduceEqDiff,Nat.reduceBEq,List.nodup_cons,List.nodup_nil,List.mem_cons,List.not_mem_nil,List.mem_nil_iff];done) | (simp (disch:=first | omega | assumption | fail) only [go_sem,jac,↓reduceIte,Int.reduceEq,Int.reduceLE,Int.reduceLT,Int.reduceNe,Int.reduceToNat,Nat.reduceMul,Nat.reduceAdd,Nat.reduceLeDiff,Nat.reduceSub,Nat.reduceEqDiff,Nat.reduceBEq,List.nodup_cons,List.nodup_nil,List.mem_cons,List.not_mem_nil,List.mem_nil_iff];done) | fail):p:=of_eq_true e
theorem jad {P:Program} {Q:Exit→List AV→Hp→Prop} {F:List AV} {H:Hp} {c:Operand} {x y:Code} {b:Bool} {pt pf:Prop} (ht:pt→AWP P x Q F H) (hf:pf→AWP P y Q F H) (hc:evA F c=.raw (.bool b):=by rfl)
 (et:(b=true)=pt:=by first | (simp only [Int.reduceEq,Int.reduceLE,Int.reduceLT,Int.reduceNe,false_and,and_false,true_and,and_true,or_false,false_or,true_or,or_true,Bool.false_eq_true,Bool.true_eq_false,eq_self,reduceCtorEq,Bool.not_true,Bool.not_false,Bool.and_eq_true,Bool.or_eq_true,Bool.and_eq_false_iff,Bool.or_eq_false_iff,decide_eq_true_eq,decide_eq_false_iff_not,Bool.not_eq_true',Bool.not_eq_false',Int.not_lt,Int.not_le];rfl) | rfl) (ef:(b=false)=pf:=by first | (simp only [Int.reduceEq,Int.reduceLE,Int.reduceLT,Int.reduceNe,false_and,and_false,true_and,and_true,or_false,false_or,true_or,or_true,Bool.false_eq_true,Bool.true_eq_false,eq_self,reduceCtorEq,Bool.not_true,Bool.not_false,Bool.and_eq_true,Bool.or_eq_true,Bool.and_eq_false_iff,Bool.or_eq_false_iff,decide_eq_true_eq,decide_eq_false_iff_not,Bool.not_eq_true',Bool.not_eq_false',Int.not_lt,Int.not_le];rfl) | rfl):AWP P (.cond c x y) Q F H:=jsv hc (fun h=>ht (et ▸ h)) (fun h=>hf (ef ▸ h))
section
variable {P:Program} {f:FuncId} {args:List AV} {H:Hp} {K:AV→Hp→Prop} {q:Prop}
theorem cm {l l0:List (Nat×Row)} {r0:AV} (hc:ACalls P f args l fun r l'=>r=r0∧l'=l0) (k:q) (h1:fits l H:=by first | (simp (disch:=first | omega | assumption | fail) only [go_sem,jac,W,↓reduceIte,Int.reduceEq,Int.reduceLE,Int.reduceLT,Int.reduceNe,Int.reduceToNat,Nat.reduceMul,Nat.reduceAdd,Nat.reduceLeDiff,Nat.reduceSub,Nat.reduceEqDiff,Nat.reduceBEq,List.nodup_cons,List.nodup_nil,List.mem_cons,List.not_mem_nil,List.mem_nil_iff];done) | (simp (disch:=first | omega | assumption | fail) only [go_sem,jac,↓reduceIte,Int.reduceEq,Int.reduceLE,Int.reduceLT,Int.reduceNe,Int.reduceToNat,Nat.reduceMul,Nat.reduceAdd,Nat.reduceLeDiff,Nat.reduceSub,Nat.reduceEqDiff,Nat.reduceBEq,List.nodup_cons,List.nodup_nil,List.mem_cons,List.not_mem_nil,List.mem_nil_iff];done) | fail) (h0:jaf P f=true:=by first | (simp (disch:=first | omega | assumption | fail) only [go_sem,jac,W,↓reduceIte,Int.reduceEq,Int.reduceLE,Int.reduceLT,Int.reduceNe,Int.reduceToNat,Nat.reduceMul,Nat.reduceAdd,Nat.reduceLeDiff,Nat.reduceSub,Nat.reduceEqDiff,Nat.reduceBEq,List.nodup_cons,List.nodup_nil,List.mem_cons,List.not_mem_nil,List.mem_nil_iff];done) | (simp (disch:=first | omega | assumption | fail) only [go_sem,jac,↓reduceIte,Int.reduceEq,Int.reduceLE,Int.reduceLT,Int.reduceNe,Int.reduceToNat,Nat.reduceMul,Nat.reduceAdd,Nat.reduceLeDiff,Nat.reduceSub,Nat.reduceEqDiff,Nat.reduceBEq,List.nodup_cons,List.nodup_nil,List.mem_cons,List.not_mem_nil,List.mem_nil_iff];done) | fail) (h2:jaQ (fun i=>(ids l).contains i) args=true:=by first | (simp (disch:=first | omega | assumption | fail) only [go_sem,jac,W,↓reduceIte,Int.reduceEq,Int.reduceLE,Int.reduceLT,Int.reduceNe,Int.reduceToNat,Nat.reduceMul,Nat.reduceAdd,Nat.reduceLeDiff,Nat.reduceSub,Nat.reduceEqDiff,Nat.reduceBEq,List.nodup_cons,List.nodup_nil,List.mem_cons,List.not_mem_nil,List.mem_nil_iff];done) | (simp (disch:=first | omega | assumption | fail) only [go_sem,jac,↓reduceIte,Int.reduceEq,Int.reduceLE,Int.reduceLT,Int.reduceNe,Int.reduceToNat,Nat.reduceMul,Nat.reduceAdd,Nat.reduceLeDiff,Nat.reduceSub,Nat.reduceEqDiff,Nat.reduceBEq,List.nodup_cons,List.nodup_nil,List.mem_cons,List.not_mem_nil,List.mem_nil_iff];done) | fail) (h3:juA (fun i=>(ids l).contains i) l:=by first | (simp (disch:=first | omega | assumption | fail) only [go_sem,jac,W,↓reduceIte,Int.reduceEq,Int.reduceLE,Int.reduceLT,Int.reduceNe,Int.reduceToNat,Nat.reduceMul,Nat.reduceAdd,Nat.reduceLeDiff,Nat.reduceSub,Nat.reduceEqDiff,Nat.reduceBEq,List.nodup_cons,List.nodup_nil,List.mem_cons,List.not_mem_nil,List.mem_nil_iff];done) | (simp (disch:=first | omega | assumption | fail) only [go_sem,jac,↓reduceIte,Int.reduceEq,Int.reduceLE,Int.reduceLT,Int.reduceNe,Int.reduceToNat,Nat.reduceMul,Nat.reduceAdd,Nat.reduceLeDiff,Nat.reduceSub,Nat.reduceEqDiff,Nat.reduceBEq,List.nodup_cons,List.nodup_nil,List.mem_cons,List.not_mem_nil,List.mem_nil_iff];done) | fail)
 (h4:fresh (ids l) H l0:=by first | (simp (disch:=first | omega | assumption | fail) only [go_sem,jac,W,↓reduceIte,Int.reduceEq,Int.reduceLE,Int.reduceLT,Int.reduceNe,Int.reduceToNat,Nat.reduceMul,Nat.reduceAdd,Nat.reduceLeDiff,Nat.reduceSub,Nat.reduceEqDiff,Nat.reduceBEq,List.nodup_cons,List.nodup_nil,List.mem_cons,List.not_mem_nil,List.mem_nil_iff];done) | (simp (disch:=first | omega | assumption | fail) only [go_sem,jac,↓reduceIte,Int.reduceEq,Int.reduceLE,Int.reduceLT,Int.reduceNe,Int.reduceToNat,Nat.reduceMul,Nat.reduceAdd,Nat.reduceLeDiff,Nat.reduceSub,Nat.reduceEqDiff,Nat.reduceBEq,List.nodup_cons,List.nodup_nil,List.mem_cons,List.not_mem_nil,List.mem_nil_iff];done) | fail) (h5:(ids l0).Nodup:=by first | (simp (disch:=first | omega | assumption | fail) only [go_sem,jac,W,↓reduceIte,Int.reduceEq,Int.reduceLE,Int.reduceLT,Int.reduceNe,Int.reduceToNat,Nat.reduceMul,Nat.reduceAdd,Nat.reduceLeDiff,Nat.reduceSub,Nat.reduceEqDiff,Nat.reduceBEq,List.nodup_cons,List.nodup_nil,List.mem_cons,List.not_mem_nil,List.mem_nil_iff];done) | (simp (disch:=first | omega | assumption | fail) only [go_sem,jac,↓reduceIte,Int.reduceEq,Int.reduceLE,Int.reduceLT,Int.reduceNe,Int.reduceToNat,Nat.reduceMul,Nat.reduceAdd,Nat.reduceLeDiff,Nat.reduceSub,Nat.reduceEqDiff,Nat.reduceBEq,List.nodup_cons,List.nodup_nil,List.mem_cons,List.not_mem_nil,List.mem_nil_iff];done) | fail) (e:K r0 ⟨H.B,jeu H.l l0⟩=q:=by first | (simp (disch:=first | omega | assumption | fail) only [go_sem,jac,W,↓reduceIte,Int.reduceEq,Int.reduceLE,Int.reduceLT,Int.reduceNe,Int.reduceToNat,Nat.reduceMul,Nat.reduceAdd,Nat.reduceLeDiff,Nat.reduceSub,Nat.reduceEqDiff,Nat.reduceBEq,List.nodup_cons,List.nodup_nil,List.mem_cons,List.not_mem_nil,List.mem_nil_iff];rfl) | (simp (disch:=first | omega | assumption | fail) only [go_sem,jac,↓reduceIte,Int.reduceEq,Int.reduceLE,Int.reduceLT,Int.reduceNe,Int.reduceToNat,Nat.reduceMul,Nat.reduceAdd,Nat.reduceLeDiff,Nat.reduceSub,Nat.reduceEqDiff,Nat.reduceBEq,List.nodup_cons,List.nodup_nil,List.mem_cons,List.not_mem_nil,List.mem_nil_iff];rfl) | rfl | fail):jbT P (.raw (.func (.func f) #[] #[])) args H K:=jbF h0 (jeE hc h1 h2 h3 h4 h5 (e ▸ k))
theorem cp {r0:AV} (hc:PCall P f args r0) (k:q) (h0:jaf P f=true:=by first | (simp (disch:=first | omega | assumption | fail) only [go_sem,jac,W,↓reduceIte,Int.reduceEq,Int.reduceLE,Int.reduceLT,Int.reduceNe,Int.reduceToNat,Nat.reduceMul,Nat.reduceAdd,Nat.reduceLeDiff,Nat.reduceSub,Nat.reduceEqDiff,Nat.reduceBEq,List.nodup_cons,List.nodup_nil,List.mem_cons,List.not_mem_nil,List.mem_nil_iff];done) | (simp (disch:=first | omega | assumption | fail) only [go_sem,jac,↓reduceIte,Int.reduceEq,Int.reduceLE,Int.reduceLT,Int.reduceNe,Int.reduceToNat,Nat.reduceMul,Nat.reduceAdd,Nat.reduceLeDiff,Nat.reduceSub,Nat.reduceEqDiff,Nat.reduceBEq,List.nodup_cons,List.nodup_nil,List.mem_cons,List.not_mem_nil,List.mem_nil_iff];done) | fail) (h2:jaQ noQ args=true:=by first | (simp (disch:=first | omega | assumption | fail) only [go_sem,jac,W,↓reduceIte,Int.reduceEq,Int.reduceLE,Int.reduceLT,Int.reduceNe,Int.reduceToNat,Nat.reduceMul,Nat.reduceAdd,Nat.reduceLeDiff,Nat.reduceSub,Nat.reduceEqDiff,Nat.reduceBEq,List.nodup_cons,List.nodup_nil,List.mem_cons,List.not_mem_nil,List.mem_nil_iff];done) | (simp (disch:=first | omega | assumption | fail) only [go_sem,jac,↓reduceIte,Int.reduceEq,Int.reduceLE,Int.reduceLT,Int.reduceNe,Int.reduceToNat,Nat.reduceMul,Nat.reduceAdd,Nat.reduceLeDiff,Nat.reduceSub,Nat.reduceEqDiff,Nat.reduceBEq,List.nodup_cons,List.nodup_nil,List.mem_cons,List.not_mem_nil,List.mem_nil_iff];done) | fail) (e:K r0 H=q:=by first | (simp (disch:=first | omega | assumption | fail) only [go_sem,jac,W,↓reduceIte,Int.reduceEq,Int.reduceLE,Int.reduceLT,Int.reduceNe,Int.reduceToNat,Nat.reduceMul,Nat.reduceAdd,Nat.reduceLeDiff,Nat.reduceSub,Nat.reduceEqDiff,Nat.reduceBEq,List.nodup_cons,List.nodup_nil,List.mem_cons,List.not_mem_nil,List.mem_nil_iff];rfl) | (simp (disch:=first | omega | assumption | fail) only [go_sem,jac,↓reduceIte,Int.reduceEq,Int.reduceLE,Int.reduceLT,Int.reduceNe,Int.reduceToNat,Nat.reduceMul,Nat.reduceAdd,Nat.reduceLeDiff,Nat.reduceSub,Nat.reduceEqDiff,Nat.reduceBEq,List.nodup_cons,List.nodup_nil,List.mem_cons,List.not_mem_nil,List.mem_nil_iff];rfl) | rfl | fail):jbT P (.raw (.func (.func f) #[] #[])) args H K:=jbF h0 (je3 hc h2 (e ▸ k))
theorem cg {g:Prop} {R:AV→Prop} {A:Prop} {r0:AV} (hc:PCall P f args r0) (k:q) (h0:jaf P f=true:=by first | (simp (disch:=first | omega | assumption | fail) only [go_sem,jac,W,↓reduceIte,Int.reduceEq,Int.reduceLE,Int.reduceLT,Int.reduceNe,Int.reduceToNat,Nat.reduceMul,Nat.reduceAdd,Nat.reduceLeDiff,Nat.reduceSub,Nat.reduceEqDiff,Nat.reduceBEq,List.nodup_cons,List.nodup_nil,List.mem_cons,List.not_mem_nil,List.mem_nil_iff];done) | (simp (disch:=first | omega | assumption | fail) only [go_sem,jac,↓reduceIte,Int.reduceEq,Int.reduceLE,Int.reduceLT,Int.reduceNe,Int.reduceToNat,Nat.reduceMul,Nat.reduceAdd,Nat.reduceLeDiff,Nat.reduceSub,Nat.reduceEqDiff,Nat.reduceBEq,List.nodup_cons,List.nodup_nil,List.mem_cons,List.not_mem_nil,List.mem_nil_iff];done) | fail) (h2:jaQ noQ args=true:=by first | (simp (disch:=first | omega | assumption | fail) only [go_sem,jac,W,↓reduceIte,Int.reduceEq,Int.reduceLE,Int.reduceLT,Int.reduceNe,Int.reduceToNat,Nat.reduceMul,Nat.reduceAdd,Nat.reduceLeDiff,Nat.reduceSub,Nat.reduceEqDiff,Nat.reduceBEq,List.nodup_cons,List.nodup_nil,List.mem_cons,List.not_mem_nil,List.mem_nil_iff];done) | (simp (disch:=first | omega | assumption | fail) only [go_sem,jac,↓reduceIte,Int.reduceEq,Int.reduceLE,Int.reduceLT,Int.reduceNe,Int.reduceToNat,Nat.reduceMul,Nat.reduceAdd,Nat.reduceLeDiff,Nat.reduceSub,Nat.reduceEqDiff,Nat.reduceBEq,List.nodup_cons,List.nodup_nil,List.mem_cons,List.not_mem_nil,List.mem_nil_iff];done) | fail) (hA:g→A:=by first | exact id | (intro _;exact True.intro) | fail) (e:R r0=q:=by first | (simp (disch:=first | omega | assumption | fail) only [go_sem,jac,W,↓reduceIte,Int.reduceEq,Int.reduceLE,Int.reduceLT,Int.reduceNe,Int.reduceToNat,Nat.reduceMul,Nat.reduceAdd,Nat.reduceLeDiff,Nat.reduceSub,Nat.reduceEqDiff,Nat.reduceBEq,List.nodup_cons,List.nodup_nil,List.mem_cons,List.not_mem_nil,List.mem_nil_iff];rfl) | (simp (disch:=first | omega | assumption | fail) only [go_sem,jac,↓reduceIte,Int.reduceEq,Int.reduceLE,Int.reduceLT,Int.reduceNe,Int.reduceToNat,Nat.reduceMul,Nat.reduceAdd,Nat.reduceLeDiff,Nat.reduceSub,Nat.reduceEqDiff,Nat.reduceBEq,List.nodup_cons,List.nodup_nil,List.mem_cons,List.not_mem_nil,List.mem_nil_iff];rfl) | rfl | fail) :
  ∃ r,(g→A∧jbT P (.raw (.func (.func f) #[] #[])) args H fun r' H'=>r'=r∧H'=H)∧R r:=⟨r0,fun hg=>⟨hA hg,jbF h0 (je3 hc h2 ⟨rfl,rfl⟩)⟩,e ▸ k⟩
theorem cg' {g:Prop} {R:AV→Prop} {r0:AV} (hc:PCall P f args r0) (k:q) (h0:jaf P f=true:=by first | (simp (disch:=first | omega | assumption | fail) only [go_sem,jac,W,↓reduceIte,Int.reduceEq,Int.reduceLE,Int.reduceLT,Int.reduceNe,Int.reduceToNat,Nat.reduceMul,Nat.reduceAdd,Nat.reduceLeDiff,Nat.reduceSub,Nat.reduceEqDiff,Nat.reduceBEq,List.nodup_cons,List.nodup_nil,List.mem_cons,List.not_mem_nil,List.mem_nil_iff];done) | (simp (disch:=first | omega | assumption | fail) only [go_sem,jac,↓reduceIte,Int.reduceEq,Int.reduceLE,Int.reduceLT,Int.reduceNe,Int.reduceToNat,Nat.reduceMul,Nat.reduceAdd,Nat.reduceLeDiff,Nat.reduceSub,Nat.reduceEqDiff,Nat.reduceBEq,List.nodup_cons,List.nodup_nil,List.mem_cons,List.not_mem_nil,List.mem_nil_iff];done) | fail) (h2:jaQ noQ args=true:=by first | (simp (disch:=first | omega | assumption | fail) only [go_sem,jac,W,↓reduceIte,Int.reduceEq,Int.reduceLE,Int.reduceLT,Int.reduceNe,Int.reduceToNat,Nat.reduceMul,Nat.reduceAdd,Nat.reduceLeDiff,Nat.reduceSub,Nat.reduceEqDiff,Nat.reduceBEq,List.nodup_cons,List.nodup_nil,List.mem_cons,List.not_mem_nil,List.mem_nil_iff];done) | (simp (disch:=first | omega | assumption | fail) only [go_sem,jac,↓reduceIte,Int.reduceEq,Int.reduceLE,Int.reduceLT,Int.reduceNe,Int.reduceToNat,Nat.reduceMul,Nat.reduceAdd,Nat.reduceLeDiff,Nat.reduceSub,Nat.reduceEqDiff,Nat.reduceBEq,List.nodup_cons,List.nodup_nil,List.mem_cons,List.not_mem_nil,List.mem_nil_iff];done) | fail) (e:R r0=q:=by first | (simp (disch:=first | omega | assumption | fail) only [go_sem,jac,W,↓reduceIte,Int.reduceEq,Int.reduceLE,Int.reduceLT,Int.reduceNe,Int.reduceToNat,Nat.reduceMul,Nat.reduceAdd,Nat.reduceLeDiff,Nat.reduceSub,Nat.reduceEqDiff,Nat.reduceBEq,List.nodup_cons,List.nodup_nil,List.mem_cons,List.not_mem_nil,List.mem_nil_iff];rfl) | (simp (disch:=first | omega | assumption | fail) only [go_sem,jac,↓reduceIte,Int.reduceEq,Int.reduceLE,Int.reduceLT,Int.reduceNe,Int.reduceToNat,Nat.reduceMul,Nat.reduceAdd,Nat.reduceLeDiff,Nat.reduceSub,Nat.reduceEqDiff,Nat.reduceBEq,List.nodup_cons,List.nodup_nil,List.mem_cons,List.not_mem_nil,List.mem_nil_iff];rfl) | rfl | fail) :
  ∃ r,(g→jbT P (.raw (.func (.func f) #[] #[])) args H fun r' H'=>r'=r∧H'=H)∧R r:=⟨r0,fun _=>jbF h0 (je3 hc h2 ⟨rfl,rfl⟩),e ▸ k⟩
end
theorem FLe.perm {F:List AV} {B:List Nat} {l:List (Nat×Row)} (l':List (Nat×Row)) (h:∀ i,jas l i=jas l' i):FLe F ⟨B,l⟩ F ⟨B,l'⟩:=fun w tm h1 h2=>by
 have hg:∀ i,(Hp.mk B l').get i=(Hp.mk B l).get i:=fun i=>(h i).symm
 exact ⟨w,rfl,{ rows:=fun i r hi=>h1.rows i r ((hg i) ▸ hi),dom:=fun i m z hz=>by rw [hg];exact h1.dom i m z hz,inj:=h1.inj,own:=h1.own,fin:=h1.fin,glob:=h1.glob },h2,{ ExtQ.refl _ w with base:=rfl }⟩
theorem al {P:Program} (i:Nat) {t:TypeId} {H:Hp} {K:AV→Hp→Prop} {zs:List Value} {q:Prop} (k:q) (hi:H.get i=none:=by rfl) (hz:jbt P t=some zs:=by (simp only [go_sem];rfl)) (e:K (.pt i 0 0 0) (H.put i (.var t (zs.map .raw)))=q:=by first | (simp (disch:=first | omega | assumption | fail) only [go_sem,jac,W,↓reduceIte,Int.reduceEq,Int.reduceLE,Int.reduceLT,Int.reduceNe,Int.reduceToNat,Nat.reduceMul,Nat.reduceAdd,Nat.reduceLeDiff,Nat.reduceSub,Nat.reduceEqDiff,Nat.reduceBEq,List.nodup_cons,List.nodup_nil,List.mem_cons,List.not_mem_nil,List.mem_nil_iff];rfl) | (simp (disch:=first | omega | assumption | fail) only [go_sem,jac,↓reduceIte,Int.reduceEq,Int.reduceLE,Int.reduceLT,Int.reduceNe,Int.reduceToNat,Nat.reduceMul,Nat.reduceAdd,Nat.reduceLeDiff,Nat.reduceSub,Nat.reduceEqDiff,Nat.reduceBEq,List.nodup_cons,List.nodup_nil,List.mem_cons,List.not_mem_nil,List.mem_nil_iff];rfl) | rfl | fail):jdD P H t K:=jdE i hz hi (e ▸ k)
theorem bx (i:Nat) {t:TypeId} {x:AV} {H:Hp} {K:AV→Hp→Prop} {q:Prop} (k:q) (hi:H.get i=none:=by rfl) (ho:ones x.cells=true:=by simp only [go_sem]) (e:K (.pt i 0 0 0) (H.put i (.var t x.cells))=q:=by first | (simp (disch:=first | omega | assumption | fail) only [go_sem,jac,W,↓reduceIte,Int.reduceEq,Int.reduceLE,Int.reduceLT,Int.reduceNe,Int.reduceToNat,Nat.reduceMul,Nat.reduceAdd,Nat.reduceLeDiff,Nat.reduceSub,Nat.reduceEqDiff,Nat.reduceBEq,List.nodup_cons,List.nodup_nil,List.mem_cons,List.not_mem_nil,List.mem_nil_iff];rfl) | (simp (disch:=first | omega | assumption | fail) only [go_sem,jac,↓reduceIte,Int.reduceEq,Int.reduceLE,Int.reduceLT,Int.reduceNe,Int.reduceToNat,Nat.reduceMul,Nat.reduceAdd,Nat.reduceLeDiff,Nat.reduceSub,Nat.reduceEqDiff,Nat.reduceBEq,List.nodup_cons,List.nodup_nil,List.mem_cons,List.not_mem_nil,List.mem_nil_iff];rfl) | rfl | fail):jtO H t x K:=jff i ho hi (e ▸ k)
theorem jfs {α:Type} {enc:α→List AV} (vars more ys:List α) {i:Nat} {t:TypeId} {m sz n:Nat} {css yss:List (List AV)} {H:Hp} {K:AV→Hp→Prop} {q:Prop} (k:q) (hm:m=vars.length+more.length:=by first | rfl | (simp only [go_sem];done) | omega) (hn:n=vars.length:=by rfl) (hc:css=(vars++more).map enc:=by first | rfl | exact List.map_append.symm | (simp only [go_sem,List.map_append];done)) (hy:yss=ys.map enc:=by rfl)
 (e:K (.rs i (vars.length+ys.length+(more.drop ys.length).length) sz (vars.length+ys.length)) (H.put i (.vec t sz ((vars++ys++more.drop ys.length).map enc)))=q:=by first | (simp (disch:=first | omega | assumption | fail) only [go_sem,jac,W,↓reduceIte,Int.reduceEq,Int.reduceLE,Int.reduceLT,Int.reduceNe,Int.reduceToNat,Nat.reduceMul,Nat.reduceAdd,Nat.reduceLeDiff,Nat.reduceSub,Nat.reduceEqDiff,Nat.reduceBEq,List.nodup_cons,List.nodup_nil,List.mem_cons,List.not_mem_nil,List.mem_nil_iff];rfl) | (simp (disch:=first | omega | assumption | fail) only [go_sem,jac,↓reduceIte,Int.reduceEq,Int.reduceLE,Int.reduceLT,Int.reduceNe,Int.reduceToNat,Nat.reduceMul,Nat.reduceAdd,Nat.reduceLeDiff,Nat.reduceSub,Nat.reduceEqDiff,Nat.reduceBEq,List.nodup_cons,List.nodup_nil,List.mem_cons,List.not_mem_nil,List.mem_nil_iff];rfl) | rfl | fail):jiC i t m sz n css yss H K:=jm5 vars more ys hm hn hc hy (e ▸ k)
section
variable {P:Program} {Q:Exit→List AV→Hp→Prop} {F:List AV} {H:Hp}
theorem gR {P:Program} {Q:Exit→List AV→Hp→Prop} {F:List AV} {H:Hp} (id:Nat) {l:Array Oper} {b:Bool} (h:AWP P (.region id l b) Q F H):AWP P (.region id l b) Q F H:=h
theorem dE (id:Nat) {l:List Oper} {q:Prop} (ord:List Nat) (hm:P.follows .mixedOrders=true) (h:q) (hok:jkR ([],[],[]) [] l ord=true:=by decide +kernel) (e:jdM ([],[],[]) P l.toArray (Q .normal) (ord.map (atO l)) F H=q:=by (simp only [List.map_cons,List.map_nil,atO,List.getD_cons_zero,List.getD_cons_succ];first | (simp (disch:=first | omega | assumption | fail) only [go_sem,jac,W,↓reduceIte,Int.reduceEq,Int.reduceLE,Int.reduceLT,Int.reduceNe,Int.reduceToNat,Nat.reduceMul,Nat.reduceAdd,Nat.reduceLeDiff,Nat.reduceSub,Nat.reduceEqDiff,Nat.reduceBEq,List.nodup_cons,List.nodup_nil,List.mem_cons,List.not_mem_nil,List.mem_nil_iff];rfl) | (simp (disch:=first | omega | assumption | fail) only [go_sem,jac,↓reduceIte,Int.reduceEq,Int.reduceLE,Int.reduceLT,Int.reduceNe,Int.reduceToNat,Nat.reduceMul,Nat.reduceAdd,Nat.reduceLeDiff,Nat.reduceSub,Nat.reduceEqDiff,Nat.reduceBEq,List.nodup_cons,List.nodup_nil,List.mem_cons,List.not_mem_nil,List.mem_nil_iff];rfl) | rfl | fail)):AWP P (.region id l.toArray true) Q F H:=jiM ord hm hok (e ▸ h)
theorem dA (id:Nat) {l:List Oper} {q:Prop} (A ord:List Nat) (hm:P.follows .mixedOrders=true) (h:q) (hok:jkR (A,[],[]) [] l ord=true:=by decide +kernel) (e:jdM (A,[],[]) P l.toArray (Q .normal) (ord.map (atO l)) F H=q:=by (simp only [List.map_cons,List.map_nil,atO,List.getD_cons_zero,List.getD_cons_succ];first | (simp (disch:=first | omega | assumption | fail) only [go_sem,jac,W,↓reduceIte,Int.reduceEq,Int.reduceLE,Int.reduceLT,Int.reduceNe,Int.reduceToNat,Nat.reduceMul,Nat.reduceAdd,Nat.reduceLeDiff,Nat.reduceSub,Nat.reduceEqDiff,Nat.reduceBEq,List.nodup_cons,List.nodup_nil,List.mem_cons,List.not_mem_nil,List.mem_nil_iff];rfl) | (simp (disch:=first | omega | assumption | fail) only [go_sem,jac,↓reduceIte,Int.reduceEq,Int.reduceLE,Int.reduceLT,Int.reduceNe,Int.reduceToNat,Nat.reduceMul,Nat.reduceAdd,Nat.reduceLeDiff,Nat.reduceSub,Nat.reduceEqDiff,Nat.reduceBEq,List.nodup_cons,List.nodup_nil,List.mem_cons,List.not_mem_nil,List.mem_nil_iff];rfl) | rfl | fail)):AWP P (.region id l.toArray true) Q F H:=jey (A,[],[]) ord hm hok (e ▸ h)
theorem dL (id:Nat) {l:List Oper} {q:Prop} (A E ord:List Nat) (hm:P.follows .mixedOrders=true) (h:q) (hok:jkR (A,[],[]) E l ord=true:=by decide +kernel) (hE:jfP P l E:=by simp only [jfP,atO,List.getD_cons_zero,List.getD_cons_succ,go_sem]) (e:jdM (A,[],[]) P l.toArray (Q .normal) (ord.map (atO l)) F H=q:=by (simp only [List.map_cons,List.map_nil,atO,List.getD_cons_zero,List.getD_cons_succ];first | (simp (disch:=first | omega | assumption | fail) only [go_sem,jac,W,↓reduceIte,Int.reduceEq,Int.reduceLE,Int.reduceLT,Int.reduceNe,Int.reduceToNat,Nat.reduceMul,Nat.reduceAdd,Nat.reduceLeDiff,Nat.reduceSub,Nat.reduceEqDiff,Nat.reduceBEq,List.nodup_cons,List.nodup_nil,List.mem_cons,List.not_mem_nil,List.mem_nil_iff];rfl) | (simp (disch:=first | omega | assumption | fail) only [go_sem,jac,↓reduceIte,Int.reduceEq,Int.reduceLE,Int.reduceLT,Int.reduceNe,Int.reduceToNat,Nat.reduceMul,Nat.reduceAdd,Nat.reduceLeDiff,Nat.reduceSub,Nat.reduceEqDiff,Nat.reduceBEq,List.nodup_cons,List.nodup_nil,List.mem_cons,List.not_mem_nil,List.mem_nil_iff];rfl) | rfl | fail)):AWP P (.region id l.toArray true) Q F H:=jdi (A,[],[]) E ord hm hok hE (e ▸ h)
theorem dC (id:Nat) {l:List Oper} {q:Prop} (A:AS) (E ord:List Nat) (hm:P.follows .mixedOrders=true) (h:q) (hok:jkR A E l ord=true:=by decide +kernel) (hE:jfP P l E:=by simp only [jfP,atO,List.getD_cons_zero,List.getD_cons_succ,go_sem]) (e:jdM A P l.toArray (Q .normal) (ord.map (atO l)) F H=q:=by (simp only [List.map_cons,List.map_nil,atO,List.getD_cons_zero,List.getD_cons_succ];first | (simp (disch:=first | omega | assumption | fail) only [go_sem,jac,W,↓reduceIte,Int.reduceEq,Int.reduceLE,Int.reduceLT,Int.reduceNe,Int.reduceToNat,Nat.reduceMul,Nat.reduceAdd,Nat.reduceLeDiff,Nat.reduceSub,Nat.reduceEqDiff,Nat.reduceBEq,List.nodup_cons,List.nodup_nil,List.mem_cons,List.not_mem_nil,List.mem_nil_iff];rfl) | (simp (disch:=first | omega | assumption | fail) only [go_sem,jac,↓reduceIte,Int.reduceEq,Int.reduceLE,Int.reduceLT,Int.reduceNe,Int.reduceToNat,Nat.reduceMul,Nat.reduceAdd,Nat.reduceLeDiff,Nat.reduceSub,Nat.reduceEqDiff,Nat.reduceBEq,List.nodup_cons,List.nodup_nil,List.mem_cons,List.not_mem_nil,List.mem_nil_iff];rfl) | rfl | fail)):AWP P (.region id l.toArray true) Q F H:=jdi A E ord hm hok hE (e ▸ h)
theorem dQ (id:Nat) {l:List Oper} {q:Prop} (hm:P.follows .mixedOrders=true) (h:q) (hok:jhM l=true:=by decide +kernel) (e:jgO P l.toArray H (fun F'=>Q .normal F' H) l F=q:=by first | (simp (disch:=first | omega | assumption | fail) only [go_sem,jac,W,↓reduceIte,Int.reduceEq,Int.reduceLE,Int.reduceLT,Int.reduceNe,Int.reduceToNat,Nat.reduceMul,Nat.reduceAdd,Nat.reduceLeDiff,Nat.reduceSub,Nat.reduceEqDiff,Nat.reduceBEq,List.nodup_cons,List.nodup_nil,List.mem_cons,List.not_mem_nil,List.mem_nil_iff];rfl) | (simp (disch:=first | omega | assumption | fail) only [go_sem,jac,↓reduceIte,Int.reduceEq,Int.reduceLE,Int.reduceLT,Int.reduceNe,Int.reduceToNat,Nat.reduceMul,Nat.reduceAdd,Nat.reduceLeDiff,Nat.reduceSub,Nat.reduceEqDiff,Nat.reduceBEq,List.nodup_cons,List.nodup_nil,List.mem_cons,List.not_mem_nil,List.mem_nil_iff];rfl) | rfl | fail):AWP P (.region id l.toArray true) Q F H:=jhE hm hok (e ▸ h)
theorem jne {c:Code} (L:List Nat) (slot:Nat) (a:AV) (hB:H.B.all (jdA fun i=>L.contains i)=true) (hl:jeq (fun i=>L.contains i) H.l) (hv:VToL (fun i=>L.contains i) H F (F.set slot a)) (h:AWP P c Q (F.set slot a) ⟨H.B,ja7 (fun i=>L.contains i) H.l⟩):AWP P c Q F H:=jaD (FLe.free _ hB hl hv) h
theorem jpX {c:Code} (L:List Nat) (W:List (Nat×Nat)) (J:List (Nat×AV)) (h0:(L.any fun i=>(H.get i).isSome)=true) (hB:H.B.all (jdA fun i=>L.contains i)=true) (hl:jeq (fun i=>L.contains i) H.l) (hv:VToL (fun i=>L.contains i) H F (jjj J (jlf W F))) (h:AWP P c Q (jjj J (jlf W F)) ⟨H.B,ja7 (fun i=>L.contains i) H.l⟩):AWP P c Q F H:=jaD (FLe.free _ hB hl hv) h
end
theorem jhh {H H':Hp} (e:H=H':=by first | (simp only [go_sem];done) | (simp only [go_sem];rfl) | rfl | fail):H=H':=e
theorem lle {F F':List AV} (e:LLe F F':=by (simp only [go_sem,LLe,Nat.reduceAdd,AV.raw.injEq,Value.int.injEq,Value.slice.injEq,Value.pointer.injEq,AV.rs.injEq];try omega)):LLe F F':=e
theorem vtl {D:Nat→Bool} {H:Hp} {l m:List AV} (e:VToL D H l m:=by (simp only [go_sem,↓reduceIte,Int.reduceEq,Int.reduceLE,Int.reduceLT,Int.reduceNe,Int.reduceToNat,Nat.reduceMul,Nat.reduceAdd,Nat.reduceLeDiff,Nat.reduceSub,Nat.reduceEqDiff,Nat.reduceBEq,List.nodup_cons,List.nodup_nil,List.mem_cons,List.not_mem_nil,List.mem_nil_iff];repeat' (first | exact True.intro | exact jr6 _ | exact VTo.nil _ _ | exact VTo.lit _ _ _ _ _ | exact VTo.same _ rfl | (exact VTo.same _ (by simp only [go_sem,↓reduceIte,Int.reduceEq,Int.reduceLE,Int.reduceLT,Int.reduceNe,Int.reduceToNat,Nat.reduceMul,Nat.reduceAdd,Nat.reduceLeDiff,Nat.reduceSub,Nat.reduceEqDiff,Nat.reduceBEq,List.nodup_cons,List.nodup_nil,List.mem_cons,List.not_mem_nil,List.mem_nil_iff])) | (exact VTo.row _ (by first | rfl | (simp only [go_sem,↓reduceIte,Int.reduceEq,Int.reduceLE,Int.reduceLT,Int.reduceNe,Int.reduceToNat,Nat.reduceMul,Nat.reduceAdd,Nat.reduceLeDiff,Nat.reduceSub,Nat.reduceEqDiff,Nat.reduceBEq,List.nodup_cons,List.nodup_nil,List.mem_cons,List.not_mem_nil,List.mem_nil_iff];done)) (by first | (simp only [go_sem,↓reduceIte,Int.reduceEq,Int.reduceLE,Int.reduceLT,Int.reduceNe,Int.reduceToNat,Nat.reduceMul,Nat.reduceAdd,Nat.reduceLeDiff,Nat.reduceSub,Nat.reduceEqDiff,Nat.reduceBEq,List.nodup_cons,List.nodup_nil,List.mem_cons,List.not_mem_nil,List.mem_nil_iff];done) | rfl | (simp only [go_sem,↓reduceIte,Int.reduceEq,Int.reduceLE,Int.reduceLT,Int.reduceNe,Int.reduceToNat,Nat.reduceMul,Nat.reduceAdd,Nat.reduceLeDiff,Nat.reduceSub,Nat.reduceEqDiff,Nat.reduceBEq,List.nodup_cons,List.nodup_nil,List.mem_cons,List.not_mem_nil,List.mem_nil_iff];rfl)) (by first | rfl | (simp only [go_sem];done) | omega)) | refine And.intro ?_ ?_ | fail))):VToL D H l m:=e
theorem jhF {P:Program} {id:Nat} {l:List Oper} {b:Bool} {Q:Exit→List AV→Hp→Prop} {F:List AV} {H:Hp} {q:Prop} (L:List Nat) (W:List (Nat×Nat)) (J:List (Nat×AV)) (h:q) (h0:(L.any fun i=>(H.get i).isSome)=true:=by rfl) (hB:H.B.all (jdA fun i=>L.contains i)=true:=by first | (simp (disch:=first | omega | assumption | fail) only [go_sem,jac,W,↓reduceIte,Int.reduceEq,Int.reduceLE,Int.reduceLT,Int.reduceNe,Int.reduceToNat,Nat.reduceMul,Nat.reduceAdd,Nat.reduceLeDiff,Nat.reduceSub,Nat.reduceEqDiff,Nat.reduceBEq,List.nodup_cons,List.nodup_nil,List.mem_cons,List.not_mem_nil,List.mem_nil_iff];done) | (simp (disch:=first | omega | assumption | fail) only [go_sem,jac,↓reduceIte,Int.reduceEq,Int.reduceLE,Int.reduceLT,Int.reduceNe,Int.reduceToNat,Nat.reduceMul,Nat.reduceAdd,Nat.reduceLeDiff,Nat.reduceSub,Nat.reduceEqDiff,Nat.reduceBEq,List.nodup_cons,List.nodup_nil,List.mem_cons,List.not_mem_nil,List.mem_nil_iff];done) | fail) (hl:jeq (fun i=>L.contains i) H.l:=by first | (simp (disch:=first | omega | assumption | fail) only [go_sem,jac,W,↓reduceIte,Int.reduceEq,Int.reduceLE,Int.reduceLT,Int.reduceNe,Int.reduceToNat,Nat.reduceMul,Nat.reduceAdd,Nat.reduceLeDiff,Nat.reduceSub,Nat.reduceEqDiff,Nat.reduceBEq,List.nodup_cons,List.nodup_nil,List.mem_cons,List.not_mem_nil,List.mem_nil_iff];done) | (simp (disch:=first | omega | assumption | fail) only [go_sem,jac,↓reduceIte,Int.reduceEq,Int.reduceLE,Int.reduceLT,Int.reduceNe,Int.reduceToNat,Nat.reduceMul,Nat.reduceAdd,Nat.reduceLeDiff,Nat.reduceSub,Nat.reduceEqDiff,Nat.reduceBEq,List.nodup_cons,List.nodup_nil,List.mem_cons,List.not_mem_nil,List.mem_nil_iff];done) | fail)
 (hv:VToL (fun i=>L.contains i) H F (jjj J (jlf W F)):=by exact vtl) (e:AWP P (.region id l.toArray b) Q (jjj J (jlf W F)) ⟨H.B,ja7 (fun i=>L.contains i) H.l⟩=q:=by first | (simp (disch:=first | omega | assumption | fail) only [go_sem,jac,W,↓reduceIte,Int.reduceEq,Int.reduceLE,Int.reduceLT,Int.reduceNe,Int.reduceToNat,Nat.reduceMul,Nat.reduceAdd,Nat.reduceLeDiff,Nat.reduceSub,Nat.reduceEqDiff,Nat.reduceBEq,List.nodup_cons,List.nodup_nil,List.mem_cons,List.not_mem_nil,List.mem_nil_iff];rfl) | (simp (disch:=first | omega | assumption | fail) only [go_sem,jac,↓reduceIte,Int.reduceEq,Int.reduceLE,Int.reduceLT,Int.reduceNe,Int.reduceToNat,Nat.reduceMul,Nat.reduceAdd,Nat.reduceLeDiff,Nat.reduceSub,Nat.reduceEqDiff,Nat.reduceBEq,List.nodup_cons,List.nodup_nil,List.mem_cons,List.not_mem_nil,List.mem_nil_iff];rfl) | rfl | fail):AWP P (.region id l.toArray b) Q F H:=jpX L W J h0 hB hl hv (e ▸ h)
theorem jbO {P:Program} {f:FuncId} {fn:Func} {c:Code} {args:List AV} {r:AV} {k:Nat} (hf:P.funcs[f]?=some fn) (hn:fn.ntmps=k) {F:List AV} (h:AWP P c (jiK P fn fun r' l'=>r'=r∧l'=[]) F ⟨[],[]⟩) (hb:fn.body=some c:=by rfl)
 (hF:args++List.replicate (k - args.length) .any=F:=by (simp only [List.length_cons,List.length_nil,Nat.reduceAdd,Nat.reduceSub,List.replicate,List.cons_append,List.nil_append];rfl)):PCall P f args r:=jmP hf hb (by rw [hn];exact hF) h
theorem jaR {P:Program} {f:FuncId} {fn:Func} {c:Code} {args:List AV} {l:List (Nat×Row)} {R:AV→List (Nat×Row)→Prop} {k:Nat} (hf:P.funcs[f]?=some fn) (hn:fn.ntmps=k) {F:List AV} {L:List Nat} (h:AWP P c (jiK P fn R) F ⟨L,l⟩) (hb:fn.body=some c:=by rfl) (hL:ids l=L:=by rfl)
 (hF:args++List.replicate (k - args.length) .any=F:=by (simp only [List.length_cons,List.length_nil,Nat.reduceAdd,Nat.reduceSub,List.replicate,List.cons_append,List.nil_append];rfl)):ACalls P f args l R:=jkJ hf hb (by rw [hn];exact hF) hL h
section
variable {P:Program} {fn:Func} {F:List AV} {H:Hp} {out:List AV} {e:Exit} {r:AV} {l:List (Nat×Row)}
theorem jbV (rs:List ResultVar) (h1:jbx out=r) (h2:H.l=l) (hrs:fn.results.toList=rs:=by rfl) (he:e=.normal∨e=.ret:=by first | exact Or.inr rfl | exact Or.inl rfl | fail) (ho:jhc P H F rs=some out:=by (simp only [go_sem,↓reduceIte,Int.reduceEq,Int.reduceLE,Int.reduceLT,Int.reduceNe,Int.reduceToNat,Nat.reduceMul,Nat.reduceAdd,Nat.reduceLeDiff,Nat.reduceSub,Nat.reduceEqDiff,Nat.reduceBEq,List.nodup_cons,List.nodup_nil,List.mem_cons,List.not_mem_nil,List.mem_nil_iff];rfl)) (hok:jb2 P H F rs:=by simp only [go_sem,↓reduceIte,Int.reduceEq,Int.reduceLE,Int.reduceLT,Int.reduceNe,Int.reduceToNat,Nat.reduceMul,Nat.reduceAdd,Nat.reduceLeDiff,Nat.reduceSub,Nat.reduceEqDiff,Nat.reduceBEq,List.nodup_cons,List.nodup_nil,List.mem_cons,List.not_mem_nil,List.mem_nil_iff]) :
  jiK P fn (fun r' l'=>r'=r∧l'=l) e F H:=jtv rs hrs he ho hok h1 h2
theorem jaU (rs:List ResultVar) (hv:jbx out=r) (hrs:fn.results.toList=rs:=by rfl) (he:e=.normal∨e=.ret:=by first | exact Or.inr rfl | exact Or.inl rfl | fail) (ho:jhc P H F rs=some out:=by (simp only [go_sem,↓reduceIte,Int.reduceEq,Int.reduceLE,Int.reduceLT,Int.reduceNe,Int.reduceToNat,Nat.reduceMul,Nat.reduceAdd,Nat.reduceLeDiff,Nat.reduceSub,Nat.reduceEqDiff,Nat.reduceBEq,List.nodup_cons,List.nodup_nil,List.mem_cons,List.not_mem_nil,List.mem_nil_iff];rfl)) (hok:jb2 P H F rs:=by simp only [go_sem,↓reduceIte,Int.reduceEq,Int.reduceLE,Int.reduceLT,Int.reduceNe,Int.reduceToNat,Nat.reduceMul,Nat.reduceAdd,Nat.reduceLeDiff,Nat.reduceSub,Nat.reduceEqDiff,Nat.reduceBEq,List.nodup_cons,List.nodup_nil,List.mem_cons,List.not_mem_nil,List.mem_nil_iff]) (hl:jeq (jfB H.B) H.l:=by first | (simp (disch:=first | omega | assumption | fail) only [go_sem,jac,W,↓reduceIte,Int.reduceEq,Int.reduceLE,Int.reduceLT,Int.reduceNe,Int.reduceToNat,Nat.reduceMul,Nat.reduceAdd,Nat.reduceLeDiff,Nat.reduceSub,Nat.reduceEqDiff,Nat.reduceBEq,List.nodup_cons,List.nodup_nil,List.mem_cons,List.not_mem_nil,List.mem_nil_iff];done) | (simp (disch:=first | omega | assumption | fail) only [go_sem,jac,↓reduceIte,Int.reduceEq,Int.reduceLE,Int.reduceLT,Int.reduceNe,Int.reduceToNat,Nat.reduceMul,Nat.reduceAdd,Nat.reduceLeDiff,Nat.reduceSub,Nat.reduceEqDiff,Nat.reduceBEq,List.nodup_cons,List.nodup_nil,List.mem_cons,List.not_mem_nil,List.mem_nil_iff];done) | fail)
 (hq:(jbx out).all (jdA (jfB H.B))=true:=by first | (simp (disch:=first | omega | assumption | fail) only [go_sem,jac,W,↓reduceIte,Int.reduceEq,Int.reduceLE,Int.reduceLT,Int.reduceNe,Int.reduceToNat,Nat.reduceMul,Nat.reduceAdd,Nat.reduceLeDiff,Nat.reduceSub,Nat.reduceEqDiff,Nat.reduceBEq,List.nodup_cons,List.nodup_nil,List.mem_cons,List.not_mem_nil,List.mem_nil_iff];done) | (simp (disch:=first | omega | assumption | fail) only [go_sem,jac,↓reduceIte,Int.reduceEq,Int.reduceLE,Int.reduceLT,Int.reduceNe,Int.reduceToNat,Nat.reduceMul,Nat.reduceAdd,Nat.reduceLeDiff,Nat.reduceSub,Nat.reduceEqDiff,Nat.reduceBEq,List.nodup_cons,List.nodup_nil,List.mem_cons,List.not_mem_nil,List.mem_nil_iff];done) | fail) (h2:ja7 (jfB H.B) H.l=l:=by first | rfl | (first | (simp (disch:=first | omega | assumption | fail) only [go_sem,jac,W,↓reduceIte,Int.reduceEq,Int.reduceLE,Int.reduceLT,Int.reduceNe,Int.reduceToNat,Nat.reduceMul,Nat.reduceAdd,Nat.reduceLeDiff,Nat.reduceSub,Nat.reduceEqDiff,Nat.reduceBEq,List.nodup_cons,List.nodup_nil,List.mem_cons,List.not_mem_nil,List.mem_nil_iff];done) | (simp (disch:=first | omega | assumption | fail) only [go_sem,jac,↓reduceIte,Int.reduceEq,Int.reduceLE,Int.reduceLT,Int.reduceNe,Int.reduceToNat,Nat.reduceMul,Nat.reduceAdd,Nat.reduceLeDiff,Nat.reduceSub,Nat.reduceEqDiff,Nat.reduceBEq,List.nodup_cons,List.nodup_nil,List.mem_cons,List.not_mem_nil,List.mem_nil_iff];done) | fail) | (simp only [go_sem,↓reduceIte,Int.reduceEq,Int.reduceLE,Int.reduceLT,Int.reduceNe,Int.reduceToNat,Nat.reduceMul,Nat.reduceAdd,Nat.reduceLeDiff,Nat.reduceSub,Nat.reduceEqDiff,Nat.reduceBEq,List.nodup_cons,List.nodup_nil,List.mem_cons,List.not_mem_nil,List.mem_nil_iff];rfl) | fail):jiK P fn (fun r' l'=>r'=r∧l'=l) e F H:=jlJ rs hrs he ho hok hl (jjv hv hq) h2
theorem jfG (rs:List ResultVar) (hv:VTo (jfB H.B) H (jbx out) r) (hrs:fn.results.toList=rs:=by rfl) (he:e=.normal∨e=.ret:=by first | exact Or.inr rfl | exact Or.inl rfl | fail) (ho:jhc P H F rs=some out:=by (simp only [go_sem,↓reduceIte,Int.reduceEq,Int.reduceLE,Int.reduceLT,Int.reduceNe,Int.reduceToNat,Nat.reduceMul,Nat.reduceAdd,Nat.reduceLeDiff,Nat.reduceSub,Nat.reduceEqDiff,Nat.reduceBEq,List.nodup_cons,List.nodup_nil,List.mem_cons,List.not_mem_nil,List.mem_nil_iff];rfl)) (hok:jb2 P H F rs:=by simp only [go_sem,↓reduceIte,Int.reduceEq,Int.reduceLE,Int.reduceLT,Int.reduceNe,Int.reduceToNat,Nat.reduceMul,Nat.reduceAdd,Nat.reduceLeDiff,Nat.reduceSub,Nat.reduceEqDiff,Nat.reduceBEq,List.nodup_cons,List.nodup_nil,List.mem_cons,List.not_mem_nil,List.mem_nil_iff]) (hl:jeq (jfB H.B) H.l:=by first | (simp (disch:=first | omega | assumption | fail) only [go_sem,jac,W,↓reduceIte,Int.reduceEq,Int.reduceLE,Int.reduceLT,Int.reduceNe,Int.reduceToNat,Nat.reduceMul,Nat.reduceAdd,Nat.reduceLeDiff,Nat.reduceSub,Nat.reduceEqDiff,Nat.reduceBEq,List.nodup_cons,List.nodup_nil,List.mem_cons,List.not_mem_nil,List.mem_nil_iff];done) | (simp (disch:=first | omega | assumption | fail) only [go_sem,jac,↓reduceIte,Int.reduceEq,Int.reduceLE,Int.reduceLT,Int.reduceNe,Int.reduceToNat,Nat.reduceMul,Nat.reduceAdd,Nat.reduceLeDiff,Nat.reduceSub,Nat.reduceEqDiff,Nat.reduceBEq,List.nodup_cons,List.nodup_nil,List.mem_cons,List.not_mem_nil,List.mem_nil_iff];done) | fail)
 (h2:ja7 (jfB H.B) H.l=l:=by first | rfl | (first | (simp (disch:=first | omega | assumption | fail) only [go_sem,jac,W,↓reduceIte,Int.reduceEq,Int.reduceLE,Int.reduceLT,Int.reduceNe,Int.reduceToNat,Nat.reduceMul,Nat.reduceAdd,Nat.reduceLeDiff,Nat.reduceSub,Nat.reduceEqDiff,Nat.reduceBEq,List.nodup_cons,List.nodup_nil,List.mem_cons,List.not_mem_nil,List.mem_nil_iff];done) | (simp (disch:=first | omega | assumption | fail) only [go_sem,jac,↓reduceIte,Int.reduceEq,Int.reduceLE,Int.reduceLT,Int.reduceNe,Int.reduceToNat,Nat.reduceMul,Nat.reduceAdd,Nat.reduceLeDiff,Nat.reduceSub,Nat.reduceEqDiff,Nat.reduceBEq,List.nodup_cons,List.nodup_nil,List.mem_cons,List.not_mem_nil,List.mem_nil_iff];done) | fail) | (simp only [go_sem,↓reduceIte,Int.reduceEq,Int.reduceLE,Int.reduceLT,Int.reduceNe,Int.reduceToNat,Nat.reduceMul,Nat.reduceAdd,Nat.reduceLeDiff,Nat.reduceSub,Nat.reduceEqDiff,Nat.reduceBEq,List.nodup_cons,List.nodup_nil,List.mem_cons,List.not_mem_nil,List.mem_nil_iff];rfl) | fail):jiK P fn (fun r' l'=>r'=r∧l'=l) e F H:=jlJ rs hrs he ho hok hl hv h2
end
attribute [go_sem] List.length_set
def eI (x:Int):List AV:=[.raw (.int .i64 x)]
instance:EncOK eI 1:=⟨fun _=>rfl,fun _=>rfl,fun _=>rfl⟩
@[go_sem] theorem j4s (x:Int):(eI x).length=1:=(rfl)
@[go_sem] theorem j4r (q:Nat→Bool) (x:Int):jaQ q (eI x)=true:=(rfl)
@[go_sem] theorem j61 (x:Int):(eI x).getD 0 .any=.raw (.int .i64 x):=(rfl)
@[go_sem] theorem j60 (x:Int):(eI x).drop 1=[]:=(rfl)
@[go_sem] theorem j4t (l:List Int) (k:Nat) (x:Int):(l.map eI).set k [.raw (.int .i64 x)]=(l.set k x).map eI:=(List.map_set (f:=eI)).symm
def eS (x:ByteArray):List AV:=[.raw (.string x)]
instance:EncOK eS 1:=⟨fun _=>rfl,fun _=>rfl,fun _=>rfl⟩
@[go_sem] theorem j4v (x:ByteArray):(eS x).length=1:=(rfl)
@[go_sem] theorem j62 (x:ByteArray):(eS x).getD 0 .any=.raw (.string x):=(rfl)
def eB (x:Bool):List AV:=[.raw (.bool x)]
instance:EncOK eB 1:=⟨fun _=>rfl,fun _=>rfl,fun _=>rfl⟩
def eU (x:Int):List AV:=[.raw (.int .u8 x)]
instance:EncOK eU 1:=⟨fun _=>rfl,fun _=>rfl,fun _=>rfl⟩
def eLI (x:List Int):List AV:=[jaI eI 1 x]
instance:EncOK eLI 1:=⟨fun _=>rfl,fun _=>rfl,fun _=>rfl⟩
@[go_sem] theorem j1u (x:List Int):(eLI x).length=1:=(rfl)
@[go_sem] theorem j4u (x:List Int):(eLI x).getD 0 .any=jaI eI 1 x:=(rfl)
structure GToken where
 kind:Int
 text:ByteArray
 at_:Int
 deriving Inhabited,DecidableEq
def jb5 (x:GToken):List AV:=[.raw (.int .i64 x.kind),.raw (.string x.text),.raw (.int .i64 x.at_)]
section
variable (x y:GToken)
@[go_sem] theorem jvq:(jb5 x).length=3:=(rfl)
@[go_sem] theorem juf:(jb5 x).all AV.one=true:=(rfl)
@[go_sem] theorem jmr (q:Nat→Bool):jaQ q (jb5 x)=true:=by simp [jb5,jaQ,AV.all]
instance:EncOK jb5 3:=⟨fun _=>rfl,fun _=>rfl,fun x=>jmr x _⟩
@[go_sem] theorem jug:(jb5 x).take 3=jb5 x:=(rfl)
@[go_sem] theorem jxh:(jb5 x).getD 0 .any=.raw (.int .i64 x.kind):=(rfl)
@[go_sem] theorem jxi:(jb5 x).getD 1 .any=.raw (.string x.text):=(rfl)
@[go_sem] theorem jxj:(jb5 x).getD 2 .any=.raw (.int .i64 x.at_):=(rfl)
end
structure GNode where
 kind:Int
 line:Int
 n:Int
 name:ByteArray
 l:List Int
 deriving Inhabited,DecidableEq
def jaH (x:GNode):List AV:=[.raw (.int .i64 x.kind),.raw (.int .i64 x.line),.raw (.int .i64 x.n),.raw (.string x.name),jaI eI 1 x.l]
section
variable (x y:GNode)
@[go_sem] theorem jwU:(jaH x).length=5:=(rfl)
@[go_sem] theorem jvd:(jaH x).all AV.one=true:=(rfl)
@[go_sem] theorem jgt (q:Nat→Bool):jaQ q (jaH x)=true:=by simp [jaH,jaQ,AV.all]
instance:EncOK jaH 5:=⟨fun _=>rfl,fun _=>rfl,fun x=>jgt x _⟩
@[go_sem] theorem jve:(jaH x).take 5=jaH x:=(rfl)
@[go_sem] theorem jyn:(jaH x).getD 0 .any=.raw (.int .i64 x.kind):=(rfl)
@[go_sem] theorem jyo:(jaH x).getD 1 .any=.raw (.int .i64 x.line):=(rfl)
@[go_sem] theorem jyp:(jaH x).getD 2 .any=.raw (.int .i64 x.n):=(rfl)
@[go_sem] theorem jyq:(jaH x).getD 3 .any=.raw (.string x.name):=(rfl)
@[go_sem] theorem jyr:(jaH x).getD 4 .any=jaI eI 1 x.l:=(rfl)
end
structure GValue where
 ty:Int
 n:Int
 s:ByteArray
 deriving Inhabited,DecidableEq
def jan (x:GValue):List AV:=[.raw (.int .i64 x.ty),.raw (.int .i64 x.n),.raw (.string x.s)]
section
variable (x y:GValue)
@[go_sem] theorem jvt:(jan x).length=3:=(rfl)
@[go_sem] theorem juh:(jan x).all AV.one=true:=(rfl)
@[go_sem] theorem jms (q:Nat→Bool):jaQ q (jan x)=true:=by simp [jan,jaQ,AV.all]
instance:EncOK jan 3:=⟨fun _=>rfl,fun _=>rfl,fun x=>jms x _⟩
@[go_sem] theorem jui:(jan x).take 3=jan x:=(rfl)
@[go_sem] theorem jxm:(jan x).getD 0 .any=.raw (.int .i64 x.ty):=(rfl)
@[go_sem] theorem jxn:(jan x).getD 1 .any=.raw (.int .i64 x.n):=(rfl)
@[go_sem] theorem jxo:(jan x).getD 2 .any=.raw (.string x.s):=(rfl)
end
structure GParam where
 name:ByteArray
 ty:Int
 deriving Inhabited,DecidableEq
def jce (x:GParam):List AV:=[.raw (.string x.name),.raw (.int .i64 x.ty)]
section
variable (x y:GParam)
@[go_sem] theorem jvf:(jce x).length=2:=(rfl)
@[go_sem] theorem jt7:(jce x).all AV.one=true:=(rfl)
@[go_sem] theorem jmo (q:Nat→Bool):jaQ q (jce x)=true:=by simp [jce,jaQ,AV.all]
instance:EncOK jce 2:=⟨fun _=>rfl,fun _=>rfl,fun x=>jmo x _⟩
@[go_sem] theorem jt8:(jce x).take 2=jce x:=(rfl)
@[go_sem] theorem jwV:(jce x).getD 0 .any=.raw (.string x.name):=(rfl)
@[go_sem] theorem jwW:(jce x).getD 1 .any=.raw (.int .i64 x.ty):=(rfl)
end
structure GFunc where
 name:ByteArray
 line:Int
 params:List GParam
 ret:Int
 body:Int
 deriving Inhabited,DecidableEq
def jbn (x:GFunc):List AV:=[.raw (.string x.name),.raw (.int .i64 x.line),jaI jce 2 x.params,.raw (.int .i64 x.ret),.raw (.int .i64 x.body)]
section
variable (x y:GFunc)
@[go_sem] theorem jwT:(jbn x).length=5:=(rfl)
@[go_sem] theorem jvb:(jbn x).all AV.one=true:=(rfl)
@[go_sem] theorem joL (q:Nat→Bool):jaQ q (jbn x)=true:=by simp [jbn,jaQ,AV.all]
instance:EncOK jbn 5:=⟨fun _=>rfl,fun _=>rfl,fun x=>joL x _⟩
@[go_sem] theorem jvc:(jbn x).take 5=jbn x:=(rfl)
@[go_sem] theorem jyj:(jbn x).getD 0 .any=.raw (.string x.name):=(rfl)
@[go_sem] theorem jyk:(jbn x).getD 2 .any=jaI jce 2 x.params:=(rfl)
@[go_sem] theorem jyl:(jbn x).getD 3 .any=.raw (.int .i64 x.ret):=(rfl)
@[go_sem] theorem jym:(jbn x).getD 4 .any=.raw (.int .i64 x.body):=(rfl)
end
structure GTree where
 nodes:List GNode
 fns:List GFunc
 deriving Inhabited,DecidableEq
def jcp (x:GTree):List AV:=[jaI jaH 5 x.nodes,jaI jbn 5 x.fns]
section
variable (x y:GTree)
@[go_sem] theorem jxl:(jcp x).length=2:=(rfl)
@[go_sem] theorem jvr:(jcp x).all AV.one=true:=(rfl)
@[go_sem] theorem joP (q:Nat→Bool):jaQ q (jcp x)=true:=by simp [jcp,jaQ,AV.all]
instance:EncOK jcp 2:=⟨fun _=>rfl,fun _=>rfl,fun x=>joP x _⟩
@[go_sem] theorem jvs:(jcp x).take 2=jcp x:=(rfl)
@[go_sem] theorem jyK:(jcp x).getD 0 .any=jaI jaH 5 x.nodes:=(rfl)
@[go_sem] theorem jyL:(jcp x).getD 1 .any=jaI jbn 5 x.fns:=(rfl)
end
structure GVar where
 name:ByteArray
 ty:Int
 slot:Int
 deriving Inhabited,DecidableEq
def jcv (x:GVar):List AV:=[.raw (.string x.name),.raw (.int .i64 x.ty),.raw (.int .i64 x.slot)]
section
variable (x y:GVar)
@[go_sem] theorem jyM:(jcv x).length=3:=(rfl)
@[go_sem] theorem jxp:(jcv x).all AV.one=true:=(rfl)
@[go_sem] theorem jp8 (q:Nat→Bool):jaQ q (jcv x)=true:=by simp [jcv,jaQ,AV.all]
instance:EncOK jcv 3:=⟨fun _=>rfl,fun _=>rfl,fun x=>jp8 x _⟩
@[go_sem] theorem jxq:(jcv x).take 3=jcv x:=(rfl)
@[go_sem] theorem j0t:(jcv x).getD 0 .any=.raw (.string x.name):=(rfl)
@[go_sem] theorem j0u:(jcv x).getD 1 .any=.raw (.int .i64 x.ty):=(rfl)
@[go_sem] theorem j0v:(jcv x).getD 2 .any=.raw (.int .i64 x.slot):=(rfl)
end
structure GProg where
 tree:GTree
 types:List Int
 slots:List Int
 fn:List Int
 size:List Int
 deriving Inhabited,DecidableEq
def jah (x:GProg):List AV:=[jaI jaH 5 x.tree.nodes,jaI jbn 5 x.tree.fns,jaI eI 1 x.types,jaI eI 1 x.slots,jaI eI 1 x.fn,jaI eI 1 x.size]
section
variable (x y:GProg)
@[go_sem] theorem jw0:(jah x).length=6:=(rfl)
@[go_sem] theorem jvh:(jah x).all AV.one=true:=(rfl)
@[go_sem] theorem jgu (q:Nat→Bool):jaQ q (jah x)=true:=by simp [jah,jaQ,AV.all]
instance:EncOK jah 6:=⟨fun _=>rfl,fun _=>rfl,fun x=>jgu x _⟩
@[go_sem] theorem jvi:(jah x).take 6=jah x:=(rfl)
@[go_sem] theorem jys:(jah x).getD 0 .any=jaI jaH 5 x.tree.nodes:=(rfl)
@[go_sem] theorem jyt:(jah x).getD 1 .any=jaI jbn 5 x.tree.fns:=(rfl)
@[go_sem] theorem jyu:(jah x).getD 2 .any=jaI eI 1 x.types:=(rfl)
@[go_sem] theorem jyv:(jah x).getD 3 .any=jaI eI 1 x.slots:=(rfl)
@[go_sem] theorem jyw:(jah x).getD 4 .any=jaI eI 1 x.fn:=(rfl)
@[go_sem] theorem jyx:(jah x).getD 5 .any=jaI eI 1 x.size:=(rfl)
end
structure GPlace where
 block:Int
 at_:Int
 deriving Inhabited,DecidableEq
def jba (x:GPlace):List AV:=[.raw (.int .i64 x.block),.raw (.int .i64 x.at_)]
section
variable (x y:GPlace)
@[go_sem] theorem jvg:(jba x).length=2:=(rfl)
@[go_sem] theorem jt9:(jba x).all AV.one=true:=(rfl)
@[go_sem] theorem jmp (q:Nat→Bool):jaQ q (jba x)=true:=by simp [jba,jaQ,AV.all]
instance:EncOK jba 2:=⟨fun _=>rfl,fun _=>rfl,fun x=>jmp x _⟩
@[go_sem] theorem jua:(jba x).take 2=jba x:=(rfl)
@[go_sem] theorem jwX:(jba x).getD 0 .any=.raw (.int .i64 x.block):=(rfl)
@[go_sem] theorem jwY:(jba x).getD 1 .any=.raw (.int .i64 x.at_):=(rfl)
@[go_sem] theorem jwZ (v:Int):List.take 1 (jba x)++[.raw (.int .i64 v)]++List.drop 2 (jba x)=jba { x with at_:=v }:=(rfl)
end
structure GFrame where
 fn:Int
 slots:List GValue
 path:List GPlace
 deriving Inhabited,DecidableEq
def jbG (x:GFrame):List AV:=[.raw (.int .i64 x.fn),jaI jan 3 x.slots,jaI jba 2 x.path]
section
variable (x y:GFrame)
@[go_sem] theorem jva:(jbG x).length=3:=(rfl)
@[go_sem] theorem jt5:(jbG x).all AV.one=true:=(rfl)
@[go_sem] theorem jmn (q:Nat→Bool):jaQ q (jbG x)=true:=by simp [jbG,jaQ,AV.all]
instance:EncOK jbG 3:=⟨fun _=>rfl,fun _=>rfl,fun x=>jmn x _⟩
@[go_sem] theorem jt6:(jbG x).take 3=jbG x:=(rfl)
@[go_sem] theorem jwQ:(jbG x).getD 0 .any=.raw (.int .i64 x.fn):=(rfl)
@[go_sem] theorem jwR:(jbG x).getD 1 .any=jaI jan 3 x.slots:=(rfl)
@[go_sem] theorem jwS:(jbG x).getD 2 .any=jaI jba 2 x.path:=(rfl)
end
structure GState where
 frames:List GFrame
 heap:List (List Int)
 in_:Int
 out_:List ByteArray
 status:Int
 trap:Int
 time:Int
 deriving Inhabited,DecidableEq
def jal (x:GState):List AV:=[jaI jbG 3 x.frames,jaI eLI 1 x.heap,.raw (.int .i64 x.in_),jaI eS 1 x.out_,.raw (.int .i64 x.status),.raw (.int .i64 x.trap),.raw (.int .i64 x.time)]
section
variable (x y:GState)
@[go_sem] theorem jvp:(jal x).length=7:=(rfl)
@[go_sem] theorem jud:(jal x).all AV.one=true:=(rfl)
@[go_sem] theorem jdk (q:Nat→Bool):jaQ q (jal x)=true:=by simp [jal,jaQ,AV.all]
instance:EncOK jal 7:=⟨fun _=>rfl,fun _=>rfl,fun x=>jdk x _⟩
@[go_sem] theorem jue:(jal x).take 7=jal x:=(rfl)
@[go_sem] theorem jw7:(jal x).getD 0 .any=jaI jbG 3 x.frames:=(rfl)
@[go_sem] theorem jw8:(jal x).getD 1 .any=jaI eLI 1 x.heap:=(rfl)
@[go_sem] theorem jw9:(jal x).getD 2 .any=.raw (.int .i64 x.in_):=(rfl)
@[go_sem] theorem jxa:(jal x).getD 3 .any=jaI eS 1 x.out_:=(rfl)
@[go_sem] theorem jxb:(jal x).getD 4 .any=.raw (.int .i64 x.status):=(rfl)
@[go_sem] theorem jxe (v:Int):List.take 4 (jal x)++[.raw (.int .i64 v)]++List.drop 5 (jal x)=jal { x with status:=v }:=(rfl)
@[go_sem] theorem jxc:(jal x).getD 5 .any=.raw (.int .i64 x.trap):=(rfl)
@[go_sem] theorem jxf (v:Int):List.take 5 (jal x)++[.raw (.int .i64 v)]++List.drop 6 (jal x)=jal { x with trap:=v }:=(rfl)
@[go_sem] theorem jxd:(jal x).getD 6 .any=.raw (.int .i64 x.time):=(rfl)
@[go_sem] theorem jxg (v:Int):List.take 6 (jal x)++[.raw (.int .i64 v)]++List.drop 7 (jal x)=jal { x with time:=v }:=(rfl)
end
structure GSpot where
 fn:Int
 node:Int
 slots:List GValue
 deriving Inhabited,DecidableEq
def jb4 (x:GSpot):List AV:=[.raw (.int .i64 x.fn),.raw (.int .i64 x.node),jaI jan 3 x.slots]
section
variable (x y:GSpot)
@[go_sem] theorem jw6:(jb4 x).length=3:=(rfl)
@[go_sem] theorem jvn:(jb4 x).all AV.one=true:=(rfl)
@[go_sem] theorem joO (q:Nat→Bool):jaQ q (jb4 x)=true:=by simp [jb4,jaQ,AV.all]
instance:EncOK jb4 3:=⟨fun _=>rfl,fun _=>rfl,fun x=>joO x _⟩
@[go_sem] theorem jvo:(jb4 x).take 3=jb4 x:=(rfl)
@[go_sem] theorem jyH:(jb4 x).getD 0 .any=.raw (.int .i64 x.fn):=(rfl)
@[go_sem] theorem jyI:(jb4 x).getD 1 .any=.raw (.int .i64 x.node):=(rfl)
@[go_sem] theorem jyJ:(jb4 x).getD 2 .any=jaI jan 3 x.slots:=(rfl)
end
structure GShot where
 calls:List GSpot
 heap:List (List Int)
 in_:Int
 out_:List ByteArray
 status:Int
 trap:Int
 time:Int
 deriving Inhabited,DecidableEq
def jcc (x:GShot):List AV:=[jaI jb4 3 x.calls,jaI eLI 1 x.heap,.raw (.int .i64 x.in_),jaI eS 1 x.out_,.raw (.int .i64 x.status),.raw (.int .i64 x.trap),.raw (.int .i64 x.time)]
section
variable (x y:GShot)
@[go_sem] theorem jw2:(jcc x).length=7:=(rfl)
@[go_sem] theorem jvl:(jcc x).all AV.one=true:=(rfl)
@[go_sem] theorem joN (q:Nat→Bool):jaQ q (jcc x)=true:=by simp [jcc,jaQ,AV.all]
instance:EncOK jcc 7:=⟨fun _=>rfl,fun _=>rfl,fun x=>joN x _⟩
@[go_sem] theorem jyB:(jcc x).getD 0 .any=jaI jb4 3 x.calls:=(rfl)
@[go_sem] theorem jyC:(jcc x).getD 1 .any=jaI eLI 1 x.heap:=(rfl)
@[go_sem] theorem jyD:(jcc x).getD 2 .any=.raw (.int .i64 x.in_):=(rfl)
@[go_sem] theorem jyE:(jcc x).getD 3 .any=jaI eS 1 x.out_:=(rfl)
@[go_sem] theorem jyF:(jcc x).getD 4 .any=.raw (.int .i64 x.status):=(rfl)
@[go_sem] theorem jyG:(jcc x).getD 5 .any=.raw (.int .i64 x.trap):=(rfl)
end
structure GShown where
 name:ByteArray
 text:ByteArray
 deriving Inhabited,DecidableEq
def jbb (x:GShown):List AV:=[.raw (.string x.name),.raw (.string x.text)]
section
variable (x y:GShown)
@[go_sem] theorem jvm:(jbb x).length=2:=(rfl)
@[go_sem] theorem jub:(jbb x).all AV.one=true:=(rfl)
@[go_sem] theorem jmq (q:Nat→Bool):jaQ q (jbb x)=true:=by simp [jbb,jaQ,AV.all]
instance:EncOK jbb 2:=⟨fun _=>rfl,fun _=>rfl,fun x=>jmq x _⟩
@[go_sem] theorem juc:(jbb x).take 2=jbb x:=(rfl)
@[go_sem] theorem jw4:(jbb x).getD 0 .any=.raw (.string x.name):=(rfl)
@[go_sem] theorem jw5:(jbb x).getD 1 .any=.raw (.string x.text):=(rfl)
@[go_sem] theorem jsM:(jbb x).map jdl=[some .str,some .str]:=(rfl)
@[go_sem] theorem jw3:eqL (jbb x) (jbb y)=decide (x=y):=by
 rw [Bool.eq_iff_iff]
 obtain ⟨a27,a28⟩:=x;obtain ⟨b29,b30⟩:=y
 simp [jbb,eqL]
end
structure GSeen where
 name:ByteArray
 line:Int
 vars:List GShown
 deriving Inhabited,DecidableEq
def jbC (x:GSeen):List AV:=[.raw (.string x.name),.raw (.int .i64 x.line),jaI jbb 2 x.vars]
section
variable (x y:GSeen)
@[go_sem] theorem jw1:(jbC x).length=3:=(rfl)
@[go_sem] theorem jvj:(jbC x).all AV.one=true:=(rfl)
@[go_sem] theorem joM (q:Nat→Bool):jaQ q (jbC x)=true:=by simp [jbC,jaQ,AV.all]
instance:EncOK jbC 3:=⟨fun _=>rfl,fun _=>rfl,fun x=>joM x _⟩
@[go_sem] theorem jvk:(jbC x).take 3=jbC x:=(rfl)
@[go_sem] theorem jyy:(jbC x).getD 0 .any=.raw (.string x.name):=(rfl)
@[go_sem] theorem jyz:(jbC x).getD 1 .any=.raw (.int .i64 x.line):=(rfl)
@[go_sem] theorem jyA:(jbC x).getD 2 .any=jaI jbb 2 x.vars:=(rfl)
end
structure GView where
 calls:List GSeen
 out_:List ByteArray
 in_:Int
 status:Int
 trap:Int
 deriving Inhabited,DecidableEq
def ja4 (x:GView):List AV:=[jaI jbC 3 x.calls,jaI eS 1 x.out_,.raw (.int .i64 x.in_),.raw (.int .i64 x.status),.raw (.int .i64 x.trap)]
section
variable (x y:GView)
@[go_sem] theorem jxr:(ja4 x).length=5:=(rfl)
@[go_sem] theorem jvu:(ja4 x).all AV.one=true:=(rfl)
@[go_sem] theorem joQ (q:Nat→Bool):jaQ q (ja4 x)=true:=by simp [ja4,jaQ,AV.all]
instance:EncOK ja4 5:=⟨fun _=>rfl,fun _=>rfl,fun x=>joQ x _⟩
@[go_sem] theorem jvv:(ja4 x).take 5=ja4 x:=(rfl)
@[go_sem] theorem jyN:(ja4 x).getD 0 .any=jaI jbC 3 x.calls:=(rfl)
@[go_sem] theorem jyO:(ja4 x).getD 1 .any=jaI eS 1 x.out_:=(rfl)
@[go_sem] theorem jyP:(ja4 x).getD 2 .any=.raw (.int .i64 x.in_):=(rfl)
@[go_sem] theorem jyQ:(ja4 x).getD 3 .any=.raw (.int .i64 x.status):=(rfl)
@[go_sem] theorem jyR:(ja4 x).getD 4 .any=.raw (.int .i64 x.trap):=(rfl)
end
end Go.Gd

/- Lemmas. No conditions. -/
import Derived.Test.YtfkgcobaheegbaaGreatDoorGdO
set_option linter.all false
namespace Go.Gd
open Go
universe u
variable{q:Prop}
theorem dj(e:q:=by first|(simp(disch:=first|omega|assumption|fail) only[go_sem,rN,W,↓reduceIte,Int.reduceEq,Int.reduceLE,Int.reduceLT,Int.reduceNe,Int.reduceToNat,Nat.reduceMul,Nat.reduceAdd,Nat.reduceLeDiff,Nat.reduceSub,Nat.reduceEqDiff,Nat.reduceBEq,List.nodup_cons,List.nodup_nil,List.mem_cons,List.not_mem_nil,List.mem_nil_iff];done)|(simp(disch:=first|omega|assumption|fail) only[go_sem,rN,↓reduceIte,Int.reduceEq,Int.reduceLE,Int.reduceLT,Int.reduceNe,Int.reduceToNat,Nat.reduceMul,Nat.reduceAdd,Nat.reduceLeDiff,Nat.reduceSub,Nat.reduceEqDiff,Nat.reduceBEq,List.nodup_cons,List.nodup_nil,List.mem_cons,List.not_mem_nil,List.mem_nil_iff];done)|fail):q:=e
theorem eJ(e:q:=by first|(simp(disch:=first|omega|assumption|fail) only[go_sem,rN,W,↓reduceIte,Int.reduceEq,Int.reduceLE,Int.reduceLT,Int.reduceNe,Int.reduceToNat,Nat.reduceMul,Nat.reduceAdd,Nat.reduceLeDiff,Nat.reduceSub,Nat.reduceEqDiff,Nat.reduceBEq,List.nodup_cons,List.nodup_nil,List.mem_cons,List.not_mem_nil,List.mem_nil_iff];rfl)|(simp(disch:=first|omega|assumption|fail) only[go_sem,rN,↓reduceIte,Int.reduceEq,Int.reduceLE,Int.reduceLT,Int.reduceNe,Int.reduceToNat,Nat.reduceMul,Nat.reduceAdd,Nat.reduceLeDiff,Nat.reduceSub,Nat.reduceEqDiff,Nat.reduceBEq,List.nodup_cons,List.nodup_nil,List.mem_cons,List.not_mem_nil,List.mem_nil_iff];rfl)|rfl|fail):q:=e
theorem Nc(e:q:=by first|(simp(disch:=first|omega|assumption|fail) only[go_sem,rN,W,↓reduceIte,Int.reduceEq,Int.reduceLE,Int.reduceLT,Int.reduceNe,Int.reduceToNat,Nat.reduceMul,Nat.reduceAdd,Nat.reduceLeDiff,Nat.reduceSub,Nat.reduceEqDiff,Nat.reduceBEq,List.nodup_cons,List.nodup_nil,List.mem_cons,List.not_mem_nil,List.mem_nil_iff];rfl)|(simp(disch:=first|omega|assumption|fail) only[go_sem,rN,↓reduceIte,Int.reduceEq,Int.reduceLE,Int.reduceLT,Int.reduceNe,Int.reduceToNat,Nat.reduceMul,Nat.reduceAdd,Nat.reduceLeDiff,Nat.reduceSub,Nat.reduceEqDiff,Nat.reduceBEq,List.nodup_cons,List.nodup_nil,List.mem_cons,List.not_mem_nil,List.mem_nil_iff];rfl)|fail):q:=e
theorem Cw(e:q:=by first|(exact ug)|rfl|fail):q:=e
variable{α:Type}
@[go_sem] theorem jwC[Inhabited α](f:α->List AV)(a:List α)(b:List (List AV))(k:Nat)(h:k<a.length):(a.map f++b).getD k []=f (nth a k):=by rw[dN h,List.getD_eq_getElem?_getD,List.getElem?_append_left (by simpa using h)];simp[h]
attribute [go_sem] List.isEmpty_nil
variable{P:Program}{Q:Exit->List AV->Hp->Prop}{F:List AV}{H:Hp}
@[congr] theorem j0X{c:Code}{F':List AV}{H':Hp}(h1:F=F')(h2:H=H'):dH P c Q F H=dH P c Q F' H':=by rw[h1,h2]
def mQ(p q:Prop):Prop:=q->p
section
variable {P:Program}{Q:Exit->List AV->Hp->Prop}{F:List AV}{H:Hp}
variable{id:Nat}{q:Prop}
theorem IK{l:List Oper}(e:iC P l.toArray (Q .normal) l F H=q):mQ (dH P (.region id l.toArray false) Q F H) q:=fun h=>Oq (e ▸ h)
theorem Lr{c:Code}:mQ (dH P (.block id c) Q F H) (dH P c (sq id Q) F H):=Po
theorem Pj(e:Q .normal F H=q):mQ (dH P .skip Q F H) q:=fun h=>LC (e ▸ h)
theorem Ni(e:Q (.exit id) F H=q):mQ (dH P (.exit id) Q F H) q:=fun h=>Ph (e ▸ h)
theorem LH(e:Q .ret F H=q):mQ (dH P .ret Q F H) q:=fun h=>Od (e ▸ h)
end
section
variable {P:Program}{H:Hp}{K:AV->Hp->Prop}
variable{t:TypeId}{q:Prop}
theorem QS{zs:List Value}(hz:eT P t=some zs)(e:K (.pt (nx H.l) 0 0 0) (H.put (nx H.l) (.var t (zs.map .raw)))=q):mQ (nP P H t K) q:=fun h=>K7 hz (e ▸ h)
theorem Jk{x:AV}(ho:da x.cells=true)(e:K (.pt (nx H.l) 0 0 0) (H.put (nx H.l) (.var t x.cells))=q):mQ (rm H t x K) q:=fun h=>J7 ho (e ▸ h)
theorem ML{A:Nat->Prop}{d:gb A}(e:A (nx H.l)=q):mQ (rR H A d) q:=fun h=>J2 (e ▸ h)
theorem Nd{sz:Nat}(h0:0<sz)(e:K (.rs (nx H.l) 0 sz 0) (H.put (nx H.l) (.aL t sz []))=q):mQ (qC t sz [] H K) q:=fun h=>Jt h0 (e ▸ h)
theorem MZ{sz:Nat}{css:List (List AV)}(h1:aW dY css.flatten=true)(e:K (.sl true sz css []) H=q):mQ (qC t sz css H K) q:=fun h=>LD h1 (e ▸ h)
theorem MK{a x:AV}(e:wS P t a x H K=q):mQ (pT P t t a x H K) q:=fun h=>DG (e ▸ h)
theorem Jj{d:gb K}{r:AV}(e:K r H=q):mQ (AP K d r H) q:=fun h=>IJ (e ▸ h)
theorem OV{a b:Prop}(h:a):mQ (a/\b) b:=fun k=>⟨h,k⟩
end
variable{p:Prop}
theorem aC(h:q)(e:mQ p q:=by first
 |((with_reducible apply IK);exact eJ)
 |with_reducible exact Lr
 |((with_reducible apply Ni);exact Cw)
 |((with_reducible apply LH);exact Cw)
 |((with_reducible apply Pj);exact Cw)
 |fail):p:=e h
theorem aD(h:q)(e:mQ p q:=by first
 |((with_reducible apply MK);exact eJ)
 |((with_reducible apply Jj);exact eJ)
 |((with_reducible apply Nd);(focus (exact dj));exact eJ)
 |((with_reducible apply MZ);(focus (simp only[go_sem]));exact eJ)
 |((with_reducible apply QS);(focus (simp only[go_sem];rfl));exact eJ)
 |((with_reducible apply Jk);(focus (simp only[go_sem]));exact eJ)
 |((with_reducible apply ML);exact eJ)
 |((with_reducible apply OV);first|omega|(simp +contextual;done)|(simp +contextual;intros;omega)|fail)
 |fail):p:=e h
theorem S(h:q)(e:p=q:=by exact Nc):p:=e ▸ h
theorem Sd(e:p=True:=by exact dj):p:=of_eq_true e
theorem aA{c:Operand}{x y:Code}{b:Bool}{pt pf:Prop}(ht:pt->dH P x Q F H)(hf:pf->dH P y Q F H)(hc:cc F c=.raw (.bool b):=by rfl)
 (et:(b=true)=pt:=by first|(simp only[Int.reduceEq,Int.reduceLE,Int.reduceLT,Int.reduceNe,false_and,and_false,true_and,and_true,or_false,false_or,true_or,or_true,Bool.false_eq_true,Bool.true_eq_false,eq_self,reduceCtorEq,Bool.not_true,Bool.not_false,Bool.and_eq_true,Bool.or_eq_true,Bool.and_eq_false_iff,Bool.or_eq_false_iff,decide_eq_true_eq,decide_eq_false_iff_not,Bool.not_eq_true',Bool.not_eq_false',Int.not_lt,Int.not_le];rfl)|rfl) (ef:(b=false)=pf:=by first|(simp only[Int.reduceEq,Int.reduceLE,Int.reduceLT,Int.reduceNe,false_and,and_false,true_and,and_true,or_false,false_or,true_or,or_true,Bool.false_eq_true,Bool.true_eq_false,eq_self,reduceCtorEq,Bool.not_true,Bool.not_false,Bool.and_eq_true,Bool.or_eq_true,Bool.and_eq_false_iff,Bool.or_eq_false_iff,decide_eq_true_eq,decide_eq_false_iff_not,Bool.not_eq_true',Bool.not_eq_false',Int.not_lt,Int.not_le];rfl)|rfl):dH P (.cond c x y) Q F H:=Re hc (fun h=>ht (et ▸ h)) (fun h=>hf (ef ▸ h))
section
variable {P:Program}{f:FuncId}{args:List AV}{H:Hp}{K:AV->Hp->Prop}{q:Prop}
variable{r0:AV}
theorem cm{l l0:List (Nat×Row)}(hc:aj P f args l fun r l'=>r=r0/\l'=l0)(k:q)(h1:fits l H:=by exact dj)(h0:bz P f=true:=by exact dj)(h2:aW (fun i=>(ids l).contains i) args=true:=by exact dj)(h3:sQ (fun i=>(ids l).contains i) l:=by exact dj)
 (h4:fresh (ids l) H l0:=by exact dj) (h5:(ids l0).Nodup:=by exact dj) (e:K r0 ⟨H.B,gZ H.l l0⟩=q:=by exact eJ):fI P (.raw (.func (.func f) #[] #[])) args H K:=o7 h0 (xD hc h1 h2 h3 h4 h5 (e ▸ k))
theorem cp(hc:eG P f args r0)(k:q)(h0:bz P f=true:=by exact dj)(h2:aW dY args=true:=by exact dj)(e:K r0 H=q:=by exact eJ):fI P (.raw (.func (.func f) #[] #[])) args H K:=o7 h0 (y5 hc h2 (e ▸ k))
theorem cg{g:Prop}{R:AV->Prop}{A:Prop}(hc:eG P f args r0)(k:q)(h0:bz P f=true:=by exact dj)(h2:aW dY args=true:=by exact dj)(hA:g->A:=by first|exact id|(intro _;exact jI)|fail)(e:R r0=q:=by exact eJ) :
  ∃r,(g->A/\fI P (.raw (.func (.func f) #[] #[])) args H fun r' H'=>r'=r/\H'=H)/\R r:=⟨r0,fun hg=>⟨hA hg,o7 h0 (y5 hc h2 ⟨rfl,rfl⟩)⟩,e ▸ k⟩
theorem xH{g:Prop}{R:AV->Prop}(hc:eG P f args r0)(k:q)(h0:bz P f=true:=by exact dj)(h2:aW dY args=true:=by exact dj)(e:R r0=q:=by exact eJ) :
  ∃r,(g->fI P (.raw (.func (.func f) #[] #[])) args H fun r' H'=>r'=r/\H'=H)/\R r:=⟨r0,fun _=>o7 h0 (y5 hc h2 ⟨rfl,rfl⟩),e ▸ k⟩
end
theorem dq.perm{B:List Nat}{l:List (Nat×Row)}(l':List (Nat×Row))(h:∀i,av l i=av l' i):dq F ⟨B,l⟩ F ⟨B,l'⟩:=fun w tm h1 h2=>by
 have hg:∀i,(Hp.mk B l').get i=(Hp.mk B l).get i:=fun i=>(h i).symm
 exact⟨w,rfl,{ rows:=fun i r hi=>h1.rows i r ((hg i) ▸ hi),dO:=fun i m z hz=>by rw[hg];exact h1.dO i m z hz,inj:=h1.inj,own:=h1.own,fin:=h1.fin,cn:=h1.cn },h2,{ ExtQ.refl _ w with base:=rfl }⟩
variable{t:TypeId}{K:AV->Hp->Prop}
theorem al(i:Nat){zs:List Value}(k:q)(hi:H.get i=none:=by rfl)(hz:eT P t=some zs:=by(simp only[go_sem];rfl))(e:K (.pt i 0 0 0) (H.put i (.var t (zs.map .raw)))=q:=by exact eJ):nP P H t K:=yh i hz hi (e ▸ k)
theorem bx(i:Nat){x:AV}(k:q)(hi:H.get i=none:=by rfl)(ho:da x.cells=true:=by simp only[go_sem])(e:K (.pt i 0 0 0) (H.put i (.var t x.cells))=q:=by exact eJ):rm H t x K:=yk i ho hi (e ▸ k)
theorem qN{enc:α->List AV}(vars more ys:List α){i:Nat}{m sz n:Nat}{css yss:List (List AV)}(k:q)(hm:m=vars.length+more.length:=by first|rfl|(simp only[go_sem];done)|omega)(hn:n=vars.length:=by rfl)(hc:css=(vars++more).map enc:=by first|rfl|exact List.map_append.symm|(simp only[go_sem,List.map_append];done))(hy:yss=ys.map enc:=by rfl)
 (e:K (.rs i (vars.length+ys.length+(more.drop ys.length).length) sz (vars.length+ys.length)) (H.put i (.aL t sz ((vars++ys++more.drop ys.length).map enc)))=q:=by exact eJ):te i t m sz n css yss H K:=Rj vars more ys hm hn hc hy (e ▸ k)
section
variable {P:Program}{Q:Exit->List AV->Hp->Prop}{F:List AV}{H:Hp}
theorem gR{P:Program}{Q:Exit->List AV->Hp->Prop}{F:List AV}{H:Hp}(id:Nat){l:Array Oper}{b:Bool}(h:dH P (.region id l b) Q F H):dH P (.region id l b) Q F H:=h
variable{l:List Oper}{q:Prop}
theorem dE(id:Nat)(ord:List Nat)(hm:P.follows .mixedOrders=true)(h:q)(hok:pN ([],[],[]) [] l ord=true:=by decide +kernel)(e:fZ ([],[],[]) P l.toArray (Q .normal) (ord.map (dP l)) F H=q:=by(simp only[List.map_cons,List.map_nil,dP,List.getD_cons_zero,List.getD_cons_succ];exact eJ)):dH P (.region id l.toArray true) Q F H:=KR ord hm hok (e ▸ h)
theorem dA(id:Nat)(A ord:List Nat)(hm:P.follows .mixedOrders=true)(h:q)(hok:pN (A,[],[]) [] l ord=true:=by decide +kernel)(e:fZ (A,[],[]) P l.toArray (Q .normal) (ord.map (dP l)) F H=q:=by(simp only[List.map_cons,List.map_nil,dP,List.getD_cons_zero,List.getD_cons_succ];exact eJ)):dH P (.region id l.toArray true) Q F H:=Gb (A,[],[]) ord hm hok (e ▸ h)
theorem dC(id:Nat)(A:AS)(E ord:List Nat)(hm:P.follows .mixedOrders=true)(h:q)(hok:pN A E l ord=true:=by decide +kernel)(hE:qI P l E:=by simp only[qI,dP,List.getD_cons_zero,List.getD_cons_succ,go_sem])(e:fZ A P l.toArray (Q .normal) (ord.map (dP l)) F H=q:=by(simp only[List.map_cons,List.map_nil,dP,List.getD_cons_zero,List.getD_cons_succ];exact eJ)):dH P (.region id l.toArray true) Q F H:=CB A E ord hm hok hE (e ▸ h)
theorem dQ(id:Nat)(hm:P.follows .mixedOrders=true)(h:q)(hok:tU l=true:=by decide +kernel)(e:p6 P l.toArray H (fun F'=>Q .normal F' H) l F=q:=by exact eJ):dH P (.region id l.toArray true) Q F H:=J1 hm hok (e ▸ h)
theorem HZ{c:Code}(L:List Nat)(slot:Nat)(a:AV)(hB:H.B.all (fF fun i=>L.contains i)=true)(hl:gJ (fun i=>L.contains i) H.l)(hv:bX (fun i=>L.contains i) H F (F.set slot a))(h:dH P c Q (F.set slot a) ⟨H.B,eu (fun i=>L.contains i) H.l⟩):dH P c Q F H:=iV (dq.free _ hB hl hv) h
theorem Q8{c:Code}(L:List Nat)(W:List (Nat×Nat))(J:List (Nat×AV))(h0:(L.any fun i=>(H.get i).isSome)=true)(hB:H.B.all (fF fun i=>L.contains i)=true)(hl:gJ (fun i=>L.contains i) H.l)(hv:bX (fun i=>L.contains i) H F (mm J (lS W F)))(h:dH P c Q (mm J (lS W F)) ⟨H.B,eu (fun i=>L.contains i) H.l⟩):dH P c Q F H:=iV (dq.free _ hB hl hv) h
end
theorem jr{H':Hp}(e:H=H':=by first|(simp only[go_sem];done)|(simp only[go_sem];rfl)|rfl|fail):H=H':=e
theorem cQ{F':List AV}(e:jR F F':=by(simp only[go_sem,jR,Nat.reduceAdd,AV.raw.injEq,Value.int.injEq,Value.slice.injEq,Value.pointer.injEq,AV.rs.injEq];try omega)):jR F F':=e
theorem ki{D:Nat->Bool}{l m:List AV}(e:bX D H l m:=by(simp only[go_sem,↓reduceIte,Int.reduceEq,Int.reduceLE,Int.reduceLT,Int.reduceNe,Int.reduceToNat,Nat.reduceMul,Nat.reduceAdd,Nat.reduceLeDiff,Nat.reduceSub,Nat.reduceEqDiff,Nat.reduceBEq,List.nodup_cons,List.nodup_nil,List.mem_cons,List.not_mem_nil,List.mem_nil_iff];repeat' (first|exact jI|exact Ft _|exact dv.nil _ _|exact dv.lit _ _ _ _ _|exact dv.same _ rfl|(exact dv.same _ (by exact vF))|(exact dv.row _ (by first|rfl|(exact vF)) (by first|(exact vF)|rfl|(exact ug)) (by first|rfl|(simp only[go_sem];done)|omega))|refine jA ?_ ?_|fail))):bX D H l m:=e
theorem DS{id:Nat}{l:List Oper}{b:Bool}(L:List Nat)(W:List (Nat×Nat))(J:List (Nat×AV))(h:q)(h0:(L.any fun i=>(H.get i).isSome)=true:=by rfl)(hB:H.B.all (fF fun i=>L.contains i)=true:=by exact dj)(hl:gJ (fun i=>L.contains i) H.l:=by exact dj)
 (hv:bX (fun i=>L.contains i) H F (mm J (lS W F)):=by exact ki) (e:dH P (.region id l.toArray b) Q (mm J (lS W F)) ⟨H.B,eu (fun i=>L.contains i) H.l⟩=q:=by exact eJ):dH P (.region id l.toArray b) Q F H:=Q8 L W J h0 hB hl hv (e ▸ h)
theorem fm{f:FuncId}{fn:Func}{c:Code}{args:List AV}{r:AV}{k:Nat}(hf:P.funcs[f]?=some fn)(hn:fn.ntmps=k)(h:dH P c (kX P fn fun r' l'=>r'=r/\l'=[]) F ⟨[],[]⟩)(hb:fn.body=some c:=by rfl)
 (hF:args++List.replicate (k-args.length) .any=F:=by(simp only[List.length_cons,List.length_nil,Nat.reduceAdd,Nat.reduceSub,List.replicate,List.cons_append,List.nil_append];rfl)):eG P f args r:=Oy hf hb (by rw[hn];exact hF) h
theorem aT{f:FuncId}{fn:Func}{c:Code}{args:List AV}{l:List (Nat×Row)}{R:AV->List (Nat×Row)->Prop}{k:Nat}(hf:P.funcs[f]?=some fn)(hn:fn.ntmps=k){L:List Nat}(h:dH P c (kX P fn R) F ⟨L,l⟩)(hb:fn.body=some c:=by rfl)(hL:ids l=L:=by rfl)
 (hF:args++List.replicate (k-args.length) .any=F:=by(simp only[List.length_cons,List.length_nil,Nat.reduceAdd,Nat.reduceSub,List.replicate,List.cons_append,List.nil_append];rfl)):aj P f args l R:=L4 hf hb (by rw[hn];exact hF) hL h
section
variable {P:Program}{fn:Func}{F:List AV}{H:Hp}{out:List AV}{e:Exit}{r:AV}{l:List (Nat×Row)}
theorem bW(rs:List ResultVar)(h1:jU out=r)(h2:H.l=l)(hrs:fn.results.toList=rs:=by rfl)(he:e=.normal\/e=.ret:=by first|exact Or.inr rfl|exact Or.inl rfl|fail)(ho:jg P H F rs=some out:=by(exact ug))(hok:j3 P H F rs:=by exact vF) :
  kX P fn (fun r' l'=>r'=r/\l'=l) e F H:=N3 rs hrs he ho hok h1 h2
theorem bH(rs:List ResultVar)(hv:jU out=r)(hrs:fn.results.toList=rs:=by rfl)(he:e=.normal\/e=.ret:=by first|exact Or.inr rfl|exact Or.inl rfl|fail)(ho:jg P H F rs=some out:=by(exact ug))(hok:j3 P H F rs:=by exact vF)(hl:gJ (mH H.B) H.l:=by exact dj)
 (hq:(jU out).all (fF (mH H.B))=true:=by exact dj) (h2:eu (mH H.B) H.l=l:=by first|rfl|(exact dj)|(exact ug)|fail):kX P fn (fun r' l'=>r'=r/\l'=l) e F H:=Gk rs hrs he ho hok hl (yF hv hq) h2
theorem l6(rs:List ResultVar)(hv:dv (mH H.B) H (jU out) r)(hrs:fn.results.toList=rs:=by rfl)(he:e=.normal\/e=.ret:=by first|exact Or.inr rfl|exact Or.inl rfl|fail)(ho:jg P H F rs=some out:=by(exact ug))(hok:j3 P H F rs:=by exact vF)(hl:gJ (mH H.B) H.l:=by exact dj)
 (h2:eu (mH H.B) H.l=l:=by first|rfl|(exact dj)|(exact ug)|fail):kX P fn (fun r' l'=>r'=r/\l'=l) e F H:=Gk rs hrs he ho hok hl hv h2
end
@[go_sem] theorem jyI(enc:α->List AV)(l:List α)(k:Nat)(x:α):(l.map enc).set k (enc x)=(l.set k x).map enc:=List.map_set.symm
attribute [go_sem] List.length_set
def eI(x:Int):List AV:=[.raw (.int .i64 x)]
instance:bG eI 1:=⟨fun _=>rfl,fun _=>rfl,fun _=>rfl⟩
@[go_sem] theorem j70(x:Int):(eI x).length=1:=(rfl)
@[go_sem] theorem qay(x:Int):(eI x).getD 0 .any=.raw (.int .i64 x):=(rfl)
@[go_sem] theorem qax(x:Int):(eI x).drop 1=[]:=(rfl)
@[go_sem] theorem j71(l:List Int)(k:Nat)(x:Int):(l.map eI).set k [.raw (.int .i64 x)]=(l.set k x).map eI:=(List.map_set (f:=eI)).symm
def eS(x:ByteArray):List AV:=[.raw (.string x)]
instance:bG eS 1:=⟨fun _=>rfl,fun _=>rfl,fun _=>rfl⟩
@[go_sem] theorem j73(x:ByteArray):(eS x).length=1:=(rfl)
@[go_sem] theorem qaz(x:ByteArray):(eS x).getD 0 .any=.raw (.string x):=(rfl)
def eB(x:Bool):List AV:=[.raw (.bool x)]
instance:bG eB 1:=⟨fun _=>rfl,fun _=>rfl,fun _=>rfl⟩
def eU(x:Int):List AV:=[.raw (.int .u8 x)]
instance:bG eU 1:=⟨fun _=>rfl,fun _=>rfl,fun _=>rfl⟩
def nR(x:List Int):List AV:=[bp eI 1 x]
instance:bG nR 1:=⟨fun _=>rfl,fun _=>rfl,fun _=>rfl⟩
@[go_sem] theorem j4U(x:List Int):(nR x).length=1:=(rfl)
@[go_sem] theorem j72(x:List Int):(nR x).getD 0 .any=bp eI 1 x:=(rfl)
structure ce where
 kind:Int
 text:ByteArray
 at_:Int
 deriving Inhabited,DecidableEq
def lW(x:ce):List AV:=[.raw (.int .i64 x.kind),.raw (.string x.text),.raw (.int .i64 x.at_)]
section
variable (x y:ce)
@[go_sem] theorem jx2:(lW x).length=3:=(rfl)
@[go_sem] theorem jwv:(lW x).all AV.one=true:=(rfl)
@[go_sem] theorem MI(q:Nat->Bool):aW q (lW x)=true:=by simp[lW,aW,AV.all]
instance:bG lW 3:=⟨fun _=>rfl,fun _=>rfl,fun x=>MI x _⟩
@[go_sem] theorem jww:(lW x).take 3=lW x:=(rfl)
@[go_sem] theorem jz6:(lW x).getD 0 .any=.raw (.int .i64 x.kind):=(rfl)
@[go_sem] theorem jz7:(lW x).getD 1 .any=.raw (.string x.text):=(rfl)
@[go_sem] theorem jz8:(lW x).getD 2 .any=.raw (.int .i64 x.at_):=(rfl)
end
structure bk where
 kind:Int
 cz:Int
 n:Int
 name:ByteArray
 l:List Int
 deriving Inhabited,DecidableEq
def fb(x:bk):List AV:=[.raw (.int .i64 x.kind),.raw (.int .i64 x.cz),.raw (.int .i64 x.n),.raw (.string x.name),bp eI 1 x.l]
section
variable (x y:bk)
@[go_sem] theorem jzX:(fb x).length=5:=(rfl)
@[go_sem] theorem jxS:(fb x).all AV.one=true:=(rfl)
@[go_sem] theorem Lo(q:Nat->Bool):aW q (fb x)=true:=by simp[fb,aW,AV.all]
instance:bG fb 5:=⟨fun _=>rfl,fun _=>rfl,fun x=>Lo x _⟩
@[go_sem] theorem jxT:(fb x).take 5=fb x:=(rfl)
@[go_sem] theorem j1h:(fb x).getD 0 .any=.raw (.int .i64 x.kind):=(rfl)
@[go_sem] theorem j1i:(fb x).getD 1 .any=.raw (.int .i64 x.cz):=(rfl)
@[go_sem] theorem j1j:(fb x).getD 2 .any=.raw (.int .i64 x.n):=(rfl)
@[go_sem] theorem j1k:(fb x).getD 3 .any=.raw (.string x.name):=(rfl)
@[go_sem] theorem j1l:(fb x).getD 4 .any=bp eI 1 x.l:=(rfl)
end
structure ak where
 ty:Int
 n:Int
 s:ByteArray
 deriving Inhabited,DecidableEq
def cv(x:ak):List AV:=[.raw (.int .i64 x.ty),.raw (.int .i64 x.n),.raw (.string x.s)]
section
variable (x y:ak)
@[go_sem] theorem jx5:(cv x).length=3:=(rfl)
@[go_sem] theorem jwx:(cv x).all AV.one=true:=(rfl)
@[go_sem] theorem Lp(q:Nat->Bool):aW q (cv x)=true:=by simp[cv,aW,AV.all]
instance:bG cv 3:=⟨fun _=>rfl,fun _=>rfl,fun x=>Lp x _⟩
@[go_sem] theorem jwy:(cv x).take 3=cv x:=(rfl)
@[go_sem] theorem j0c:(cv x).getD 0 .any=.raw (.int .i64 x.ty):=(rfl)
@[go_sem] theorem j0d:(cv x).getD 1 .any=.raw (.int .i64 x.n):=(rfl)
@[go_sem] theorem j0f(v:Int):List.take 1 (cv x)++[.raw (.int .i64 v)]++List.drop 2 (cv x)=cv { x with n:=v }:=(rfl)
@[go_sem] theorem j0e:(cv x).getD 2 .any=.raw (.string x.s):=(rfl)
@[go_sem] theorem juK:(cv x).map jK=[some (.int .i64),some (.int .i64),some .str]:=(rfl)
@[go_sem] theorem j0b:iX (cv x) (cv y)=decide (x=y):=by rw[Bool.eq_iff_iff];obtain⟨a7,a8,a9⟩:=x;obtain⟨b10,b11,b12⟩:=y;simp[cv,iX]
end
structure bE where
 name:ByteArray
 ty:Int
 deriving Inhabited,DecidableEq
def oe(x:bE):List AV:=[.raw (.string x.name),.raw (.int .i64 x.ty)]
section
variable (x y:bE)
@[go_sem] theorem jxU:(oe x).length=2:=(rfl)
@[go_sem] theorem PK(q:Nat->Bool):aW q (oe x)=true:=by simp[oe,aW,AV.all]
instance:bG oe 2:=⟨fun _=>rfl,fun _=>rfl,fun x=>PK x _⟩
@[go_sem] theorem jzY:(oe x).getD 0 .any=.raw (.string x.name):=(rfl)
@[go_sem] theorem jzZ:(oe x).getD 1 .any=.raw (.int .i64 x.ty):=(rfl)
end
structure aX where
 name:ByteArray
 cz:Int
 params:List bE
 ret:Int
 body:Int
 deriving Inhabited,DecidableEq
def gg(x:aX):List AV:=[.raw (.string x.name),.raw (.int .i64 x.cz),bp oe 2 x.params,.raw (.int .i64 x.ret),.raw (.int .i64 x.body)]
section
variable (x y:aX)
@[go_sem] theorem jzR:(gg x).length=5:=(rfl)
@[go_sem] theorem jxP:(gg x).all AV.one=true:=(rfl)
@[go_sem] theorem PZ(q:Nat->Bool):aW q (gg x)=true:=by simp[gg,aW,AV.all]
instance:bG gg 5:=⟨fun _=>rfl,fun _=>rfl,fun x=>PZ x _⟩
@[go_sem] theorem jxQ:(gg x).take 5=gg x:=(rfl)
@[go_sem] theorem j1d:(gg x).getD 0 .any=.raw (.string x.name):=(rfl)
@[go_sem] theorem j1e:(gg x).getD 2 .any=bp oe 2 x.params:=(rfl)
@[go_sem] theorem j1f:(gg x).getD 3 .any=.raw (.int .i64 x.ret):=(rfl)
@[go_sem] theorem j1g:(gg x).getD 4 .any=.raw (.int .i64 x.body):=(rfl)
end
structure az where
 nodes:List bk
 ao:List aX
 deriving Inhabited,DecidableEq
def lG(x:az):List AV:=[bp fb 5 x.nodes,bp gg 5 x.ao]
section
variable (x y:az)
@[go_sem] theorem j0a:(lG x).length=2:=(rfl)
@[go_sem] theorem jx3:(lG x).all AV.one=true:=(rfl)
@[go_sem] theorem NL(q:Nat->Bool):aW q (lG x)=true:=by simp[lG,aW,AV.all]
instance:bG lG 2:=⟨fun _=>rfl,fun _=>rfl,fun x=>NL x _⟩
@[go_sem] theorem jx4:(lG x).take 2=lG x:=(rfl)
@[go_sem] theorem j1w:(lG x).getD 0 .any=bp fb 5 x.nodes:=(rfl)
@[go_sem] theorem j1x:(lG x).getD 1 .any=bp gg 5 x.ao:=(rfl)
end
structure bC where
 name:ByteArray
 ty:Int
 slot:Int
 deriving Inhabited,DecidableEq
def rW(x:bC):List AV:=[.raw (.string x.name),.raw (.int .i64 x.ty),.raw (.int .i64 x.slot)]
section
variable (x y:bC)
@[go_sem] theorem j1y:(rW x).length=3:=(rfl)
@[go_sem] theorem Ml(q:Nat->Bool):aW q (rW x)=true:=by simp[rW,aW,AV.all]
instance:bG rW 3:=⟨fun _=>rfl,fun _=>rfl,fun x=>Ml x _⟩
@[go_sem] theorem j3e:(rW x).getD 0 .any=.raw (.string x.name):=(rfl)
@[go_sem] theorem j3f:(rW x).getD 1 .any=.raw (.int .i64 x.ty):=(rfl)
@[go_sem] theorem j3g:(rW x).getD 2 .any=.raw (.int .i64 x.slot):=(rfl)
end
structure ab where
 aa:az
 types:List Int
 slots:List Int
 fn:List Int
 size:List Int
 deriving Inhabited,DecidableEq
def gp(x:ab):List AV:=[bp fb 5 x.aa.nodes,bp gg 5 x.aa.ao,bp eI 1 x.types,bp eI 1 x.slots,bp eI 1 x.fn,bp eI 1 x.size]
section
variable (x y:ab)
@[go_sem] theorem jz0:(gp x).length=6:=(rfl)
@[go_sem] theorem jxV:(gp x).all AV.one=true:=(rfl)
@[go_sem] theorem KS(q:Nat->Bool):aW q (gp x)=true:=by simp[gp,aW,AV.all]
instance:bG gp 6:=⟨fun _=>rfl,fun _=>rfl,fun x=>KS x _⟩
@[go_sem] theorem jxW:(gp x).take 6=gp x:=(rfl)
end
structure bf where
 block:Int
 at_:Int
 deriving Inhabited,DecidableEq
def qc(x:bf):List AV:=[.raw (.int .i64 x.block),.raw (.int .i64 x.at_)]
section
variable (x y:bf)
@[go_sem] theorem Jx(q:Nat->Bool):aW q (qc x)=true:=by simp[qc,aW,AV.all]
instance:bG qc 2:=⟨fun _=>rfl,fun _=>rfl,fun x=>Jx x _⟩
end
structure aI where
 fn:Int
 slots:List ak
 path:List bf
 deriving Inhabited,DecidableEq
def ur(x:aI):List AV:=[.raw (.int .i64 x.fn),bp cv 3 x.slots,bp qc 2 x.path]
section
variable (x y:aI)
@[go_sem] theorem JA(q:Nat->Bool):aW q (ur x)=true:=by simp[ur,aW,AV.all]
instance:bG ur 3:=⟨fun _=>rfl,fun _=>rfl,fun x=>JA x _⟩
end
structure aJ where
 aq:List aI
 heap:List (List Int)
 in_:Int
 ax:List ByteArray
 status:Int
 aZ:Int
 time:Int
 deriving Inhabited,DecidableEq
def lK(x:aJ):List AV:=[bp ur 3 x.aq,bp nR 1 x.heap,.raw (.int .i64 x.in_),bp eS 1 x.ax,.raw (.int .i64 x.status),.raw (.int .i64 x.aZ),.raw (.int .i64 x.time)]
section
variable (x y:aJ)
@[go_sem] theorem jx1:(lK x).length=7:=(rfl)
@[go_sem] theorem jwt:(lK x).all AV.one=true:=(rfl)
@[go_sem] theorem AR(q:Nat->Bool):aW q (lK x)=true:=by simp[lK,aW,AV.all]
instance:bG lK 7:=⟨fun _=>rfl,fun _=>rfl,fun x=>AR x _⟩
@[go_sem] theorem jwu:(lK x).take 7=lK x:=(rfl)
@[go_sem] theorem jz3:(lK x).getD 0 .any=bp ur 3 x.aq:=(rfl)
@[go_sem] theorem jz4:(lK x).getD 1 .any=bp nR 1 x.heap:=(rfl)
@[go_sem] theorem jz5:(lK x).getD 3 .any=bp eS 1 x.ax:=(rfl)
end
structure kW where
 fn:Int
 node:Int
 slots:List ak
 deriving Inhabited,DecidableEq
def mo(x:kW):List AV:=[.raw (.int .i64 x.fn),.raw (.int .i64 x.node),bp cv 3 x.slots]
section
variable (x y:kW)
@[go_sem] theorem jz2:(mo x).length=3:=(rfl)
@[go_sem] theorem jxZ:(mo x).all AV.one=true:=(rfl)
@[go_sem] theorem MR(q:Nat->Bool):aW q (mo x)=true:=by simp[mo,aW,AV.all]
instance:bG mo 3:=⟨fun _=>rfl,fun _=>rfl,fun x=>MR x _⟩
@[go_sem] theorem jx0:(mo x).take 3=mo x:=(rfl)
@[go_sem] theorem j1t:(mo x).getD 0 .any=.raw (.int .i64 x.fn):=(rfl)
@[go_sem] theorem j1u:(mo x).getD 1 .any=.raw (.int .i64 x.node):=(rfl)
@[go_sem] theorem j1v:(mo x).getD 2 .any=bp cv 3 x.slots:=(rfl)
end
structure lh where
 calls:List kW
 heap:List (List Int)
 in_:Int
 ax:List ByteArray
 status:Int
 aZ:Int
 time:Int
 deriving Inhabited,DecidableEq
def iQ(x:lh):List AV:=[bp mo 3 x.calls,bp nR 1 x.heap,.raw (.int .i64 x.in_),bp eS 1 x.ax,.raw (.int .i64 x.status),.raw (.int .i64 x.aZ),.raw (.int .i64 x.time)]
section
variable (x y:lh)
@[go_sem] theorem jz1:(iQ x).length=7:=(rfl)
@[go_sem] theorem jxX:(iQ x).all AV.one=true:=(rfl)
@[go_sem] theorem NN(q:Nat->Bool):aW q (iQ x)=true:=by simp[iQ,aW,AV.all]
instance:bG iQ 7:=⟨fun _=>rfl,fun _=>rfl,fun x=>NN x _⟩
@[go_sem] theorem jxY:(iQ x).take 7=iQ x:=(rfl)
@[go_sem] theorem j1m:(iQ x).getD 0 .any=bp mo 3 x.calls:=(rfl)
@[go_sem] theorem j1n:(iQ x).getD 1 .any=bp nR 1 x.heap:=(rfl)
@[go_sem] theorem j1o:(iQ x).getD 2 .any=.raw (.int .i64 x.in_):=(rfl)
@[go_sem] theorem j1p:(iQ x).getD 3 .any=bp eS 1 x.ax:=(rfl)
@[go_sem] theorem j1q:(iQ x).getD 4 .any=.raw (.int .i64 x.status):=(rfl)
@[go_sem] theorem j1r:(iQ x).getD 5 .any=.raw (.int .i64 x.aZ):=(rfl)
@[go_sem] theorem j1s:(iQ x).getD 6 .any=.raw (.int .i64 x.time):=(rfl)
end
structure mU where
 name:ByteArray
 text:ByteArray
 deriving Inhabited,DecidableEq
def za(x:mU):List AV:=[.raw (.string x.name),.raw (.string x.text)]
section
variable (x y:mU)
@[go_sem] theorem OX(q:Nat->Bool):aW q (za x)=true:=by simp[za,aW,AV.all]
instance:bG za 2:=⟨fun _=>rfl,fun _=>rfl,fun x=>OX x _⟩
end
structure pH where
 name:ByteArray
 cz:Int
 vars:List mU
 deriving Inhabited,DecidableEq
def yl(x:pH):List AV:=[.raw (.string x.name),.raw (.int .i64 x.cz),bp za 2 x.vars]
section
variable (x y:pH)
@[go_sem] theorem Ko(q:Nat->Bool):aW q (yl x)=true:=by simp[yl,aW,AV.all]
instance:bG yl 3:=⟨fun _=>rfl,fun _=>rfl,fun x=>Ko x _⟩
end
structure sx where
 calls:List pH
 ax:List ByteArray
 in_:Int
 status:Int
 aZ:Int
 deriving Inhabited,DecidableEq
def B6(x:sx):List AV:=[bp yl 3 x.calls,bp eS 1 x.ax,.raw (.int .i64 x.in_),.raw (.int .i64 x.status),.raw (.int .i64 x.aZ)]
section
variable (x y:sx)
@[go_sem] theorem PO(q:Nat->Bool):aW q (B6 x)=true:=by simp[B6,aW,AV.all]
instance:bG B6 5:=⟨fun _=>rfl,fun _=>rfl,fun x=>PO x _⟩
end
structure au where
 op:Int
 a:Int
 b:Int
 s:ByteArray
 deriving Inhabited,DecidableEq
def cZ(x:au):List AV:=[.raw (.int .i64 x.op),.raw (.int .i64 x.a),.raw (.int .i64 x.b),.raw (.string x.s)]
section
variable (x y:au)
@[go_sem] theorem jxR:(cZ x).length=4:=(rfl)
@[go_sem] theorem jwr:(cZ x).all AV.one=true:=(rfl)
@[go_sem] theorem JF(q:Nat->Bool):aW q (cZ x)=true:=by simp[cZ,aW,AV.all]
instance:bG cZ 4:=⟨fun _=>rfl,fun _=>rfl,fun x=>JF x _⟩
@[go_sem] theorem jws:(cZ x).take 4=cZ x:=(rfl)
@[go_sem] theorem jzS:(cZ x).getD 0 .any=.raw (.int .i64 x.op):=(rfl)
@[go_sem] theorem jzT:(cZ x).getD 1 .any=.raw (.int .i64 x.a):=(rfl)
@[go_sem] theorem jzW(v:Int):List.take 1 (cZ x)++[.raw (.int .i64 v)]++List.drop 2 (cZ x)=cZ { x with a:=v }:=(rfl)
@[go_sem] theorem jzU:(cZ x).getD 2 .any=.raw (.int .i64 x.b):=(rfl)
@[go_sem] theorem jzV:(cZ x).getD 3 .any=.raw (.string x.s):=(rfl)
end
structure aE where
 ins:List au
 entry:List Int
 deriving Inhabited,DecidableEq
def xo(x:aE):List AV:=[bp cZ 4 x.ins,bp eI 1 x.entry]
section
variable (x y:aE)
@[go_sem] theorem Pd(q:Nat->Bool):aW q (xo x)=true:=by simp[xo,aW,AV.all]
instance:bG xo 2:=⟨fun _=>rfl,fun _=>rfl,fun x=>Pd x _⟩
end
end Go.Gd

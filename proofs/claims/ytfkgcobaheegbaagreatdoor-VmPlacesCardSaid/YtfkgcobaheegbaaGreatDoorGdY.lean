/- Lemmas. No conditions. -/
import Derived.Test.YtfkgcobaheegbaaGreatDoorGdO
set_option linter.all false
namespace Go.Gd
open Go
universe u
variable{q:Prop}
theorem dn(e:q:=by first|(simp(disch:=first|omega|assumption|fail) only[go_sem,sf,W,↓reduceIte,Int.reduceEq,Int.reduceLE,Int.reduceLT,Int.reduceNe,Int.reduceToNat,Nat.reduceMul,Nat.reduceAdd,Nat.reduceLeDiff,Nat.reduceSub,Nat.reduceEqDiff,Nat.reduceBEq,List.nodup_cons,List.nodup_nil,List.mem_cons,List.not_mem_nil,List.mem_nil_iff];done)|(simp(disch:=first|omega|assumption|fail) only[go_sem,sf,↓reduceIte,Int.reduceEq,Int.reduceLE,Int.reduceLT,Int.reduceNe,Int.reduceToNat,Nat.reduceMul,Nat.reduceAdd,Nat.reduceLeDiff,Nat.reduceSub,Nat.reduceEqDiff,Nat.reduceBEq,List.nodup_cons,List.nodup_nil,List.mem_cons,List.not_mem_nil,List.mem_nil_iff];done)|fail):q:=e
theorem eL(e:q:=by first|(simp(disch:=first|omega|assumption|fail) only[go_sem,sf,W,↓reduceIte,Int.reduceEq,Int.reduceLE,Int.reduceLT,Int.reduceNe,Int.reduceToNat,Nat.reduceMul,Nat.reduceAdd,Nat.reduceLeDiff,Nat.reduceSub,Nat.reduceEqDiff,Nat.reduceBEq,List.nodup_cons,List.nodup_nil,List.mem_cons,List.not_mem_nil,List.mem_nil_iff];rfl)|(simp(disch:=first|omega|assumption|fail) only[go_sem,sf,↓reduceIte,Int.reduceEq,Int.reduceLE,Int.reduceLT,Int.reduceNe,Int.reduceToNat,Nat.reduceMul,Nat.reduceAdd,Nat.reduceLeDiff,Nat.reduceSub,Nat.reduceEqDiff,Nat.reduceBEq,List.nodup_cons,List.nodup_nil,List.mem_cons,List.not_mem_nil,List.mem_nil_iff];rfl)|rfl|fail):q:=e
theorem Lf(e:q:=by first|(simp(disch:=first|omega|assumption|fail) only[go_sem,sf,W,↓reduceIte,Int.reduceEq,Int.reduceLE,Int.reduceLT,Int.reduceNe,Int.reduceToNat,Nat.reduceMul,Nat.reduceAdd,Nat.reduceLeDiff,Nat.reduceSub,Nat.reduceEqDiff,Nat.reduceBEq,List.nodup_cons,List.nodup_nil,List.mem_cons,List.not_mem_nil,List.mem_nil_iff];rfl)|(simp(disch:=first|omega|assumption|fail) only[go_sem,sf,↓reduceIte,Int.reduceEq,Int.reduceLE,Int.reduceLT,Int.reduceNe,Int.reduceToNat,Nat.reduceMul,Nat.reduceAdd,Nat.reduceLeDiff,Nat.reduceSub,Nat.reduceEqDiff,Nat.reduceBEq,List.nodup_cons,List.nodup_nil,List.mem_cons,List.not_mem_nil,List.mem_nil_iff];rfl)|fail):q:=e
theorem Al(e:q:=by first|(exact sI)|rfl|fail):q:=e
variable{α:Type}
@[go_sem] theorem jvI[Inhabited α](f:α->List AV)(a:List α)(b:List (List AV))(k:Nat)(h:k<a.length):(a.map f++b).getD k []=f (nth a k):=by
 rw[dN h,List.getD_eq_getElem?_getD,List.getElem?_append_left (by simpa using h)];simp[h]
attribute [go_sem] List.isEmpty_nil
variable{P:Program}{Q:Exit->List AV->Hp->Prop}{F:List AV}{H:Hp}
@[congr] theorem jz7{c:Code}{F':List AV}{H':Hp}(h1:F=F')(h2:H=H'):dH P c Q F H=dH P c Q F' H':=by rw[h1,h2]
def mK(p q:Prop):Prop:=q->p
section
variable {P:Program}{Q:Exit->List AV->Hp->Prop}{F:List AV}{H:Hp}
variable{id:Nat}{q:Prop}
theorem J1{l:List Oper}(e:kD P l.toArray (Q .normal) l F H=q):mK (dH P (.region id l.toArray false) Q F H) q:=fun h=>O6 (e ▸ h)
theorem JA{c:Code}:mK (dH P (.block id c) Q F H) (dH P c (rG id Q) F H):=Kx
theorem Px(e:Q .normal F H=q):mK (dH P .skip Q F H) q:=fun h=>N8 (e ▸ h)
theorem HX(e:Q (.exit id) F H=q):mK (dH P (.exit id) Q F H) q:=fun h=>J7 (e ▸ h)
theorem JB(e:Q .ret F H=q):mK (dH P .ret Q F H) q:=fun h=>Kg (e ▸ h)
end
section
variable {P:Program}{H:Hp}{K:AV->Hp->Prop}
variable{t:TypeId}{q:Prop}
theorem L6{zs:List Value}(hz:ee P t=some zs)(e:K (.pt (nx H.l) 0 0 0) (H.put (nx H.l) (.var t (zs.map .raw)))=q):mK (nz P H t K) q:=fun h=>My hz (e ▸ h)
theorem Kq{x:AV}(ho:cR x.cells=true)(e:K (.pt (nx H.l) 0 0 0) (H.put (nx H.l) (.var t x.cells))=q):mK (qA H t x K) q:=fun h=>JP ho (e ▸ h)
theorem Ll{A:Nat->Prop}{d:gv A}(e:A (nx H.l)=q):mK (uK H A d) q:=fun h=>KO (e ▸ h)
theorem Ng{sz:Nat}(h0:0<sz)(e:K (.rs (nx H.l) 0 sz 0) (H.put (nx H.l) (.aO t sz []))=q):mK (q9 t sz [] H K) q:=fun h=>OZ h0 (e ▸ h)
theorem Pb{sz:Nat}{css:List (List AV)}(h1:aY dQ css.flatten=true)(e:K (.sl true sz css []) H=q):mK (q9 t sz css H K) q:=fun h=>Jd h1 (e ▸ h)
theorem OI{a x:AV}(e:vy P t a x H K=q):mK (o8 P t t a x H K) q:=fun h=>Fy (e ▸ h)
theorem Oj{d:gv K}{r:AV}(e:K r H=q):mK (AP K d r H) q:=fun h=>KX (e ▸ h)
theorem Pt{a b:Prop}(h:a):mK (a/\b) b:=fun k=>⟨h,k⟩
end
variable{p:Prop}
theorem aC(h:q)(e:mK p q:=by first
 |((with_reducible apply J1);exact eL)
 |with_reducible exact JA
 |((with_reducible apply HX);exact Al)
 |((with_reducible apply JB);exact Al)
 |((with_reducible apply Px);exact Al)
 |fail):p:=e h
theorem az(h:q)(e:mK p q:=by first
 |((with_reducible apply OI);exact eL)
 |((with_reducible apply Oj);exact eL)
 |((with_reducible apply Ng);(focus (exact dn));exact eL)
 |((with_reducible apply Pb);(focus (simp only[go_sem]));exact eL)
 |((with_reducible apply L6);(focus (simp only[go_sem];rfl));exact eL)
 |((with_reducible apply Kq);(focus (simp only[go_sem]));exact eL)
 |((with_reducible apply Ll);exact eL)
 |((with_reducible apply Pt);first|omega|(simp +contextual;done)|(simp +contextual;intros;omega)|fail)
 |fail):p:=e h
theorem S(h:q)(e:p=q:=by exact Lf):p:=e ▸ h
theorem Sd(e:p=True:=by exact dn):p:=of_eq_true e
theorem aB{c:Operand}{x y:Code}{b:Bool}{pt pf:Prop}(ht:pt->dH P x Q F H)(hf:pf->dH P y Q F H)(hc:cf F c=.raw (.bool b):=by rfl)
 (et:(b=true)=pt:=by first|(simp only[Int.reduceEq,Int.reduceLE,Int.reduceLT,Int.reduceNe,false_and,and_false,true_and,and_true,or_false,false_or,true_or,or_true,Bool.false_eq_true,Bool.true_eq_false,eq_self,reduceCtorEq,Bool.not_true,Bool.not_false,Bool.and_eq_true,Bool.or_eq_true,Bool.and_eq_false_iff,Bool.or_eq_false_iff,decide_eq_true_eq,decide_eq_false_iff_not,Bool.not_eq_true',Bool.not_eq_false',Int.not_lt,Int.not_le];rfl)|rfl) (ef:(b=false)=pf:=by first|(simp only[Int.reduceEq,Int.reduceLE,Int.reduceLT,Int.reduceNe,false_and,and_false,true_and,and_true,or_false,false_or,true_or,or_true,Bool.false_eq_true,Bool.true_eq_false,eq_self,reduceCtorEq,Bool.not_true,Bool.not_false,Bool.and_eq_true,Bool.or_eq_true,Bool.and_eq_false_iff,Bool.or_eq_false_iff,decide_eq_true_eq,decide_eq_false_iff_not,Bool.not_eq_true',Bool.not_eq_false',Int.not_lt,Int.not_le];rfl)|rfl):dH P (.cond c x y) Q F H:=PF hc (fun h=>ht (et ▸ h)) (fun h=>hf (ef ▸ h))
section
variable {P:Program}{f:FuncId}{args:List AV}{H:Hp}{K:AV->Hp->Prop}{q:Prop}
variable{r0:AV}
theorem cm{l l0:List (Nat×Row)}(hc:aj P f args l fun r l'=>r=r0/\l'=l0)(k:q)(h1:fits l H:=by exact dn)(h0:bz P f=true:=by exact dn)(h2:aY (fun i=>(ids l).contains i) args=true:=by exact dn)(h3:sC (fun i=>(ids l).contains i) l:=by exact dn)
 (h4:fresh (ids l) H l0:=by exact dn) (h5:(ids l0).Nodup:=by exact dn) (e:K r0 ⟨H.B,iT H.l l0⟩=q:=by exact eL):fF P (.raw (.func (.func f) #[] #[])) args H K:=pv h0 (v7 hc h1 h2 h3 h4 h5 (e ▸ k))
theorem cp(hc:dV P f args r0)(k:q)(h0:bz P f=true:=by exact dn)(h2:aY dQ args=true:=by exact dn)(e:K r0 H=q:=by exact eL):fF P (.raw (.func (.func f) #[] #[])) args H K:=pv h0 (yB hc h2 (e ▸ k))
theorem cg{g:Prop}{R:AV->Prop}{A:Prop}(hc:dV P f args r0)(k:q)(h0:bz P f=true:=by exact dn)(h2:aY dQ args=true:=by exact dn)(hA:g->A:=by first|exact id|(intro _;exact jI)|fail)(e:R r0=q:=by exact eL) :
  ∃r,(g->A/\fF P (.raw (.func (.func f) #[] #[])) args H fun r' H'=>r'=r/\H'=H)/\R r:=⟨r0,fun hg=>⟨hA hg,pv h0 (yB hc h2 ⟨rfl,rfl⟩)⟩,e ▸ k⟩
theorem yl{g:Prop}{R:AV->Prop}(hc:dV P f args r0)(k:q)(h0:bz P f=true:=by exact dn)(h2:aY dQ args=true:=by exact dn)(e:R r0=q:=by exact eL) :
  ∃r,(g->fF P (.raw (.func (.func f) #[] #[])) args H fun r' H'=>r'=r/\H'=H)/\R r:=⟨r0,fun _=>pv h0 (yB hc h2 ⟨rfl,rfl⟩),e ▸ k⟩
end
variable{l:List (Nat×Row)}
theorem dz.perm{B:List Nat}(l':List (Nat×Row))(h:∀i,aD l i=aD l' i):dz F ⟨B,l⟩ F ⟨B,l'⟩:=fun w tm h1 h2=>by
 have hg:∀i,(Hp.mk B l').get i=(Hp.mk B l).get i:=fun i=>(h i).symm
 exact⟨w,rfl,{ rows:=fun i r hi=>h1.rows i r ((hg i) ▸ hi),dF:=fun i m z hz=>by rw[hg];exact h1.dF i m z hz,inj:=h1.inj,own:=h1.own,fin:=h1.fin,ct:=h1.ct },h2,{ ExtQ.refl _ w with base:=rfl }⟩
variable{t:TypeId}{K:AV->Hp->Prop}
theorem al(i:Nat){zs:List Value}(k:q)(hi:H.get i=none:=by rfl)(hz:ee P t=some zs:=by(simp only[go_sem];rfl))(e:K (.pt i 0 0 0) (H.put i (.var t (zs.map .raw)))=q:=by exact eL):nz P H t K:=x9 i hz hi (e ▸ k)
theorem bx(i:Nat){x:AV}(k:q)(hi:H.get i=none:=by rfl)(ho:cR x.cells=true:=by simp only[go_sem])(e:K (.pt i 0 0 0) (H.put i (.var t x.cells))=q:=by exact eL):qA H t x K:=yq i ho hi (e ▸ k)
theorem rJ{enc:α->List AV}(vars more ys:List α){i:Nat}{m sz n:Nat}{css yss:List (List AV)}(k:q)(hm:m=vars.length+more.length:=by first|rfl|(simp only[go_sem];done)|omega)(hn:n=vars.length:=by rfl)(hc:css=(vars++more).map enc:=by first|rfl|exact List.map_append.symm|(simp only[go_sem,List.map_append];done))(hy:yss=ys.map enc:=by rfl)
 (e:K (.rs i (vars.length+ys.length+(more.drop ys.length).length) sz (vars.length+ys.length)) (H.put i (.aO t sz ((vars++ys++more.drop ys.length).map enc)))=q:=by exact eL):td i t m sz n css yss H K:=NE vars more ys hm hn hc hy (e ▸ k)
section
variable {P:Program}{Q:Exit->List AV->Hp->Prop}{F:List AV}{H:Hp}
theorem gR{P:Program}{Q:Exit->List AV->Hp->Prop}{F:List AV}{H:Hp}(id:Nat){l:Array Oper}{b:Bool}(h:dH P (.region id l b) Q F H):dH P (.region id l b) Q F H:=h
variable{l:List Oper}{q:Prop}
theorem dE(id:Nat)(ord:List Nat)(hm:P.follows .mixedOrders=true)(h:q)(hok:pB ([],[],[]) [] l ord=true:=by decide +kernel)(e:fR ([],[],[]) P l.toArray (Q .normal) (ord.map (dB l)) F H=q:=by(simp only[List.map_cons,List.map_nil,dB,List.getD_cons_zero,List.getD_cons_succ];exact eL)):dH P (.region id l.toArray true) Q F H:=KP ord hm hok (e ▸ h)
theorem dA(id:Nat)(A ord:List Nat)(hm:P.follows .mixedOrders=true)(h:q)(hok:pB (A,[],[]) [] l ord=true:=by decide +kernel)(e:fR (A,[],[]) P l.toArray (Q .normal) (ord.map (dB l)) F H=q:=by(simp only[List.map_cons,List.map_nil,dB,List.getD_cons_zero,List.getD_cons_succ];exact eL)):dH P (.region id l.toArray true) Q F H:=C5 (A,[],[]) ord hm hok (e ▸ h)
theorem dC(id:Nat)(A:AS)(E ord:List Nat)(hm:P.follows .mixedOrders=true)(h:q)(hok:pB A E l ord=true:=by decide +kernel)(hE:qY P l E:=by simp only[qY,dB,List.getD_cons_zero,List.getD_cons_succ,go_sem])(e:fR A P l.toArray (Q .normal) (ord.map (dB l)) F H=q:=by(simp only[List.map_cons,List.map_nil,dB,List.getD_cons_zero,List.getD_cons_succ];exact eL)):dH P (.region id l.toArray true) Q F H:=Br A E ord hm hok hE (e ▸ h)
theorem CC{c:Code}(L:List Nat)(slot:Nat)(a:AV)(hB:H.B.all (fy fun i=>L.contains i)=true)(hl:gz (fun i=>L.contains i) H.l)(hv:bZ (fun i=>L.contains i) H F (F.set slot a))(h:dH P c Q (F.set slot a) ⟨H.B,eo (fun i=>L.contains i) H.l⟩):dH P c Q F H:=iS (dz.free _ hB hl hv) h
theorem Og{c:Code}(L:List Nat)(W:List (Nat×Nat))(J:List (Nat×AV))(h0:(L.any fun i=>(H.get i).isSome)=true)(hB:H.B.all (fy fun i=>L.contains i)=true)(hl:gz (fun i=>L.contains i) H.l)(hv:bZ (fun i=>L.contains i) H F (mH J (mB W F)))(h:dH P c Q (mH J (mB W F)) ⟨H.B,eo (fun i=>L.contains i) H.l⟩):dH P c Q F H:=iS (dz.free _ hB hl hv) h
end
theorem iW{H':Hp}(e:H=H':=by first|(simp only[go_sem];done)|(simp only[go_sem];rfl)|rfl|fail):H=H':=e
theorem cX{F':List AV}(e:jt F F':=by(simp only[go_sem,jt,Nat.reduceAdd,AV.raw.injEq,Value.int.injEq,Value.slice.injEq,Value.pointer.injEq,AV.rs.injEq];try omega)):jt F F':=e
theorem kY{D:Nat->Bool}{l m:List AV}(e:bZ D H l m:=by(simp only[go_sem,↓reduceIte,Int.reduceEq,Int.reduceLE,Int.reduceLT,Int.reduceNe,Int.reduceToNat,Nat.reduceMul,Nat.reduceAdd,Nat.reduceLeDiff,Nat.reduceSub,Nat.reduceEqDiff,Nat.reduceBEq,List.nodup_cons,List.nodup_nil,List.mem_cons,List.not_mem_nil,List.mem_nil_iff];repeat' (first|exact jI|exact Nf _|exact dU.nil _ _|exact dU.lit _ _ _ _ _|exact dU.same _ rfl|(exact dU.same _ (by exact uz))|(exact dU.row _ (by first|rfl|(exact uz)) (by first|(exact uz)|rfl|(exact sI)) (by first|rfl|(simp only[go_sem];done)|omega))|refine jA ?_ ?_|fail))):bZ D H l m:=e
theorem ES{id:Nat}{l:List Oper}{b:Bool}(L:List Nat)(W:List (Nat×Nat))(J:List (Nat×AV))(h:q)(h0:(L.any fun i=>(H.get i).isSome)=true:=by rfl)(hB:H.B.all (fy fun i=>L.contains i)=true:=by exact dn)(hl:gz (fun i=>L.contains i) H.l:=by exact dn)
 (hv:bZ (fun i=>L.contains i) H F (mH J (mB W F)):=by exact kY) (e:dH P (.region id l.toArray b) Q (mH J (mB W F)) ⟨H.B,eo (fun i=>L.contains i) H.l⟩=q:=by exact eL):dH P (.region id l.toArray b) Q F H:=Og L W J h0 hB hl hv (e ▸ h)
theorem eQ{f:FuncId}{fn:Func}{c:Code}{args:List AV}{r:AV}{k:Nat}(hf:P.funcs[f]?=some fn)(hn:fn.ntmps=k)(h:dH P c (kj P fn fun r' l'=>r'=r/\l'=[]) F ⟨[],[]⟩)(hb:fn.body=some c:=by rfl)
 (hF:args++List.replicate (k-args.length) .any=F:=by(simp only[List.length_cons,List.length_nil,Nat.reduceAdd,Nat.reduceSub,List.replicate,List.cons_append,List.nil_append];rfl)):dV P f args r:=Li hf hb (by rw[hn];exact hF) h
theorem aU{f:FuncId}{fn:Func}{c:Code}{args:List AV}{R:AV->List (Nat×Row)->Prop}{k:Nat}(hf:P.funcs[f]?=some fn)(hn:fn.ntmps=k){L:List Nat}(h:dH P c (kj P fn R) F ⟨L,l⟩)(hb:fn.body=some c:=by rfl)(hL:ids l=L:=by rfl)
 (hF:args++List.replicate (k-args.length) .any=F:=by(simp only[List.length_cons,List.length_nil,Nat.reduceAdd,Nat.reduceSub,List.replicate,List.cons_append,List.nil_append];rfl)):aj P f args l R:=OO hf hb (by rw[hn];exact hF) hL h
section
variable {P:Program}{fn:Func}{F:List AV}{H:Hp}{out:List AV}{e:Exit}{r:AV}{l:List (Nat×Row)}
theorem bV(rs:List ResultVar)(h1:jy out=r)(h2:H.l=l)(hrs:fn.results.toList=rs:=by rfl)(he:e=.normal\/e=.ret:=by first|exact Or.inr rfl|exact Or.inl rfl|fail)(ho:iO P H F rs=some out:=by(exact sI))(hok:jc P H F rs:=by exact uz) :
  kj P fn (fun r' l'=>r'=r/\l'=l) e F H:=I4 rs hrs he ho hok h1 h2
theorem bH(rs:List ResultVar)(hv:jy out=r)(hrs:fn.results.toList=rs:=by rfl)(he:e=.normal\/e=.ret:=by first|exact Or.inr rfl|exact Or.inl rfl|fail)(ho:iO P H F rs=some out:=by(exact sI))(hok:jc P H F rs:=by exact uz)(hl:gz (mg H.B) H.l:=by exact dn)
 (hq:(jy out).all (fy (mg H.B))=true:=by exact dn) (h2:eo (mg H.B) H.l=l:=by first|rfl|(exact dn)|(exact sI)|fail):kj P fn (fun r' l'=>r'=r/\l'=l) e F H:=C1 rs hrs he ho hok hl (xI hv hq) h2
theorem lG(rs:List ResultVar)(hv:dU (mg H.B) H (jy out) r)(hrs:fn.results.toList=rs:=by rfl)(he:e=.normal\/e=.ret:=by first|exact Or.inr rfl|exact Or.inl rfl|fail)(ho:iO P H F rs=some out:=by(exact sI))(hok:jc P H F rs:=by exact uz)(hl:gz (mg H.B) H.l:=by exact dn)
 (h2:eo (mg H.B) H.l=l:=by first|rfl|(exact dn)|(exact sI)|fail):kj P fn (fun r' l'=>r'=r/\l'=l) e F H:=C1 rs hrs he ho hok hl hv h2
end
@[go_sem] theorem jxO(enc:α->List AV)(l:List α)(k:Nat)(x:α):(l.map enc).set k (enc x)=(l.set k x).map enc:=List.map_set.symm
attribute [go_sem] List.length_set
def eI(x:Int):List AV:=[.raw (.int .i64 x)]
instance:bL eI 1:=⟨fun _=>rfl,fun _=>rfl,fun _=>rfl⟩
@[go_sem] theorem j61(x:Int):(eI x).length=1:=(rfl)
@[go_sem] theorem j9v(x:Int):(eI x).getD 0 .any=.raw (.int .i64 x):=(rfl)
@[go_sem] theorem j9u(x:Int):(eI x).drop 1=[]:=(rfl)
@[go_sem] theorem j62(l:List Int)(k:Nat)(x:Int):(l.map eI).set k [.raw (.int .i64 x)]=(l.set k x).map eI:=(List.map_set (f:=eI)).symm
def eS(x:ByteArray):List AV:=[.raw (.string x)]
instance:bL eS 1:=⟨fun _=>rfl,fun _=>rfl,fun _=>rfl⟩
@[go_sem] theorem j64(x:ByteArray):(eS x).length=1:=(rfl)
@[go_sem] theorem j9w(x:ByteArray):(eS x).getD 0 .any=.raw (.string x):=(rfl)
def eB(x:Bool):List AV:=[.raw (.bool x)]
instance:bL eB 1:=⟨fun _=>rfl,fun _=>rfl,fun _=>rfl⟩
def eU(x:Int):List AV:=[.raw (.int .u8 x)]
instance:bL eU 1:=⟨fun _=>rfl,fun _=>rfl,fun _=>rfl⟩
def nY(x:List Int):List AV:=[bt eI 1 x]
instance:bL nY 1:=⟨fun _=>rfl,fun _=>rfl,fun _=>rfl⟩
@[go_sem] theorem j3X(x:List Int):(nY x).length=1:=(rfl)
@[go_sem] theorem j63(x:List Int):(nY x).getD 0 .any=bt eI 1 x:=(rfl)
structure cd where
 kind:Int
 text:ByteArray
 at_:Int
 deriving Inhabited,DecidableEq
def lW(x:cd):List AV:=[.raw (.int .i64 x.kind),.raw (.string x.text),.raw (.int .i64 x.at_)]
section
variable (x y:cd)
@[go_sem] theorem jw8:(lW x).length=3:=(rfl)
@[go_sem] theorem jvB:(lW x).all AV.one=true:=(rfl)
@[go_sem] theorem Jt(q:Nat->Bool):aY q (lW x)=true:=by simp[lW,aY,AV.all]
instance:bL lW 3:=⟨fun _=>rfl,fun _=>rfl,fun x=>Jt x _⟩
@[go_sem] theorem jvC:(lW x).take 3=lW x:=(rfl)
@[go_sem] theorem jzf:(lW x).getD 0 .any=.raw (.int .i64 x.kind):=(rfl)
@[go_sem] theorem jzg:(lW x).getD 1 .any=.raw (.string x.text):=(rfl)
@[go_sem] theorem jzh:(lW x).getD 2 .any=.raw (.int .i64 x.at_):=(rfl)
end
structure bh where
 kind:Int
 cu:Int
 n:Int
 name:ByteArray
 l:List Int
 deriving Inhabited,DecidableEq
def er(x:bh):List AV:=[.raw (.int .i64 x.kind),.raw (.int .i64 x.cu),.raw (.int .i64 x.n),.raw (.string x.name),bt eI 1 x.l]
section
variable (x y:bh)
@[go_sem] theorem jy3:(er x).length=5:=(rfl)
@[go_sem] theorem jwY:(er x).all AV.one=true:=(rfl)
@[go_sem] theorem OR(q:Nat->Bool):aY q (er x)=true:=by simp[er,aY,AV.all]
instance:bL er 5:=⟨fun _=>rfl,fun _=>rfl,fun x=>OR x _⟩
@[go_sem] theorem jwZ:(er x).take 5=er x:=(rfl)
@[go_sem] theorem j0q:(er x).getD 0 .any=.raw (.int .i64 x.kind):=(rfl)
@[go_sem] theorem j0r:(er x).getD 1 .any=.raw (.int .i64 x.cu):=(rfl)
@[go_sem] theorem j0s:(er x).getD 2 .any=.raw (.int .i64 x.n):=(rfl)
@[go_sem] theorem j0t:(er x).getD 3 .any=.raw (.string x.name):=(rfl)
@[go_sem] theorem j0u:(er x).getD 4 .any=bt eI 1 x.l:=(rfl)
end
structure ak where
 ty:Int
 n:Int
 s:ByteArray
 deriving Inhabited,DecidableEq
def cI(x:ak):List AV:=[.raw (.int .i64 x.ty),.raw (.int .i64 x.n),.raw (.string x.s)]
section
variable (x y:ak)
@[go_sem] theorem jxb:(cI x).length=3:=(rfl)
@[go_sem] theorem jvD:(cI x).all AV.one=true:=(rfl)
@[go_sem] theorem Mz(q:Nat->Bool):aY q (cI x)=true:=by simp[cI,aY,AV.all]
instance:bL cI 3:=⟨fun _=>rfl,fun _=>rfl,fun x=>Mz x _⟩
@[go_sem] theorem jvE:(cI x).take 3=cI x:=(rfl)
@[go_sem] theorem jzk:(cI x).getD 0 .any=.raw (.int .i64 x.ty):=(rfl)
@[go_sem] theorem jzl:(cI x).getD 1 .any=.raw (.int .i64 x.n):=(rfl)
@[go_sem] theorem jzn(v:Int):List.take 1 (cI x)++[.raw (.int .i64 v)]++List.drop 2 (cI x)=cI { x with n:=v }:=(rfl)
@[go_sem] theorem jzm:(cI x).getD 2 .any=.raw (.string x.s):=(rfl)
end
structure bD where
 name:ByteArray
 ty:Int
 deriving Inhabited,DecidableEq
def oe(x:bD):List AV:=[.raw (.string x.name),.raw (.int .i64 x.ty)]
section
variable (x y:bD)
@[go_sem] theorem jw0:(oe x).length=2:=(rfl)
@[go_sem] theorem P8(q:Nat->Bool):aY q (oe x)=true:=by simp[oe,aY,AV.all]
instance:bL oe 2:=⟨fun _=>rfl,fun _=>rfl,fun x=>P8 x _⟩
@[go_sem] theorem jy4:(oe x).getD 0 .any=.raw (.string x.name):=(rfl)
@[go_sem] theorem jy5:(oe x).getD 1 .any=.raw (.int .i64 x.ty):=(rfl)
end
structure aW where
 name:ByteArray
 cu:Int
 params:List bD
 ret:Int
 body:Int
 deriving Inhabited,DecidableEq
def fU(x:aW):List AV:=[.raw (.string x.name),.raw (.int .i64 x.cu),bt oe 2 x.params,.raw (.int .i64 x.ret),.raw (.int .i64 x.body)]
section
variable (x y:aW)
@[go_sem] theorem jyX:(fU x).length=5:=(rfl)
@[go_sem] theorem jwV:(fU x).all AV.one=true:=(rfl)
@[go_sem] theorem MP(q:Nat->Bool):aY q (fU x)=true:=by simp[fU,aY,AV.all]
instance:bL fU 5:=⟨fun _=>rfl,fun _=>rfl,fun x=>MP x _⟩
@[go_sem] theorem jwW:(fU x).take 5=fU x:=(rfl)
@[go_sem] theorem j0m:(fU x).getD 0 .any=.raw (.string x.name):=(rfl)
@[go_sem] theorem j0n:(fU x).getD 2 .any=bt oe 2 x.params:=(rfl)
@[go_sem] theorem j0o:(fU x).getD 3 .any=.raw (.int .i64 x.ret):=(rfl)
@[go_sem] theorem j0p:(fU x).getD 4 .any=.raw (.int .i64 x.body):=(rfl)
end
structure ax where
 nodes:List bh
 ap:List aW
 deriving Inhabited,DecidableEq
def k8(x:ax):List AV:=[bt er 5 x.nodes,bt fU 5 x.ap]
section
variable (x y:ax)
@[go_sem] theorem jzj:(k8 x).length=2:=(rfl)
@[go_sem] theorem jw9:(k8 x).all AV.one=true:=(rfl)
@[go_sem] theorem Jk(q:Nat->Bool):aY q (k8 x)=true:=by simp[k8,aY,AV.all]
instance:bL k8 2:=⟨fun _=>rfl,fun _=>rfl,fun x=>Jk x _⟩
@[go_sem] theorem jxa:(k8 x).take 2=k8 x:=(rfl)
@[go_sem] theorem j0F:(k8 x).getD 0 .any=bt er 5 x.nodes:=(rfl)
@[go_sem] theorem j0G:(k8 x).getD 1 .any=bt fU 5 x.ap:=(rfl)
end
structure bC where
 name:ByteArray
 ty:Int
 slot:Int
 deriving Inhabited,DecidableEq
def si(x:bC):List AV:=[.raw (.string x.name),.raw (.int .i64 x.ty),.raw (.int .i64 x.slot)]
section
variable (x y:bC)
@[go_sem] theorem j0H:(si x).length=3:=(rfl)
@[go_sem] theorem J5(q:Nat->Bool):aY q (si x)=true:=by simp[si,aY,AV.all]
instance:bL si 3:=⟨fun _=>rfl,fun _=>rfl,fun x=>J5 x _⟩
@[go_sem] theorem j2i:(si x).getD 0 .any=.raw (.string x.name):=(rfl)
@[go_sem] theorem j2j:(si x).getD 1 .any=.raw (.int .i64 x.ty):=(rfl)
@[go_sem] theorem j2k:(si x).getD 2 .any=.raw (.int .i64 x.slot):=(rfl)
end
structure ab where
 aa:ax
 types:List Int
 slots:List Int
 fn:List Int
 size:List Int
 deriving Inhabited,DecidableEq
def fB(x:ab):List AV:=[bt er 5 x.aa.nodes,bt fU 5 x.aa.ap,bt eI 1 x.types,bt eI 1 x.slots,bt eI 1 x.fn,bt eI 1 x.size]
section
variable (x y:ab)
@[go_sem] theorem jy8:(fB x).length=6:=(rfl)
@[go_sem] theorem jw2:(fB x).all AV.one=true:=(rfl)
@[go_sem] theorem OF(q:Nat->Bool):aY q (fB x)=true:=by simp[fB,aY,AV.all]
instance:bL fB 6:=⟨fun _=>rfl,fun _=>rfl,fun x=>OF x _⟩
@[go_sem] theorem jw3:(fB x).take 6=fB x:=(rfl)
@[go_sem] theorem j0v:(fB x).getD 0 .any=bt er 5 x.aa.nodes:=(rfl)
@[go_sem] theorem j0w:(fB x).getD 4 .any=bt eI 1 x.fn:=(rfl)
@[go_sem] theorem j0x:(fB x).getD 5 .any=bt eI 1 x.size:=(rfl)
end
structure aZ where
 block:Int
 at_:Int
 deriving Inhabited,DecidableEq
def l7(x:aZ):List AV:=[.raw (.int .i64 x.block),.raw (.int .i64 x.at_)]
section
variable (x y:aZ)
@[go_sem] theorem jw1:(l7 x).length=2:=(rfl)
@[go_sem] theorem jvx:(l7 x).all AV.one=true:=(rfl)
@[go_sem] theorem Ka(q:Nat->Bool):aY q (l7 x)=true:=by simp[l7,aY,AV.all]
instance:bL l7 2:=⟨fun _=>rfl,fun _=>rfl,fun x=>Ka x _⟩
@[go_sem] theorem jvy:(l7 x).take 2=l7 x:=(rfl)
@[go_sem] theorem jy6:(l7 x).getD 0 .any=.raw (.int .i64 x.block):=(rfl)
@[go_sem] theorem jy7:(l7 x).getD 1 .any=.raw (.int .i64 x.at_):=(rfl)
end
structure aI where
 fn:Int
 slots:List ak
 path:List aZ
 deriving Inhabited,DecidableEq
def po(x:aI):List AV:=[.raw (.int .i64 x.fn),bt cI 3 x.slots,bt l7 2 x.path]
section
variable (x y:aI)
@[go_sem] theorem jwU:(po x).length=3:=(rfl)
@[go_sem] theorem jvt:(po x).all AV.one=true:=(rfl)
@[go_sem] theorem Ow(q:Nat->Bool):aY q (po x)=true:=by simp[po,aY,AV.all]
instance:bL po 3:=⟨fun _=>rfl,fun _=>rfl,fun x=>Ow x _⟩
@[go_sem] theorem jvu:(po x).take 3=po x:=(rfl)
@[go_sem] theorem jyW:(po x).getD 2 .any=bt l7 2 x.path:=(rfl)
end
structure aK where
 ao:List aI
 heap:List (List Int)
 in_:Int
 ay:List ByteArray
 status:Int
 bn:Int
 time:Int
 deriving Inhabited,DecidableEq
def jT(x:aK):List AV:=[bt po 3 x.ao,bt nY 1 x.heap,.raw (.int .i64 x.in_),bt eS 1 x.ay,.raw (.int .i64 x.status),.raw (.int .i64 x.bn),.raw (.int .i64 x.time)]
section
variable (x y:aK)
@[go_sem] theorem jw7:(jT x).length=7:=(rfl)
@[go_sem] theorem jvz:(jT x).all AV.one=true:=(rfl)
@[go_sem] theorem BR(q:Nat->Bool):aY q (jT x)=true:=by simp[jT,aY,AV.all]
instance:bL jT 7:=⟨fun _=>rfl,fun _=>rfl,fun x=>BR x _⟩
@[go_sem] theorem jvA:(jT x).take 7=jT x:=(rfl)
@[go_sem] theorem jzb:(jT x).getD 0 .any=bt po 3 x.ao:=(rfl)
@[go_sem] theorem jzc:(jT x).getD 1 .any=bt nY 1 x.heap:=(rfl)
@[go_sem] theorem jzd:(jT x).getD 3 .any=bt eS 1 x.ay:=(rfl)
@[go_sem] theorem jze:(jT x).getD 4 .any=.raw (.int .i64 x.status):=(rfl)
end
structure ja where
 fn:Int
 node:Int
 slots:List ak
 deriving Inhabited,DecidableEq
def nk(x:ja):List AV:=[.raw (.int .i64 x.fn),.raw (.int .i64 x.node),bt cI 3 x.slots]
section
variable (x y:ja)
@[go_sem] theorem jza:(nk x).length=3:=(rfl)
@[go_sem] theorem jw5:(nk x).all AV.one=true:=(rfl)
@[go_sem] theorem ME(q:Nat->Bool):aY q (nk x)=true:=by simp[nk,aY,AV.all]
instance:bL nk 3:=⟨fun _=>rfl,fun _=>rfl,fun x=>ME x _⟩
@[go_sem] theorem jw6:(nk x).take 3=nk x:=(rfl)
@[go_sem] theorem j0C:(nk x).getD 0 .any=.raw (.int .i64 x.fn):=(rfl)
@[go_sem] theorem j0D:(nk x).getD 1 .any=.raw (.int .i64 x.node):=(rfl)
@[go_sem] theorem j0E:(nk x).getD 2 .any=bt cI 3 x.slots:=(rfl)
end
structure kS where
 calls:List ja
 heap:List (List Int)
 in_:Int
 ay:List ByteArray
 status:Int
 bn:Int
 time:Int
 deriving Inhabited,DecidableEq
def np(x:kS):List AV:=[bt nk 3 x.calls,bt nY 1 x.heap,.raw (.int .i64 x.in_),bt eS 1 x.ay,.raw (.int .i64 x.status),.raw (.int .i64 x.bn),.raw (.int .i64 x.time)]
section
variable (x y:kS)
@[go_sem] theorem jy9:(np x).length=7:=(rfl)
@[go_sem] theorem jw4:(np x).all AV.one=true:=(rfl)
@[go_sem] theorem Mg(q:Nat->Bool):aY q (np x)=true:=by simp[np,aY,AV.all]
instance:bL np 7:=⟨fun _=>rfl,fun _=>rfl,fun x=>Mg x _⟩
@[go_sem] theorem j0y:(np x).getD 0 .any=bt nk 3 x.calls:=(rfl)
@[go_sem] theorem j0z:(np x).getD 1 .any=bt nY 1 x.heap:=(rfl)
@[go_sem] theorem j0A:(np x).getD 3 .any=bt eS 1 x.ay:=(rfl)
@[go_sem] theorem j0B:(np x).getD 6 .any=.raw (.int .i64 x.time):=(rfl)
end
structure mG where
 name:ByteArray
 text:ByteArray
 deriving Inhabited,DecidableEq
def xu(x:mG):List AV:=[.raw (.string x.name),.raw (.string x.text)]
section
variable (x y:mG)
@[go_sem] theorem LF(q:Nat->Bool):aY q (xu x)=true:=by simp[xu,aY,AV.all]
instance:bL xu 2:=⟨fun _=>rfl,fun _=>rfl,fun x=>LF x _⟩
end
structure o5 where
 name:ByteArray
 cu:Int
 vars:List mG
 deriving Inhabited,DecidableEq
def yA(x:o5):List AV:=[.raw (.string x.name),.raw (.int .i64 x.cu),bt xu 2 x.vars]
section
variable (x y:o5)
@[go_sem] theorem Od(q:Nat->Bool):aY q (yA x)=true:=by simp[yA,aY,AV.all]
instance:bL yA 3:=⟨fun _=>rfl,fun _=>rfl,fun x=>Od x _⟩
end
structure ri where
 calls:List o5
 ay:List ByteArray
 in_:Int
 status:Int
 bn:Int
 deriving Inhabited,DecidableEq
def Ax(x:ri):List AV:=[bt yA 3 x.calls,bt eS 1 x.ay,.raw (.int .i64 x.in_),.raw (.int .i64 x.status),.raw (.int .i64 x.bn)]
section
variable (x y:ri)
@[go_sem] theorem ID(q:Nat->Bool):aY q (Ax x)=true:=by simp[Ax,aY,AV.all]
instance:bL Ax 5:=⟨fun _=>rfl,fun _=>rfl,fun x=>ID x _⟩
end
structure au where
 op:Int
 a:Int
 b:Int
 s:ByteArray
 deriving Inhabited,DecidableEq
def cW(x:au):List AV:=[.raw (.int .i64 x.op),.raw (.int .i64 x.a),.raw (.int .i64 x.b),.raw (.string x.s)]
section
variable (x y:au)
@[go_sem] theorem jwX:(cW x).length=4:=(rfl)
@[go_sem] theorem jvv:(cW x).all AV.one=true:=(rfl)
@[go_sem] theorem JH(q:Nat->Bool):aY q (cW x)=true:=by simp[cW,aY,AV.all]
instance:bL cW 4:=⟨fun _=>rfl,fun _=>rfl,fun x=>JH x _⟩
@[go_sem] theorem jvw:(cW x).take 4=cW x:=(rfl)
@[go_sem] theorem jyY:(cW x).getD 0 .any=.raw (.int .i64 x.op):=(rfl)
@[go_sem] theorem jyZ:(cW x).getD 1 .any=.raw (.int .i64 x.a):=(rfl)
@[go_sem] theorem jy2(v:Int):List.take 1 (cW x)++[.raw (.int .i64 v)]++List.drop 2 (cW x)=cW { x with a:=v }:=(rfl)
@[go_sem] theorem jy0:(cW x).getD 2 .any=.raw (.int .i64 x.b):=(rfl)
@[go_sem] theorem jy1:(cW x).getD 3 .any=.raw (.string x.s):=(rfl)
end
structure aF where
 ins:List au
 entry:List Int
 deriving Inhabited,DecidableEq
def vL(x:aF):List AV:=[bt cW 4 x.ins,bt eI 1 x.entry]
section
variable (x y:aF)
@[go_sem] theorem JE(q:Nat->Bool):aY q (vL x)=true:=by simp[vL,aY,AV.all]
instance:bL vL 2:=⟨fun _=>rfl,fun _=>rfl,fun x=>JE x _⟩
end
end Go.Gd

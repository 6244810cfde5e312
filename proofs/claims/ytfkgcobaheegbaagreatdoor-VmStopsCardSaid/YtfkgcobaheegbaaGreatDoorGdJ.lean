/- Lemmas. No conditions. -/
import Derived.Test.YtfkgcobaheegbaaGreatDoorGdH
set_option linter.all false
namespace Go.Gd
open Go
section
variable {P:Program}{H:Hp}
theorem Gt{w:NW}(l:List Value):cf w (l.map .raw) l:=⟨jE,fun i a v ha hv=>by simp only[List.getElem?_map,Option.map_eq_some_iff]at ha;obtain⟨x,hx,rfl⟩:=ha;rw[hx]at hv;cases hv;exact .raw _⟩
theorem Jm{a:AV}{v:Value}{w:NW}{f:FuncId}{first captured:List AV}(h:aw w a v)(hf:BW a=some (f,first,captured)):∃x y:Array Value,v=.func (.func f) x y/\cf w first x.toList/\cf w captured y.toList:=by
 unfold BW at hf;split at hf
 ·rename_i f x y;simp only[Option.some.injEq,Prod.mk.injEq]at hf;obtain⟨rfl,rfl,rfl⟩:=hf;exact⟨x,y,dm h,Gt _,Gt _⟩
 ·simp only[Option.some.injEq,Prod.mk.injEq]at hf;obtain⟨rfl,rfl,rfl⟩:=hf;cases h with
  |fQ _ _ vs hl hr=>exact⟨#[],vs,rfl,⟨rfl,fun i a v h=>by simp at h⟩,⟨by simpa using hl,fun i a v h1 h2=>hr i a v h1 (by simpa using h2)⟩⟩
 ·simp only[Option.some.injEq,Prod.mk.injEq]at hf;obtain⟨rfl,rfl,rfl⟩:=hf;cases h with
  |bd _ _ vs hl hr=>exact⟨vs,#[],rfl,⟨by simpa using hl,fun i a v h1 h2=>hr i a v h1 (by simpa using h2)⟩,⟨rfl,fun i a v h=>by simp at h⟩⟩
 ·cases hf
theorem Nn{w:NW}{l:List AV}{vs:List Value}(h:cf w l vs):bc w l vs.toArray:=⟨by simpa using h.1,fun i a v ha hv=>h.2 i a v ha (by simpa using hv)⟩
theorem N4 {f : FuncId} (h : bz P f = true) : ∃ fn, P.funcs[f]? = some fn ∧ fn.body.isSome = true ∧ (fn.name == "runtime.NumGoroutine") = false := by
 unfold bz at h;split at h
 ·rename_i fn hf;simp only[Bool.and_eq_true,Bool.not_eq_true']at h;exact⟨fn,hf,h.1,h.2⟩
 ·cases h
theorem wi{f:AV}{args:List AV}{R:AV->Hp->Prop}{fo:Operand}{as:Array Operand}{ts:Array TypeId}{dst:Option Tmp}{ty:TypeId}{pos:String}{after:Array Edge}{guard:Option (Nat×Bool)}{ev:Operand->AV}(he1:ev fo=f)(he2:as.toList.map ev=args)
  (h:fI P f args H R) {w:NW} {a:Act} {next:Act->World->Prop} {Q:Exit->Act->World->Prop} (hw:aO w H) (hr:∀x,aw w (ev x) (a.eval x))
  (hn:∀(v:Value) (r:AV) (w':NW) (H':Hp),R r H'->aO w' H'->aw w' r v->Ext w H w' H'->next (a.put dst v) w'.toWorld):Oper.wp P ⟨dst,.call ⟨.value fo,as,ts⟩,ty,pos,after,guard⟩ a w.toWorld next Q:=by
 unfold fI at h;split at h
 ·rename_i f first captured hf
  obtain⟨x,y,hv,hx,hy⟩:=Jm (he1 ▸ hr fo) hf;have hrel:bc w (first++args++captured) (x.toList++as.toList.map a.eval++y.toList).toArray:=
   Nn ((hx.append (he2 ▸ vK hr as.toList)).append hy)
  have hargs:as.map a.eval=(as.toList.map a.eval).toArray:=by rw[<-Array.toList_map,Array.toArray_toList]
  have hcf:(execOp a.eval ⟨dst,.call ⟨.value fo,as,ts⟩,ty,pos,after,guard⟩).run P w.toWorld=(callFunc f (x.toList++as.toList.map a.eval++y.toList).toArray).run P w.toWorld:=by
   have e:x++(as.toList.map a.eval).toArray++y=(x.toList++as.toList.map a.eval++y.toList).toArray:=by apply Array.ext';simp
   simp only[execOp,resolve,hv,Deferred.ofValue,pure_bind,invoke,hargs,e]
  rcases h with⟨hcall,hc⟩|hx'
  ·obtain⟨fn,hfn,hb,hname⟩:=N4 hcall;have hrun:(execOp a.eval ⟨dst,.call ⟨.value fo,as,ts⟩,ty,pos,after,guard⟩).run P w.toWorld=.ok (.enter f (x.toList++as.toList.map a.eval++y.toList).toArray) w.toWorld:=by
    have hb':fn.body.isNone=false:=by cases hbb:fn.body<;>simp_all
    rw[hcf];simp only[callFunc,Sem.run_bind,run_program,Result.andThen_ok,hfn,hname,hb',Bool.false_eq_true,if_false,Sem.run_pure]
   simp only[Oper.wp,hrun,Oper.upon_enter];refine(hc w _ hw hrel).mono ?_;rintro e W ⟨v,r,H',w',rfl,rfl,hR,g1,g2,g3⟩;exact hn v r w' H' hR g1 g2 g3
  ·obtain⟨v,w',r,H',hrun,hR,g1,g2,g3⟩:=hx' w _ hw hrel;rw[<-hcf]at hrun;simp only[Oper.wp,hrun,Oper.upon];exact hn v r w' H' hR g1 g2 g3
 ·exact h.elim
end
variable{P:Program}{H:Hp}{K:AV->Hp->Prop}
@[congr] theorem jzv{f f':AV}{args args':List AV}(h1:f=f')(h2:args=args'):fI P f args H K=fI P f' args' H K:=by rw[h1,h2]
variable{t:TypeId}
@[congr] theorem jw6:nP P H t K=nP P H t K:=rfl
@[congr] theorem j0A{x x':AV}(h:x=x'):rm H t x K=rm H t x' K:=by rw[h]
@[congr] theorem jt0{t':TypeId}{a a' x x':AV}(h1:a=a')(h2:x=x'):pT P t t' a x H K=pT P t t' a' x' H K:=by rw[h1,h2]
@[congr] theorem jrp{b:Builtin}{ts ts':List TypeId}{as as':List AV}(h1:ts=ts')(h2:as=as'):sy P b ts as H K=sy P b ts' as' H K:=by rw[h1,h2]
def mq(ops:Array Oper)(F:List AV)(j:Nat)(want:Bool):Option Bool:=match (ops[j]?).bind (·.dst)with
 |some d=>match F[d]? with
  |some (.raw (.bool b))=>some (b == want)
  |some (.gd g (.raw (.bool b)))=>some (g && (b == want))
  |_=>none
 |none=>none
def bS(F:List AV)(x:Operand):AV:=(lR (cc F x)).2
def gv(F:List AV)(o:Op):Bool:=o.operands.toList.all fun x=>(lR (cc F x)).1
def iB:Op->Bool
 |.binOp .eql ..=>true
 |.binOp .neq ..=>true
 |o=>dh o
def eQ(P:Program)(F:List AV)(H:Hp)(g:Bool)(K:AV->Prop):Op->Prop
 |.call { callee:=.value f,args,argTypes }=>∃r,(g=true->gv F (.call ⟨.value f,args,argTypes⟩)=true/\fI P (bS F f) (args.toList.map (bS F)) H fun r' H'=>r'=r/\H'=H)/\K (.gd g r)
 |.pick c a b=>(g=true->(lR (cc F c)).1=true/\(nG (bS F c) (cc F a) (cc F b)).1)/\K (.gd g (nG (bS F c) (cc F a) (cc F b)).2)
 |o=>if iB o then(g=true->gv F o=true/\(vq P (bS F) H o).1)/\K (.gd g (vq P (bS F) H o).2)else False
def k9:Op->Bool
 |.call { callee:=.value _,.. }=>true
 |_=>false
def iC(P:Program)(ops:Array Oper)(K:List AV->Hp->Prop):List Oper->List AV->Hp->Prop
 |[],F,H=>K F H
 |o::rest,F,H=>match o.guard with
  |none=>vc P (cc F) H o.type (fun r H'=>iC P ops K rest (cA F o.dst r) H') o.op
  |some (j,want)=>match mq ops F j want with
   |some b=>if k9 o.op || iB o.op then eQ P F H b (fun r=>iC P ops K rest (cA F o.dst r) H) o.op
    else(b=true->vc P (cc F) H o.type (fun r H'=>iC P ops K rest (cA F o.dst r) H') o.op)/\(b=false->iC P ops K rest (cA F o.dst .any) H)
   |none=>False
section
variable {P:Program}{ops:Array Oper}{F:List AV}{H:Hp}
variable{K:List AV->Hp->Prop}{w:NW}{tm:Array Value}
theorem BG{o:Oper}{ev:Operand->AV}(h:vc P ev H o.type (fun r H'=>K (cA F o.dst r) H') o.op){Q:Exit->Act->World->Prop}{next:Act->World->Prop}
  (h1:aO w H) (h2:bc w F tm) (hr:∀x,aw w (ev x) ((Act.mk tm []).eval x))
  (hn:∀tm' (w':NW) F' H',K F' H'->aO w' H'->bc w' F' tm'->Ext w H w' H'->next ⟨tm',[]⟩ w'.toWorld):o.wp P ⟨tm,[]⟩ w.toWorld next Q:=by
 have quiet:((vq P ev H o.op).1/\K (cA F o.dst (vq P ev H o.op).2) H)->o.wp P ⟨tm,[]⟩ w.toWorld next Q:=fun hq=>by obtain⟨v,hrun,hv⟩:=zk o h1 hr hq.1;simp only[Oper.wp,hrun,Oper.upon];rw[Act.put_eq];exact hn _ w _ H hq.2 h1 (h2.put o.dst hv []) (Ext.refl w H)
 have val:∀{w':NW} {H':Hp} {r:AV} {v:Value},(execOp (Act.mk tm []).eval o).run P w.toWorld=.ok (.value v) w'.toWorld->K (cA F o.dst r) H'->aO w' H'->aw w' r v->Ext w H w' H'->o.wp P ⟨tm,[]⟩ w.toWorld next Q:=fun{w' H' r v} hrun hk g1 g2 g3=>by simp only[Oper.wp,hrun,Oper.upon];rw[Act.put_eq];exact hn _ w' _ H' hk g1 ((h2.ext g3).put o.dst g2 []) g3
 have skip:∀{w':NW} {H':Hp},(execOp (Act.mk tm []).eval o).run P w.toWorld=.ok .skip w'.toWorld->K (cA F o.dst .any) H'->aO w' H'->Ext w H w' H'->o.wp P ⟨tm,[]⟩ w.toWorld next Q:=fun{w' H'} hrun hk g1 g3=>by simp only[Oper.wp,hrun,Oper.upon];rw[Act.put_eq];exact hn _ w' _ H' hk g1 ((h2.ext g3).put o.dst (.any _) []) g3
 have other:js P o.op o.type ev H (fun r H'=>K (cA F o.dst r) H')->o.wp P ⟨tm,[]⟩ w.toWorld next Q:=fun ho=>by
  obtain⟨w',H',r,hk,g1,g2,g3⟩:=ho w (Act.mk tm []).eval o.dst o.pos o.after o.guard h1 (fun x _=>hr x);rcases g3 with⟨v,hrun,hv⟩|⟨hrun,rfl⟩
  ·exact val hrun hk g1 hv g2
  ·exact skip hrun hk g1 g2
 obtain⟨dst,op,ty,pos,after,guard⟩:=o;have vrun:∀{s:Sem Value} {v:Value} {W:World},s.run P w.toWorld=.ok v W->(do pure (Next.value (<-s)):Sem Next).run P w.toWorld=.ok (.value v) W:=fun hs=>by simp[hs]
 cases op
 case box t x=> obtain⟨ho,i,hi,hk⟩:=h;obtain⟨u,w',hrun,g0,g1,g2⟩:=JS (P:=P) (t:=t) h1 hi (hr x) ho;exact val (vrun hrun) hk g1 g0 g2
 case alloc t=>
  simp only[vc,nP]at h;split at h
  ·rename_i zs hz;obtain⟨i,hi,hk⟩:=h;obtain⟨u,w',hrun,g0,g1,g2⟩:=M4 (P:=P) (t:=t) h1 hi hz;exact val (vrun hrun) hk g1 g0 g2
  ·exact h.elim
 case store t a x=>
  simp only[vc,vE]at h;split at h
  ·rename_i i m k j n ha hk;split at h
   ·rename_i r hb;obtain⟨⟨s1,s2,s3⟩,hk'⟩:=h;have hva:=hr a;rw[ha]at hva;obtain⟨w',hrun,g1,g2⟩:=QX (P:=P) h1 hva hb (hr x) s1 hk s2 s3;refine skip ?_ hk' g1 g2;simp only[execOp,Sem.run_bind,hrun,Result.andThen_ok,Sem.run_pure]
   ·exact h.elim
  ·exact h.elim
 case buildSlice t n parts=>
  have h':nq P H t n (parts.toList.map fun p=>(p.1,ev p.2)) (fun r H'=>K (cA F dst r) H'):=h;obtain⟨w',H',r,v,hrun,hk,g1,g2,g3⟩:=QE (P:=P) (parts:=parts.toList.map fun p=>(p.1,ev p.2)) (vparts:=parts.map fun p=>(p.1,(Act.mk tm []).eval p.2)) h1 jE (fun i a v ha hv=>by simp only[List.getElem?_map,Option.map_eq_some_iff,Array.toList_map,Array.getElem?_toList]at ha hv;obtain⟨x,hx,rfl⟩:=ha;obtain⟨y,hy,rfl⟩:=hv;rw[hx]at hy;cases hy;exact hr x.2) h'
  exact val (vrun hrun) hk g1 g2 g3
 case binOp op t x y t'=>
  cases op
  case eql=> obtain⟨r,v,hrun,hk,hv⟩:=ET (P:=P) (K:=fun r H'=>K (cA F dst r) H') false t x y (hr x) (hr y) h;exact val (vrun hrun) hk h1 hv (Ext.refl w H)
  case neq=> obtain⟨r,v,hrun,hk,hv⟩:=ET (P:=P) (K:=fun r H'=>K (cA F dst r) H') true t x y (hr x) (hr y) h;exact val (vrun hrun) hk h1 hv (Ext.refl w H)
  all_goals exact quiet h
 case call c=>
  obtain⟨callee,args,argTypes⟩:=c;cases callee
  case value f=>
   refine wi rfl rfl h h1 hr fun v r w' H' hk g1 g2 g3=>?_
   rw[Act.put_eq];exact hn _ w' _ H' hk g1 ((h2.ext g3).put dst g2 []) g3
  case invoke r m=>exact other h
  case builtin b=>
   have hargs:args.map (Act.mk tm []).eval=(args.toList.map (Act.mk tm []).eval).toArray:=by rw[<-Array.toList_map,Array.toArray_toList]
   have bvc:sy P b argTypes.toList (args.toList.map ev) H (fun r H'=>K (cA F dst r) H')->Oper.wp P ⟨dst,.call ⟨.builtin b,args,argTypes⟩,ty,pos,after,guard⟩ ⟨tm,[]⟩ w next Q:=fun hb=>by obtain⟨w',H',r,v,hrun,hk,g1,g2,g3⟩:=hb w _ ty (args.map fun|.const _=>true|_=>false) h1 (vK hr args.toList);refine val (w':=w') (v:=v) ?_ hk g1 g2 g3;simp only[execOp,resolve,pure_bind,invoke,hargs];exact hrun
   cases b
   case append=>
    simp only[vc]at h;split at h
    ·rename_i t t' a x ht ha;obtain⟨w',H',r,v,hrun,hk,g1,g2,g3⟩:=h w _ _ ty h1 (hr a) (hr x);refine val (w':=w') (v:=v) ?_ hk g1 g2 g3;have e1:argTypes=#[t,t']:=by rw[<-Array.toArray_toList (xs:=argTypes),ht]
     have e2:args=#[a,x]:=by rw[<-Array.toArray_toList (xs:=args),ha]
     subst e1 e2;simp only[execOp,resolve,pure_bind,invoke,builtin,Sem.run_bind];have:(#[a,x].map (Act.mk tm []).eval)=#[(Act.mk tm []).eval a,(Act.mk tm []).eval x]:=jE;rw[this,hrun];rfl
    ·exact h.elim
   case len=>exact quiet h
   case cap=>exact quiet h
   case max=>exact quiet h
   case min=>exact quiet h
   all_goals exact bvc h
 case move=>exact quiet h
 case assign=>exact quiet h
 case pick=>exact quiet h
 case nilCheck=>exact quiet h
 case unOp=>exact quiet h
 case load=>exact quiet h
 case fieldAddr=>exact quiet h
 case field=>exact quiet h
 case indexAddr=>exact quiet h
 case index=>exact quiet h
 case extract=>exact quiet h
 case slice=>exact quiet h
 case makeFunc=>exact quiet h
 case makeInterface=>exact quiet h
 case convert=>exact quiet h
 case build=>exact quiet h
 all_goals first|exact other h|exact(quiet h)
theorem oP{o:Oper}(hg:o.guard=none)(h:vc P (cc F) H o.type (fun r H'=>K (cA F o.dst r) H') o.op):lZ P ops o F H K:=fun w tm Q next h1 h2 hn=>by unfold rh;rw[if_pos (by simp[Region.wanted,hg])];exact .inl (BG h h1 h2 (fun x=>h2.eval [] x) hn)
theorem PH{j:Nat}{want b:Bool}(h:mq ops F j want=some b)(h2:bc w F tm):(yielded ops tm j == some want)=b:=by
 unfold mq at h;split at h
 ·rename_i d hd;split at h<;>try cases h
  ·rename_i b' hF;have hlt:d<tm.size:=by rw[<-h2.1];exact(List.getElem?_eq_some_iff.1 hF).1
   have:=dm (h2.2 d _ _ hF (Array.getElem?_eq_getElem hlt));unfold yielded;rw[hd,Option.bind_some,Array.getElem?_eq_getElem hlt,this];cases b'<;>cases want<;>rfl
  ·rename_i g b' hF;have hlt:d<tm.size:=by rw[<-h2.1];exact(List.getElem?_eq_some_iff.1 hF).1
   have hr:=h2.2 d _ _ hF (Array.getElem?_eq_getElem hlt);unfold yielded;rw[hd,Option.bind_some,Array.getElem?_eq_getElem hlt];cases hr with
   |gd _ _ _ hh hu=>cases g with
    |true=> have:=dm (hh rfl);rw[this];cases b'<;>cases want<;>rfl
    |false=>rw[hu rfl];rfl
 ·cases h
theorem Bw(h2:bc w F tm)(x:Operand)(ok:(lR (cc F x)).1=true):aw w (bS F x) ((Act.mk tm []).eval x):=AT (h2.eval [] x) ok
def mA(F:List AV)(x:Operand):AV:=if(lR (cc F x)).1=true then bS F x else .any
theorem BU{f g:Operand->AV}{o:Option Operand}(h:∀x∈o.toList,f x=g x):o.map f=o.map g:=by
 cases o with
 |none=>rfl
 |some x=>simp[h x jE]
theorem tv{ev ev':Operand->AV}(o:Op)(h:∀x∈o.operands.toList,ev x=ev' x):vq P ev H o=vq P ev' H o:=by
 cases o
 case call c=>
  obtain⟨callee,args,ts⟩:=c;cases callee
  case builtin b=> simp only[vq];rw[List.map_congr_left (fun x hx=>h x (by simpa[Op.operands,Call.operands]using hx))]
  all_goals rfl
 case slice t a lo hi mx=> simp only[Op.operands]at h;simp only[vq];rw[h a jE,BU (o:=lo) (fun x hx=>h x (by simp at hx ⊢;simp[hx])),BU (o:=hi) (fun x hx=>h x (by simp at hx ⊢;simp[hx])),BU (o:=mx) (fun x hx=>h x (by simp at hx ⊢;simp[hx]))]
 case makeFunc fn a b=> simp only[Op.operands]at h;simp only[vq];rw[List.map_congr_left (l:=a.toList) (fun x hx=>h x (by simp at hx ⊢;simp[hx])),List.map_congr_left (l:=b.toList) (fun x hx=>h x (by simp at hx ⊢;simp[hx]))]
 case build t ps=> simp only[Op.operands]at h;simp only[vq];rw[List.map_congr_left (g:=fun p=>(p.1,ev' p.2)) (fun x hx=>by rw[h x.2 (by simp at hx ⊢;exact⟨_,hx⟩)])]
 all_goals first
  |rfl
  |(simp only[Op.operands]at h;simp only[vq];(repeat rw[h _ jE]))
theorem uJ(h2:bc w F tm)(x:Operand):aw w (mA F x) ((Act.mk tm []).eval x):=by
 unfold mA;split
 ·rename_i h;exact Bw h2 x h
 ·exact .any _
theorem sN{o:Op}(h:gv F o=true):∀x∈o.operands.toList,mA F x=bS F x:=fun x hx=>by unfold mA;rw[if_pos];simp only[gv,List.all_eq_true]at h;exact h x hx
theorem qe{o:Oper}{j:Nat}{want b:Bool}(hg:o.guard=some (j,want))(hb:mq ops F j want=some b)
  (ht:b=true->∀w tm (Q:Exit->Act->World->Prop) (next:Act->World->Prop),aO w H->bc w F tm->(∀tm' w' F' H',K F' H'->aO w' H'->bc w' F' tm'->Ext w H w' H'->next ⟨tm',[]⟩ w')->o.wp P ⟨tm,[]⟩ w.toWorld next Q)
  (hf:b=false->∃r,(∀w:NW,aw w r undef)/\K (cA F o.dst r) H):lZ P ops o F H K:=fun w tm Q next h1 h2 hn=>by
 have hy:=PH hb h2;unfold rh;have hw:Region.wanted o (yielded ops (Act.mk tm []).tmps)=b:=by unfold Region.wanted;rw[hg];exact hy
 cases b with
 |true=> rw[if_pos hw];exact .inl (ht rfl w tm Q next h1 h2 hn)
 |false=> rw[if_neg (by rw[hw];exact Bool.false_ne_true)];obtain⟨r,hr,hk⟩:=hf rfl;rw[Act.put_eq];exact hn _ w _ H hk h1 (h2.put o.dst (hr w) []) (Ext.refl w H)
theorem sU{r:AV}{g:Bool}(hg:g=false)(w:NW):aw w (.gd g r) undef:=.gd _ _ _ (fun h=>by rw[hg]at h;cases h) (fun _=>rfl)
theorem uE{r:AV}{v:Value}{g:Bool}(hg:g=true)(h:aw w r v):aw w (.gd g r) v:=.gd _ _ _ (fun _=>h) (fun h=>by rw[hg]at h;cases h)
theorem xm{K:List AV->Hp->Prop}:∀(l:List Oper) (F:List AV) (H:Hp),iC P ops K l F H->uD P ops K l F H
 |[],F,H,h=>EW h
 |o::rest,F,H,h=>by
  refine Fk ?_;simp only[iC]at h;split at h
  ·rename_i hg;exact(oP (K:=fun F' H'=>iC P ops K rest F' H') hg h).mono fun F' H' hk=>xm rest F' H' hk
  ·rename_i j want hg;split at h
   ·rename_i b hb;split at h
    ·refine lZ.mono (K:=fun F' H'=>iC P ops K rest F' H') ?_ fun F' H' hk=>xm rest F' H' hk
     obtain⟨dst,op,ty,pos,after,guard⟩:=o;unfold eQ at h;split at h
     ·rename_i f args argTypes heq;cases heq;obtain⟨r,hc,hk⟩:=h;refine qe hg hb (fun hbw w tm Q next h1 h2 hn=>?_) (fun hbw=>⟨_,sU hbw,hk⟩);obtain⟨ok,hcall⟩:=hc hbw;have hcg:=sN ok;have e1:mA F f=bS F f:=hcg f (by simp[Op.operands,Call.operands]);have e2:args.toList.map (mA F)=args.toList.map (bS F):=List.map_congr_left fun x hx=>hcg x (by simp[Op.operands,Call.operands]at hx ⊢;exact .inr hx)
      refine wi (ev:=mA F) e1 e2 hcall h1 (uJ h2) fun v r' w' H' hR g1 g2 g3=>?_
      obtain⟨rfl,rfl⟩:=hR;rw[Act.put_eq];exact hn _ w' _ H' hk g1 ((h2.ext g3).put dst (uE hbw g2) []) g3
     ·rename_i c x y heq;simp only at heq;subst heq;obtain⟨hs,hk⟩:=h;refine qe hg hb (fun hbw w tm Q next h1 h2 hn=>?_) (fun hbw=>⟨_,sU hbw,hk⟩);obtain⟨ok,hq⟩:=hs hbw;obtain⟨v,hrun,hv⟩:=G3 (P:=P) (ρ:=(Act.mk tm []).eval) (dst:=dst) (ty:=ty) (pos:=pos) (after:=after) (guard:=guard) (Bw h2 c ok) (h2.eval [] x) (h2.eval [] y) hq;simp only[Oper.wp,hrun,Oper.upon];rw[Act.put_eq];exact hn _ w _ H hk h1 (h2.put dst (uE hbw hv) []) (Ext.refl w H)
     ·split at h
      ·obtain⟨hs,hk⟩:=h;refine qe hg hb (fun hbw w tm Q next h1 h2 hn=>?_) (fun hbw=>⟨_,sU hbw,hk⟩);obtain⟨ok,hq⟩:=hs hbw;rw[<-tv _ (sN ok)]at hq;obtain⟨v,hrun,hv⟩:=zk (ρ:=(Act.mk tm []).eval) ⟨dst,op,ty,pos,after,guard⟩ h1 (uJ h2) hq;simp only[Oper.wp,hrun,Oper.upon];rw[Act.put_eq];rw[tv _ (sN ok)]at hv;exact hn _ w _ H hk h1 (h2.put dst (uE hbw hv) []) (Ext.refl w H)
      ·exact h.elim
    ·refine lZ.mono (K:=fun F' H'=>iC P ops K rest F' H') ?_ fun F' H' hk=>xm rest F' H' hk
     refine qe hg hb (fun hbw w tm Q next h1 h2 hn=>?_) (fun hbw=>⟨_,fun w=>.any _,h.2 hbw⟩);exact BG (h.1 hbw) h1 h2 (fun x=>h2.eval [] x) hn
   ·exact h.elim
theorem Oq{id:Nat}{l:List Oper}{Q:Exit->List AV->Hp->Prop}(h:iC P l.toArray (Q .normal) l F H):dH P (.region id l.toArray false) Q F H:=
 Dx (by simpa using xm l F H h)
-- the results of a body
def jg(P:Program)(H:Hp)(F:List AV):List ResultVar->Option (List AV)
 |[]=>some []
 |.tmp t::rest=>(jg P H F rest).map (F.getD t .any::·)
 |.cell a t::rest=>match ph H (F.getD a .any),dR P t,dc P t with
  |some (_,cs),some ag,some k=>(jg P H F rest).map (tz ag k cs::·)
  |_,_,_=>none
def j3(P:Program)(H:Hp)(F:List AV):List ResultVar->Prop
 |[]=>True
 |.tmp _::rest=>j3 P H F rest
 |.cell a t::rest=>match ph H (F.getD a .any),dc P t with
  |some (c,cs),some k=>(c/\k<=cs.length/\1<=cs.length)/\j3 P H F rest
  |_,_=>False
def jU:List AV->AV
 |[r]=>r
 |rs=>.bj rs
def vJ(tm:Array Value):ResultVar->Sem Value
 |.tmp t=>pure (tm.getD t undef)
 |.cell a t=>do loadVar t (<-asAddr (tm.getD a undef))
theorem Mz(fn:Func)(tm:Array Value):results fn tm=(do let vs <-fn.results.mapM (vJ tm);pure (if h:vs.size=1 then vs[0]else .tuple vs)):=rfl
theorem CJ{w:NW}{tm:Array Value}(hw:aO w H)(h2:bc w F tm):∀(rs:List ResultVar) (out:List AV),j3 P H F rs->jg P H F rs=some out->
  ∃vs:List Value,cf w out vs/\(rs.mapM (vJ tm)).run P w.toWorld=.ok vs w.toWorld
 |[],out,_,h=>by simp[jg]at h;subst h;exact⟨[],⟨rfl,fun i a v ha=>by simp at ha⟩,jE⟩
 |.tmp t::rest,out,hok,h=>by
  simp only[jg,Option.map_eq_some_iff]at h;obtain⟨l,hl,rfl⟩:=h;obtain⟨vs,hrel,hrun⟩:=CJ hw h2 rest l hok hl;refine⟨tm.getD t undef::vs,⟨by simp[hrel.1],fun i a v ha hv=>?_⟩,?_⟩
  ·cases i with
   |zero=> simp only[List.getElem?_cons_zero,Option.some.injEq]at ha hv;subst ha hv;exact h2.eval [] (.tmp t)
   |succ i=>exact hrel.2 i a v (by simpa using ha) (by simpa using hv)
  ·rw[List.mapM_cons];simp only[vJ,Sem.run_bind,Sem.run_pure,Result.andThen_ok];rw[hrun];rfl
 |.cell ad t::rest,out,hok,h=>by
  simp only[jg]at h;simp only[j3]at hok;split at h
  ·rename_i c cs ag k e1 e2 e3;rw[e1,e3]at hok;obtain⟨⟨hc,hk1,hk2⟩,hok⟩:=hok;simp only[Option.map_eq_some_iff]at h;obtain⟨l,hl,rfl⟩:=h;obtain⟨vs,hrel,hrun⟩:=CJ hw h2 rest l hok hl;obtain⟨addr,us,hv,hcell,hr⟩:=GH (h2.eval [] (.tmp ad)) hw e1 hc;obtain⟨v,hload,hvr⟩:=Dg (P:=P) e2 e3 hk1 hk2 hcell hr;have hv':tm.getD ad undef=.pointer (some addr):=hv;refine⟨v::vs,⟨by simp[hrel.1],fun i a u ha hu=>?_⟩,?_⟩
   ·cases i with
    |zero=> simp only[List.getElem?_cons_zero,Option.some.injEq]at ha hu;subst ha hu;exact hvr
    |succ i=>exact hrel.2 i a u (by simpa using ha) (by simpa using hu)
   ·rw[List.mapM_cons];have ha:(asAddr (tm.getD ad undef)).run P w.toWorld=.ok addr w.toWorld:=by rw[hv'];rfl
    have hf:(vJ tm (.cell ad t)).run P w.toWorld=.ok v w.toWorld:=by simp only[vJ,Sem.run_bind,ha,hload,Result.andThen_ok]
    simp only[Sem.run_bind,hf,hrun,Sem.run_pure,Result.andThen_ok]
  ·cases h
theorem IY{fn:Func}{out:List AV}(hw:aO w H)(h2:bc w F tm)(hok:j3 P H F fn.results.toList)(h:jg P H F fn.results.toList=some out):∃v,(results fn tm).run P w.toWorld=.ok v w.toWorld/\aw w (jU out) v:=by
 obtain⟨vs,hrel,hrun⟩:=CJ (P:=P) hw h2 _ out hok h;have hm:(fn.results.mapM (vJ tm)).run P w.toWorld=.ok vs.toArray w.toWorld:=by rw[Array.mapM_eq_mapM_toList];simp only[Sem.run_map,hrun,Result.andThen_ok]
 have hr:(results fn tm).run P w.toWorld=.ok (if h:vs.toArray.size=1 then vs.toArray[0]else .tuple vs.toArray) w.toWorld:=by rw[Mz];simp only[Sem.run_bind,hm,Result.andThen_ok,Sem.run_pure]
 refine⟨_,hr,?_⟩;match vs,out,hrel with
 |[],[],hrel=>exact .bj _ _ rfl fun i a v ha=>by simp at ha
 |[v],[a],hrel=>exact hrel.2 0 _ _ rfl rfl
 |v::v'::vs,a::a'::out,hrel=>exact .bj _ _ (by have:=hrel.1;simpa using this) fun i x y hx hy=>hrel.2 i x y hx (by simpa using hy)
 |[],_::_,hrel=>have:=hrel.1;simp at this
 |_::_,[],hrel=>have:=hrel.1;simp at this
 |[_],_::_::_,hrel=>have:=hrel.1;simp at this
 |_::_::_,[_],hrel=>have:=hrel.1;simp at this
def kX(P:Program)(fn:Func)(R:AV->List (Nat×Row)->Prop):Exit->List AV->Hp->Prop
 |.normal,F,H|.ret,F,H=>∃out r H',jg P H F fn.results.toList=some out/\j3 P H F fn.results.toList/\hZ (jU out) H r H'/\R r H'.l
 |_,_,_=>False
theorem ES{f:FuncId}{fn:Func}{c:Code}{args:List AV}{l:List (Nat×Row)}{R:AV->List (Nat×Row)->Prop}(hf:P.funcs[f]?=some fn)(hb:fn.body=some c)(h:dH P c (kX P fn R) (args++List.replicate (fn.ntmps-args.length) .any) (entry l)) :
  aj P f args l R:=fun w vs h1 h2=>by
 have hlen:args.length=vs.size:=h2.1;refine calls_of_wp hf hb (wp_mono (h w _ h1 ?_) ?_)
 ·refine⟨by simp[hlen],fun i a v ha hv=>?_⟩;rcases Nat.lt_or_ge i args.length with hi|hi
  ·rw[List.getElem?_append_left hi]at ha;rw[Array.getElem?_append_left jB]at hv;exact h2.2 i a v ha hv
  ·rw[List.getElem?_append_right hi]at ha;rw[List.getElem?_replicate]at ha;split at ha<;>cases ha;exact .any _
 ·rintro e a W ⟨tm,F',H',w',rfl,rfl,hq,g1,g2,g3⟩;have fin:(∃out r H'',jg P H' F' fn.results.toList=some out/\j3 P H' F' fn.results.toList/\hZ (jU out) H' r H''/\R r H''.l)->
    ∃v,(results fn tm).run P w'.toWorld=.ok v w'.toWorld/\∃v' r H'' w'',w'.toWorld=NW.toWorld w''/\Ending.returned v=.returned v'/\R r (Hp.l H'')/\aO w'' H''/\aw w'' r v'/\fB w (entry l) w'' H'':=by
   rintro⟨out,r,H'',e1,e0,e2,e3⟩;obtain⟨v,hrun,hv⟩:=IY g1 g2 e0 e1;obtain⟨w'',k0,k1,k2,k3⟩:=e2 w' v g1 hv;exact⟨v,hrun,v,r,H'',w'',k0.symm,rfl,e3,k1,k2,g3.trans k3⟩
  cases e with
  |normal=>exact⟨rfl,fin hq⟩
  |ret=>exact⟨rfl,fin hq⟩
  |exit id=>exact hq.elim
  |goto l=>exact hq.elim
  |panic ch=>exact hq.elim
  |outgrown=>exact hq.elim
end
-- encoders of Lean data
class bG{α:Type}(enc:α->List AV)(sz:outParam Nat):Prop where
 len:∀x,(enc x).length=sz
 da:∀x,da (enc x)=true
 free:∀x,aW dY (enc x)=true
def QL(q:Nat->Bool)(css:List (List AV)):Prop:=∀cs∈css,aW q cs=true
def pX(q:Nat->Bool):Row->Prop
 |.var _ cs=>aW q cs=true
 |.aL _ _ css=>QL q css
 |.mp _ vs=>aW q vs=true
theorem CO{q:Nat->Bool}:∀(a b:List AV),aW q (a++b)=(aW q a && aW q b)
 |[],b=>by simp[aW]
 |x::a,b=>by simp[aW,CO a b,Bool.and_assoc]
theorem DK{q:Nat->Bool}:∀{css:List (List AV)},QL q css->aW q css.flatten=true
 |[],_=>rfl
 |cs::css,h=>by rw[List.flatten_cons,CO,h cs jE,DK (css:=css) fun c hc=>h c (by simp[hc])];rfl
variable{q:Nat->Bool}
theorem Fu{r:Row}(h:pX q r):aW q r.cells=true:=by
 cases r with
 |var t cs=>exact h
 |aL e sz css=>exact DK h
 |mp ks vs=>exact h
theorem Iv(q:Nat->Bool):QL q []:=fun _ h=>by simp at h
theorem NV{a b:List (List AV)}(h:QL q a)(k:QL q b):QL q (a++b):=fun c hc=>(List.mem_append.1 hc).elim (h c) (k c)
variable{α:Type}{sz:Nat}
theorem lJ{enc:α->List AV}[e:bG enc sz](l:List α):QL q (l.map enc):=fun c hc=>by obtain⟨x,_,rfl⟩:=List.mem_map.1 hc;exact fh (fun _ h=>by cases h) _ (e.free x)
theorem JG(sz:Nat):lA sz []:=fun _ h=>by simp at h
theorem Hk{enc:α->List AV}[e:bG enc sz](l:List α):lA sz (l.map enc):=fun c hc=>by obtain⟨x,_,rfl⟩:=List.mem_map.1 hc;exact⟨e.len x,e.da x⟩
-- calls
def fits:List (Nat×Row)->Hp->Prop
 |[],_=>True
 |(i,r)::l,H=>H.get i=some r/\fits l H
theorem Db:∀{l:List (Nat×Row)} {H:Hp},fits l H->∀i r,av l i=some r->H.get i=some r
 |[],_,_,i,r,h=>by cases h
 |(j,s)::l,H,hf,i,r,h=>by
  simp only[av]at h;split at h
  ·rename_i e;subst e;cases h;exact hf.1
  ·exact Db hf.2 i r h
def sQ(q:Nat->Bool):List (Nat×Row)->Prop
 |[]=>True
 |(_,r)::l=>pX q r/\sQ q l
theorem GD{q:Nat->Bool}:∀{l:List (Nat×Row)},sQ q l->∀i r,av l i=some r->aW q r.cells=true
 |[],_,i,r,h=>by cases h
 |(j,s)::l,hf,i,r,h=>by
  simp only[av]at h;split at h
  ·cases h;exact Fu hf.1
  ·exact GD hf.2 i r h
def fresh(L:List Nat)(H:Hp):List (Nat×Row)->Prop
 |[]=>True
 |(i,_)::l=>(L.contains i=true\/H.get i=none)/\fresh L H l
theorem BS{L:List Nat}{H:Hp}:∀{l:List (Nat×Row)},fresh L H l->∀i r,av l i=some r->L.contains i=true\/H.get i=none
 |[],_,i,r,h=>by cases h
 |(j,s)::l,hf,i,r,h=>by
  simp only[av]at h;split at h
  ·rename_i e;subst e;exact hf.1
  ·exact BS hf.2 i r h
section
variable {P:Program}{f:FuncId}{args:List AV}{H:Hp}{l:List (Nat×Row)}{K:AV->Hp->Prop}
theorem Pz{R:AV->List (Nat×Row)->Prop}(hc:aj P f args l R)(h1:fits l H)(h2:aW (fun i=>(ids l).contains i) args=true)(h3:sQ (fun i=>(ids l).contains i) l)
  (hk:∀r l',R r l'->fresh (ids l) H l'/\(ids l').Nodup/\K r ⟨H.B,gZ H.l l'⟩):eW P f args H K:=fun _ _ hw hv=>
 zZ hc (Db h1) h2 (GD h3) (fun r l' hR=>⟨BS (hk r l' hR).1,(hk r l' hR).2⟩) hw hv
theorem xD{r0:AV}{l0:List (Nat×Row)}(hc:aj P f args l fun r l'=>r=r0/\l'=l0)(h1:fits l H)(h2:aW (fun i=>(ids l).contains i) args=true)(h3:sQ (fun i=>(ids l).contains i) l)
  (h4:fresh (ids l) H l0) (h5:(ids l0).Nodup) (hk:K r0 ⟨H.B,gZ H.l l0⟩):eW P f args H K:=
 Pz hc h1 h2 h3 fun r l' ⟨e1,e2⟩=>by rw[e1,e2];exact⟨h4,h5,hk⟩
theorem y5{r:AV}(hc:eG P f args r)(h2:aW dY args=true)(hk:K r H):eW P f args H K:=
 xD hc trivial (by simpa[ids]using h2) trivial trivial (by simp[ids]) hk
theorem o7{args:List AV}(hc:bz P f=true)(h:eW P f args H K):fI P (.raw (.func (.func f) #[] #[])) args H K:=.inl ⟨hc,by simpa using h⟩
theorem JB{cs:List AV}{args:List AV}(hc:bz P f=true)(h:eW P f (args++cs) H K):fI P (.fQ f cs) args H K:=.inl ⟨hc,by simpa using h⟩
end
-- things of which D holds are let go of, and xX be read from then on
def eu(D:Nat->Bool):List (Nat×Row)->List (Nat×Row)
 |[]=>[]
 |(j,s)::l=>bif D j then eu D l else(j,s)::eu D l
theorem Hz(D:Nat->Bool):∀(l:List (Nat×Row)) (i:Nat),av (eu D l) i=if D i=true then none else av l i
 |[],i=>by simp[eu,av]
 |(k,s)::l,i=>by
  have ih:=Hz D l i;unfold eu;cases hk:D k
  ·simp only[cond_false,av];split
   ·rename_i h;subst h;rw[hk];simp
   ·exact ih
  ·simp only[cond_true,av];rw[ih];split
   ·rfl
   ·rename_i h;rw[if_neg];rintro rfl;exact h hk
def NW.cD(w:NW)(D:Nat->Bool):NW:={ w with O:=fun b=>w.O b/\∀i m t s,D i=true->w.nm i m≠some (.at b t s),nm:=fun j n=>if D j=true then none else w.nm j n }
def fF(D:Nat->Bool):Nat->Bool:=fun i=>!(D i)
def gJ(D:Nat->Bool):List (Nat×Row)->Prop
 |[]=>True
 |(j,r)::l=>(D j=true\/pX (fF D) r)/\gJ D l
theorem Hd{D:Nat->Bool}:∀{l:List (Nat×Row)},gJ D l->∀{i:Nat} {r:Row},av l i=some r->D i=false->aW (fF D) r.cells=true
 |[],_,i,r,h,_=>by cases h
 |(j,s)::l,hf,i,r,h,hd=>by
  simp only[av]at h;split at h
  ·rename_i e;subst e;cases h;rcases hf.1 with h|h
   ·rw[hd]at h;cases h
   ·exact Fu h
  ·exact Hd hf.2 h hd
theorem rO(w:NW)(D:Nat->Bool):Keep (fF D) w (w.cD D):=⟨Nat.le_refl _,fun b _ h=>⟨rfl,fun h'=>h h'.1⟩,fun j n z hq h=>by show(if D j=true then none else w.nm j n)=_;rw[if_neg (by unfold fF at hq;intro e;rw[e]at hq;cases hq)];exact h⟩
variable{D:Nat->Bool}
theorem Ek{w:NW}(r:aO w H)(hB:H.B.all (fF D)=true)(hl:gJ D H.l):aO (w.cD D) ⟨H.B,eu D H.l⟩/\fB w H (w.cD D) ⟨H.B,eu D H.l⟩:=by
 have nmE:∀j n,(w.cD D).nm j n=if D j=true then none else w.nm j n:=fun _ _=>rfl
 have gE:∀j,(Hp.mk H.B (eu D H.l)).get j=if D j=true then none else H.get j:=fun j=>Hz D H.l j
 refine⟨{ rows:=fun j s hj=>?_,dO:=fun j n z hz=>?_,inj:=fun j n j' n' b t s t' s' h1 h2=>?_,own:=fun j n b t s h=>?_,fin:=fun b hb=>r.fin b hb.1,cn:=r.cn.aY (rO w D) },{ rO w D with names:=fun j n z hq h=>?_,os:=rfl,tape:=rfl,output:=rfl,rest:=fun b hb hO hno=>⟨rfl,⟨hO,fun i m t s _=>hno _ _ _ _⟩,fun j n t s h=>?_⟩,base:=rfl }⟩
 ·rw[gE]at hj;split at hj
  ·cases hj
  ·rename_i e;obtain⟨h1,z,h2,h3⟩:=r.rows j s hj;refine⟨h1,z,by rw[nmE,if_neg e];exact h2,?_⟩;cases z with
   |nil=>exact h3
   |«at» b t st=> obtain⟨g1,cur,g2,g3,g5⟩:=h3;exact⟨g1,cur,g2,g3,fun k a v ha hv=>(g5 k a v ha hv).aY (rO w D) (mz (Hd hl hj (by simpa using e)) ha)⟩
 ·rw[nmE]at hz;split at hz
  ·cases hz
  ·rename_i e;obtain⟨r',h1,h2⟩:=r.dO j n z hz;exact⟨r',by rw[gE,if_neg e];exact h1,h2⟩
 ·rw[nmE]at h1 h2;split at h1
  ·cases h1
  ·split at h2
   ·cases h2
   ·exact r.inj _ _ _ _ _ _ _ _ _ h1 h2
 ·rw[nmE]at h;split at h
  ·cases h
  ·rename_i e;exact⟨r.own _ _ _ _ _ h,fun i m t' s' hd h'=>e (by rw[r.inj _ _ _ _ _ _ _ _ _ h h'];exact hd)⟩
 ·have hq:H.B.contains j=true:=hq;have:=List.all_eq_true.1 hB j (List.contains_iff_mem.1 hq);rw[nmE,if_neg (by intro e;unfold fF at this;rw[e]at this;cases this)];exact h
 ·rw[nmE]at h;split at h
  ·cases h
  ·exact hno _ _ _ _ h
inductive dv(D:Nat->Bool)(H:Hp):AV->AV->Prop
 |same (a:AV) (h:a.all (fF D)=true):dv D H a a
 |drop (a:AV):dv D H a .any
 |nil (sz:Nat) (d:List AV):dv D H (.raw (.slice none 0 0)) (.sl false sz [] d)
 |lit (x:Bool) (sz:Nat) (css:List (List AV)) (d d':List AV):dv D H (.sl x sz css d) (.sl false sz css d')
 |agg (cs ds:List AV) (hl:cs.length=ds.length) (h:∀(i:Nat) c d,cs[i]?=some c->ds[i]?=some d->dv D H c d):dv D H (.agg cs) (.agg ds)
 |bj (cs ds:List AV) (hl:cs.length=ds.length) (h:∀(i:Nat) c d,cs[i]?=some c->ds[i]?=some d->dv D H c d):dv D H (.bj cs) (.bj ds)
 |Ce (dd:List AV) (i sz m n:Nat) (e:TypeId) (css:List (List AV)) (dss:List (List AV)) (hD:D i=true) (hi:H.get i=some (.aL e sz css)) (hm:m=css.length) (hn:n<=m) (hd:dss.length=n) (hds:∀ds∈dss,ds.length=sz) (hno:QL dY dss)
   (h:∀k (j:Nat) c d,k<n->(css.getD k [])[j]?=some c->(dss.getD k [])[j]?=some d->dv D H c d):dv D H (.rs i m sz n) (.sl false sz dss dd)
 |pt (i k j:Nat) (t:TypeId) (cs ds:List AV) (hD:D i=true) (hi:H.get i=some (.var t cs)) (hl:(cs.drop j).length=ds.length) (hno:aW dY ds=true) (h:∀(q:Nat) c d,(cs.drop j)[q]?=some c->ds[q]?=some d->dv D H c d):dv D H (.pt i 0 k j) (.ip ds)
theorem dv.sound{w:NW}(hw:aO w H){a a':AV}(h:dv D H a a'):∀{v:Value},aw w a v->aw (w.cD D) a' v:=by
 induction h with
 |same a h=>intro v hv;exact hv.aY (rO w D) h
 |drop a=>intro v hv;exact .any v
 |nil sz d=>intro v hv;have:=dm hv;subst this;exact .gm _ _ _ _ (fun e=>by cases e)
 |lit x sz css d d'=>
  intro v hv;have hv':=hv.aY (rO w D) (by simp only[AV.all]);cases hv' with
  |gm _ _ A c _=>exact .gm _ _ _ _ (fun e=>by cases e)
  |sl _ _ _ a c vs hn hc hx hsz hb hH hcell hr=>exact .sl _ _ _ a c vs hn hc (fun e=>by cases e) hsz hb hH hcell hr
 |agg cs ds hl _ ih=>
  intro v hv;cases hv with
  |agg _ vs hl' hr=>
   refine .agg ds vs jB fun i d v hd hv=>?_
   have hi:i<cs.length:=by rw[hl];exact(List.getElem?_eq_some_iff.1 hd).1
   have hc:cs[i]?=some cs[i]:=List.getElem?_eq_getElem hi;exact ih i _ d hc hd (hr i _ v hc hv)
 |bj cs ds hl _ ih=>
  intro v hv;cases hv with
  |bj _ vs hl' hr=>
   refine .bj ds vs jB fun i d v hd hv=>?_
   have hi:i<cs.length:=by rw[hl];exact(List.getElem?_eq_some_iff.1 hd).1
   have hc:cs[i]?=some cs[i]:=List.getElem?_eq_getElem hi;exact ih i _ d hc hd (hr i _ v hc hv)
 |Ce dd i sz m n e css dss hD hi hm hn hd hds hno _ ih=>
  intro v hv;subst hm;cases hv with
  |iO _ _ _ A hnm=> have:dss=[]:=List.length_eq_zero_iff.1 jB;rw[this];exact .gm _ _ _ _ (fun h=>by cases h)
  |rs _ _ _ _ b t c hnm hc hle hs0=>
   by_cases h0:n=0
   ·have:dss=[]:=List.length_eq_zero_iff.1 jB;rw[this,h0];exact .gm _ _ _ _ (fun h=>by cases h)
   ·have hsz0:0<sz:=hs0;have:=aw.sl (w:=w.cD D) (d:=dd) false sz dss ⟨b,0,none⟩ c (fun k=>(w.cell? ⟨b,k,none⟩).getD undef) jB jB (fun h=>by cases h) hds (hw.lt hnm) (fun h=>h.2 i _ t sz hD hnm) (fun k j hk hj=>by
     obtain⟨_,_,_,v,h1,h2⟩:=sY hw hi hnm (k:=k) (j:=j) jB hj;show w.cell? _=_;rw[lM,Nat.zero_add,h1];rfl) (fun k j u hk hu=>by
     have hj:j<sz:=by have:=(List.getElem?_eq_some_iff.1 hu).1;rwa [vf hds hk]at this
     obtain⟨_,hall,_,v,h1,h2⟩:=sY hw hi hnm (k:=k) (j:=j) jB hj;have hlc:=vf hall (show k<css.length from jB);have hc:(css.getD k [])[j]?=some ((css.getD k [])[j]' jB):=List.getElem?_eq_getElem jB;rw[h1];have hmem:dss.getD k []∈dss:=by
      have:dss.getD k []=dss[k]:=by simp[hk]
      rw[this];exact List.getElem_mem _
     exact(ih k j _ u jB hc hu (h2 _ hc)).kS (mz (hno _ hmem) hu))
    rw[hd]at this;exact this
 |pt i k j t cs ds hD hi hl hno _ ih=>
  intro v hv;cases hv with
  |pt _ _ _ _ b t' s hnm=>
   obtain⟨hok,z,hz,hrow⟩:=hw.rows i _ hi;have:z=.at b t' s:=by have hz:w.nm i 0=some z:=hz;rw[hnm]at hz;cases hz;rfl
   subst this;obtain⟨rfl,cur,hh,⟨hs,hle⟩,hr⟩:=hrow;have hs0:(Row.var t cs).bA=0:=rfl;have hle:cs.length<=t':=hle;have e0:k*(Row.var t cs).bA+j=j:=by rw[hs0];omega
   rw[e0];refine .ip ds ⟨b,j,none⟩ (fun q=>cur.getD (j+q) undef) (hw.lt hnm) (fun h=>h.2 i 0 _ _ hD hnm) (fun q hq=>?_) (fun q u hu=>?_)
   ·show w.cell? _=_;simp only[List.length_drop]at hl;have:j+q<cur.size:=jB;rw[lM,tL b _ cur _ (0,0) hh];simp[this]
   ·have hql:q<(cs.drop j).length:=by rw[hl];exact(List.getElem?_eq_some_iff.1 hu).1
    have hc:(cs.drop j)[q]?=some (cs.drop j)[q]:=List.getElem?_eq_getElem hql;simp only[List.length_drop]at hql;have:j+q<cur.size:=jB;refine(ih q _ u hc hu (hr (j+q) _ _ (by rw[<-List.getElem?_drop];exact hc) ?_)).kS (mz hno hu);simp[this]
theorem dv.rs{D:Nat->Bool}{H:Hp}(dd:List AV)(i sz n:Nat)(e:TypeId)(css:List (List AV))(dss:List (List AV))(hD:D i=true)(hi:H.get i=some (.aL e sz css))(hn:n=css.length)(hd:dss.length=css.length)(hds:∀ds∈dss,ds.length=sz)(hno:QL dY dss)
  (h:∀k (j:Nat) c d,k<css.length->(css.getD k [])[j]?=some c->(dss.getD k [])[j]?=some d->dv D H c d):dv D H (.rs i n sz n) (.sl false sz dss dd):=
 .Ce dd i sz n n e css dss hD hi hn jl jB hds hno fun k j c d hk=>h k j c d jB
theorem dv.row{dd:List AV}{i n:Nat}{e:TypeId}{enc:α->List AV}[he:bG enc sz](l:List α)(hD:D i=true)(hi:H.get i=some (.aL e sz (l.map enc)))(hn:n=l.length):dv D H (.rs i n sz n) (.sl false sz (l.map enc) dd):=
 .rs dd i sz n e _ _ hD hi (by simpa using hn) rfl (fun ds hds=>by obtain⟨x,_,rfl⟩:=List.mem_map.1 hds;exact he.len x) (lJ l) fun k j c d hk h1 h2=>by
  rw[h1]at h2;cases h2;have hk':k<l.length:=by simpa using hk
  have e1:(l.map enc).getD k []=enc l[k]:=by simp[hk']
  rw[e1]at h1;exact .same c (rZ (fun _ h=>by cases h) _ (mz (he.free _) h1))
theorem hZ.free{r r':AV}(D:Nat->Bool)(hB:H.B.all (fF D)=true)(hl:gJ D H.l)(hv:dv D H r r'):hZ r H r' ⟨H.B,eu D H.l⟩:=fun w v h1 h2=>by obtain⟨a,b⟩:=Ek h1 hB hl;exact⟨w.cD D,rfl,a,hv.sound h1 h2,b⟩
def bX(D:Nat->Bool)(H:Hp):List AV->List AV->Prop
 |[],[]=>True
 |a::l,b::m=>dv D H a b/\bX D H l m
 |_,_=>False
theorem bX.get{D:Nat->Bool}{H:Hp}:∀{l m:List AV},bX D H l m->l.length=m.length/\∀(i:Nat) a b,l[i]?=some a->m[i]?=some b->dv D H a b
 |[],[],_=>⟨rfl,fun i a b h=>by simp at h⟩
 |x::l,y::m,h=>by
  have ih:=bX.get h.2;refine⟨by simp[ih.1],fun i a b ha hb=>?_⟩;cases i with
  |zero=>simp at ha hb;subst ha hb;exact h.1
  |succ i=>exact ih.2 i a b (by simpa using ha) (by simpa using hb)
theorem bX.agg{D:Nat->Bool}{H:Hp}{cs ds:List AV}(h:bX D H cs ds):dv D H (.agg cs) (.agg ds):=.agg cs ds h.get.1 h.get.2
theorem bX.bj{D:Nat->Bool}{H:Hp}{cs ds:List AV}(h:bX D H cs ds):dv D H (.bj cs) (.bj ds):=.bj cs ds h.get.1 h.get.2
theorem bX.pt{D:Nat->Bool}{H:Hp}{i k j:Nat}{t:TypeId}{cs ds:List AV}(hD:D i=true)(hi:H.get i=some (.var t cs))(hno:aW dY ds=true)(h:bX D H (cs.drop j) ds):dv D H (.pt i 0 k j) (.ip ds):=.pt i k j t cs ds hD hi h.get.1 hno h.get.2
theorem dq.free{F F':List AV}(D:Nat->Bool)(hB:H.B.all (fF D)=true)(hl:gJ D H.l)(hv:bX D H F F'):dq F H F' ⟨H.B,eu D H.l⟩:=fun w tm h1 h2=>by
 obtain⟨a,b⟩:=Ek h1 hB hl;obtain⟨hl',hg⟩:=hv.get;refine⟨w.cD D,rfl,a,⟨by rw[<-hl'];exact h2.1,fun i c v hc hv=>?_⟩,b⟩;have hi:i<F.length:=by rw[hl'];exact(List.getElem?_eq_some_iff.1 hc).1
 exact(hg i F[i] c (List.getElem?_eq_getElem hi) hc).sound h1 (h2.2 i _ v (List.getElem?_eq_getElem hi) hv)
-- what is lent: a function that is handed nothing of one's own but to read
mutual
def AV.flat:AV->Bool
 |.raw _=>true
 |.any=>true
 |.agg cs=>uW cs
 |.bj cs=>uW cs
 |.gd _ v=>v.flat
 |_=>false
def uW:List AV->Bool
 |[]=>true
 |a::l=>a.flat && uW l
end
theorem zQ:∀{l:List AV},uW l=true->∀{i:Nat} {a:AV},l[i]?=some a->a.flat=true
 |[],_,i,a,h=>by simp at h
 |x::l,hl,i,a,h=>by
  simp only[uW,Bool.and_eq_true]at hl;cases i with
  |zero=>simp at h;subst h;exact hl.1
  |succ i=>exact zQ hl.2 (by simpa using h)
theorem aw.flat{w:NW}{a:AV}{v:Value}(h:aw w a v):∀{w':NW},a.flat=true->aw w' a v:=by
 induction h with
 |raw v=>intro w' _;exact .raw v
 |any v=>intro w' _;exact .any v
 |agg cs vs hl _ ih=>intro w' ha;simp only[AV.flat]at ha;exact .agg cs vs hl fun i a v h1 h2=>ih i a v h1 h2 (zQ ha h1)
 |bj cs vs hl _ ih=>intro w' ha;simp only[AV.flat]at ha;exact .bj cs vs hl fun i a v h1 h2=>ih i a v h1 h2 (zQ ha h1)
 |gd p a v _ hu ih=>intro w' ha;exact .gd p a v (fun hp=>ih hp (by simpa only[AV.flat]using ha)) hu
 |gm=>intro w' ha;simp only[AV.flat]at ha;cases ha
 |sl=>intro w' ha;simp only[AV.flat]at ha;cases ha
 |ip=>intro w' ha;simp only[AV.flat]at ha;cases ha
 |fQ=>intro w' ha;simp only[AV.flat]at ha;cases ha
 |pt=>intro w' ha;simp only[AV.flat]at ha;cases ha
 |iO=>intro w' ha;simp only[AV.flat]at ha;cases ha
 |rs=>intro w' ha;simp only[AV.flat]at ha;cases ha
 |lu=>intro w' ha;simp only[AV.flat]at ha;cases ha
 |rv=>intro w' ha;simp only[AV.flat]at ha;cases ha
 |mr=>intro w' ha;simp only[AV.flat]at ha;cases ha
 |bd=>intro w' ha;simp only[AV.flat]at ha;cases ha
 |kH=>intro w' ha;simp only[AV.flat]at ha;cases ha
-- a slot that holds nothing yet, as a row of one's own without elements
theorem dq.nil{F:List AV}{H:Hp}(i slot:Nat)(e:TypeId){sz:Nat}(hi:H.get i=none)(h0:0<sz)(hs:F[slot]?=some (.raw (.slice none 0 0))\/∃x s d,F[slot]?=some (.sl true s x d)/\x=[]):dq F H (F.set slot (.rs i 0 sz 0)) (H.put i (.aL e sz [])):=fun w tm h1 h2=>by
 obtain⟨a,b⟩:=xB h1 hi e h0;refine⟨w.name i 0 .nil,rfl,a,⟨by rw[List.length_set];exact h2.1,fun k c v hc hv=>?_⟩,b.pB⟩;rw[List.getElem?_set]at hc;by_cases hk:slot=k
 ·subst hk;rw[if_pos rfl]at hc;split at hc
  ·cases hc;have hv':∃A,v=.slice A 0 0:=by
    rcases hs with hs|⟨x,s,d,hs,rfl⟩
    ·exact⟨none,by have:=h2.2 slot _ v hs hv;cases this;rfl⟩
    ·have:=h2.2 slot _ v hs hv;cases this with
     |gm _ _ A c hx=>have:=hx rfl;subst this;exact⟨A,rfl⟩
     |sl _ _ _ _ _ _ hn=>simp at hn
   obtain⟨A,rfl⟩:=hv';exact .iO _ _ _ _ (NW.ca _ _ _ _)
  ·cases hc
 ·rw[if_neg hk]at hc;exact(h2.2 k c v hc hv).ext b
end Go.Gd

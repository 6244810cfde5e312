/- Lemmas. No conditions. -/
import Derived.Test.YtfkgcobaheegbaaGreatDoorGdH
set_option linter.all false
namespace Go.Gd
open Go
section
variable {P:Program}{H:Hp}
theorem Dk{w:NW}(l:List Value):cc w (l.map .raw) l:=⟨jE,fun i a v ha hv=>by
 simp only[List.getElem?_map,Option.map_eq_some_iff]at ha;obtain⟨x,hx,rfl⟩:=ha;rw[hx]at hv;cases hv;exact .raw _⟩
theorem Jp{a:AV}{v:Value}{w:NW}{f:FuncId}{first captured:List AV}(h:av w a v)(hf:BL a=some (f,first,captured)):∃x y:Array Value,v=.func (.func f) x y/\cc w first x.toList/\cc w captured y.toList:=by
 unfold BL at hf;split at hf
 ·rename_i f x y
  simp only[Option.some.injEq,Prod.mk.injEq]at hf;obtain⟨rfl,rfl,rfl⟩:=hf;exact⟨x,y,de h,Dk _,Dk _⟩
 ·simp only[Option.some.injEq,Prod.mk.injEq]at hf
  obtain⟨rfl,rfl,rfl⟩:=hf;cases h with
  |fK _ _ vs hl hr=>exact⟨#[],vs,rfl,⟨rfl,fun i a v h=>by simp at h⟩,⟨by simpa using hl,fun i a v h1 h2=>hr i a v h1 (by simpa using h2)⟩⟩
 ·simp only[Option.some.injEq,Prod.mk.injEq]at hf
  obtain⟨rfl,rfl,rfl⟩:=hf;cases h with
  |bd _ _ vs hl hr=>exact⟨vs,#[],rfl,⟨by simpa using hl,fun i a v h1 h2=>hr i a v h1 (by simpa using h2)⟩,⟨rfl,fun i a v h=>by simp at h⟩⟩
 ·cases hf
theorem NR{w:NW}{l:List AV}{vs:List Value}(h:cc w l vs):bp w l vs.toArray:=⟨by simpa using h.1,fun i a v ha hv=>h.2 i a v ha (by simpa using hv)⟩
theorem PM {f : FuncId} (h : bz P f = true) : ∃ fn, P.funcs[f]? = some fn ∧ fn.body.isSome = true ∧ (fn.name == "runtime.NumGoroutine") = false := by
 unfold bz at h;split at h
 ·rename_i fn hf
  simp only[Bool.and_eq_true,Bool.not_eq_true']at h;exact⟨fn,hf,h.1,h.2⟩
 ·cases h
theorem wc{f:AV}{args:List AV}{R:AV->Hp->Prop}{fo:Operand}{as:Array Operand}{ts:Array TypeId}{dst:Option Tmp}{ty:TypeId}{pos:String}{after:Array Edge}{guard:Option (Nat×Bool)}{ev:Operand->AV}(he1:ev fo=f)(he2:as.toList.map ev=args)
  (h:fF P f args H R) {w:NW} {a:Act} {next:Act->World->Prop} {Q:Exit->Act->World->Prop} (hw:aP w H) (hr:∀x,av w (ev x) (a.eval x))
  (hn:∀(v:Value) (r:AV) (w':NW) (H':Hp),R r H'->aP w' H'->av w' r v->Ext w H w' H'->next (a.put dst v) w'.toWorld):Oper.wp P ⟨dst,.call ⟨.value fo,as,ts⟩,ty,pos,after,guard⟩ a w.toWorld next Q:=by
 unfold fF at h;split at h
 ·rename_i f first captured hf
  obtain⟨x,y,hv,hx,hy⟩:=Jp (he1 ▸ hr fo) hf;have hrel:bp w (first++args++captured) (x.toList++as.toList.map a.eval++y.toList).toArray:=
   NR ((hx.append (he2 ▸ vK hr as.toList)).append hy)
  have hargs:as.map a.eval=(as.toList.map a.eval).toArray:=by rw[<-Array.toList_map,Array.toArray_toList]
  have hcf:(execOp a.eval ⟨dst,.call ⟨.value fo,as,ts⟩,ty,pos,after,guard⟩).run P w.toWorld=(callFunc f (x.toList++as.toList.map a.eval++y.toList).toArray).run P w.toWorld:=by
   have e:x++(as.toList.map a.eval).toArray++y=(x.toList++as.toList.map a.eval++y.toList).toArray:=by
    apply Array.ext';simp
   simp only[execOp,resolve,hv,Deferred.ofValue,pure_bind,invoke,hargs,e]
  rcases h with⟨hcall,hc⟩|hx'
  ·obtain⟨fn,hfn,hb,hname⟩:=PM hcall
   have hrun:(execOp a.eval ⟨dst,.call ⟨.value fo,as,ts⟩,ty,pos,after,guard⟩).run P w.toWorld=.ok (.enter f (x.toList++as.toList.map a.eval++y.toList).toArray) w.toWorld:=by
    have hb':fn.body.isNone=false:=by cases hbb:fn.body<;>simp_all
    rw[hcf];simp only[callFunc,Sem.run_bind,run_program,Result.andThen_ok,hfn,hname,hb',Bool.false_eq_true,if_false,Sem.run_pure]
   simp only[Oper.wp,hrun,Oper.upon_enter];refine(hc w _ hw hrel).mono ?_;rintro e W ⟨v,r,H',w',rfl,rfl,hR,g1,g2,g3⟩;exact hn v r w' H' hR g1 g2 g3
  ·obtain⟨v,w',r,H',hrun,hR,g1,g2,g3⟩:=hx' w _ hw hrel
   rw[<-hcf]at hrun;simp only[Oper.wp,hrun,Oper.upon];exact hn v r w' H' hR g1 g2 g3
 ·exact h.elim
end
variable{P:Program}{H:Hp}{K:AV->Hp->Prop}
@[congr] theorem jyB{f f':AV}{args args':List AV}(h1:f=f')(h2:args=args'):fF P f args H K=fF P f' args' H K:=by rw[h1,h2]
variable{t:TypeId}
@[congr] theorem jwe:nz P H t K=nz P H t K:=rfl
@[congr] theorem jzI{x x':AV}(h:x=x'):qA H t x K=qA H t x' K:=by rw[h]
@[congr] theorem jtc{t':TypeId}{a a' x x':AV}(h1:a=a')(h2:x=x'):o8 P t t' a x H K=o8 P t t' a' x' H K:=by rw[h1,h2]
@[congr] theorem jqF{b:Builtin}{ts ts':List TypeId}{as as':List AV}(h1:ts=ts')(h2:as=as'):sa P b ts as H K=sa P b ts' as' H K:=by rw[h1,h2]
def mw(ops:Array Oper)(F:List AV)(j:Nat)(want:Bool):Option Bool:=match (ops[j]?).bind (·.dst)with
 |some d=>match F[d]? with
  |some (.raw (.bool b))=>some (b == want)
  |some (.gd g (.raw (.bool b)))=>some (g && (b == want))
  |_=>none
 |none=>none
def bQ(F:List AV)(x:Operand):AV:=(lr (cf F x)).2
def gi(F:List AV)(o:Op):Bool:=o.operands.toList.all fun x=>(lr (cf F x)).1
def iy:Op->Bool
 |.binOp .eql ..=>true
 |.binOp .neq ..=>true
 |o=>db o
def eu(P:Program)(F:List AV)(H:Hp)(g:Bool)(K:AV->Prop):Op->Prop
 |.call { callee:=.value f,args,argTypes }=>∃r,(g=true->gi F (.call ⟨.value f,args,argTypes⟩)=true/\fF P (bQ F f) (args.toList.map (bQ F)) H fun r' H'=>r'=r/\H'=H)/\K (.gd g r)
 |.pick c a b=>(g=true->(lr (cf F c)).1=true/\(nq (bQ F c) (cf F a) (cf F b)).1)/\K (.gd g (nq (bQ F c) (cf F a) (cf F b)).2)
 |o=>if iy o then(g=true->gi F o=true/\(vq P (bQ F) H o).1)/\K (.gd g (vq P (bQ F) H o).2)else False
def kV:Op->Bool
 |.call { callee:=.value _,.. }=>true
 |_=>false
def kD(P:Program)(ops:Array Oper)(K:List AV->Hp->Prop):List Oper->List AV->Hp->Prop
 |[],F,H=>K F H
 |o::rest,F,H=>match o.guard with
  |none=>vc P (cf F) H o.type (fun r H'=>kD P ops K rest (cM F o.dst r) H') o.op
  |some (j,want)=>match mw ops F j want with
   |some b=>if kV o.op || iy o.op then eu P F H b (fun r=>kD P ops K rest (cM F o.dst r) H) o.op
    else(b=true->vc P (cf F) H o.type (fun r H'=>kD P ops K rest (cM F o.dst r) H') o.op)/\(b=false->kD P ops K rest (cM F o.dst .any) H)
   |none=>False
section
variable {P:Program}{ops:Array Oper}{F:List AV}{H:Hp}
variable{o:Oper}{K:List AV->Hp->Prop}{w:NW}{tm:Array Value}
theorem B7{ev:Operand->AV}(h:vc P ev H o.type (fun r H'=>K (cM F o.dst r) H') o.op){Q:Exit->Act->World->Prop}{next:Act->World->Prop}
  (h1:aP w H) (h2:bp w F tm) (hr:∀x,av w (ev x) ((Act.mk tm []).eval x))
  (hn:∀tm' (w':NW) F' H',K F' H'->aP w' H'->bp w' F' tm'->Ext w H w' H'->next ⟨tm',[]⟩ w'.toWorld):o.wp P ⟨tm,[]⟩ w.toWorld next Q:=by
 have quiet:((vq P ev H o.op).1/\K (cM F o.dst (vq P ev H o.op).2) H)->o.wp P ⟨tm,[]⟩ w.toWorld next Q:=fun hq=>by
  obtain⟨v,hrun,hv⟩:=xp o h1 hr hq.1;simp only[Oper.wp,hrun,Oper.upon];rw[Act.put_eq];exact hn _ w _ H hq.2 h1 (h2.put o.dst hv []) (Ext.refl w H)
 have val:∀{w':NW} {H':Hp} {r:AV} {v:Value},(execOp (Act.mk tm []).eval o).run P w.toWorld=.ok (.value v) w'.toWorld->K (cM F o.dst r) H'->aP w' H'->av w' r v->Ext w H w' H'->o.wp P ⟨tm,[]⟩ w.toWorld next Q:=fun{w' H' r v} hrun hk g1 g2 g3=>by
  simp only[Oper.wp,hrun,Oper.upon];rw[Act.put_eq];exact hn _ w' _ H' hk g1 ((h2.ext g3).put o.dst g2 []) g3
 have skip:∀{w':NW} {H':Hp},(execOp (Act.mk tm []).eval o).run P w.toWorld=.ok .skip w'.toWorld->K (cM F o.dst .any) H'->aP w' H'->Ext w H w' H'->o.wp P ⟨tm,[]⟩ w.toWorld next Q:=fun{w' H'} hrun hk g1 g3=>by
  simp only[Oper.wp,hrun,Oper.upon];rw[Act.put_eq];exact hn _ w' _ H' hk g1 ((h2.ext g3).put o.dst (.any _) []) g3
 have other:iZ P o.op o.type ev H (fun r H'=>K (cM F o.dst r) H')->o.wp P ⟨tm,[]⟩ w.toWorld next Q:=fun ho=>by
  obtain⟨w',H',r,hk,g1,g2,g3⟩:=ho w (Act.mk tm []).eval o.dst o.pos o.after o.guard h1 (fun x _=>hr x);rcases g3 with⟨v,hrun,hv⟩|⟨hrun,rfl⟩
  ·exact val hrun hk g1 hv g2
  ·exact skip hrun hk g1 g2
 obtain⟨dst,op,ty,pos,after,guard⟩:=o;have vrun:∀{s:Sem Value} {v:Value} {W:World},s.run P w.toWorld=.ok v W->(do pure (Next.value (<-s)):Sem Next).run P w.toWorld=.ok (.value v) W:=fun hs=>by simp[hs]
 cases op
 case box t x=>
  obtain⟨ho,i,hi,hk⟩:=h;obtain⟨u,w',hrun,g0,g1,g2⟩:=M4 (P:=P) (t:=t) h1 hi (hr x) ho;exact val (vrun hrun) hk g1 g0 g2
 case alloc t=>
  simp only[vc,nz]at h;split at h
  ·rename_i zs hz
   obtain⟨i,hi,hk⟩:=h;obtain⟨u,w',hrun,g0,g1,g2⟩:=NZ (P:=P) (t:=t) h1 hi hz;exact val (vrun hrun) hk g1 g0 g2
  ·exact h.elim
 case store t a x=>
  simp only[vc,tX]at h;split at h
  ·rename_i i m k j n ha hk
   split at h
   ·rename_i r hb
    obtain⟨⟨s1,s2,s3⟩,hk'⟩:=h;have hva:=hr a;rw[ha]at hva;obtain⟨w',hrun,g1,g2⟩:=M9 (P:=P) h1 hva hb (hr x) s1 hk s2 s3;refine skip ?_ hk' g1 g2;simp only[execOp,Sem.run_bind,hrun,Result.andThen_ok,Sem.run_pure]
   ·exact h.elim
  ·exact h.elim
 case buildSlice t n parts=>
  have h':nj P H t n (parts.toList.map fun p=>(p.1,ev p.2)) (fun r H'=>K (cM F dst r) H'):=h;obtain⟨w',H',r,v,hrun,hk,g1,g2,g3⟩:=LZ (P:=P) (parts:=parts.toList.map fun p=>(p.1,ev p.2)) (vparts:=parts.map fun p=>(p.1,(Act.mk tm []).eval p.2)) h1 jE (fun i a v ha hv=>by
   simp only[List.getElem?_map,Option.map_eq_some_iff,Array.toList_map,Array.getElem?_toList]at ha hv;obtain⟨x,hx,rfl⟩:=ha;obtain⟨y,hy,rfl⟩:=hv;rw[hx]at hy;cases hy;exact hr x.2) h'
  exact val (vrun hrun) hk g1 g2 g3
 case binOp op t x y t'=>
  cases op
  case eql=>
   obtain⟨r,v,hrun,hk,hv⟩:=Cs (P:=P) (K:=fun r H'=>K (cM F dst r) H') false t x y (hr x) (hr y) h;exact val (vrun hrun) hk h1 hv (Ext.refl w H)
  case neq=>
   obtain⟨r,v,hrun,hk,hv⟩:=Cs (P:=P) (K:=fun r H'=>K (cM F dst r) H') true t x y (hr x) (hr y) h;exact val (vrun hrun) hk h1 hv (Ext.refl w H)
  all_goals exact quiet h
 case call c=>
  obtain⟨callee,args,argTypes⟩:=c;cases callee
  case value f=>
   refine wc rfl rfl h h1 hr fun v r w' H' hk g1 g2 g3=>?_
   rw[Act.put_eq];exact hn _ w' _ H' hk g1 ((h2.ext g3).put dst g2 []) g3
  case invoke r m=>exact other h
  case builtin b=>
   have hargs:args.map (Act.mk tm []).eval=(args.toList.map (Act.mk tm []).eval).toArray:=by rw[<-Array.toList_map,Array.toArray_toList]
   have bvc:sa P b argTypes.toList (args.toList.map ev) H (fun r H'=>K (cM F dst r) H')->Oper.wp P ⟨dst,.call ⟨.builtin b,args,argTypes⟩,ty,pos,after,guard⟩ ⟨tm,[]⟩ w next Q:=fun hb=>by
    obtain⟨w',H',r,v,hrun,hk,g1,g2,g3⟩:=hb w _ ty (args.map fun|.const _=>true|_=>false) h1 (vK hr args.toList);refine val (w':=w') (v:=v) ?_ hk g1 g2 g3;simp only[execOp,resolve,pure_bind,invoke,hargs];exact hrun
   cases b
   case append=>
    simp only[vc]at h;split at h
    ·rename_i t t' a x ht ha
     obtain⟨w',H',r,v,hrun,hk,g1,g2,g3⟩:=h w _ _ ty h1 (hr a) (hr x);refine val (w':=w') (v:=v) ?_ hk g1 g2 g3;have e1:argTypes=#[t,t']:=by rw[<-Array.toArray_toList (xs:=argTypes),ht]
     have e2:args=#[a,x]:=by rw[<-Array.toArray_toList (xs:=args),ha]
     subst e1 e2;simp only[execOp,resolve,pure_bind,invoke,builtin,Sem.run_bind];have:(#[a,x].map (Act.mk tm []).eval)=#[(Act.mk tm []).eval a,(Act.mk tm []).eval x]:=jE
     rw[this,hrun];rfl
    ·exact h.elim
   case len=>exact quiet h
   case cap=>exact quiet h
   case max=>exact quiet h
   case min=>exact quiet h
   all_goals exact bvc h
 case move=>exact quiet h
 case assign=>exact quiet h
 case pick=>exact quiet h
 case nilCheck=>exact quiet h
 case unOp=>exact quiet h
 case load=>exact quiet h
 case fieldAddr=>exact quiet h
 case field=>exact quiet h
 case indexAddr=>exact quiet h
 case index=>exact quiet h
 case extract=>exact quiet h
 case slice=>exact quiet h
 case makeFunc=>exact quiet h
 case makeInterface=>exact quiet h
 case convert=>exact quiet h
 case build=>exact quiet h
 all_goals first|exact other h|exact(quiet h)
theorem pM(hg:o.guard=none)(h:vc P (cf F) H o.type (fun r H'=>K (cM F o.dst r) H') o.op):me P ops o F H K:=fun w tm Q next h1 h2 hn=>by
 unfold se;rw[if_pos (by simp[Region.wanted,hg])];exact .inl (B7 h h1 h2 (fun x=>h2.eval [] x) hn)
theorem H5{j:Nat}{want b:Bool}(h:mw ops F j want=some b)(h2:bp w F tm):(yielded ops tm j == some want)=b:=by
 unfold mw at h;split at h
 ·rename_i d hd
  split at h<;>try cases h
  ·rename_i b' hF
   have hlt:d<tm.size:=by rw[<-h2.1];exact(List.getElem?_eq_some_iff.1 hF).1
   have:=de (h2.2 d _ _ hF (Array.getElem?_eq_getElem hlt));unfold yielded;rw[hd,Option.bind_some,Array.getElem?_eq_getElem hlt,this];cases b'<;>cases want<;>rfl
  ·rename_i g b' hF
   have hlt:d<tm.size:=by rw[<-h2.1];exact(List.getElem?_eq_some_iff.1 hF).1
   have hr:=h2.2 d _ _ hF (Array.getElem?_eq_getElem hlt);unfold yielded;rw[hd,Option.bind_some,Array.getElem?_eq_getElem hlt];cases hr with
   |gd _ _ _ hh hu=>cases g with
    |true=>
     have:=de (hh rfl);rw[this];cases b'<;>cases want<;>rfl
    |false=>rw[hu rfl];rfl
 ·cases h
theorem A5(h2:bp w F tm)(x:Operand)(ok:(lr (cf F x)).1=true):av w (bQ F x) ((Act.mk tm []).eval x):=A1 (h2.eval [] x) ok
def mh(F:List AV)(x:Operand):AV:=if(lr (cf F x)).1=true then bQ F x else .any
theorem BH{f g:Operand->AV}{o:Option Operand}(h:∀x∈o.toList,f x=g x):o.map f=o.map g:=by
 cases o with
 |none=>rfl
 |some x=>simp[h x jE]
theorem tO{ev ev':Operand->AV}(o:Op)(h:∀x∈o.operands.toList,ev x=ev' x):vq P ev H o=vq P ev' H o:=by
 cases o
 case call c=>
  obtain⟨callee,args,ts⟩:=c;cases callee
  case builtin b=>
   simp only[vq];rw[List.map_congr_left (fun x hx=>h x (by simpa[Op.operands,Call.operands]using hx))]
  all_goals rfl
 case slice t a lo hi mx=>
  simp only[Op.operands]at h;simp only[vq];rw[h a jE,BH (o:=lo) (fun x hx=>h x (by simp at hx ⊢;simp[hx])),BH (o:=hi) (fun x hx=>h x (by simp at hx ⊢;simp[hx])),BH (o:=mx) (fun x hx=>h x (by simp at hx ⊢;simp[hx]))]
 case makeFunc fn a b=>
  simp only[Op.operands]at h;simp only[vq];rw[List.map_congr_left (l:=a.toList) (fun x hx=>h x (by simp at hx ⊢;simp[hx])),List.map_congr_left (l:=b.toList) (fun x hx=>h x (by simp at hx ⊢;simp[hx]))]
 case build t ps=>
  simp only[Op.operands]at h;simp only[vq];rw[List.map_congr_left (g:=fun p=>(p.1,ev' p.2)) (fun x hx=>by rw[h x.2 (by simp at hx ⊢;exact⟨_,hx⟩)])]
 all_goals first
  |rfl
  |(simp only[Op.operands]at h;simp only[vq];(repeat rw[h _ jE]))
theorem uc(h2:bp w F tm)(x:Operand):av w (mh F x) ((Act.mk tm []).eval x):=by
 unfold mh;split
 ·rename_i h;exact A5 h2 x h
 ·exact .any _
theorem rM{o:Op}(h:gi F o=true):∀x∈o.operands.toList,mh F x=bQ F x:=fun x hx=>by
 unfold mh;rw[if_pos];simp only[gi,List.all_eq_true]at h;exact h x hx
theorem pS{j:Nat}{want b:Bool}(hg:o.guard=some (j,want))(hb:mw ops F j want=some b)
  (ht:b=true->∀w tm (Q:Exit->Act->World->Prop) (next:Act->World->Prop),aP w H->bp w F tm->(∀tm' w' F' H',K F' H'->aP w' H'->bp w' F' tm'->Ext w H w' H'->next ⟨tm',[]⟩ w')->o.wp P ⟨tm,[]⟩ w.toWorld next Q)
  (hf:b=false->∃r,(∀w:NW,av w r undef)/\K (cM F o.dst r) H):me P ops o F H K:=fun w tm Q next h1 h2 hn=>by
 have hy:=H5 hb h2;unfold se;have hw:Region.wanted o (yielded ops (Act.mk tm []).tmps)=b:=by
  unfold Region.wanted;rw[hg];exact hy
 cases b with
 |true=>
  rw[if_pos hw];exact .inl (ht rfl w tm Q next h1 h2 hn)
 |false=>
  rw[if_neg (by rw[hw];exact Bool.false_ne_true)];obtain⟨r,hr,hk⟩:=hf rfl;rw[Act.put_eq];exact hn _ w _ H hk h1 (h2.put o.dst (hr w) []) (Ext.refl w H)
theorem rn{r:AV}{g:Bool}(hg:g=false)(w:NW):av w (.gd g r) undef:=.gd _ _ _ (fun h=>by rw[hg]at h;cases h) (fun _=>rfl)
theorem u0{r:AV}{v:Value}{g:Bool}(hg:g=true)(h:av w r v):av w (.gd g r) v:=.gd _ _ _ (fun _=>h) (fun h=>by rw[hg]at h;cases h)
theorem wC{K:List AV->Hp->Prop}:∀(l:List Oper) (F:List AV) (H:Hp),kD P ops K l F H->uM P ops K l F H
 |[],F,H,h=>CB h
 |o::rest,F,H,h=>by
  refine Fz ?_;simp only[kD]at h;split at h
  ·rename_i hg
   exact(pM (K:=fun F' H'=>kD P ops K rest F' H') hg h).mono fun F' H' hk=>wC rest F' H' hk
  ·rename_i j want hg
   split at h
   ·rename_i b hb
    split at h
    ·refine me.mono (K:=fun F' H'=>kD P ops K rest F' H') ?_ fun F' H' hk=>wC rest F' H' hk
     obtain⟨dst,op,ty,pos,after,guard⟩:=o;unfold eu at h;split at h
     ·rename_i f args argTypes heq
      cases heq;obtain⟨r,hc,hk⟩:=h;refine pS hg hb (fun hbw w tm Q next h1 h2 hn=>?_) (fun hbw=>⟨_,rn hbw,hk⟩);obtain⟨ok,hcall⟩:=hc hbw;have hcg:=rM ok;have e1:mh F f=bQ F f:=hcg f (by simp[Op.operands,Call.operands]);have e2:args.toList.map (mh F)=args.toList.map (bQ F):=List.map_congr_left fun x hx=>hcg x (by simp[Op.operands,Call.operands]at hx ⊢;exact .inr hx)
      refine wc (ev:=mh F) e1 e2 hcall h1 (uc h2) fun v r' w' H' hR g1 g2 g3=>?_
      obtain⟨rfl,rfl⟩:=hR;rw[Act.put_eq];exact hn _ w' _ H' hk g1 ((h2.ext g3).put dst (u0 hbw g2) []) g3
     ·rename_i c x y heq
      simp only at heq;subst heq;obtain⟨hs,hk⟩:=h;refine pS hg hb (fun hbw w tm Q next h1 h2 hn=>?_) (fun hbw=>⟨_,rn hbw,hk⟩);obtain⟨ok,hq⟩:=hs hbw;obtain⟨v,hrun,hv⟩:=GB (P:=P) (ρ:=(Act.mk tm []).eval) (dst:=dst) (ty:=ty) (pos:=pos) (after:=after) (guard:=guard) (A5 h2 c ok) (h2.eval [] x) (h2.eval [] y) hq;simp only[Oper.wp,hrun,Oper.upon];rw[Act.put_eq];exact hn _ w _ H hk h1 (h2.put dst (u0 hbw hv) []) (Ext.refl w H)
     ·split at h
      ·obtain⟨hs,hk⟩:=h
       refine pS hg hb (fun hbw w tm Q next h1 h2 hn=>?_) (fun hbw=>⟨_,rn hbw,hk⟩);obtain⟨ok,hq⟩:=hs hbw;rw[<-tO _ (rM ok)]at hq;obtain⟨v,hrun,hv⟩:=xp (ρ:=(Act.mk tm []).eval) ⟨dst,op,ty,pos,after,guard⟩ h1 (uc h2) hq;simp only[Oper.wp,hrun,Oper.upon];rw[Act.put_eq];rw[tO _ (rM ok)]at hv;exact hn _ w _ H hk h1 (h2.put dst (u0 hbw hv) []) (Ext.refl w H)
      ·exact h.elim
    ·refine me.mono (K:=fun F' H'=>kD P ops K rest F' H') ?_ fun F' H' hk=>wC rest F' H' hk
     refine pS hg hb (fun hbw w tm Q next h1 h2 hn=>?_) (fun hbw=>⟨_,fun w=>.any _,h.2 hbw⟩);exact B7 (h.1 hbw) h1 h2 (fun x=>h2.eval [] x) hn
   ·exact h.elim
theorem O6{id:Nat}{l:List Oper}{Q:Exit->List AV->Hp->Prop}(h:kD P l.toArray (Q .normal) l F H):dH P (.region id l.toArray false) Q F H:=
 C9 (by simpa using wC l F H h)
-- the results of a body
def iO(P:Program)(H:Hp)(F:List AV):List ResultVar->Option (List AV)
 |[]=>some []
 |.tmp t::rest=>(iO P H F rest).map (F.getD t .any::·)
 |.cell a t::rest=>match pH H (F.getD a .any),dG P t,da P t with
  |some (_,cs),some ag,some k=>(iO P H F rest).map (sX ag k cs::·)
  |_,_,_=>none
def jc(P:Program)(H:Hp)(F:List AV):List ResultVar->Prop
 |[]=>True
 |.tmp _::rest=>jc P H F rest
 |.cell a t::rest=>match pH H (F.getD a .any),da P t with
  |some (c,cs),some k=>(c/\k<=cs.length/\1<=cs.length)/\jc P H F rest
  |_,_=>False
def jy:List AV->AV
 |[r]=>r
 |rs=>.bg rs
def uW(tm:Array Value):ResultVar->Sem Value
 |.tmp t=>pure (tm.getD t undef)
 |.cell a t=>do loadVar t (<-asAddr (tm.getD a undef))
theorem Pv(fn:Func)(tm:Array Value):results fn tm=(do let vs <-fn.results.mapM (uW tm);pure (if h:vs.size=1 then vs[0]else .tuple vs)):=rfl
theorem Bl{w:NW}{tm:Array Value}(hw:aP w H)(h2:bp w F tm):∀(rs:List ResultVar) (out:List AV),jc P H F rs->iO P H F rs=some out->
  ∃vs:List Value,cc w out vs/\(rs.mapM (uW tm)).run P w.toWorld=.ok vs w.toWorld
 |[],out,_,h=>by
  simp[iO]at h;subst h;exact⟨[],⟨rfl,fun i a v ha=>by simp at ha⟩,jE⟩
 |.tmp t::rest,out,hok,h=>by
  simp only[iO,Option.map_eq_some_iff]at h;obtain⟨l,hl,rfl⟩:=h;obtain⟨vs,hrel,hrun⟩:=Bl hw h2 rest l hok hl;refine⟨tm.getD t undef::vs,⟨by simp[hrel.1],fun i a v ha hv=>?_⟩,?_⟩
  ·cases i with
   |zero=>
    simp only[List.getElem?_cons_zero,Option.some.injEq]at ha hv;subst ha hv;exact h2.eval [] (.tmp t)
   |succ i=>exact hrel.2 i a v (by simpa using ha) (by simpa using hv)
  ·rw[List.mapM_cons]
   simp only[uW,Sem.run_bind,Sem.run_pure,Result.andThen_ok];rw[hrun];rfl
 |.cell ad t::rest,out,hok,h=>by
  simp only[iO]at h;simp only[jc]at hok;split at h
  ·rename_i c cs ag k e1 e2 e3
   rw[e1,e3]at hok;obtain⟨⟨hc,hk1,hk2⟩,hok⟩:=hok;simp only[Option.map_eq_some_iff]at h;obtain⟨l,hl,rfl⟩:=h;obtain⟨vs,hrel,hrun⟩:=Bl hw h2 rest l hok hl;obtain⟨addr,us,hv,hcell,hr⟩:=Dr (h2.eval [] (.tmp ad)) hw e1 hc;obtain⟨v,hload,hvr⟩:=CJ (P:=P) e2 e3 hk1 hk2 hcell hr;have hv':tm.getD ad undef=.pointer (some addr):=hv;refine⟨v::vs,⟨by simp[hrel.1],fun i a u ha hu=>?_⟩,?_⟩
   ·cases i with
    |zero=>
     simp only[List.getElem?_cons_zero,Option.some.injEq]at ha hu;subst ha hu;exact hvr
    |succ i=>exact hrel.2 i a u (by simpa using ha) (by simpa using hu)
   ·rw[List.mapM_cons]
    have ha:(asAddr (tm.getD ad undef)).run P w.toWorld=.ok addr w.toWorld:=by rw[hv'];rfl
    have hf:(uW tm (.cell ad t)).run P w.toWorld=.ok v w.toWorld:=by simp only[uW,Sem.run_bind,ha,hload,Result.andThen_ok]
    simp only[Sem.run_bind,hf,hrun,Sem.run_pure,Result.andThen_ok]
  ·cases h
theorem OA{fn:Func}{out:List AV}(hw:aP w H)(h2:bp w F tm)(hok:jc P H F fn.results.toList)(h:iO P H F fn.results.toList=some out):∃v,(results fn tm).run P w.toWorld=.ok v w.toWorld/\av w (jy out) v:=by
 obtain⟨vs,hrel,hrun⟩:=Bl (P:=P) hw h2 _ out hok h;have hm:(fn.results.mapM (uW tm)).run P w.toWorld=.ok vs.toArray w.toWorld:=by
  rw[Array.mapM_eq_mapM_toList];simp only[Sem.run_map,hrun,Result.andThen_ok]
 have hr:(results fn tm).run P w.toWorld=.ok (if h:vs.toArray.size=1 then vs.toArray[0]else .tuple vs.toArray) w.toWorld:=by
  rw[Pv];simp only[Sem.run_bind,hm,Result.andThen_ok,Sem.run_pure]
 refine⟨_,hr,?_⟩;match vs,out,hrel with
 |[],[],hrel=>exact .bg _ _ rfl fun i a v ha=>by simp at ha
 |[v],[a],hrel=>exact hrel.2 0 _ _ rfl rfl
 |v::v'::vs,a::a'::out,hrel=>exact .bg _ _ (by have:=hrel.1;simpa using this) fun i x y hx hy=>hrel.2 i x y hx (by simpa using hy)
 |[],_::_,hrel=>have:=hrel.1;simp at this
 |_::_,[],hrel=>have:=hrel.1;simp at this
 |[_],_::_::_,hrel=>have:=hrel.1;simp at this
 |_::_::_,[_],hrel=>have:=hrel.1;simp at this
def kj(P:Program)(fn:Func)(R:AV->List (Nat×Row)->Prop):Exit->List AV->Hp->Prop
 |.normal,F,H|.ret,F,H=>∃out r H',iO P H F fn.results.toList=some out/\jc P H F fn.results.toList/\gH (jy out) H r H'/\R r H'.l
 |_,_,_=>False
theorem EJ{f:FuncId}{fn:Func}{c:Code}{args:List AV}{l:List (Nat×Row)}{R:AV->List (Nat×Row)->Prop}(hf:P.funcs[f]?=some fn)(hb:fn.body=some c)(h:dH P c (kj P fn R) (args++List.replicate (fn.ntmps-args.length) .any) (entry l)) :
  aj P f args l R:=fun w vs h1 h2=>by
 have hlen:args.length=vs.size:=h2.1;refine calls_of_wp hf hb (wp_mono (h w _ h1 ?_) ?_)
 ·refine⟨by simp[hlen],fun i a v ha hv=>?_⟩
  rcases Nat.lt_or_ge i args.length with hi|hi
  ·rw[List.getElem?_append_left hi]at ha
   rw[Array.getElem?_append_left jB]at hv;exact h2.2 i a v ha hv
  ·rw[List.getElem?_append_right hi]at ha
   rw[List.getElem?_replicate]at ha;split at ha<;>cases ha;exact .any _
 ·rintro e a W ⟨tm,F',H',w',rfl,rfl,hq,g1,g2,g3⟩
  have fin:(∃out r H'',iO P H' F' fn.results.toList=some out/\jc P H' F' fn.results.toList/\gH (jy out) H' r H''/\R r H''.l)->
    ∃v,(results fn tm).run P w'.toWorld=.ok v w'.toWorld/\∃v' r H'' w'',w'.toWorld=NW.toWorld w''/\Ending.returned v=.returned v'/\R r (Hp.l H'')/\aP w'' H''/\av w'' r v'/\fJ w (entry l) w'' H'':=by
   rintro⟨out,r,H'',e1,e0,e2,e3⟩;obtain⟨v,hrun,hv⟩:=OA g1 g2 e0 e1;obtain⟨w'',k0,k1,k2,k3⟩:=e2 w' v g1 hv;exact⟨v,hrun,v,r,H'',w'',k0.symm,rfl,e3,k1,k2,g3.trans k3⟩
  cases e with
  |normal=>exact⟨rfl,fin hq⟩
  |ret=>exact⟨rfl,fin hq⟩
  |exit id=>exact hq.elim
  |goto l=>exact hq.elim
  |panic ch=>exact hq.elim
  |outgrown=>exact hq.elim
end
-- encoders of Lean data
class bL{α:Type}(enc:α->List AV)(sz:outParam Nat):Prop where
 len:∀x,(enc x).length=sz
 cR:∀x,cR (enc x)=true
 free:∀x,aY dQ (enc x)=true
def QL(q:Nat->Bool)(css:List (List AV)):Prop:=∀cs∈css,aY q cs=true
def qh(q:Nat->Bool):Row->Prop
 |.var _ cs=>aY q cs=true
 |.aO _ _ css=>QL q css
 |.mp _ vs=>aY q vs=true
theorem Bw{q:Nat->Bool}:∀(a b:List AV),aY q (a++b)=(aY q a && aY q b)
 |[],b=>by simp[aY]
 |x::a,b=>by simp[aY,Bw a b,Bool.and_assoc]
theorem FU{q:Nat->Bool}:∀{css:List (List AV)},QL q css->aY q css.flatten=true
 |[],_=>rfl
 |cs::css,h=>by
  rw[List.flatten_cons,Bw,h cs jE,FU (css:=css) fun c hc=>h c (by simp[hc])];rfl
variable{q:Nat->Bool}
theorem EH{r:Row}(h:qh q r):aY q r.cells=true:=by
 cases r with
 |var t cs=>exact h
 |aO e sz css=>exact FU h
 |mp ks vs=>exact h
theorem FX(q:Nat->Bool):QL q []:=fun _ h=>by simp at h
theorem Mn{a b:List (List AV)}(h:QL q a)(k:QL q b):QL q (a++b):=fun c hc=>(List.mem_append.1 hc).elim (h c) (k c)
variable{α:Type}{sz:Nat}
theorem lu{enc:α->List AV}[e:bL enc sz](l:List α):QL q (l.map enc):=fun c hc=>by
 obtain⟨x,_,rfl⟩:=List.mem_map.1 hc;exact fN (fun _ h=>by cases h) _ (e.free x)
theorem PQ(sz:Nat):lz sz []:=fun _ h=>by simp at h
theorem EY{enc:α->List AV}[e:bL enc sz](l:List α):lz sz (l.map enc):=fun c hc=>by
 obtain⟨x,_,rfl⟩:=List.mem_map.1 hc;exact⟨e.len x,e.cR x⟩
-- calls
def fits:List (Nat×Row)->Hp->Prop
 |[],_=>True
 |(i,r)::l,H=>H.get i=some r/\fits l H
theorem DI:∀{l:List (Nat×Row)} {H:Hp},fits l H->∀i r,aD l i=some r->H.get i=some r
 |[],_,_,i,r,h=>by cases h
 |(j,s)::l,H,hf,i,r,h=>by
  simp only[aD]at h;split at h
  ·rename_i e;subst e;cases h;exact hf.1
  ·exact DI hf.2 i r h
def sC(q:Nat->Bool):List (Nat×Row)->Prop
 |[]=>True
 |(_,r)::l=>qh q r/\sC q l
theorem GW{q:Nat->Bool}:∀{l:List (Nat×Row)},sC q l->∀i r,aD l i=some r->aY q r.cells=true
 |[],_,i,r,h=>by cases h
 |(j,s)::l,hf,i,r,h=>by
  simp only[aD]at h;split at h
  ·cases h;exact EH hf.1
  ·exact GW hf.2 i r h
def fresh(L:List Nat)(H:Hp):List (Nat×Row)->Prop
 |[]=>True
 |(i,_)::l=>(L.contains i=true\/H.get i=none)/\fresh L H l
theorem AH{L:List Nat}{H:Hp}:∀{l:List (Nat×Row)},fresh L H l->∀i r,aD l i=some r->L.contains i=true\/H.get i=none
 |[],_,i,r,h=>by cases h
 |(j,s)::l,hf,i,r,h=>by
  simp only[aD]at h;split at h
  ·rename_i e;subst e;exact hf.1
  ·exact AH hf.2 i r h
section
variable {P:Program}{f:FuncId}{args:List AV}{H:Hp}{l:List (Nat×Row)}{K:AV->Hp->Prop}
theorem PC{R:AV->List (Nat×Row)->Prop}(hc:aj P f args l R)(h1:fits l H)(h2:aY (fun i=>(ids l).contains i) args=true)(h3:sC (fun i=>(ids l).contains i) l)
  (hk:∀r l',R r l'->fresh (ids l) H l'/\(ids l').Nodup/\K r ⟨H.B,iT H.l l'⟩):eP P f args H K:=fun _ _ hw hv=>
 BA hc (DI h1) h2 (GW h3) (fun r l' hR=>⟨AH (hk r l' hR).1,(hk r l' hR).2⟩) hw hv
theorem v7{r0:AV}{l0:List (Nat×Row)}(hc:aj P f args l fun r l'=>r=r0/\l'=l0)(h1:fits l H)(h2:aY (fun i=>(ids l).contains i) args=true)(h3:sC (fun i=>(ids l).contains i) l)
  (h4:fresh (ids l) H l0) (h5:(ids l0).Nodup) (hk:K r0 ⟨H.B,iT H.l l0⟩):eP P f args H K:=
 PC hc h1 h2 h3 fun r l' ⟨e1,e2⟩=>by rw[e1,e2];exact⟨h4,h5,hk⟩
theorem yB{r:AV}(hc:dV P f args r)(h2:aY dQ args=true)(hk:K r H):eP P f args H K:=
 v7 hc trivial (by simpa[ids]using h2) trivial trivial (by simp[ids]) hk
theorem pv{args:List AV}(hc:bz P f=true)(h:eP P f args H K):fF P (.raw (.func (.func f) #[] #[])) args H K:=.inl ⟨hc,by simpa using h⟩
theorem P3{cs:List AV}{args:List AV}(hc:bz P f=true)(h:eP P f (args++cs) H K):fF P (.fK f cs) args H K:=.inl ⟨hc,by simpa using h⟩
end
-- things of which D holds are let go of, and xX be read from then on
def eo(D:Nat->Bool):List (Nat×Row)->List (Nat×Row)
 |[]=>[]
 |(j,s)::l=>bif D j then eo D l else(j,s)::eo D l
theorem Dq(D:Nat->Bool):∀(l:List (Nat×Row)) (i:Nat),aD (eo D l) i=if D i=true then none else aD l i
 |[],i=>by simp[eo,aD]
 |(k,s)::l,i=>by
  have ih:=Dq D l i;unfold eo;cases hk:D k
  ·simp only[cond_false,aD]
   split
   ·rename_i h;subst h;rw[hk];simp
   ·exact ih
  ·simp only[cond_true,aD]
   rw[ih];split
   ·rfl
   ·rename_i h
    rw[if_neg];rintro rfl;exact h hk
def NW.cQ(w:NW)(D:Nat->Bool):NW:={ w with O:=fun b=>w.O b/\∀i m t s,D i=true->w.nm i m≠some (.at b t s),nm:=fun j n=>if D j=true then none else w.nm j n }
def fy(D:Nat->Bool):Nat->Bool:=fun i=>!(D i)
def gz(D:Nat->Bool):List (Nat×Row)->Prop
 |[]=>True
 |(j,r)::l=>(D j=true\/qh (fy D) r)/\gz D l
theorem Cy{D:Nat->Bool}:∀{l:List (Nat×Row)},gz D l->∀{i:Nat} {r:Row},aD l i=some r->D i=false->aY (fy D) r.cells=true
 |[],_,i,r,h,_=>by cases h
 |(j,s)::l,hf,i,r,h,hd=>by
  simp only[aD]at h;split at h
  ·rename_i e;subst e;cases h
   rcases hf.1 with h|h
   ·rw[hd]at h;cases h
   ·exact EH h
  ·exact Cy hf.2 h hd
theorem re(w:NW)(D:Nat->Bool):Keep (fy D) w (w.cQ D):=⟨Nat.le_refl _,fun b _ h=>⟨rfl,fun h'=>h h'.1⟩,fun j n z hq h=>by
 show(if D j=true then none else w.nm j n)=_;rw[if_neg (by unfold fy at hq;intro e;rw[e]at hq;cases hq)];exact h⟩
variable{D:Nat->Bool}
theorem G0{w:NW}(r:aP w H)(hB:H.B.all (fy D)=true)(hl:gz D H.l):aP (w.cQ D) ⟨H.B,eo D H.l⟩/\fJ w H (w.cQ D) ⟨H.B,eo D H.l⟩:=by
 have nmE:∀j n,(w.cQ D).nm j n=if D j=true then none else w.nm j n:=fun _ _=>rfl
 have gE:∀j,(Hp.mk H.B (eo D H.l)).get j=if D j=true then none else H.get j:=fun j=>Dq D H.l j
 refine⟨{ rows:=fun j s hj=>?_,dF:=fun j n z hz=>?_,inj:=fun j n j' n' b t s t' s' h1 h2=>?_,own:=fun j n b t s h=>?_,fin:=fun b hb=>r.fin b hb.1,ct:=r.ct.aX (re w D) },{ re w D with names:=fun j n z hq h=>?_,os:=rfl,tape:=rfl,output:=rfl,rest:=fun b hb hO hno=>⟨rfl,⟨hO,fun i m t s _=>hno _ _ _ _⟩,fun j n t s h=>?_⟩,base:=rfl }⟩
 ·rw[gE]at hj
  split at hj
  ·cases hj
  ·rename_i e
   obtain⟨h1,z,h2,h3⟩:=r.rows j s hj;refine⟨h1,z,by rw[nmE,if_neg e];exact h2,?_⟩;cases z with
   |nil=>exact h3
   |«at» b t st=>
    obtain⟨g1,cur,g2,g3,g5⟩:=h3;exact⟨g1,cur,g2,g3,fun k a v ha hv=>(g5 k a v ha hv).aX (re w D) (mq (Cy hl hj (by simpa using e)) ha)⟩
 ·rw[nmE]at hz
  split at hz
  ·cases hz
  ·rename_i e
   obtain⟨r',h1,h2⟩:=r.dF j n z hz;exact⟨r',by rw[gE,if_neg e];exact h1,h2⟩
 ·rw[nmE]at h1 h2
  split at h1
  ·cases h1
  ·split at h2
   ·cases h2
   ·exact r.inj _ _ _ _ _ _ _ _ _ h1 h2
 ·rw[nmE]at h
  split at h
  ·cases h
  ·rename_i e
   exact⟨r.own _ _ _ _ _ h,fun i m t' s' hd h'=>e (by rw[r.inj _ _ _ _ _ _ _ _ _ h h'];exact hd)⟩
 ·have hq:H.B.contains j=true:=hq
  have:=List.all_eq_true.1 hB j (List.contains_iff_mem.1 hq);rw[nmE,if_neg (by intro e;unfold fy at this;rw[e]at this;cases this)];exact h
 ·rw[nmE]at h
  split at h
  ·cases h
  ·exact hno _ _ _ _ h
inductive dU(D:Nat->Bool)(H:Hp):AV->AV->Prop
 |same (a:AV) (h:a.all (fy D)=true):dU D H a a
 |drop (a:AV):dU D H a .any
 |nil (sz:Nat) (d:List AV):dU D H (.raw (.slice none 0 0)) (.sl false sz [] d)
 |lit (x:Bool) (sz:Nat) (css:List (List AV)) (d d':List AV):dU D H (.sl x sz css d) (.sl false sz css d')
 |agg (cs ds:List AV) (hl:cs.length=ds.length) (h:∀(i:Nat) c d,cs[i]?=some c->ds[i]?=some d->dU D H c d):dU D H (.agg cs) (.agg ds)
 |bg (cs ds:List AV) (hl:cs.length=ds.length) (h:∀(i:Nat) c d,cs[i]?=some c->ds[i]?=some d->dU D H c d):dU D H (.bg cs) (.bg ds)
 |Cj (dd:List AV) (i sz m n:Nat) (e:TypeId) (css:List (List AV)) (dss:List (List AV)) (hD:D i=true) (hi:H.get i=some (.aO e sz css)) (hm:m=css.length) (hn:n<=m) (hd:dss.length=n) (hds:∀ds∈dss,ds.length=sz) (hno:QL dQ dss)
   (h:∀k (j:Nat) c d,k<n->(css.getD k [])[j]?=some c->(dss.getD k [])[j]?=some d->dU D H c d):dU D H (.rs i m sz n) (.sl false sz dss dd)
 |pt (i k j:Nat) (t:TypeId) (cs ds:List AV) (hD:D i=true) (hi:H.get i=some (.var t cs)) (hl:(cs.drop j).length=ds.length) (hno:aY dQ ds=true) (h:∀(q:Nat) c d,(cs.drop j)[q]?=some c->ds[q]?=some d->dU D H c d):dU D H (.pt i 0 k j) (.ip ds)
theorem dU.sound{w:NW}(hw:aP w H){a a':AV}(h:dU D H a a'):∀{v:Value},av w a v->av (w.cQ D) a' v:=by
 induction h with
 |same a h=>intro v hv;exact hv.aX (re w D) h
 |drop a=>intro v hv;exact .any v
 |nil sz d=>intro v hv;have:=de hv;subst this;exact .fZ _ _ _ _ (fun e=>by cases e)
 |lit x sz css d d'=>
  intro v hv;have hv':=hv.aX (re w D) (by simp only[AV.all]);cases hv' with
  |fZ _ _ A c _=>exact .fZ _ _ _ _ (fun e=>by cases e)
  |sl _ _ _ a c vs hn hc hx hsz hb hH hcell hr=>exact .sl _ _ _ a c vs hn hc (fun e=>by cases e) hsz hb hH hcell hr
 |agg cs ds hl _ ih=>
  intro v hv;cases hv with
  |agg _ vs hl' hr=>
   refine .agg ds vs jB fun i d v hd hv=>?_
   have hi:i<cs.length:=by rw[hl];exact(List.getElem?_eq_some_iff.1 hd).1
   have hc:cs[i]?=some cs[i]:=List.getElem?_eq_getElem hi;exact ih i _ d hc hd (hr i _ v hc hv)
 |bg cs ds hl _ ih=>
  intro v hv;cases hv with
  |bg _ vs hl' hr=>
   refine .bg ds vs jB fun i d v hd hv=>?_
   have hi:i<cs.length:=by rw[hl];exact(List.getElem?_eq_some_iff.1 hd).1
   have hc:cs[i]?=some cs[i]:=List.getElem?_eq_getElem hi;exact ih i _ d hc hd (hr i _ v hc hv)
 |Cj dd i sz m n e css dss hD hi hm hn hd hds hno _ ih=>
  intro v hv;subst hm;cases hv with
  |iq _ _ _ A hnm=>
   have:dss=[]:=List.length_eq_zero_iff.1 jB;rw[this];exact .fZ _ _ _ _ (fun h=>by cases h)
  |rs _ _ _ _ b t c hnm hc hle hs0=>
   by_cases h0:n=0
   ·have:dss=[]:=List.length_eq_zero_iff.1 jB
    rw[this,h0];exact .fZ _ _ _ _ (fun h=>by cases h)
   ·have hsz0:0<sz:=hs0
    have:=av.sl (w:=w.cQ D) (d:=dd) false sz dss ⟨b,0,none⟩ c (fun k=>(w.cell? ⟨b,k,none⟩).getD undef) jB jB (fun h=>by cases h) hds (hw.lt hnm) (fun h=>h.2 i _ t sz hD hnm) (fun k j hk hj=>by
     obtain⟨_,_,_,v,h1,h2⟩:=tz hw hi hnm (k:=k) (j:=j) jB hj;show w.cell? _=_;rw[k9,Nat.zero_add,h1];rfl) (fun k j u hk hu=>by
     have hj:j<sz:=by have:=(List.getElem?_eq_some_iff.1 hu).1;rwa [uQ hds hk]at this
     obtain⟨_,hall,_,v,h1,h2⟩:=tz hw hi hnm (k:=k) (j:=j) jB hj;have hlc:=uQ hall (show k<css.length from jB);have hc:(css.getD k [])[j]?=some ((css.getD k [])[j]' jB):=List.getElem?_eq_getElem jB;rw[h1];have hmem:dss.getD k []∈dss:=by
      have:dss.getD k []=dss[k]:=by simp[hk]
      rw[this];exact List.getElem_mem _
     exact(ih k j _ u jB hc hu (h2 _ hc)).kq (mq (hno _ hmem) hu))
    rw[hd]at this;exact this
 |pt i k j t cs ds hD hi hl hno _ ih=>
  intro v hv;cases hv with
  |pt _ _ _ _ b t' s hnm=>
   obtain⟨hok,z,hz,hrow⟩:=hw.rows i _ hi;have:z=.at b t' s:=by have hz:w.nm i 0=some z:=hz;rw[hnm]at hz;cases hz;rfl
   subst this;obtain⟨rfl,cur,hh,⟨hs,hle⟩,hr⟩:=hrow;have hs0:(Row.var t cs).bA=0:=rfl;have hle:cs.length<=t':=hle;have e0:k*(Row.var t cs).bA+j=j:=by rw[hs0];omega
   rw[e0];refine .ip ds ⟨b,j,none⟩ (fun q=>cur.getD (j+q) undef) (hw.lt hnm) (fun h=>h.2 i 0 _ _ hD hnm) (fun q hq=>?_) (fun q u hu=>?_)
   ·show w.cell? _=_
    simp only[List.length_drop]at hl;have:j+q<cur.size:=jB
    rw[k9,tI b _ cur _ (0,0) hh];simp[this]
   ·have hql:q<(cs.drop j).length:=by rw[hl];exact(List.getElem?_eq_some_iff.1 hu).1
    have hc:(cs.drop j)[q]?=some (cs.drop j)[q]:=List.getElem?_eq_getElem hql;simp only[List.length_drop]at hql;have:j+q<cur.size:=jB
    refine(ih q _ u hc hu (hr (j+q) _ _ (by rw[<-List.getElem?_drop];exact hc) ?_)).kq (mq hno hu);simp[this]
theorem dU.rs{D:Nat->Bool}{H:Hp}(dd:List AV)(i sz n:Nat)(e:TypeId)(css:List (List AV))(dss:List (List AV))(hD:D i=true)(hi:H.get i=some (.aO e sz css))(hn:n=css.length)(hd:dss.length=css.length)(hds:∀ds∈dss,ds.length=sz)(hno:QL dQ dss)
  (h:∀k (j:Nat) c d,k<css.length->(css.getD k [])[j]?=some c->(dss.getD k [])[j]?=some d->dU D H c d):dU D H (.rs i n sz n) (.sl false sz dss dd):=
 .Cj dd i sz n n e css dss hD hi hn jl jB hds hno fun k j c d hk=>h k j c d jB
theorem dU.row{dd:List AV}{i n:Nat}{e:TypeId}{enc:α->List AV}[he:bL enc sz](l:List α)(hD:D i=true)(hi:H.get i=some (.aO e sz (l.map enc)))(hn:n=l.length):dU D H (.rs i n sz n) (.sl false sz (l.map enc) dd):=
 .rs dd i sz n e _ _ hD hi (by simpa using hn) rfl (fun ds hds=>by obtain⟨x,_,rfl⟩:=List.mem_map.1 hds;exact he.len x) (lu l) fun k j c d hk h1 h2=>by
  rw[h1]at h2;cases h2;have hk':k<l.length:=by simpa using hk
  have e1:(l.map enc).getD k []=enc l[k]:=by simp[hk']
  rw[e1]at h1;exact .same c (sP (fun _ h=>by cases h) _ (mq (he.free _) h1))
theorem gH.free{r r':AV}(D:Nat->Bool)(hB:H.B.all (fy D)=true)(hl:gz D H.l)(hv:dU D H r r'):gH r H r' ⟨H.B,eo D H.l⟩:=fun w v h1 h2=>by
 obtain⟨a,b⟩:=G0 h1 hB hl;exact⟨w.cQ D,rfl,a,hv.sound h1 h2,b⟩
def bZ(D:Nat->Bool)(H:Hp):List AV->List AV->Prop
 |[],[]=>True
 |a::l,b::m=>dU D H a b/\bZ D H l m
 |_,_=>False
theorem bZ.get{D:Nat->Bool}{H:Hp}:∀{l m:List AV},bZ D H l m->l.length=m.length/\∀(i:Nat) a b,l[i]?=some a->m[i]?=some b->dU D H a b
 |[],[],_=>⟨rfl,fun i a b h=>by simp at h⟩
 |x::l,y::m,h=>by
  have ih:=bZ.get h.2;refine⟨by simp[ih.1],fun i a b ha hb=>?_⟩;cases i with
  |zero=>simp at ha hb;subst ha hb;exact h.1
  |succ i=>exact ih.2 i a b (by simpa using ha) (by simpa using hb)
theorem bZ.agg{D:Nat->Bool}{H:Hp}{cs ds:List AV}(h:bZ D H cs ds):dU D H (.agg cs) (.agg ds):=.agg cs ds h.get.1 h.get.2
theorem bZ.bg{D:Nat->Bool}{H:Hp}{cs ds:List AV}(h:bZ D H cs ds):dU D H (.bg cs) (.bg ds):=.bg cs ds h.get.1 h.get.2
theorem bZ.pt{D:Nat->Bool}{H:Hp}{i k j:Nat}{t:TypeId}{cs ds:List AV}(hD:D i=true)(hi:H.get i=some (.var t cs))(hno:aY dQ ds=true)(h:bZ D H (cs.drop j) ds):dU D H (.pt i 0 k j) (.ip ds):=.pt i k j t cs ds hD hi h.get.1 hno h.get.2
theorem dz.free{F F':List AV}(D:Nat->Bool)(hB:H.B.all (fy D)=true)(hl:gz D H.l)(hv:bZ D H F F'):dz F H F' ⟨H.B,eo D H.l⟩:=fun w tm h1 h2=>by
 obtain⟨a,b⟩:=G0 h1 hB hl;obtain⟨hl',hg⟩:=hv.get;refine⟨w.cQ D,rfl,a,⟨by rw[<-hl'];exact h2.1,fun i c v hc hv=>?_⟩,b⟩;have hi:i<F.length:=by rw[hl'];exact(List.getElem?_eq_some_iff.1 hc).1
 exact(hg i F[i] c (List.getElem?_eq_getElem hi) hc).sound h1 (h2.2 i _ v (List.getElem?_eq_getElem hi) hv)
-- what is lent: a function that is handed nothing of one's own but to read
mutual
def AV.flat:AV->Bool
 |.raw _=>true
 |.any=>true
 |.agg cs=>uA cs
 |.bg cs=>uA cs
 |.gd _ v=>v.flat
 |_=>false
def uA:List AV->Bool
 |[]=>true
 |a::l=>a.flat && uA l
end
theorem Bo:∀{l:List AV},uA l=true->∀{i:Nat} {a:AV},l[i]?=some a->a.flat=true
 |[],_,i,a,h=>by simp at h
 |x::l,hl,i,a,h=>by
  simp only[uA,Bool.and_eq_true]at hl;cases i with
  |zero=>simp at h;subst h;exact hl.1
  |succ i=>exact Bo hl.2 (by simpa using h)
theorem av.flat{w:NW}{a:AV}{v:Value}(h:av w a v):∀{w':NW},a.flat=true->av w' a v:=by
 induction h with
 |raw v=>intro w' _;exact .raw v
 |any v=>intro w' _;exact .any v
 |agg cs vs hl _ ih=>intro w' ha;simp only[AV.flat]at ha;exact .agg cs vs hl fun i a v h1 h2=>ih i a v h1 h2 (Bo ha h1)
 |bg cs vs hl _ ih=>intro w' ha;simp only[AV.flat]at ha;exact .bg cs vs hl fun i a v h1 h2=>ih i a v h1 h2 (Bo ha h1)
 |gd p a v _ hu ih=>intro w' ha;exact .gd p a v (fun hp=>ih hp (by simpa only[AV.flat]using ha)) hu
 |fZ=>intro w' ha;simp only[AV.flat]at ha;cases ha
 |sl=>intro w' ha;simp only[AV.flat]at ha;cases ha
 |ip=>intro w' ha;simp only[AV.flat]at ha;cases ha
 |fK=>intro w' ha;simp only[AV.flat]at ha;cases ha
 |pt=>intro w' ha;simp only[AV.flat]at ha;cases ha
 |iq=>intro w' ha;simp only[AV.flat]at ha;cases ha
 |rs=>intro w' ha;simp only[AV.flat]at ha;cases ha
 |lp=>intro w' ha;simp only[AV.flat]at ha;cases ha
 |rv=>intro w' ha;simp only[AV.flat]at ha;cases ha
 |mr=>intro w' ha;simp only[AV.flat]at ha;cases ha
 |bd=>intro w' ha;simp only[AV.flat]at ha;cases ha
 |j9=>intro w' ha;simp only[AV.flat]at ha;cases ha
-- a slot that holds nothing yet, as a row of one's own without elements
theorem dz.nil{F:List AV}{H:Hp}(i slot:Nat)(e:TypeId){sz:Nat}(hi:H.get i=none)(h0:0<sz)(hs:F[slot]?=some (.raw (.slice none 0 0))\/∃x s d,F[slot]?=some (.sl true s x d)/\x=[]):dz F H (F.set slot (.rs i 0 sz 0)) (H.put i (.aO e sz [])):=fun w tm h1 h2=>by
 obtain⟨a,b⟩:=wV h1 hi e h0;refine⟨w.name i 0 .nil,rfl,a,⟨by rw[List.length_set];exact h2.1,fun k c v hc hv=>?_⟩,b.qB⟩;rw[List.getElem?_set]at hc;by_cases hk:slot=k
 ·subst hk
  rw[if_pos rfl]at hc;split at hc
  ·cases hc
   have hv':∃A,v=.slice A 0 0:=by
    rcases hs with hs|⟨x,s,d,hs,rfl⟩
    ·exact⟨none,by have:=h2.2 slot _ v hs hv;cases this;rfl⟩
    ·have:=h2.2 slot _ v hs hv
     cases this with
     |fZ _ _ A c hx=>have:=hx rfl;subst this;exact⟨A,rfl⟩
     |sl _ _ _ _ _ _ hn=>simp at hn
   obtain⟨A,rfl⟩:=hv';exact .iq _ _ _ _ (NW.bY _ _ _ _)
  ·cases hc
 ·rw[if_neg hk]at hc
  exact(h2.2 k c v hc hv).ext b
end Go.Gd

/- Lemmas. No conditions. -/
import Derived.Test.YtijdhbokcdpklaaGreatDoorSo9
set_option linter.all false
set_option maxHeartbeats 4000000
set_option maxRecDepth 10000
namespace Go.Gd
open Go
theorem Eh:∀(l:UL),iO (fun _=>true) l
 |[]=>trivial
 |_::l=>⟨.inl rfl,Eh l⟩
theorem Fp:∀(l:UL),fB (fun _=>true) l=[]
 |[]=>rfl
 |x::l=>Fp l
variable{P:UY}{f:FuncId}{r0:AV}
def aB.yk{args:UM}{r1:AV}{l0:UL}(hc:ab P f args [] fun r l=>r=r0/\l=l0)(hv:cY (fun _=>true) ⟨[],l0⟩ r0 r1):aB P f args r1:=fun w vs h1 h2=>by refine(hc w vs h1 h2).mono ?_;rintro e W ⟨v,r,⟨B,l⟩,w',rfl,e1,⟨rfl,rfl⟩,g1,g2,g3⟩;have hB:B=[]:=g3.base;subst hB;obtain⟨w2,k1,k2,k3,k4⟩:=iD.free (fun _=>true) rfl (Eh _) hv w' v g1 g2;refine⟨v,r1,_,w2,k1.symm,e1,⟨rfl,Fp _⟩,k2,k3,g3.trans k4⟩
variable{B:UQ}{l:UL}{K:UJ}
def LN{args:UM}{l':UL}(h:∀i,aC l i=aC l' i)(k:dm P f args ⟨B,l'⟩ K):dm P f args ⟨B,l⟩ K:=fun w vs h1 h2=>by refine(k w vs (Bv h h1) h2).mono ?_;rintro e W ⟨v,r,H',w',e0,e1,k,g1,g2,g3⟩;exact⟨v,r,H',w',e0,e1,k,g1,g2,{ g3.toExtQ with base:=g3.base }⟩
structure fO(lo:Nat)(e:List (Nat×Row)):Prop where
 no:∀i,lo<=i->i<1000->aC e i=none
 nodup:(ids e).Nodup
 closed:∀i r,aC e i=some r->aZ (fun i=>(ids e).contains i) r.cells=true
def nW(lo:Nat)(tl:UL):Prop:=∀i r,aC tl i=some r->lo<=i/\i<1000
variable{lo:Nat}{tl:UL}
def fO.bw{e:UL}(h:fO lo e)(hl:nW lo tl):Lays (fun tl=>e++tl) tl:=⟨fun i=>by rw[v7,List.append_nil],fun i r hi=>by show aC (e++[]) i=none;rw[List.append_nil];exact h.no i (hl i r hi).1 (hl i r hi).2⟩
variable{e':UL}
def cG{args:UM}{H:Hp}{e:UL}(hc:ab P f args e fun r l'=>r=r0/\l'=e')(hH:H=⟨B,e++tl⟩)
  (h1:fO lo e) (h2:fO lo e') (hs:∀i,aC e i≠none->aC e' i≠none) (hl:nW lo tl) (ha:aZ (fun i=>(ids e).contains i) args=true) (h0:aS P f=true) (k:K r0 ⟨B,e'++tl⟩):fh P (.raw (.func (.func f) #[] #[])) args H K:=by
 subst hH;refine nQ h0 (Cj (E:=fun tl=>e++tl) (E':=fun tl=>e'++tl) ?_ (h1.bw hl) (h2.bw hl) ?_ ?_ ?_ k ?_)
 ·simp only[List.append_nil];exact hc
 ·simp only[List.append_nil];exact h2.nodup
 ·simp only[List.append_nil];exact ha
 ·simp only[List.append_nil];exact h1.closed
 ·simp only[List.append_nil];exact hs
def fT(lo:Nat):UX:=fun i=>decide (lo<=i/\i<1000)
theorem fO.fT{lo:Nat}{e:UL}(h:fO lo e){i:Nat}(hi:i∈ids e):fT lo i=false:=by
 unfold Go.Gd.fT;refine decide_eq_false fun h'=>?_
 exact(lH _ _).1 hi (h.no i h'.1 h'.2)
def fO.free{e0:UL}(k1:fO lo e0)(k2:fO lo e')(hB:ids e0=B)(hl:nW lo tl) :
  B.all (im (Go.Gd.fT lo))=true/\iO (Go.Gd.fT lo) (e'++tl)/\fB (Go.Gd.fT lo) (e'++tl)=e':=by
 have htl:∀i∈ids tl,Go.Gd.fT lo i=true:=fun i hi=>by obtain⟨r,hr⟩:=Option.ne_none_iff_exists'.1 ((lH _ _).1 hi);exact decide_eq_true (hl i r hr)
 refine⟨?_,?_,?_⟩
 ·rw[List.all_eq_true];intro i hi;rw[<-hB]at hi;unfold im;rw[k1.fT hi];rfl
 ·refine Fc _ _ _ (Jt _ _ k2.nodup fun i r hi=>fX (fun j hj=>?_) _ (k2.closed i r hi)) (Gp _ _ htl);unfold im;rw[k2.fT (List.contains_iff_mem.1 hj)];rfl
 ·rw[Fy,Ix _ _ (fun i hi=>k2.fT hi),Gb _ _ htl,List.append_nil]
def hn(a k:Nat):Nat:=1000+(32*k+a)
def iK(a k:Nat):1000<=hn a k:=Nat.le_add_right _ _
def xu{a b k j:Nat}(ha:a<32)(hb:b<32)(h:hn a k=hn b j):a=b/\k=j:=by unfold hn at h;omega
@[go_sem] def qbO(a k n:Nat)(h:n<1000):(hn a k=n)=False:=by have:=iK a k;simp;omega
@[go_sem] def qbX(a k n:Nat)(h:n<1000):(n=hn a k)=False:=by have:=iK a k;simp;omega
@[go_sem] def j6X(a b k j:Nat)(ha:a<32)(hb:b<32)(h:a≠b):(hn a k=hn b j)=False:=by simp;intro e;exact h (xu ha hb e).1
def dj{a b k j:Nat}(ha:a<32)(hb:b<32)(h:a≠b):hn a k≠hn b j:=fun e=>h (xu ha hb e).1
@[go_sem] def j0D(l:UL)(a k:Nat)(r:Row)(i:Nat):aC (bg l (hn a k) r) i=if i=hn a k then some r else aC l i:=bS _ _ _ _
def oQ:∀(l:UL) (i j:Nat) (r:Row),j∈ids (bg l i r)<->j=i\/j∈ids l:=fun l i j r=>by rw[lH,lH,bS];by_cases e:j=i<;>simp[e]
theorem DX:∀(l:UL) (i:Nat) (r:Row),(ids l).Nodup->(ids (bg l i r)).Nodup
 |[],i,r,_=>by simp[bg,ids]
 |(j,s)::l,i,r,h=>by
  have hc:=List.nodup_cons.1 h;unfold bg;split
  ·rename_i e;subst e;exact h
  ·rename_i e;refine List.nodup_cons.2 ⟨fun hm=>?_,DX l i r hc.2⟩;rcases(oQ l i j r).1 hm with h1|h1
   ·exact e h1.symm
   ·exact hc.1 h1
variable{i:Nat}
def fO.put{e:UL}{r:Row}(h:fO lo e)(hi:i<lo\/1000<=i)(hr:aZ (fun j=>decide (j=i) || (ids e).contains j) r.cells=true):fO lo (bg e i r):=by
 have hm:∀j,(decide (j=i) || (ids e).contains j)=true->(ids (bg e i r)).contains j=true:=fun j hj=>by
  rw[List.contains_iff_mem,oQ];rcases Bool.or_eq_true _ _ ▸ hj with h1|h1
  ·exact .inl (of_decide_eq_true h1)
  ·exact .inr (List.contains_iff_mem.1 h1)
 refine⟨fun j h1 h2=>?_,DX _ _ _ h.nodup,fun j s hs=>?_⟩
 ·rw[bS,jN];exact h.no j h1 h2
 ·rw[bS]at hs;split at hs
  ·cases hs;exact fX hm _ hr
  ·exact fX (fun k hk=>hm k (by rw[Bool.or_eq_true];exact .inr hk)) _ (h.closed j s hs)
structure Up(X:List Nat)(e l:List (Nat×Row)):Prop where
 aY:∀i,aC e i≠none->aC l i≠none
 new:∀i,aC l i≠none->aC e i≠none\/i ∉ X
def Up.refl(X:UQ)(e:UL):Up X e e:=⟨fun _ h=>h,fun _ h=>.inl h⟩
def Up.trans{X:UQ}{a b c:UL}(h:Up X a b)(k:Up X b c):Up X a c:=⟨fun i hi=>k.aY i (h.aY i hi),fun i hi=>(k.new i hi).elim (h.new i) .inr⟩
def Up.put{X:UQ}{e:UL}(r:Row)(h:aC e i≠none\/i ∉ X):Up X e (bg e i r):=⟨fun j hj=>by
 rw[bS];split
 ·simp
 ·exact hj,fun j hj=>by
 rw[bS]at hj;split at hj
 ·rename_i e';subst e';exact h
 ·exact .inl hj⟩
def rm(X:UQ):Nat:=1+X.foldl max 0
theorem En:∀(X:UQ) (a:Nat),a<=X.foldl max a/\∀x∈X,x<=X.foldl max a
 |[],a=>⟨Nat.le_refl _,by simp⟩
 |y::X,a=>by
  obtain⟨h1,h2⟩:=En X (max a y);refine⟨Nat.le_trans (Nat.le_max_left _ _) h1,fun x hx=>?_⟩;rcases List.mem_cons.1 hx with rfl|hx
  ·exact Nat.le_trans (Nat.le_max_right _ _) h1
  ·exact h2 x hx
def T1(X:UQ){x:Nat}(h:x∈X):x<rm X:=by have:=(En X 0).2 x h;unfold rm;omega
def CM(X:UQ)(a d:Nat):hn a (rm X+d) ∉ X:=fun h=>by have:=T1 X h;unfold hn at this;omega
def Ai(e:UL)(X:UQ)(a d:Nat):aC e (hn a (rm (ids e++X)+d))=none:=by
 cases h:aC e (hn a (rm (ids e++X)+d))with
 |none=>rfl
 |some r=>exact(CM (ids e++X) a d (List.mem_append_left _ ((lH _ _).2 (by rw[h];simp)))).elim
def y5(e:UL)(X:UQ)(a d:Nat):hn a (rm (ids e++X)+d) ∉ X:=fun h=>CM (ids e++X) a d (List.mem_append_right _ h)
def ab.more{args:UM}{s e:UL}{R:AV->List U0->Prop}(hc:ab P f args s R)(hs:∀i r,aC s i=some r->aC e i=some r)(ha:aZ (fun i=>(ids s).contains i) args=true)(U4:∀i r,aC s i=some r->aZ (fun i=>(ids s).contains i) r.cells=true)
  (hn:∀r l,R r l->(ids l).Nodup/\∀i,aC l i≠none->aC s i≠none\/aC e i=none):ab P f args e fun r l=>∃l0,R r l0/\l=gx e l0:=fun w vs hw hv=>by
 refine(Ao (H:=entry e) (K:=fun r H'=>∃l0,R r l0/\H'=⟨ids e,gx e l0⟩) hc (fun i r hi=>hs i r hi) ha U4 (fun r l' hR=>⟨fun i x hx=>?_,(hn r l' hR).1,l',hR,rfl⟩) hw hv).mono ?_
 ·rcases(hn r l' hR).2 i (by rw[hx];simp)with h|h
  ·obtain⟨y,hy⟩:=Option.ne_none_iff_exists'.1 h;exact .inl (sI hy)
  ·exact .inr h
 ·rintro e' W ⟨v,r,H',w',rfl,rfl,⟨l0,hR,rfl⟩,g1,g2,g3⟩;exact⟨v,r,_,w',rfl,rfl,⟨l0,hR,rfl⟩,g1,g2,g3.pU⟩
def tie(e tl:UL):UL:=e++tl
def EW(e:UL):e=tie e []:=(List.append_nil e).symm
@[go_sem] def kf(e tl:UL)(i:Nat):aC (tie e tl) i=(aC e i).or (aC tl i):=v7 _ _ _
theorem J4:∀(e tl:UL) (i:Nat) (r:Row),bg (e++tl) i r=if(aC e i).isSome=true then bg e i r++tl else e++bg tl i r
 |[],tl,i,r=>by simp[aC,bg]
 |(j,s)::e,tl,i,r=>by
  show(if i=j then(i,r)::(e++tl)else(j,s)::bg (e++tl) i r)=if((if i=j then some s else aC e i):Option Row).isSome=true then(if i=j then(i,r)::e else(j,s)::bg e i r)++tl else(j,s)::(e++bg tl i r)
  by_cases h:i=j
  ·subst h;simp
  ·simp only[if_neg h];rw[J4 e tl i r];split<;>rfl
@[go_sem] def j64(e tl:UL)(i:Nat)(r:Row):bg (tie e tl) i r=if(aC e i).isSome=true then tie (bg e i r) tl else tie e (bg tl i r):=J4 _ _ _ _
attribute [go_sem] Option.some_or Option.none_or Option.isSome_some Option.isSome_none
def fO.low{e:UL}(h:fO 0 e):∀i,i<1000->aC e i=none:=fun i hi=>h.no i (Nat.zero_le _) hi
def dK:nW 0 []:=fun i r h=>by cases h
def dq{T:UL}{r:Row}(h:i<1000)(hT:nW 0 T):nW 0 ((i,r)::T):=fun j s hs=>by
 simp only[aC]at hs;split at hs
 ·omega
 ·exact hT j s hs
structure cW(P:Program)(f:FuncId)(args:List AV)(e:List (Nat×Row))(r0:AV)(l:List (Nat×Row)):Prop where
 c:ab P f args e fun r l'=>r=r0/\l'=l
 e1:fO 0 e
 e2:fO 0 l
 aY:∀i,aC e i≠none->aC l i≠none
 a:aZ (fun i=>(ids e).contains i) args=true
def cT{args:UM}{e:UL}{q:Prop}(hd:cW P f args e r0 l)(k:q)(h0:aS P f=true:=by exact dD)(hl:nW 0 tl:=by(repeat' first|exact dK|(refine dq (by decide) ?_)|fail))(e0:K r0 ⟨B,tie l tl⟩=q:=by exact fm):fh P (.raw (.func (.func f) #[] #[])) args ⟨B,tie e tl⟩ K:=
 cG hd.c rfl hd.e1 hd.e2 hd.aY hl hd.a h0 (e0 ▸ k)
@[go_sem] def EC(a k:Nat):fT 0 (hn a k)=false:=decide_eq_false (by have:=iK a k;omega)
def eG{fn:Func}{F:UM}{L:UL}{out:UM}{ex:Exit}{e:UL}(hB:ids e=B)(k1:fO 0 e)(k2:fO 0 l)(hp:∀i,aC L i=aC (tie l tl) i)(hl:nW 0 tl)(rs:List ResultVar)
  (hr:r0.all (im (fT 0))=true:=by first|rfl|(simp only[go_sem,AV.all,aZ,im,EC];done))
  (Xs:fn.results.toList=rs:=by rfl) (he:ex=.normal\/ex=.ret:=by first|exact Or.inr rfl|exact Or.inl rfl|fail) (ho:jK P ⟨B,L⟩ F rs=some out:=by first|rfl|(simp(disch:=first|omega|fail) only[go_sem,↓reduceIte,Nat.reduceEqDiff,Nat.reduceLeDiff,Nat.reduceSub,Nat.reduceAdd];rfl)) (hok:kN P ⟨B,L⟩ F rs:=by first|exact jI|(simp(disch:=first|omega|fail) only[go_sem,↓reduceIte,Nat.reduceEqDiff,Nat.reduceLeDiff,Nat.reduceSub,Nat.reduceAdd])) (hv:kI out=r0:=by first|rfl|(simp only[go_sem];done)):lu P fn (fun r l'=>r=r0/\l'=l) ex F ⟨B,L⟩:=by
 subst Xs;obtain⟨h1,h2,h3⟩:=k1.free k2 hB hl;have:=iD.free (r:=kI out) (r':=r0) (H:=⟨B,l++tl⟩) (Go.Gd.fT 0) h1 h2 (Ar hv (hv ▸ hr));rw[show(Hp.mk B (l++tl)).l=l++tl from rfl,h3]at this;exact wq he ho hok r0 ⟨B,l⟩ ((I0 (B:=B) (l:=L) (l++tl) hp).trans this) ⟨rfl,rfl⟩
mutual
def AV.eD:AV->Bool
 |.raw _=>true
 |.any=>true
 |.agg cs=>k9 cs
 |.aQ cs=>k9 cs
 |.gd _ v=>v.eD
 |.pt _ _ _ _=>true
 |.rs _ _ _ _=>true
 |.rc _ _ _ _=>true
 |.rv _ _ _ _ _=>true
 |.mr _=>true
 |_=>false
def k9:UM->Bool
 |[]=>true
 |a::l=>a.eD && k9 l
end
theorem zh:∀{l:UM},k9 l=true->∀{i:Nat} {a:AV},l[i]?=some a->a.eD=true
 |[],_,i,a,h=>by simp at h
 |x::l,hl,i,a,h=>by
  simp only[k9,Bool.and_eq_true]at hl;cases i with
  |zero=>simp at h;subst h;exact hl.1
  |succ i=>exact zh hl.2 (by simpa using h)
theorem HK:∀(l m:UM),k9 (l++m)=(k9 l && k9 m)
 |[],m=>by simp[k9]
 |a::l,m=>by simp only[List.cons_append,k9,HK l m,Bool.and_assoc]
def SF{l:UK}(h:∀x∈l,k9 x=true):k9 l.flatten=true:=by
 induction l with
 |nil=>rfl
 |cons x l ih=>rw[List.flatten_cons,HK,h x jE,ih fun y hy=>h y (by simp[hy])];rfl
theorem ax.eD{w:NW}{a:AV}{v:Value}(h:ax w a v):∀{w':NW},(∀i m z,w.nm i m=some z->w'.nm i m=some z)->a.eD=true->ax w' a v:=by
 induction h with
 |raw v=>intro w' _ _;exact .raw v
 |any v=>intro w' _ _;exact .any v
 |agg cs vs hl _ ih=>intro w' k ha;simp only[AV.eD]at ha;exact .agg cs vs hl fun i a v h1 h2=>ih i a v h1 h2 k (zh ha h1)
 |aQ cs vs hl _ ih=>intro w' k ha;simp only[AV.eD]at ha;exact .aQ cs vs hl fun i a v h1 h2=>ih i a v h1 h2 k (zh ha h1)
 |gd p a v _ hu ih=>intro w' k ha;exact .gd p a v (fun hp=>ih hp k (by simpa only[AV.eD]using ha)) hu
 |pt i m o j b t s h=>intro w' k _;exact .pt i m o j b t s (k _ _ _ h)
 |iN i m sz A h=>intro w' k _;exact .iN i m sz A (k _ _ _ h)
 |rs i m sz n b t c h hc hn hs=>intro w' k _;exact .rs i m sz n b t c (k _ _ _ h) hc hn hs
 |rc i m sz n b t h hc hn hs=>intro w' k _;exact .rc i m sz n b t (k _ _ _ h) hc hn hs
 |jx i m sz o c A=>intro w' _ _;exact .jx i m sz o c A
 |rv i m sz o n b t c h hn=>intro w' k _;exact .rv i m sz o n b t c (k _ _ _ h) hn
 |mr i b t s h=>intro w' k _;exact .mr i b t s (k _ _ _ h)
 |gz=>intro w' _ ha;simp only[AV.eD]at ha;cases ha
 |sl=>intro w' _ ha;simp only[AV.eD]at ha;cases ha
 |ip=>intro w' _ ha;simp only[AV.eD]at ha;cases ha
 |dW=>intro w' _ ha;simp only[AV.eD]at ha;cases ha
 |bd=>intro w' _ ha;simp only[AV.eD]at ha;cases ha
 |iQ=>intro w' _ ha;simp only[AV.eD]at ha;cases ha
 |mv=>intro w' _ ha;simp only[AV.eD]at ha;cases ha
variable{P:UY}{f:FuncId}{args':UM}{H:Hp}
def Tu{args:UM}{R:AV->List U0->Prop}(hc:ab P f args' [] R)(hv:∀w vs,aJ w H->bs w args vs->bs (w.cU fun _=>true) args' vs)
  (hk:∀r l,R r l->(∀i,aC l i≠none->H.get i=none)/\r.eD=true/\(∀i row,aC l i=some row->k9 row.cells=true)) {w:NW} {vs:UU} (h1:aJ w H) (h2:bs w args vs) :
  Calls P f vs w.toWorld fun e W=>∃v r l w',W=NW.toWorld w'/\e=.returned v/\R r l/\aJ w' ⟨H.B,l++H.l⟩/\ax w' r v/\Ext w H w' ⟨H.B,l++H.l⟩/\∀b,b<w.heap.size->w'.heap[b]?=w.heap[b]?:=by
 have hw1:aJ (w.cU fun _=>true) (entry []):={
  rows:=fun i r h=>by cases h
  di:=fun i m z h=>by cases h
  inj:=fun i m j n b t s t' s' h _=>by cases h
  own:=fun i m b t s h=>by cases h
  fin:=fun b hb=>h1.fin b hb.1
  cd:=h1.cd.aY (pN w fun _=>true) }
 refine(hc (w.cU fun _=>true) vs hw1 (hv w vs h1 h2)).mono ?_;rintro e W ⟨v,r,H',w',rfl,rfl,hR,g1,g2,g3⟩;obtain⟨k1,k2,k3⟩:=hk r H'.l hR;have Xk:∀b,b<w.heap.size->w'.heap[b]?=w.heap[b]?:=fun b hb=>by
  classical
  by_cases hO:(w.cU fun _=>true).O b
  ·exact(g3.rest b hb hO fun i m t s h=>by cases h).1
  ·exact(g3.free b hb hO).1
 have VM:∀i m z,w.nm i m=some z->w'.nm i m=none:=fun i m z hz=>by
  obtain⟨r',hr',_⟩:=h1.di i m z hz;cases e:w'.nm i m with
  |none=>rfl
  |some z'=> obtain⟨r2,Xn,_⟩:=g1.di i m z' e;have:=k1 i (by show aC H'.l i≠none;have Xn:aC H'.l i=some r2:=Xn;rw[Xn];simp);rw[this]at hr';cases hr'
 have ZR:∀i m b t s,w.nm i m=some (.at b t s)->¬w'.O b:=fun i m b t s hz=>by refine(g3.free b (h1.lt hz) fun hO=>hO.2 i m t s rfl hz).2
 let w2:NW:={ w' with O:=fun b=>w.O b\/w'.O b,nm:=fun i m=>(w'.nm i m).or (w.nm i m) }
 have VJ:∀i m,w2.nm i m=(w'.nm i m).or (w.nm i m):=fun _ _=>rfl
 have up:∀i m z,w'.nm i m=some z->w2.nm i m=some z:=fun i m z h=>by rw[VJ,h];rfl
 have Y6:Keep rO w w2:=⟨g3.size,fun b hb hO=>⟨Xk b hb,fun h=>h.elim hO (g3.free b hb fun h=>hO h.1).2⟩,fun i m z _ h=>by rw[VJ,VM i m z h];exact h⟩;have ex:Ext w H w2 ⟨H.B,H'.l++H.l⟩:={ Y6 with
  os:=g3.os,tape:=g3.tape,output:=g3.output
  rest:=fun b hb hO U8=>⟨Xk b hb,.inl hO,fun i m t s h=>by
   rw[VJ]at h;cases e:w'.nm i m with
   |none=>rw[e]at h;exact U8 _ _ _ _ h
   |some z=> rw[e]at h;cases h;exact(g3.rest b hb ⟨hO,fun i m t s _=>U8 i m t s⟩ fun i m t s h=>by cases h).2.2 i m t s e⟩
  base:=rfl }
 have gE:∀i,(Hp.mk H.B (H'.l++H.l)).get i=(aC H'.l i).or (H.get i):=fun i=>v7 _ _ _
 refine⟨v,r,H'.l,w2,rfl,rfl,hR,{ cd:=h1.cd.aY Y6,rows:=fun i s hi=>?_,di:=fun i m z hz=>?_,inj:=fun i m j n b t s t' s' a1 a2=>?_,own:=fun i m b t s h=>?_,fin:=fun b hb=>?_ },g2.eD up k2,ex,Xk⟩
 ·rw[gE]at hi;cases e:aC H'.l i with
  |some x=>
   rw[e]at hi;cases hi;obtain⟨e1,z,e2,e3⟩:=g1.rows i s e;refine⟨e1,z,up _ _ _ e2,?_⟩;cases z with
   |nil=>exact e3
   |«at» b t st=> obtain⟨c1,cur,c2,c3,c4⟩:=e3;exact⟨c1,cur,c2,c3,fun j a u ha hu=>(c4 j a u ha hu).eD up (zh (k3 i s e) ha)⟩
  |none=>
   rw[e]at hi;have hi:H.get i=some s:=hi;obtain⟨e1,z,e2,e3⟩:=h1.rows i s hi;refine⟨e1,z,Y6.names _ _ _ rfl e2,?_⟩;refine e3.ext ex fun b t st ez=>?_
   subst ez;exact Xk b (h1.lt e2)
 ·rw[VJ]at hz;cases e:w'.nm i m with
  |some z'=> obtain⟨r',c1,c2⟩:=g1.di i m z' e;exact⟨r',by rw[gE,show aC H'.l i=some r' from c1];rfl,c2⟩
  |none=>
   rw[e]at hz;obtain⟨r',c1,c2⟩:=h1.di i m z hz;refine⟨r',?_,c2⟩;rw[gE];cases e2:aC H'.l i with
   |none=>exact c1
   |some x=>have:=k1 i (by rw[e2];simp);rw[this]at c1;cases c1
 ·rw[VJ]at a1 a2;cases e1:w'.nm i m with
  |some z1=>
   rw[e1]at a1;cases a1;cases e2:w'.nm j n with
   |some z2=>rw[e2]at a2;cases a2;exact g1.inj _ _ _ _ _ _ _ _ _ e1 e2
   |none=>rw[e2]at a2;exact(ZR _ _ _ _ _ a2 (g1.own _ _ _ _ _ e1)).elim
  |none=>
   rw[e1]at a1;cases e2:w'.nm j n with
   |some z2=>rw[e2]at a2;cases a2;exact(ZR _ _ _ _ _ a1 (g1.own _ _ _ _ _ e2)).elim
   |none=>rw[e2]at a2;exact h1.inj _ _ _ _ _ _ _ _ _ a1 a2
 ·rw[VJ]at h;cases e:w'.nm i m with
  |some z=>rw[e]at h;cases h;exact .inr (g1.own _ _ _ _ _ e)
  |none=>rw[e]at h;exact .inl (h1.own _ _ _ _ _ h)
 ·rcases hb with h|h
  ·exact Nat.lt_of_lt_of_le (h1.fin b h) g3.size
  ·exact g1.fin b h
section
variable {P:UY}{f:FuncId}{args:UM}{B:UQ}{e tl:UL}{r0:AV}{q:Prop}
def fc{c:Code}{Q:Exit->UI}{F:UM}(h:dH P c Q F ⟨B,tie e []⟩):dH P c Q F ⟨B,e⟩:=by rw[EW e];exact h
def mN{R:AV->Prop}(hd:cW P f args e r0 e)(k:q)(h0:aS P f=true:=by exact dD)(hl:nW 0 tl:=by(repeat' first|exact dK|(refine dq (by decide) ?_)|fail))(e0:R r0=q:=by exact fm) :
  ∃r,(fh P (.raw (.func (.func f) #[] #[])) args ⟨B,tie e tl⟩ fun r' H'=>r'=r/\H'=⟨B,tie e tl⟩)/\R r:=
 ⟨r0,cG (K:=fun r' H'=>r'=r0/\H'=⟨B,tie e tl⟩) hd.c rfl hd.e1 hd.e2 hd.aY hl hd.a h0 ⟨rfl,rfl⟩,e0 ▸ k⟩
end
variable{F:UM}{B:UQ}{tl:UL}
def E2{fn:Func}{L L1:UL}{out:UM}{ex:Exit}{r0:AV}{e l:UL}(hB:ids e=B)(k1:fO 0 e)(k2:fO 0 l)(U6:iD r0 ⟨B,L⟩ r0 ⟨B,L1⟩)(hp:∀i,aC L1 i=aC (tie l tl) i)(hl:nW 0 tl)(rs:List ResultVar)
  (hr:r0.all (im (fT 0))=true:=by first|rfl|(simp only[go_sem,AV.all,aZ,im,EC];done))
  (Xs:fn.results.toList=rs:=by rfl) (he:ex=.normal\/ex=.ret:=by first|exact Or.inr rfl|exact Or.inl rfl|fail) (ho:jK P ⟨B,L⟩ F rs=some out:=by first|rfl|(simp(disch:=first|omega|fail) only[go_sem,↓reduceIte,Nat.reduceEqDiff,Nat.reduceLeDiff,Nat.reduceSub,Nat.reduceAdd];rfl)) (hok:kN P ⟨B,L⟩ F rs:=by first|exact jI|(simp(disch:=first|omega|fail) only[go_sem,↓reduceIte,Nat.reduceEqDiff,Nat.reduceLeDiff,Nat.reduceSub,Nat.reduceAdd])) (hv:kI out=r0:=by first|rfl|(simp only[go_sem];done)):lu P fn (fun r l'=>r=r0/\l'=l) ex F ⟨B,L⟩:=by
 subst Xs;obtain⟨h1,h2,h3⟩:=k1.free k2 hB hl;have:=iD.free (r:=r0) (r':=r0) (H:=⟨B,l++tl⟩) (Go.Gd.fT 0) h1 h2 (Ar rfl hr);rw[show(Hp.mk B (l++tl)).l=l++tl from rfl,h3]at this;exact wq he ho hok r0 ⟨B,l⟩ (hv ▸ U6.trans ((I0 (B:=B) (l:=L1) (l++tl) hp).trans this)) ⟨rfl,rfl⟩
theorem uI:∀{l:UL} {i:Nat} {r:Row},aC l i=some r->bg l i r=l
 |[],_,_,h=>by cases h
 |(j,s)::l,i,r,h=>by
  have h:(if i=j then some s else aC l i)=some r:=h;show(if i=j then(i,r)::l else(j,s)::bg l i r)=_;by_cases e:i=j
  ·subst e;rw[if_pos rfl]at h ⊢;cases h;rfl
  ·rw[if_neg e]at h ⊢;rw[uI h]
theorem ab.args{P:UY}{f:FuncId}{args args':UM}{l:UL}{R:AV->List U0->Prop}(hc:ab P f args' l R)(hv:∀w vs,aJ w (entry l)->bs w args vs->bs w args' vs):ab P f args l R:=fun w vs h1 h2=>hc w vs h1 (hv w vs h1 h2)
def wO{w:NW}{a b:AV}{l m:UM}{vs:UU}(h:bs w (a::l) vs)(hab:∀v,ax w a v->ax w b v)(hlm:∀us,bs w l us->bs w m us):bs w (b::m) vs:=by
 obtain⟨h1,h2⟩:=h;have ht:=hlm (vs.toList.tail.toArray) ⟨by simp at h1 ⊢;omega,fun i x v hx hv=>h2 (i+1) x v (by simpa using hx) (by simpa using hv)⟩;refine⟨?_,fun i x v hx hv=>?_⟩
 ·have:=ht.1;simp at h1 this ⊢;omega
 ·cases i with
  |zero=>simp at hx;subst hx;exact hab v (h2 0 a v rfl hv)
  |succ i=>exact ht.2 i x v (by simpa using hx) (by simpa using hv)
def HC{w:NW}(sz:Nat)(d:UM):∀v,ax w (.raw (.slice none 0 0)) v->ax w (.sl false sz [] d) v:=fun v h=>by have:=df h;subst this;exact .gz _ _ _ _ (fun e=>by cases e)
def Qc{args:UM}(hv:bt (fun _=>true) H args args'):∀w vs,aJ w H->bs w args vs->bs (w.cU fun _=>true) args' vs:=fun w vs h1 h2=>by
 obtain⟨Wk,hg⟩:=hv.get;refine⟨by rw[<-Wk];exact h2.1,fun i c v hc hv=>?_⟩;have hi:i<args.length:=by rw[Wk];exact(List.getElem?_eq_some_iff.1 hc).1
 exact(hg i args[i] c (List.getElem?_eq_getElem hi) hc).sound h1 (h2.2 i _ v (List.getElem?_eq_getElem hi) hv)
def EQ{w:NW}{i m sz o n:Nat}{t:US}{css:UK}{d:UM}(hw:aJ w H)(hi:H.get i=some (.aG t sz css))(hm:m=css.length)(hn:o+n<=m)(h0:0<sz)(hq:QL eJ css){v:Value}(h:ax w (.rv i m sz o n) v):ax (w.cU fun _=>true) (.sl false sz ((css.drop o).take n) d) v:=by
 subst hm;have O':((css.drop o).take n).length=n:=by rw[List.length_take,List.length_drop];omega
 cases h with
 |jx _ _ _ _ c A=> have:(css.drop o).take 0=[]:=jE;rw[this];exact .gz _ _ _ _ (fun h=>by cases h)
 |rv _ _ _ _ _ b t' c Vd U6=>
  by_cases YF:n=0
  ·subst YF;have:(css.drop o).take 0=[]:=jE;rw[this];exact .gz _ _ _ _ (fun h=>by cases h)
  ·have hok:=(hw.rows i _ hi).1;have:=ax.sl (w:=w.cU fun _=>true) (d:=d) false sz ((css.drop o).take n) ⟨b,o*sz,none⟩ c (fun k=>(w.cell? ⟨b,o*sz+k,none⟩).getD undef) jB jB (fun h=>by cases h) (fun cs VV=>hok.2 cs (List.mem_of_mem_drop (List.mem_of_mem_take VV))) (hw.lt Vd) (fun h=>h.2 i _ t' sz rfl Vd) (fun k j hk hj=>by
    rw[O']at hk;obtain⟨_,_,_,v,h1,h2⟩:=sF hw hi Vd (k:=o+k) (j:=j) jB hj;show w.cell? _=_;rw[ju];have e:o*sz+(k*sz+j)=(o+k)*sz+j:=by rw[Nat.add_mul];omega
    rw[e,h1];rfl) (fun k j u hk hu=>by
    rw[O']at hk;have e0:((css.drop o).take n).getD k []=css.getD (o+k) []:=by rw[List.getD_eq_getElem?_getD,List.getElem?_take,if_pos hk,List.getElem?_drop,List.getD_eq_getElem?_getD]
    rw[e0]at hu;have VI:css.getD (o+k) []∈css:=by rw[List.getD_eq_getElem?_getD,List.getElem?_eq_getElem jB];exact List.getElem_mem _
    have hj:j<sz:=by have:=(List.getElem?_eq_some_iff.1 hu).1;rwa [hok.2 _ VI]at this
    obtain⟨_,_,_,v,h1,h2⟩:=sF hw hi Vd (k:=o+k) (j:=j) jB hj;have e:o*sz+(k*sz+j)=(o+k)*sz+j:=by rw[Nat.add_mul];omega
    rw[e,h1];exact((h2 u hu).aY (pN w fun _=>true) (ql (fun _ h=>by cases h) _ (lz (hq _ VI) hu))).lh (lz (hq _ VI) hu))
   rw[O']at this;exact this
def AO{args:UM}{K:UJ}{i sz:Nat}{t:US}{α:Type}[Inhabited α]{enc:α->UM}[he:bK enc sz]{xs:List α}(Wb:∀x,k9 (enc x)=true)(hi:H.get i=none)
  (hc:ab P f args' [] fun r l=>r=.rs i xs.length sz xs.length/\l=[(i,.aG t sz (xs.map enc))]) (hv:∀w vs,aJ w H->bs w args vs->bs (w.cU fun _=>true) args' vs) (k:K (aM enc sz xs) H):dm P f args H K:=fun w vs h1 h2=>by
 have YC:=Tu hc hv (fun r l ⟨e1,e2⟩=>by
  subst e1 e2;refine⟨fun j hj=>?_,rfl,fun j row hj=>?_⟩
  ·by_cases e:j=i
   ·subst e;exact hi
   ·exact(hj (by simp only[aC];rw[if_neg e])).elim
  ·simp only[aC]at hj;split at hj
   ·cases hj;refine SF fun x hx=>?_
    obtain⟨y,_,rfl⟩:=List.mem_map.1 hx;exact Wb y
   ·cases hj) h1 h2
 refine YC.mono ?_;rintro e W ⟨v,r,l,w',rfl,rfl,⟨rfl,rfl⟩,g1,g2,g3,g4⟩;have g1:aJ w' ⟨H.B,(i,.aG t sz (xs.map enc))::H.l⟩:=g1;have ha8:∀m,w.nm i m=none:=fun m=>h1.none hi m
 have hgi:(Hp.mk H.B ((i,.aG t sz (xs.map enc))::H.l)).get i=some (.aG t sz (xs.map enc)):=by show(if i=i then _ else _)=_;rw[if_pos rfl]
 have hgj:∀j,j≠i->(Hp.mk H.B ((i,.aG t sz (xs.map enc))::H.l)).get j=H.get j:=fun j hj=>by show(if j=i then _ else _)=_;rw[if_neg hj];rfl
 have ha9:=(cY.row (D:=fun j=>decide (j=i)) (dd:=enc default) (enc:=enc) xs jE hgi rfl).sound g1 g2;have k0:=pN w' (fun j=>decide (j=i));have ex:Ext w H (w'.cU fun j=>decide (j=i)) H:={
  size:=g3.size
  free:=fun b hb hO=>⟨(g3.free b hb hO).1,fun h=>(g3.free b hb hO).2 h.1⟩
  names:=fun j m z _ hz=>by
   have WU:j≠i:=fun e=>by subst e;rw[ha8]at hz;cases hz
   show(if decide (j=i)=true then none else w'.nm j m)=some z;rw[if_neg (by simpa using WU)];exact g3.names j m z rfl hz
  os:=g3.os,tape:=g3.tape,output:=g3.output
  rest:=fun b hb hO U8=>by
   obtain⟨a1,a2,a3⟩:=g3.rest b hb hO U8;refine⟨a1,⟨a2,fun j m t' s _=>a3 j m t' s⟩,fun j m t' s h=>?_⟩;have h:(if decide (j=i)=true then none else w'.nm j m)=some (.at b t' s):=h;split at h
   ·cases h
   ·exact a3 _ _ _ _ h
  base:=rfl }
 refine⟨v,_,H,w'.cU fun j=>decide (j=i),rfl,rfl,k,{ cd:=g1.cd.aY k0,rows:=fun j s hj=>?_,di:=fun j m z hz=>?_,inj:=fun j m j' m' b t1 s1 t2 s2 a1 a2=>?_,own:=fun j m b t1 s1 h=>?_,fin:=fun b hb=>g1.fin b hb.1 },ha9,ex⟩
 ·have WU:j≠i:=fun e=>by subst e;rw[hi]at hj;cases hj
  obtain⟨e1,z,e2,e3⟩:=h1.rows j s hj;refine⟨e1,z,ex.names _ _ _ rfl e2,e3.ext ex fun b t1 s1 ez=>?_⟩;subst ez;exact g4 b (h1.lt e2)
 ·have hz:(if decide (j=i)=true then none else w'.nm j m)=some z:=hz;split at hz
  ·cases hz
  ·rename_i e;obtain⟨r',c1,c2⟩:=g1.di j m z hz;exact⟨r',by rw[<-hgj j (by simpa using e)];exact c1,c2⟩
 ·have a1:(if decide (j=i)=true then none else w'.nm j m)=_:=a1;have a2:(if decide (j'=i)=true then none else w'.nm j' m')=_:=a2;split at a1
  ·cases a1
  ·split at a2
   ·cases a2
   ·exact g1.inj _ _ _ _ _ _ _ _ _ a1 a2
 ·have h:(if decide (j=i)=true then none else w'.nm j m)=_:=h;split at h
  ·cases h
  ·rename_i e;refine⟨g1.own _ _ _ _ _ h,fun j' m' t' s' hd h'=>e ?_⟩;rw[g1.inj _ _ _ _ _ _ _ _ _ h h'];exact hd
@[go_sem] def j2r(a k n:Nat)(h:n<1000):(n == hn a k)=false:=by have:=iK a k;simp;omega
@[go_sem] def jyh(a b k j:Nat)(ha:a<32)(hb:b<32)(h:a≠b):(hn a k == hn b j)=false:=by simp;exact dj ha hb h
@[go_sem] def j0f(a k:Nat):(hn a k == hn a k)=true:=jE
@[go_sem] def OH(a k:Nat):hn a k+16=hn (a+16) k:=by unfold hn;omega
theorem Gt{A C D:UQ}(hA:A.isEmpty=false){E:UQ}{l:List Oper}{ps:List UQ}:∀(rest done:UQ),pC (A,C,D) E l ps done rest=pC ([0],C,D) E l ps done rest
 |[],done=>rfl
 |i::rest,done=>by
  have e1:kV (A,C,D)=kV ([0],C,D):=rfl;have e2:nA (A,C,D) (dP l i)=nA ([0],C,D) (dP l i):=by have hA':(A,C,D).1.isEmpty=([0],C,D).1.isEmpty:=hA;unfold nA;rw[hA'];rfl
  unfold pC;rw[Gt hA rest,e1,e2]
def Ll{A C D:UQ}(hA:A.isEmpty=false){E:UQ}{l:List Oper}{ord:UQ}:p9 (A,C,D) E l ord=p9 ([0],C,D) E l ord:=by unfold p9;rw[Gt hA];rfl
def qq{Q:Exit->UI}(id:Nat){l:List Oper}{q:Prop}(A C D E ord:UQ)(hm:P.follows .mixedOrders=true)(h:q)(hA:A.isEmpty=false:=by rfl)(hok:p9 ([0],C,D) E l ord=true:=by decide +kernel)(hE:qW P l E:=by simp only[qW,dP,List.getD_cons_zero,List.getD_cons_succ,go_sem])(e:fJ (A,C,D) P l.toArray (Q .normal) (ord.map (dP l)) F H=q:=by(simp only[ba,List.map_cons,List.map_nil,dP,List.getD_cons_zero,List.getD_cons_succ];exact fm)):dH P (.region id l.toArray true) Q F H:=Bu (A,C,D) E ord hm (by rw[Ll hA];exact hok) hE (e ▸ h)
def A3(A:AS)(e l:UL):Prop:=∀j,A.1.contains j=false->aC e j≠none->aC l j=aC e j\/(A.1.contains (j+16)=true/\∃t c c' cs,aC e j=some (.var t (c::cs))/\aC l j=some (.var t (c'::cs)))
variable{l:UL}
def oc{A:AS}{args:UM}{e:UL}{r0:AV}{g:UJ}{d:iy fun r H'=>eQ A ⟨B,tie e tl⟩ H'/\g r H'}{q:Prop}(hd:cW P f args e r0 l)(hx:A3 A e l)(k:q)(h0:aS P f=true:=by exact dD)(hl:nW 0 tl:=by(repeat' first|exact dK|(refine dq (by decide) ?_)|fail))(e0:g r0 ⟨B,tie l tl⟩=q:=by exact fm) :
  fh P (.raw (.func (.func f) #[] #[])) args ⟨B,tie e tl⟩ (AP (fun r H'=>eQ A ⟨B,tie e tl⟩ H'/\g r H') d):=by
 refine cG (K:=AP (fun r H'=>eQ A ⟨B,tie e tl⟩ H'/\g r H') d) hd.c rfl hd.e1 hd.e2 hd.aY hl hd.a h0 ⟨fun i r hi hr=>?_,e0 ▸ k⟩;have hr:aC (tie e tl) i=some r:=hr;show aC (tie l tl) i=some r\/_/\∃t c c' cs,r=.var t (c::cs)/\aC (tie l tl) i=some (.var t (c'::cs));rw[kf]at hr ⊢;cases he:aC e i with
 |some s=>
  rw[he]at hr;cases hr;rcases hx i hi (by rw[he];simp)with h|⟨h1,t,c,c',cs,h2,h3⟩
  ·left;rw[h,he];rfl
  ·right
   rw[he]at h2;cases h2;exact⟨h1,t,c,c',cs,rfl,by rw[h3];rfl⟩
 |none=>
  rw[he]at hr;have hr:aC tl i=some r:=hr;have:=hl i r hr;left
  rw[hd.e2.low i this.2];exact hr
def Nr{n:Nat}{S:Type}{W:List (Nat×Nat)}{ok:S->Prop}{J:S->List (Nat×AV)}{G:S->Hp}{μ:S->Nat}{F₀:UM}{e0:UL}(hB:ids e0=B)(k1:fO 0 e0)(k2:fO 0 l)(hl:nW 0 tl)(s:S)(h1:ok s)(h2:μ s<n)(hG:(⟨B,tie l []⟩:Hp)=G s)(h3:bt (fT 0) ⟨B,tie l tl⟩ F (mO (J s) (nE W F₀))):Next n W ok J G μ F₀ F ⟨B,tie l tl⟩:=by obtain⟨a1,a2,a3⟩:=k1.free k2 hB hl;refine Ho (fT 0) s h1 h2 a1 a2 ?_ h3;rw[<-hG];show(Hp.mk B (fB (fT 0) (l++tl)))=_;rw[a3,<-EW]
end Go.Gd
namespace Go.Proofs.YtijdhbokcdpklaaGreatDoor
open Go Go.Gd
structure DV(R:RS):Prop where
 sl:∀f∈R.gr,si f.slots
 hp:tU R.heap
def Mv(s:gF):Prop:=DV (RS.of s)
structure Good(p:af)(n:Nat)(s:gF):Prop where
 inv:xL p s
 bE:Mv s
 t0:0<=s.time
 t1:s.time<=n
end Go.Proofs.YtijdhbokcdpklaaGreatDoor
/- Lemmas. No conditions. -/
import Derived.Test.YtijdhbokcdpklaaGreatDoorSo9
set_option linter.all false
set_option maxHeartbeats 4000000
set_option maxRecDepth 10000
namespace Go.Gd
open Go
theorem D8:∀(l:UD),iL (fun _=>true) l
 |[]=>trivial
 |_::l=>⟨.inl rfl,D8 l⟩
theorem Gx:∀(l:UD),fy (fun _=>true) l=[]
 |[]=>rfl
 |x::l=>Gx l
variable{P:UP}{f:FuncId}{r0:AV}
def aC.xU{args:UE}{r1:AV}{l0:UD}(hc:ab P f args [] fun r l=>r=r0/\l=l0)(hv:cY (fun _=>true) ⟨[],l0⟩ r0 r1):aC P f args r1:=fun w vs h1 h2=>by refine(hc w vs h1 h2).mono ?_;rintro e W ⟨v,r,⟨B,l⟩,w',rfl,e1,⟨rfl,rfl⟩,g1,g2,g3⟩;have hB:B=[]:=g3.base;subst hB;obtain⟨w2,k1,k2,k3,k4⟩:=iD.free (fun _=>true) rfl (D8 _) hv w' v g1 g2;refine⟨v,r1,_,w2,k1.symm,e1,⟨rfl,Gx _⟩,k2,k3,g3.trans k4⟩
variable{B:UH}{l:UD}{K:UB}
def MG{args:UE}{l':UD}(h:∀i,aA l i=aA l' i)(k:dm P f args ⟨B,l'⟩ K):dm P f args ⟨B,l⟩ K:=fun w vs h1 h2=>by refine(k w vs (BM h h1) h2).mono ?_;rintro e W ⟨v,r,H',w',e0,e1,k,g1,g2,g3⟩;exact⟨v,r,H',w',e0,e1,k,g1,g2,{ g3.toExtQ with base:=g3.base }⟩
structure fQ(lo:Nat)(e:List (Nat×Row)):Prop where
 no:∀i,lo<=i->i<1000->aA e i=none
 nodup:(ids e).Nodup
 closed:∀i r,aA e i=some r->aY (fun i=>(ids e).contains i) r.cells=true
def oa(lo:Nat)(tl:UD):Prop:=∀i r,aA tl i=some r->lo<=i/\i<1000
variable{lo:Nat}{tl:UD}
def fQ.bv{e:UD}(h:fQ lo e)(hl:oa lo tl):Lays (fun tl=>e++tl) tl:=⟨fun i=>by rw[uT,List.append_nil],fun i r hi=>by show aA (e++[]) i=none;rw[List.append_nil];exact h.no i (hl i r hi).1 (hl i r hi).2⟩
variable{e':UD}
def cG{args:UE}{H:Hp}{e:UD}(hc:ab P f args e fun r l'=>r=r0/\l'=e')(hH:H=⟨B,e++tl⟩)
  (h1:fQ lo e) (h2:fQ lo e') (hs:∀i,aA e i≠none->aA e' i≠none) (hl:oa lo tl) (ha:aY (fun i=>(ids e).contains i) args=true) (h0:aS P f=true) (k:K r0 ⟨B,e'++tl⟩):fg P (.raw (.func (.func f) #[] #[])) args H K:=by
 subst hH;refine nZ h0 (C9 (E:=fun tl=>e++tl) (E':=fun tl=>e'++tl) ?_ (h1.bv hl) (h2.bv hl) ?_ ?_ ?_ k ?_)
 ·simp only[List.append_nil];exact hc
 ·simp only[List.append_nil];exact h2.nodup
 ·simp only[List.append_nil];exact ha
 ·simp only[List.append_nil];exact h1.closed
 ·simp only[List.append_nil];exact hs
def fT(lo:Nat):UO:=fun i=>decide (lo<=i/\i<1000)
theorem fQ.fT{lo:Nat}{e:UD}(h:fQ lo e){i:Nat}(hi:i∈ids e):fT lo i=false:=by
 unfold Go.Gd.fT;refine decide_eq_false fun h'=>?_
 exact(lJ _ _).1 hi (h.no i h'.1 h'.2)
def fQ.free{e0:UD}(k1:fQ lo e0)(k2:fQ lo e')(hB:ids e0=B)(hl:oa lo tl) :
  B.all (gZ (Go.Gd.fT lo))=true/\iL (Go.Gd.fT lo) (e'++tl)/\fy (Go.Gd.fT lo) (e'++tl)=e':=by
 have htl:∀i∈ids tl,Go.Gd.fT lo i=true:=fun i hi=>by obtain⟨r,hr⟩:=Option.ne_none_iff_exists'.1 ((lJ _ _).1 hi);exact decide_eq_true (hl i r hr)
 refine⟨?_,?_,?_⟩
 ·rw[List.all_eq_true];intro i hi;rw[<-hB]at hi;unfold gZ;rw[k1.fT hi];rfl
 ·refine G9 _ _ _ (FZ _ _ k2.nodup fun i r hi=>fV (fun j hj=>?_) _ (k2.closed i r hi)) (GM _ _ htl);unfold gZ;rw[k2.fT (List.contains_iff_mem.1 hj)];rfl
 ·rw[HF,Ja _ _ (fun i hi=>k2.fT hi),DM _ _ htl,List.append_nil]
def hn(a k:Nat):Nat:=1000+(32*k+a)
def iA(a k:Nat):1000<=hn a k:=Nat.le_add_right _ _
def yc{a b k j:Nat}(ha:a<32)(hb:b<32)(h:hn a k=hn b j):a=b/\k=j:=by unfold hn at h;omega
@[go_sem] def qbu(a k n:Nat)(h:n<1000):(hn a k=n)=False:=by have:=iA a k;simp;omega
@[go_sem] def qbD(a k n:Nat)(h:n<1000):(n=hn a k)=False:=by have:=iA a k;simp;omega
@[go_sem] def j6F(a b k j:Nat)(ha:a<32)(hb:b<32)(h:a≠b):(hn a k=hn b j)=False:=by simp;intro e;exact h (yc ha hb e).1
def dj{a b k j:Nat}(ha:a<32)(hb:b<32)(h:a≠b):hn a k≠hn b j:=fun e=>h (yc ha hb e).1
@[go_sem] def j0n(l:UD)(a k:Nat)(r:Row)(i:Nat):aA (bj l (hn a k) r) i=if i=hn a k then some r else aA l i:=bP _ _ _ _
def oj:∀(l:UD) (i j:Nat) (r:Row),j∈ids (bj l i r)<->j=i\/j∈ids l:=fun l i j r=>by rw[lJ,lJ,bP];by_cases e:j=i<;>simp[e]
theorem CC:∀(l:UD) (i:Nat) (r:Row),(ids l).Nodup->(ids (bj l i r)).Nodup
 |[],i,r,_=>by simp[bj,ids]
 |(j,s)::l,i,r,h=>by
  have hc:=List.nodup_cons.1 h;unfold bj;split
  ·rename_i e;subst e;exact h
  ·rename_i e;refine List.nodup_cons.2 ⟨fun hm=>?_,CC l i r hc.2⟩;rcases(oj l i j r).1 hm with h1|h1
   ·exact e h1.symm
   ·exact hc.1 h1
variable{i:Nat}
def fQ.put{e:UD}{r:Row}(h:fQ lo e)(hi:i<lo\/1000<=i)(hr:aY (fun j=>decide (j=i) || (ids e).contains j) r.cells=true):fQ lo (bj e i r):=by
 have hm:∀j,(decide (j=i) || (ids e).contains j)=true->(ids (bj e i r)).contains j=true:=fun j hj=>by
  rw[List.contains_iff_mem,oj];rcases Bool.or_eq_true _ _ ▸ hj with h1|h1
  ·exact .inl (of_decide_eq_true h1)
  ·exact .inr (List.contains_iff_mem.1 h1)
 refine⟨fun j h1 h2=>?_,CC _ _ _ h.nodup,fun j s hs=>?_⟩
 ·rw[bP,jN];exact h.no j h1 h2
 ·rw[bP]at hs;split at hs
  ·cases hs;exact fV hm _ hr
  ·exact fV (fun k hk=>hm k (by rw[Bool.or_eq_true];exact .inr hk)) _ (h.closed j s hs)
structure Up(X:List Nat)(e l:List (Nat×Row)):Prop where
 aX:∀i,aA e i≠none->aA l i≠none
 new:∀i,aA l i≠none->aA e i≠none\/i ∉ X
def Up.refl(X:UH)(e:UD):Up X e e:=⟨fun _ h=>h,fun _ h=>.inl h⟩
def Up.trans{X:UH}{a b c:UD}(h:Up X a b)(k:Up X b c):Up X a c:=⟨fun i hi=>k.aX i (h.aX i hi),fun i hi=>(k.new i hi).elim (h.new i) .inr⟩
def Up.put{X:UH}{e:UD}(r:Row)(h:aA e i≠none\/i ∉ X):Up X e (bj e i r):=⟨fun j hj=>by
 rw[bP];split
 ·simp
 ·exact hj,fun j hj=>by
 rw[bP]at hj;split at hj
 ·rename_i e';subst e';exact h
 ·exact .inl hj⟩
def rR(X:UH):Nat:=1+X.foldl max 0
theorem IK:∀(X:UH) (a:Nat),a<=X.foldl max a/\∀x∈X,x<=X.foldl max a
 |[],a=>⟨Nat.le_refl _,by simp⟩
 |y::X,a=>by
  obtain⟨h1,h2⟩:=IK X (max a y);refine⟨Nat.le_trans (Nat.le_max_left _ _) h1,fun x hx=>?_⟩;rcases List.mem_cons.1 hx with rfl|hx
  ·exact Nat.le_trans (Nat.le_max_right _ _) h1
  ·exact h2 x hx
def OQ(X:UH){x:Nat}(h:x∈X):x<rR X:=by have:=(IK X 0).2 x h;unfold rR;omega
def Dy(X:UH)(a d:Nat):hn a (rR X+d) ∉ X:=fun h=>by have:=OQ X h;unfold hn at this;omega
def yj(e:UD)(X:UH)(a d:Nat):aA e (hn a (rR (ids e++X)+d))=none:=by
 cases h:aA e (hn a (rR (ids e++X)+d))with
 |none=>rfl
 |some r=>exact(Dy (ids e++X) a d (List.mem_append_left _ ((lJ _ _).2 (by rw[h];simp)))).elim
def zX(e:UD)(X:UH)(a d:Nat):hn a (rR (ids e++X)+d) ∉ X:=fun h=>Dy (ids e++X) a d (List.mem_append_right _ h)
def ab.more{args:UE}{s e:UD}{R:AV->List UR->Prop}(hc:ab P f args s R)(hs:∀i r,aA s i=some r->aA e i=some r)(ha:aY (fun i=>(ids s).contains i) args=true)(Uo:∀i r,aA s i=some r->aY (fun i=>(ids s).contains i) r.cells=true)
  (hn:∀r l,R r l->(ids l).Nodup/\∀i,aA l i≠none->aA s i≠none\/aA e i=none):ab P f args e fun r l=>∃l0,R r l0/\l=gF e l0:=fun w vs hw hv=>by
 refine(y0 (H:=entry e) (K:=fun r H'=>∃l0,R r l0/\H'=⟨ids e,gF e l0⟩) hc (fun i r hi=>hs i r hi) ha Uo (fun r l' hR=>⟨fun i x hx=>?_,(hn r l' hR).1,l',hR,rfl⟩) hw hv).mono ?_
 ·rcases(hn r l' hR).2 i (by rw[hx];simp)with h|h
  ·obtain⟨y,hy⟩:=Option.ne_none_iff_exists'.1 h;exact .inl (tn hy)
  ·exact .inr h
 ·rintro e' W ⟨v,r,H',w',rfl,rfl,⟨l0,hR,rfl⟩,g1,g2,g3⟩;exact⟨v,r,_,w',rfl,rfl,⟨l0,hR,rfl⟩,g1,g2,g3.pB⟩
def tie(e tl:UD):UD:=e++tl
def Fu(e:UD):e=tie e []:=(List.append_nil e).symm
@[go_sem] def kg(e tl:UD)(i:Nat):aA (tie e tl) i=(aA e i).or (aA tl i):=uT _ _ _
theorem FG:∀(e tl:UD) (i:Nat) (r:Row),bj (e++tl) i r=if(aA e i).isSome=true then bj e i r++tl else e++bj tl i r
 |[],tl,i,r=>by simp[aA,bj]
 |(j,s)::e,tl,i,r=>by
  show(if i=j then(i,r)::(e++tl)else(j,s)::bj (e++tl) i r)=if((if i=j then some s else aA e i):Option Row).isSome=true then(if i=j then(i,r)::e else(j,s)::bj e i r)++tl else(j,s)::(e++bj tl i r)
  by_cases h:i=j
  ·subst h;simp
  ·simp only[if_neg h];rw[FG e tl i r];split<;>rfl
@[go_sem] def j6M(e tl:UD)(i:Nat)(r:Row):bj (tie e tl) i r=if(aA e i).isSome=true then tie (bj e i r) tl else tie e (bj tl i r):=FG _ _ _ _
attribute [go_sem] Option.some_or Option.none_or Option.isSome_some Option.isSome_none
def fQ.low{e:UD}(h:fQ 0 e):∀i,i<1000->aA e i=none:=fun i hi=>h.no i (Nat.zero_le _) hi
def dK:oa 0 []:=fun i r h=>by cases h
def dp{T:UD}{r:Row}(h:i<1000)(hT:oa 0 T):oa 0 ((i,r)::T):=fun j s hs=>by
 simp only[aA]at hs;split at hs
 ·omega
 ·exact hT j s hs
structure cW(P:Program)(f:FuncId)(args:List AV)(e:List (Nat×Row))(r0:AV)(l:List (Nat×Row)):Prop where
 c:ab P f args e fun r l'=>r=r0/\l'=l
 e1:fQ 0 e
 e2:fQ 0 l
 aX:∀i,aA e i≠none->aA l i≠none
 a:aY (fun i=>(ids e).contains i) args=true
def cT{args:UE}{e:UD}{q:Prop}(hd:cW P f args e r0 l)(k:q)(h0:aS P f=true:=by exact dD)(hl:oa 0 tl:=by(repeat' first|exact dK|(refine dp (by decide) ?_)|fail))(e0:K r0 ⟨B,tie l tl⟩=q:=by exact fq):fg P (.raw (.func (.func f) #[] #[])) args ⟨B,tie e tl⟩ K:=
 cG hd.c rfl hd.e1 hd.e2 hd.aX hl hd.a h0 (e0 ▸ k)
@[go_sem] def GS(a k:Nat):fT 0 (hn a k)=false:=decide_eq_false (by have:=iA a k;omega)
def eD{fn:Func}{F:UE}{L:UD}{out:UE}{ex:Exit}{e:UD}(hB:ids e=B)(k1:fQ 0 e)(k2:fQ 0 l)(hp:∀i,aA L i=aA (tie l tl) i)(hl:oa 0 tl)(rs:List ResultVar)
  (hr:r0.all (gZ (fT 0))=true:=by first|rfl|(simp only[go_sem,AV.all,aY,gZ,GS];done))
  (W0:fn.results.toList=rs:=by rfl) (he:ex=.normal\/ex=.ret:=by first|exact Or.inr rfl|exact Or.inl rfl|fail) (ho:jU P ⟨B,L⟩ F rs=some out:=by first|rfl|(simp(disch:=first|omega|fail) only[go_sem,↓reduceIte,Nat.reduceEqDiff,Nat.reduceLeDiff,Nat.reduceSub,Nat.reduceAdd];rfl)) (hok:kG P ⟨B,L⟩ F rs:=by first|exact jI|(simp(disch:=first|omega|fail) only[go_sem,↓reduceIte,Nat.reduceEqDiff,Nat.reduceLeDiff,Nat.reduceSub,Nat.reduceAdd])) (hv:kz out=r0:=by first|rfl|(simp only[go_sem];done)):lD P fn (fun r l'=>r=r0/\l'=l) ex F ⟨B,L⟩:=by
 subst W0;obtain⟨h1,h2,h3⟩:=k1.free k2 hB hl;have:=iD.free (r:=kz out) (r':=r0) (H:=⟨B,l++tl⟩) (Go.Gd.fT 0) h1 h2 (zz hv (hv ▸ hr));rw[show(Hp.mk B (l++tl)).l=l++tl from rfl,h3]at this;exact uO he ho hok r0 ⟨B,l⟩ ((Ia (B:=B) (l:=L) (l++tl) hp).trans this) ⟨rfl,rfl⟩
mutual
def AV.ee:AV->Bool
 |.raw _=>true
 |.any=>true
 |.agg cs=>k8 cs
 |.aQ cs=>k8 cs
 |.gd _ v=>v.ee
 |.pt _ _ _ _=>true
 |.rs _ _ _ _=>true
 |.rc _ _ _ _=>true
 |.rv _ _ _ _ _=>true
 |.mr _=>true
 |_=>false
def k8:UE->Bool
 |[]=>true
 |a::l=>a.ee && k8 l
end
theorem yg:∀{l:UE},k8 l=true->∀{i:Nat} {a:AV},l[i]?=some a->a.ee=true
 |[],_,i,a,h=>by simp at h
 |x::l,hl,i,a,h=>by
  simp only[k8,Bool.and_eq_true]at hl;cases i with
  |zero=>simp at h;subst h;exact hl.1
  |succ i=>exact yg hl.2 (by simpa using h)
theorem He:∀(l m:UE),k8 (l++m)=(k8 l && k8 m)
 |[],m=>by simp[k8]
 |a::l,m=>by simp only[List.cons_append,k8,He l m,Bool.and_assoc]
def Tx{l:UC}(h:∀x∈l,k8 x=true):k8 l.flatten=true:=by
 induction l with
 |nil=>rfl
 |cons x l ih=>rw[List.flatten_cons,He,h x jE,ih fun y hy=>h y (by simp[hy])];rfl
theorem ax.ee{w:NW}{a:AV}{v:Value}(h:ax w a v):∀{w':NW},(∀i m z,w.nm i m=some z->w'.nm i m=some z)->a.ee=true->ax w' a v:=by
 induction h with
 |raw v=>intro w' _ _;exact .raw v
 |any v=>intro w' _ _;exact .any v
 |agg cs vs hl _ ih=>intro w' k ha;simp only[AV.ee]at ha;exact .agg cs vs hl fun i a v h1 h2=>ih i a v h1 h2 k (yg ha h1)
 |aQ cs vs hl _ ih=>intro w' k ha;simp only[AV.ee]at ha;exact .aQ cs vs hl fun i a v h1 h2=>ih i a v h1 h2 k (yg ha h1)
 |gd p a v _ hu ih=>intro w' k ha;exact .gd p a v (fun hp=>ih hp k (by simpa only[AV.ee]using ha)) hu
 |pt i m o j b t s h=>intro w' k _;exact .pt i m o j b t s (k _ _ _ h)
 |iJ i m sz A h=>intro w' k _;exact .iJ i m sz A (k _ _ _ h)
 |rs i m sz n b t c h hc hn hs=>intro w' k _;exact .rs i m sz n b t c (k _ _ _ h) hc hn hs
 |rc i m sz n b t h hc hn hs=>intro w' k _;exact .rc i m sz n b t (k _ _ _ h) hc hn hs
 |jn i m sz o c A=>intro w' _ _;exact .jn i m sz o c A
 |rv i m sz o n b t c h hn=>intro w' k _;exact .rv i m sz o n b t c (k _ _ _ h) hn
 |mr i b t s h=>intro w' k _;exact .mr i b t s (k _ _ _ h)
 |gG=>intro w' _ ha;simp only[AV.ee]at ha;cases ha
 |sl=>intro w' _ ha;simp only[AV.ee]at ha;cases ha
 |ip=>intro w' _ ha;simp only[AV.ee]at ha;cases ha
 |dW=>intro w' _ ha;simp only[AV.ee]at ha;cases ha
 |bd=>intro w' _ ha;simp only[AV.ee]at ha;cases ha
 |iK=>intro w' _ ha;simp only[AV.ee]at ha;cases ha
 |mv=>intro w' _ ha;simp only[AV.ee]at ha;cases ha
variable{P:UP}{f:FuncId}{args':UE}{H:Hp}
def NU{args:UE}{R:AV->List UR->Prop}(hc:ab P f args' [] R)(hv:∀w vs,aJ w H->bs w args vs->bs (w.cS fun _=>true) args' vs)
  (hk:∀r l,R r l->(∀i,aA l i≠none->H.get i=none)/\r.ee=true/\(∀i row,aA l i=some row->k8 row.cells=true)) {w:NW} {vs:UL} (h1:aJ w H) (h2:bs w args vs) :
  Calls P f vs w.toWorld fun e W=>∃v r l w',W=NW.toWorld w'/\e=.returned v/\R r l/\aJ w' ⟨H.B,l++H.l⟩/\ax w' r v/\Ext w H w' ⟨H.B,l++H.l⟩/\∀b,b<w.heap.size->w'.heap[b]?=w.heap[b]?:=by
 have hw1:aJ (w.cS fun _=>true) (entry []):={
  rows:=fun i r h=>by cases h
  di:=fun i m z h=>by cases h
  inj:=fun i m j n b t s t' s' h _=>by cases h
  own:=fun i m b t s h=>by cases h
  fin:=fun b hb=>h1.fin b hb.1
  cd:=h1.cd.aX (pr w fun _=>true) }
 refine(hc (w.cS fun _=>true) vs hw1 (hv w vs h1 h2)).mono ?_;rintro e W ⟨v,r,H',w',rfl,rfl,hR,g1,g2,g3⟩;obtain⟨k1,k2,k3⟩:=hk r H'.l hR;have WS:∀b,b<w.heap.size->w'.heap[b]?=w.heap[b]?:=fun b hb=>by
  classical
  by_cases hO:(w.cS fun _=>true).O b
  ·exact(g3.rest b hb hO fun i m t s h=>by cases h).1
  ·exact(g3.free b hb hO).1
 have Vu:∀i m z,w.nm i m=some z->w'.nm i m=none:=fun i m z hz=>by
  obtain⟨r',hr',_⟩:=h1.di i m z hz;cases e:w'.nm i m with
  |none=>rfl
  |some z'=> obtain⟨r2,X6,_⟩:=g1.di i m z' e;have:=k1 i (by show aA H'.l i≠none;have X6:aA H'.l i=some r2:=X6;rw[X6];simp);rw[this]at hr';cases hr'
 have Zt:∀i m b t s,w.nm i m=some (.at b t s)->¬w'.O b:=fun i m b t s hz=>by refine(g3.free b (h1.lt hz) fun hO=>hO.2 i m t s rfl hz).2
 let w2:NW:={ w' with O:=fun b=>w.O b\/w'.O b,nm:=fun i m=>(w'.nm i m).or (w.nm i m) }
 have Vn:∀i m,w2.nm i m=(w'.nm i m).or (w.nm i m):=fun _ _=>rfl
 have up:∀i m z,w'.nm i m=some z->w2.nm i m=some z:=fun i m z h=>by rw[Vn,h];rfl
 have YI:Keep rG w w2:=⟨g3.size,fun b hb hO=>⟨WS b hb,fun h=>h.elim hO (g3.free b hb fun h=>hO h.1).2⟩,fun i m z _ h=>by rw[Vn,Vu i m z h];exact h⟩;have ex:Ext w H w2 ⟨H.B,H'.l++H.l⟩:={ YI with
  os:=g3.os,tape:=g3.tape,output:=g3.output
  rest:=fun b hb hO Ur=>⟨WS b hb,.inl hO,fun i m t s h=>by
   rw[Vn]at h;cases e:w'.nm i m with
   |none=>rw[e]at h;exact Ur _ _ _ _ h
   |some z=> rw[e]at h;cases h;exact(g3.rest b hb ⟨hO,fun i m t s _=>Ur i m t s⟩ fun i m t s h=>by cases h).2.2 i m t s e⟩
  base:=rfl }
 have gE:∀i,(Hp.mk H.B (H'.l++H.l)).get i=(aA H'.l i).or (H.get i):=fun i=>uT _ _ _
 refine⟨v,r,H'.l,w2,rfl,rfl,hR,{ cd:=h1.cd.aX YI,rows:=fun i s hi=>?_,di:=fun i m z hz=>?_,inj:=fun i m j n b t s t' s' a1 a2=>?_,own:=fun i m b t s h=>?_,fin:=fun b hb=>?_ },g2.ee up k2,ex,WS⟩
 ·rw[gE]at hi;cases e:aA H'.l i with
  |some x=>
   rw[e]at hi;cases hi;obtain⟨e1,z,e2,e3⟩:=g1.rows i s e;refine⟨e1,z,up _ _ _ e2,?_⟩;cases z with
   |nil=>exact e3
   |«at» b t st=> obtain⟨c1,cur,c2,c3,c4⟩:=e3;exact⟨c1,cur,c2,c3,fun j a u ha hu=>(c4 j a u ha hu).ee up (yg (k3 i s e) ha)⟩
  |none=>
   rw[e]at hi;have hi:H.get i=some s:=hi;obtain⟨e1,z,e2,e3⟩:=h1.rows i s hi;refine⟨e1,z,YI.names _ _ _ rfl e2,?_⟩;refine e3.ext ex fun b t st ez=>?_
   subst ez;exact WS b (h1.lt e2)
 ·rw[Vn]at hz;cases e:w'.nm i m with
  |some z'=> obtain⟨r',c1,c2⟩:=g1.di i m z' e;exact⟨r',by rw[gE,show aA H'.l i=some r' from c1];rfl,c2⟩
  |none=>
   rw[e]at hz;obtain⟨r',c1,c2⟩:=h1.di i m z hz;refine⟨r',?_,c2⟩;rw[gE];cases e2:aA H'.l i with
   |none=>exact c1
   |some x=>have:=k1 i (by rw[e2];simp);rw[this]at c1;cases c1
 ·rw[Vn]at a1 a2;cases e1:w'.nm i m with
  |some z1=>
   rw[e1]at a1;cases a1;cases e2:w'.nm j n with
   |some z2=>rw[e2]at a2;cases a2;exact g1.inj _ _ _ _ _ _ _ _ _ e1 e2
   |none=>rw[e2]at a2;exact(Zt _ _ _ _ _ a2 (g1.own _ _ _ _ _ e1)).elim
  |none=>
   rw[e1]at a1;cases e2:w'.nm j n with
   |some z2=>rw[e2]at a2;cases a2;exact(Zt _ _ _ _ _ a1 (g1.own _ _ _ _ _ e2)).elim
   |none=>rw[e2]at a2;exact h1.inj _ _ _ _ _ _ _ _ _ a1 a2
 ·rw[Vn]at h;cases e:w'.nm i m with
  |some z=>rw[e]at h;cases h;exact .inr (g1.own _ _ _ _ _ e)
  |none=>rw[e]at h;exact .inl (h1.own _ _ _ _ _ h)
 ·rcases hb with h|h
  ·exact Nat.lt_of_lt_of_le (h1.fin b h) g3.size
  ·exact g1.fin b h
section
variable {P:UP}{f:FuncId}{args:UE}{B:UH}{e tl:UD}{r0:AV}{q:Prop}
def eW{c:Code}{Q:Exit->UA}{F:UE}(h:dI P c Q F ⟨B,tie e []⟩):dI P c Q F ⟨B,e⟩:=by rw[Fu e];exact h
def mS{R:AV->Prop}(hd:cW P f args e r0 e)(k:q)(h0:aS P f=true:=by exact dD)(hl:oa 0 tl:=by(repeat' first|exact dK|(refine dp (by decide) ?_)|fail))(e0:R r0=q:=by exact fq) :
  ∃r,(fg P (.raw (.func (.func f) #[] #[])) args ⟨B,tie e tl⟩ fun r' H'=>r'=r/\H'=⟨B,tie e tl⟩)/\R r:=
 ⟨r0,cG (K:=fun r' H'=>r'=r0/\H'=⟨B,tie e tl⟩) hd.c rfl hd.e1 hd.e2 hd.aX hl hd.a h0 ⟨rfl,rfl⟩,e0 ▸ k⟩
end
variable{F:UE}{B:UH}{tl:UD}
def Jo{fn:Func}{L L1:UD}{out:UE}{ex:Exit}{r0:AV}{e l:UD}(hB:ids e=B)(k1:fQ 0 e)(k2:fQ 0 l)(Uq:iD r0 ⟨B,L⟩ r0 ⟨B,L1⟩)(hp:∀i,aA L1 i=aA (tie l tl) i)(hl:oa 0 tl)(rs:List ResultVar)
  (hr:r0.all (gZ (fT 0))=true:=by first|rfl|(simp only[go_sem,AV.all,aY,gZ,GS];done))
  (W0:fn.results.toList=rs:=by rfl) (he:ex=.normal\/ex=.ret:=by first|exact Or.inr rfl|exact Or.inl rfl|fail) (ho:jU P ⟨B,L⟩ F rs=some out:=by first|rfl|(simp(disch:=first|omega|fail) only[go_sem,↓reduceIte,Nat.reduceEqDiff,Nat.reduceLeDiff,Nat.reduceSub,Nat.reduceAdd];rfl)) (hok:kG P ⟨B,L⟩ F rs:=by first|exact jI|(simp(disch:=first|omega|fail) only[go_sem,↓reduceIte,Nat.reduceEqDiff,Nat.reduceLeDiff,Nat.reduceSub,Nat.reduceAdd])) (hv:kz out=r0:=by first|rfl|(simp only[go_sem];done)):lD P fn (fun r l'=>r=r0/\l'=l) ex F ⟨B,L⟩:=by
 subst W0;obtain⟨h1,h2,h3⟩:=k1.free k2 hB hl;have:=iD.free (r:=r0) (r':=r0) (H:=⟨B,l++tl⟩) (Go.Gd.fT 0) h1 h2 (zz rfl hr);rw[show(Hp.mk B (l++tl)).l=l++tl from rfl,h3]at this;exact uO he ho hok r0 ⟨B,l⟩ (hv ▸ Uq.trans ((Ia (B:=B) (l:=L1) (l++tl) hp).trans this)) ⟨rfl,rfl⟩
theorem tZ:∀{l:UD} {i:Nat} {r:Row},aA l i=some r->bj l i r=l
 |[],_,_,h=>by cases h
 |(j,s)::l,i,r,h=>by
  have h:(if i=j then some s else aA l i)=some r:=h;show(if i=j then(i,r)::l else(j,s)::bj l i r)=_;by_cases e:i=j
  ·subst e;rw[if_pos rfl]at h ⊢;cases h;rfl
  ·rw[if_neg e]at h ⊢;rw[tZ h]
theorem ab.args{P:UP}{f:FuncId}{args args':UE}{l:UD}{R:AV->List UR->Prop}(hc:ab P f args' l R)(hv:∀w vs,aJ w (entry l)->bs w args vs->bs w args' vs):ab P f args l R:=fun w vs h1 h2=>hc w vs h1 (hv w vs h1 h2)
def wL{w:NW}{a b:AV}{l m:UE}{vs:UL}(h:bs w (a::l) vs)(hab:∀v,ax w a v->ax w b v)(hlm:∀us,bs w l us->bs w m us):bs w (b::m) vs:=by
 obtain⟨h1,h2⟩:=h;have ht:=hlm (vs.toList.tail.toArray) ⟨by simp at h1 ⊢;omega,fun i x v hx hv=>h2 (i+1) x v (by simpa using hx) (by simpa using hv)⟩;refine⟨?_,fun i x v hx hv=>?_⟩
 ·have:=ht.1;simp at h1 this ⊢;omega
 ·cases i with
  |zero=>simp at hx;subst hx;exact hab v (h2 0 a v rfl hv)
  |succ i=>exact ht.2 i x v (by simpa using hx) (by simpa using hv)
def I6{w:NW}(sz:Nat)(d:UE):∀v,ax w (.raw (.slice none 0 0)) v->ax w (.sl false sz [] d) v:=fun v h=>by have:=db h;subst this;exact .gG _ _ _ _ (fun e=>by cases e)
def PC{args:UE}(hv:bt (fun _=>true) H args args'):∀w vs,aJ w H->bs w args vs->bs (w.cS fun _=>true) args' vs:=fun w vs h1 h2=>by
 obtain⟨VY,hg⟩:=hv.get;refine⟨by rw[<-VY];exact h2.1,fun i c v hc hv=>?_⟩;have hi:i<args.length:=by rw[VY];exact(List.getElem?_eq_some_iff.1 hc).1
 exact(hg i args[i] c (List.getElem?_eq_getElem hi) hc).sound h1 (h2.2 i _ v (List.getElem?_eq_getElem hi) hv)
def GK{w:NW}{i m sz o n:Nat}{t:UJ}{css:UC}{d:UE}(hw:aJ w H)(hi:H.get i=some (.aG t sz css))(hm:m=css.length)(hn:o+n<=m)(h0:0<sz)(hq:QL eu css){v:Value}(h:ax w (.rv i m sz o n) v):ax (w.cS fun _=>true) (.sl false sz ((css.drop o).take n) d) v:=by
 subst hm;have I':((css.drop o).take n).length=n:=by rw[List.length_take,List.length_drop];omega
 cases h with
 |jn _ _ _ _ c A=> have:(css.drop o).take 0=[]:=jE;rw[this];exact .gG _ _ _ _ (fun h=>by cases h)
 |rv _ _ _ _ _ b t' c US Uq=>
  by_cases Yk:n=0
  ·subst Yk;have:(css.drop o).take 0=[]:=jE;rw[this];exact .gG _ _ _ _ (fun h=>by cases h)
  ·have hok:=(hw.rows i _ hi).1;have:=ax.sl (w:=w.cS fun _=>true) (d:=d) false sz ((css.drop o).take n) ⟨b,o*sz,none⟩ c (fun k=>(w.cell? ⟨b,o*sz+k,none⟩).getD undef) jB jB (fun h=>by cases h) (fun cs Vy=>hok.2 cs (List.mem_of_mem_drop (List.mem_of_mem_take Vy))) (hw.lt US) (fun h=>h.2 i _ t' sz rfl US) (fun k j hk hj=>by
    rw[I']at hk;obtain⟨_,_,_,v,h1,h2⟩:=tz hw hi US (k:=o+k) (j:=j) jB hj;show w.cell? _=_;rw[jq];have e:o*sz+(k*sz+j)=(o+k)*sz+j:=by rw[Nat.add_mul];omega
    rw[e,h1];rfl) (fun k j u hk hu=>by
    rw[I']at hk;have e0:((css.drop o).take n).getD k []=css.getD (o+k) []:=by rw[List.getD_eq_getElem?_getD,List.getElem?_take,if_pos hk,List.getElem?_drop,List.getD_eq_getElem?_getD]
    rw[e0]at hu;have Vl:css.getD (o+k) []∈css:=by rw[List.getD_eq_getElem?_getD,List.getElem?_eq_getElem jB];exact List.getElem_mem _
    have hj:j<sz:=by have:=(List.getElem?_eq_some_iff.1 hu).1;rwa [hok.2 _ Vl]at this
    obtain⟨_,_,_,v,h1,h2⟩:=tz hw hi US (k:=o+k) (j:=j) jB hj;have e:o*sz+(k*sz+j)=(o+k)*sz+j:=by rw[Nat.add_mul];omega
    rw[e,h1];exact((h2 u hu).aX (pr w fun _=>true) (qe (fun _ h=>by cases h) _ (lK (hq _ Vl) hu))).lb (lK (hq _ Vl) hu))
   rw[I']at this;exact this
def Bg{args:UE}{K:UB}{i sz:Nat}{t:UJ}{α:Type}[Inhabited α]{enc:α->UE}[he:bH enc sz]{xs:List α}(VN:∀x,k8 (enc x)=true)(hi:H.get i=none)
  (hc:ab P f args' [] fun r l=>r=.rs i xs.length sz xs.length/\l=[(i,.aG t sz (xs.map enc))]) (hv:∀w vs,aJ w H->bs w args vs->bs (w.cS fun _=>true) args' vs) (k:K (aP enc sz xs) H):dm P f args H K:=fun w vs h1 h2=>by
 have Yh:=NU hc hv (fun r l ⟨e1,e2⟩=>by
  subst e1 e2;refine⟨fun j hj=>?_,rfl,fun j row hj=>?_⟩
  ·by_cases e:j=i
   ·subst e;exact hi
   ·exact(hj (by simp only[aA];rw[if_neg e])).elim
  ·simp only[aA]at hj;split at hj
   ·cases hj;refine Tx fun x hx=>?_
    obtain⟨y,_,rfl⟩:=List.mem_map.1 hx;exact VN y
   ·cases hj) h1 h2
 refine Yh.mono ?_;rintro e W ⟨v,r,l,w',rfl,rfl,⟨rfl,rfl⟩,g1,g2,g3,g4⟩;have g1:aJ w' ⟨H.B,(i,.aG t sz (xs.map enc))::H.l⟩:=g1;have haW:∀m,w.nm i m=none:=fun m=>h1.none hi m
 have hgi:(Hp.mk H.B ((i,.aG t sz (xs.map enc))::H.l)).get i=some (.aG t sz (xs.map enc)):=by show(if i=i then _ else _)=_;rw[if_pos rfl]
 have hgj:∀j,j≠i->(Hp.mk H.B ((i,.aG t sz (xs.map enc))::H.l)).get j=H.get j:=fun j hj=>by show(if j=i then _ else _)=_;rw[if_neg hj];rfl
 have haX:=(cY.row (D:=fun j=>decide (j=i)) (dd:=enc default) (enc:=enc) xs jE hgi rfl).sound g1 g2;have k0:=pr w' (fun j=>decide (j=i));have ex:Ext w H (w'.cS fun j=>decide (j=i)) H:={
  size:=g3.size
  free:=fun b hb hO=>⟨(g3.free b hb hO).1,fun h=>(g3.free b hb hO).2 h.1⟩
  names:=fun j m z _ hz=>by
   have Wt:j≠i:=fun e=>by subst e;rw[haW]at hz;cases hz
   show(if decide (j=i)=true then none else w'.nm j m)=some z;rw[if_neg (by simpa using Wt)];exact g3.names j m z rfl hz
  os:=g3.os,tape:=g3.tape,output:=g3.output
  rest:=fun b hb hO Ur=>by
   obtain⟨a1,a2,a3⟩:=g3.rest b hb hO Ur;refine⟨a1,⟨a2,fun j m t' s _=>a3 j m t' s⟩,fun j m t' s h=>?_⟩;have h:(if decide (j=i)=true then none else w'.nm j m)=some (.at b t' s):=h;split at h
   ·cases h
   ·exact a3 _ _ _ _ h
  base:=rfl }
 refine⟨v,_,H,w'.cS fun j=>decide (j=i),rfl,rfl,k,{ cd:=g1.cd.aX k0,rows:=fun j s hj=>?_,di:=fun j m z hz=>?_,inj:=fun j m j' m' b t1 s1 t2 s2 a1 a2=>?_,own:=fun j m b t1 s1 h=>?_,fin:=fun b hb=>g1.fin b hb.1 },haX,ex⟩
 ·have Wt:j≠i:=fun e=>by subst e;rw[hi]at hj;cases hj
  obtain⟨e1,z,e2,e3⟩:=h1.rows j s hj;refine⟨e1,z,ex.names _ _ _ rfl e2,e3.ext ex fun b t1 s1 ez=>?_⟩;subst ez;exact g4 b (h1.lt e2)
 ·have hz:(if decide (j=i)=true then none else w'.nm j m)=some z:=hz;split at hz
  ·cases hz
  ·rename_i e;obtain⟨r',c1,c2⟩:=g1.di j m z hz;exact⟨r',by rw[<-hgj j (by simpa using e)];exact c1,c2⟩
 ·have a1:(if decide (j=i)=true then none else w'.nm j m)=_:=a1;have a2:(if decide (j'=i)=true then none else w'.nm j' m')=_:=a2;split at a1
  ·cases a1
  ·split at a2
   ·cases a2
   ·exact g1.inj _ _ _ _ _ _ _ _ _ a1 a2
 ·have h:(if decide (j=i)=true then none else w'.nm j m)=_:=h;split at h
  ·cases h
  ·rename_i e;refine⟨g1.own _ _ _ _ _ h,fun j' m' t' s' hd h'=>e ?_⟩;rw[g1.inj _ _ _ _ _ _ _ _ _ h h'];exact hd
@[go_sem] def j19(a k n:Nat)(h:n<1000):(n == hn a k)=false:=by have:=iA a k;simp;omega
@[go_sem] def jx3(a b k j:Nat)(ha:a<32)(hb:b<32)(h:a≠b):(hn a k == hn b j)=false:=by simp;exact dj ha hb h
@[go_sem] def jzZ(a k:Nat):(hn a k == hn a k)=true:=jE
@[go_sem] def KW(a k:Nat):hn a k+16=hn (a+16) k:=by unfold hn;omega
theorem HC{A C D:UH}(hA:A.isEmpty=false){E:UH}{l:List Oper}{ps:List UH}:∀(rest done:UH),pc (A,C,D) E l ps done rest=pc ([0],C,D) E l ps done rest
 |[],done=>rfl
 |i::rest,done=>by
  have e1:kT (A,C,D)=kT ([0],C,D):=rfl;have e2:mY (A,C,D) (dS l i)=mY ([0],C,D) (dS l i):=by have hA':(A,C,D).1.isEmpty=([0],C,D).1.isEmpty:=hA;unfold mY;rw[hA'];rfl
  unfold pc;rw[HC hA rest,e1,e2]
def Mq{A C D:UH}(hA:A.isEmpty=false){E:UH}{l:List Oper}{ord:UH}:pU (A,C,D) E l ord=pU ([0],C,D) E l ord:=by unfold pU;rw[HC hA];rfl
def qA{Q:Exit->UA}(id:Nat){l:List Oper}{q:Prop}(A C D E ord:UH)(hm:P.follows .mixedOrders=true)(h:q)(hA:A.isEmpty=false:=by rfl)(hok:pU ([0],C,D) E l ord=true:=by decide +kernel)(hE:ru P l E:=by simp only[ru,dS,List.getD_cons_zero,List.getD_cons_succ,go_sem])(e:fG (A,C,D) P l.toArray (Q .normal) (ord.map (dS l)) F H=q:=by(simp only[bf,List.map_cons,List.map_nil,dS,List.getD_cons_zero,List.getD_cons_succ];exact fq)):dI P (.region id l.toArray true) Q F H:=C1 (A,C,D) E ord hm (by rw[Mq hA];exact hok) hE (e ▸ h)
def As(A:AS)(e l:UD):Prop:=∀j,A.1.contains j=false->aA e j≠none->aA l j=aA e j\/(A.1.contains (j+16)=true/\∃t c c' cs,aA e j=some (.var t (c::cs))/\aA l j=some (.var t (c'::cs)))
variable{l:UD}
def nN{A:AS}{args:UE}{e:UD}{r0:AV}{g:UB}{d:iw fun r H'=>eK A ⟨B,tie e tl⟩ H'/\g r H'}{q:Prop}(hd:cW P f args e r0 l)(hx:As A e l)(k:q)(h0:aS P f=true:=by exact dD)(hl:oa 0 tl:=by(repeat' first|exact dK|(refine dp (by decide) ?_)|fail))(e0:g r0 ⟨B,tie l tl⟩=q:=by exact fq) :
  fg P (.raw (.func (.func f) #[] #[])) args ⟨B,tie e tl⟩ (AP (fun r H'=>eK A ⟨B,tie e tl⟩ H'/\g r H') d):=by
 refine cG (K:=AP (fun r H'=>eK A ⟨B,tie e tl⟩ H'/\g r H') d) hd.c rfl hd.e1 hd.e2 hd.aX hl hd.a h0 ⟨fun i r hi hr=>?_,e0 ▸ k⟩;have hr:aA (tie e tl) i=some r:=hr;show aA (tie l tl) i=some r\/_/\∃t c c' cs,r=.var t (c::cs)/\aA (tie l tl) i=some (.var t (c'::cs));rw[kg]at hr ⊢;cases he:aA e i with
 |some s=>
  rw[he]at hr;cases hr;rcases hx i hi (by rw[he];simp)with h|⟨h1,t,c,c',cs,h2,h3⟩
  ·left;rw[h,he];rfl
  ·right
   rw[he]at h2;cases h2;exact⟨h1,t,c,c',cs,rfl,by rw[h3];rfl⟩
 |none=>
  rw[he]at hr;have hr:aA tl i=some r:=hr;have:=hl i r hr;left
  rw[hd.e2.low i this.2];exact hr
def T4{n:Nat}{S:Type}{W:List (Nat×Nat)}{ok:S->Prop}{J:S->List (Nat×AV)}{G:S->Hp}{μ:S->Nat}{F₀:UE}{e0:UD}(hB:ids e0=B)(k1:fQ 0 e0)(k2:fQ 0 l)(hl:oa 0 tl)(s:S)(h1:ok s)(h2:μ s<n)(hG:(⟨B,tie l []⟩:Hp)=G s)(h3:bt (fT 0) ⟨B,tie l tl⟩ F (mM (J s) (nn W F₀))):Next n W ok J G μ F₀ F ⟨B,tie l tl⟩:=by obtain⟨a1,a2,a3⟩:=k1.free k2 hB hl;refine DT (fT 0) s h1 h2 a1 a2 ?_ h3;rw[<-hG];show(Hp.mk B (fy (fT 0) (l++tl)))=_;rw[a3,<-Fu]
end Go.Gd
namespace Go.Proofs.YtijdhbokcdpklaaGreatDoor
open Go Go.Gd
structure CS(R:RS):Prop where
 sl:∀f∈R.gm,qX f.slots
 hp:tK R.heap
def QI(s:gH):Prop:=CS (RS.of s)
structure Good(p:af)(n:Nat)(s:gH):Prop where
 inv:xP p s
 bD:QI s
 t0:0<=s.time
 t1:s.time<=n
end Go.Proofs.YtijdhbokcdpklaaGreatDoor
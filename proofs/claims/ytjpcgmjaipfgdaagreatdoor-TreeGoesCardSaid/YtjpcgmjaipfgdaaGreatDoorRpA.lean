/- Lemmas. No conditions. -/
import Derived.Test.YtjpcgmjaipfgdaaGreatDoorSo9
set_option linter.all false
set_option maxHeartbeats 4000000
set_option maxRecDepth 10000
namespace Go.Gd
open Go
theorem D7:∀(l:TA),iH (fun _=>true) l
 |[]=>trivial
 |_::l=>⟨.inl rfl,D7 l⟩
theorem Ee:∀(l:TA),fz (fun _=>true) l=[]
 |[]=>rfl
 |x::l=>Ee l
variable{P:TL}{f:FuncId}{r0:AV}
def aB.wv{args:TB}{r1:AV}{l0:TA}(hc:ab P f args [] fun r l=>r=r0/\l=l0)(hv:cW (fun _=>true) ⟨[],l0⟩ r0 r1):aB P f args r1:=fun w vs h1 h2=>by refine(hc w vs h1 h2).mono ?_;rintro e W ⟨v,r,⟨B,l⟩,w',rfl,e1,⟨rfl,rfl⟩,g1,g2,g3⟩;have hB:B=[]:=g3.base;subst hB;obtain⟨w2,k1,k2,k3,k4⟩:=iw.free (fun _=>true) rfl (D7 _) hv w' v g1 g2;refine⟨v,r1,_,w2,k1.symm,e1,⟨rfl,Ee _⟩,k2,k3,g3.trans k4⟩
variable{B:TE}{l:TA}{K:S8}
def Ks{args:TB}{l':TA}(h:∀i,aA l i=aA l' i)(k:di P f args ⟨B,l'⟩ K):di P f args ⟨B,l⟩ K:=fun w vs h1 h2=>by refine(k w vs (zV h h1) h2).mono ?_;rintro e W ⟨v,r,H',w',e0,e1,k,g1,g2,g3⟩;exact⟨v,r,H',w',e0,e1,k,g1,g2,{ g3.toExtQ with base:=g3.base }⟩
structure fO(lo:Nat)(e:List (Nat×Row)):Prop where
 no:∀i,lo<=i->i<1000->aA e i=none
 nodup:(ids e).Nodup
 closed:∀i r,aA e i=some r->aW (fun i=>(ids e).contains i) r.cells=true
def nM(lo:Nat)(tl:TA):Prop:=∀i r,aA tl i=some r->lo<=i/\i<1000
variable{lo:Nat}{tl:TA}
def fO.bv{e:TA}(h:fO lo e)(hl:nM lo tl):Lays (fun tl=>e++tl) tl:=⟨fun i=>by rw[uT,List.append_nil],fun i r hi=>by show aA (e++[]) i=none;rw[List.append_nil];exact h.no i (hl i r hi).1 (hl i r hi).2⟩
variable{e':TA}
def cG{args:TB}{H:Hp}{e:TA}(hc:ab P f args e fun r l'=>r=r0/\l'=e')(hH:H=⟨B,e++tl⟩)
  (h1:fO lo e) (h2:fO lo e') (hs:∀i,aA e i≠none->aA e' i≠none) (hl:nM lo tl) (ha:aW (fun i=>(ids e).contains i) args=true) (h0:aT P f=true) (k:K r0 ⟨B,e'++tl⟩):ff P (.raw (.func (.func f) #[] #[])) args H K:=by
 subst hH;refine nG h0 (Bg (E:=fun tl=>e++tl) (E':=fun tl=>e'++tl) ?_ (h1.bv hl) (h2.bv hl) ?_ ?_ ?_ k ?_)
 ·simp only[List.append_nil];exact hc
 ·simp only[List.append_nil];exact h2.nodup
 ·simp only[List.append_nil];exact ha
 ·simp only[List.append_nil];exact h1.closed
 ·simp only[List.append_nil];exact hs
def fK(lo:Nat):TK:=fun i=>decide (lo<=i/\i<1000)
theorem fO.fK{lo:Nat}{e:TA}(h:fO lo e){i:Nat}(hi:i∈ids e):fK lo i=false:=by
 unfold Go.Gd.fK;refine decide_eq_false fun h'=>?_
 exact(lA _ _).1 hi (h.no i h'.1 h'.2)
def fO.free{e0:TA}(k1:fO lo e0)(k2:fO lo e')(hB:ids e0=B)(hl:nM lo tl) :
  B.all (gU (Go.Gd.fK lo))=true/\iH (Go.Gd.fK lo) (e'++tl)/\fz (Go.Gd.fK lo) (e'++tl)=e':=by
 have htl:∀i∈ids tl,Go.Gd.fK lo i=true:=fun i hi=>by obtain⟨r,hr⟩:=Option.ne_none_iff_exists'.1 ((lA _ _).1 hi);exact decide_eq_true (hl i r hr)
 refine⟨?_,?_,?_⟩
 ·rw[List.all_eq_true];intro i hi;rw[<-hB]at hi;unfold gU;rw[k1.fK hi];rfl
 ·refine El _ _ _ (E2 _ _ k2.nodup fun i r hi=>fT (fun j hj=>?_) _ (k2.closed i r hi)) (GG _ _ htl);unfold gU;rw[k2.fK (List.contains_iff_mem.1 hj)];rfl
 ·rw[FU,Fo _ _ (fun i hi=>k2.fK hi),D5 _ _ htl,List.append_nil]
def hn(a k:Nat):Nat:=1000+(32*k+a)
def ix(a k:Nat):1000<=hn a k:=Nat.le_add_right _ _
def wb{a b k j:Nat}(ha:a<32)(hb:b<32)(h:hn a k=hn b j):a=b/\k=j:=by unfold hn at h;omega
@[go_sem] def qaS(a k n:Nat)(h:n<1000):(hn a k=n)=False:=by have:=ix a k;simp;omega
@[go_sem] def qa2(a k n:Nat)(h:n<1000):(n=hn a k)=False:=by have:=ix a k;simp;omega
@[go_sem] def j5L(a b k j:Nat)(ha:a<32)(hb:b<32)(h:a≠b):(hn a k=hn b j)=False:=by simp;intro e;exact h (wb ha hb e).1
def dh{a b k j:Nat}(ha:a<32)(hb:b<32)(h:a≠b):hn a k≠hn b j:=fun e=>h (wb ha hb e).1
@[go_sem] def jzq(l:TA)(a k:Nat)(r:Row)(i:Nat):aA (bg l (hn a k) r) i=if i=hn a k then some r else aA l i:=bF _ _ _ _
def oE:∀(l:TA) (i j:Nat) (r:Row),j∈ids (bg l i r)<->j=i\/j∈ids l:=fun l i j r=>by rw[lA,lA,bF];by_cases e:j=i<;>simp[e]
theorem CM:∀(l:TA) (i:Nat) (r:Row),(ids l).Nodup->(ids (bg l i r)).Nodup
 |[],i,r,_=>by simp[bg,ids]
 |(j,s)::l,i,r,h=>by
  have hc:=List.nodup_cons.1 h;unfold bg;split
  ·rename_i e;subst e;exact h
  ·rename_i e;refine List.nodup_cons.2 ⟨fun hm=>?_,CM l i r hc.2⟩;rcases(oE l i j r).1 hm with h1|h1
   ·exact e h1.symm
   ·exact hc.1 h1
variable{i:Nat}
def fO.put{e:TA}{r:Row}(h:fO lo e)(hi:i<lo\/1000<=i)(hr:aW (fun j=>decide (j=i) || (ids e).contains j) r.cells=true):fO lo (bg e i r):=by
 have hm:∀j,(decide (j=i) || (ids e).contains j)=true->(ids (bg e i r)).contains j=true:=fun j hj=>by
  rw[List.contains_iff_mem,oE];rcases Bool.or_eq_true _ _ ▸ hj with h1|h1
  ·exact .inl (of_decide_eq_true h1)
  ·exact .inr (List.contains_iff_mem.1 h1)
 refine⟨fun j h1 h2=>?_,CM _ _ _ h.nodup,fun j s hs=>?_⟩
 ·rw[bF,jN];exact h.no j h1 h2
 ·rw[bF]at hs;split at hs
  ·cases hs;exact fT hm _ hr
  ·exact fT (fun k hk=>hm k (by rw[Bool.or_eq_true];exact .inr hk)) _ (h.closed j s hs)
structure Up(X:List Nat)(e l:List (Nat×Row)):Prop where
 aU:∀i,aA e i≠none->aA l i≠none
 new:∀i,aA l i≠none->aA e i≠none\/i ∉ X
def Up.refl(X:TE)(e:TA):Up X e e:=⟨fun _ h=>h,fun _ h=>.inl h⟩
def Up.trans{X:TE}{a b c:TA}(h:Up X a b)(k:Up X b c):Up X a c:=⟨fun i hi=>k.aU i (h.aU i hi),fun i hi=>(k.new i hi).elim (h.new i) .inr⟩
def Up.put{X:TE}{e:TA}(r:Row)(h:aA e i≠none\/i ∉ X):Up X e (bg e i r):=⟨fun j hj=>by
 rw[bF];split
 ·simp
 ·exact hj,fun j hj=>by
 rw[bF]at hj;split at hj
 ·rename_i e';subst e';exact h
 ·exact .inl hj⟩
def qA(X:TE):Nat:=1+X.foldl max 0
theorem DI:∀(X:TE) (a:Nat),a<=X.foldl max a/\∀x∈X,x<=X.foldl max a
 |[],a=>⟨Nat.le_refl _,by simp⟩
 |y::X,a=>by
  obtain⟨h1,h2⟩:=DI X (max a y);refine⟨Nat.le_trans (Nat.le_max_left _ _) h1,fun x hx=>?_⟩;rcases List.mem_cons.1 hx with rfl|hx
  ·exact Nat.le_trans (Nat.le_max_right _ _) h1
  ·exact h2 x hx
def SR(X:TE){x:Nat}(h:x∈X):x<qA X:=by have:=(DI X 0).2 x h;unfold qA;omega
def B3(X:TE)(a d:Nat):hn a (qA X+d) ∉ X:=fun h=>by have:=SR X h;unfold hn at this;omega
def yb(e:TA)(X:TE)(a d:Nat):aA e (hn a (qA (ids e++X)+d))=none:=by
 cases h:aA e (hn a (qA (ids e++X)+d))with
 |none=>rfl
 |some r=>exact(B3 (ids e++X) a d (List.mem_append_left _ ((lA _ _).2 (by rw[h];simp)))).elim
def zq(e:TA)(X:TE)(a d:Nat):hn a (qA (ids e++X)+d) ∉ X:=fun h=>B3 (ids e++X) a d (List.mem_append_right _ h)
def ab.more{args:TB}{s e:TA}{R:AV->List TN->Prop}(hc:ab P f args s R)(hs:∀i r,aA s i=some r->aA e i=some r)(ha:aW (fun i=>(ids s).contains i) args=true)(Tc:∀i r,aA s i=some r->aW (fun i=>(ids s).contains i) r.cells=true)
  (hn:∀r l,R r l->(ids l).Nodup/\∀i,aA l i≠none->aA s i≠none\/aA e i=none):ab P f args e fun r l=>∃l0,R r l0/\l=gu e l0:=fun w vs hw hv=>by
 refine(yu (H:=entry e) (K:=fun r H'=>∃l0,R r l0/\H'=⟨ids e,gu e l0⟩) hc (fun i r hi=>hs i r hi) ha Tc (fun r l' hR=>⟨fun i x hx=>?_,(hn r l' hR).1,l',hR,rfl⟩) hw hv).mono ?_
 ·rcases(hn r l' hR).2 i (by rw[hx];simp)with h|h
  ·obtain⟨y,hy⟩:=Option.ne_none_iff_exists'.1 h;exact .inl (qY hy)
  ·exact .inr h
 ·rintro e' W ⟨v,r,H',w',rfl,rfl,⟨l0,hR,rfl⟩,g1,g2,g3⟩;exact⟨v,r,_,w',rfl,rfl,⟨l0,hR,rfl⟩,g1,g2,g3.ph⟩
def tie(e tl:TA):TA:=e++tl
def Hz(e:TA):e=tie e []:=(List.append_nil e).symm
@[go_sem] def j9(e tl:TA)(i:Nat):aA (tie e tl) i=(aA e i).or (aA tl i):=uT _ _ _
theorem HB:∀(e tl:TA) (i:Nat) (r:Row),bg (e++tl) i r=if(aA e i).isSome=true then bg e i r++tl else e++bg tl i r
 |[],tl,i,r=>by simp[aA,bg]
 |(j,s)::e,tl,i,r=>by
  show(if i=j then(i,r)::(e++tl)else(j,s)::bg (e++tl) i r)=if((if i=j then some s else aA e i):Option Row).isSome=true then(if i=j then(i,r)::e else(j,s)::bg e i r)++tl else(j,s)::(e++bg tl i r)
  by_cases h:i=j
  ·subst h;simp
  ·simp only[if_neg h];rw[HB e tl i r];split<;>rfl
@[go_sem] def j5S(e tl:TA)(i:Nat)(r:Row):bg (tie e tl) i r=if(aA e i).isSome=true then tie (bg e i r) tl else tie e (bg tl i r):=HB _ _ _ _
attribute [go_sem] Option.some_or Option.none_or Option.isSome_some Option.isSome_none
def fO.low{e:TA}(h:fO 0 e):∀i,i<1000->aA e i=none:=fun i hi=>h.no i (Nat.zero_le _) hi
def dz:nM 0 []:=fun i r h=>by cases h
def dm{T:TA}{r:Row}(h:i<1000)(hT:nM 0 T):nM 0 ((i,r)::T):=fun j s hs=>by
 simp only[aA]at hs;split at hs
 ·omega
 ·exact hT j s hs
structure cV(P:Program)(f:FuncId)(args:List AV)(e:List (Nat×Row))(r0:AV)(l:List (Nat×Row)):Prop where
 c:ab P f args e fun r l'=>r=r0/\l'=l
 e1:fO 0 e
 e2:fO 0 l
 aU:∀i,aA e i≠none->aA l i≠none
 a:aW (fun i=>(ids e).contains i) args=true
def cT{args:TB}{e:TA}{q:Prop}(hd:cV P f args e r0 l)(k:q)(h0:aT P f=true:=by exact du)(hl:nM 0 tl:=by(repeat' first|exact dz|(refine dm (by decide) ?_)|fail))(e0:K r0 ⟨B,tie l tl⟩=q:=by exact fj):ff P (.raw (.func (.func f) #[] #[])) args ⟨B,tie e tl⟩ K:=
 cG hd.c rfl hd.e1 hd.e2 hd.aU hl hd.a h0 (e0 ▸ k)
@[go_sem] def EJ(a k:Nat):fK 0 (hn a k)=false:=decide_eq_false (by have:=ix a k;omega)
def dZ{fn:Func}{F:TB}{L:TA}{out:TB}{ex:Exit}{e:TA}(hB:ids e=B)(k1:fO 0 e)(k2:fO 0 l)(hp:∀i,aA L i=aA (tie l tl) i)(hl:nM 0 tl)(rs:List ResultVar)
  (hr:r0.all (gU (fK 0))=true:=by first|rfl|(simp only[go_sem,AV.all,aW,gU,EJ];done))
  (VI:fn.results.toList=rs:=by rfl) (he:ex=.normal\/ex=.ret:=by first|exact Or.inr rfl|exact Or.inl rfl|fail) (ho:ju P ⟨B,L⟩ F rs=some out:=by first|rfl|(simp(disch:=first|omega|fail) only[go_sem,↓reduceIte,Nat.reduceEqDiff,Nat.reduceLeDiff,Nat.reduceSub,Nat.reduceAdd];rfl)) (hok:kF P ⟨B,L⟩ F rs:=by first|exact jI|(simp(disch:=first|omega|fail) only[go_sem,↓reduceIte,Nat.reduceEqDiff,Nat.reduceLeDiff,Nat.reduceSub,Nat.reduceAdd])) (hv:ku out=r0:=by first|rfl|(simp only[go_sem];done)):lM P fn (fun r l'=>r=r0/\l'=l) ex F ⟨B,L⟩:=by
 subst VI;obtain⟨h1,h2,h3⟩:=k1.free k2 hB hl;have:=iw.free (r:=ku out) (r':=r0) (H:=⟨B,l++tl⟩) (Go.Gd.fK 0) h1 h2 (zJ hv (hv ▸ hr));rw[show(Hp.mk B (l++tl)).l=l++tl from rfl,h3]at this;exact uL he ho hok r0 ⟨B,l⟩ ((GY (B:=B) (l:=L) (l++tl) hp).trans this) ⟨rfl,rfl⟩
mutual
def AV.dT:AV->Bool
 |.raw _=>true
 |.any=>true
 |.agg cs=>lg cs
 |.aP cs=>lg cs
 |.gd _ v=>v.dT
 |.pt _ _ _ _=>true
 |.rs _ _ _ _=>true
 |.rc _ _ _ _=>true
 |.rv _ _ _ _ _=>true
 |.mr _=>true
 |_=>false
def lg:TB->Bool
 |[]=>true
 |a::l=>a.dT && lg l
end
theorem za:∀{l:TB},lg l=true->∀{i:Nat} {a:AV},l[i]?=some a->a.dT=true
 |[],_,i,a,h=>by simp at h
 |x::l,hl,i,a,h=>by
  simp only[lg,Bool.and_eq_true]at hl;cases i with
  |zero=>simp at h;subst h;exact hl.1
  |succ i=>exact za hl.2 (by simpa using h)
theorem G9:∀(l m:TB),lg (l++m)=(lg l && lg m)
 |[],m=>by simp[lg]
 |a::l,m=>by simp only[List.cons_append,lg,G9 l m,Bool.and_assoc]
def QR{l:S9}(h:∀x∈l,lg x=true):lg l.flatten=true:=by
 induction l with
 |nil=>rfl
 |cons x l ih=>rw[List.flatten_cons,G9,h x jE,ih fun y hy=>h y (by simp[hy])];rfl
theorem aw.dT{w:NW}{a:AV}{v:Value}(h:aw w a v):∀{w':NW},(∀i m z,w.nm i m=some z->w'.nm i m=some z)->a.dT=true->aw w' a v:=by
 induction h with
 |raw v=>intro w' _ _;exact .raw v
 |any v=>intro w' _ _;exact .any v
 |agg cs vs hl _ ih=>intro w' k ha;simp only[AV.dT]at ha;exact .agg cs vs hl fun i a v h1 h2=>ih i a v h1 h2 k (za ha h1)
 |aP cs vs hl _ ih=>intro w' k ha;simp only[AV.dT]at ha;exact .aP cs vs hl fun i a v h1 h2=>ih i a v h1 h2 k (za ha h1)
 |gd p a v _ hu ih=>intro w' k ha;exact .gd p a v (fun hp=>ih hp k (by simpa only[AV.dT]using ha)) hu
 |pt i m o j b t s h=>intro w' k _;exact .pt i m o j b t s (k _ _ _ h)
 |iA i m sz A h=>intro w' k _;exact .iA i m sz A (k _ _ _ h)
 |rs i m sz n b t c h hc hn hs=>intro w' k _;exact .rs i m sz n b t c (k _ _ _ h) hc hn hs
 |rc i m sz n b t h hc hn hs=>intro w' k _;exact .rc i m sz n b t (k _ _ _ h) hc hn hs
 |jf i m sz o c A=>intro w' _ _;exact .jf i m sz o c A
 |rv i m sz o n b t c h hn=>intro w' k _;exact .rv i m sz o n b t c (k _ _ _ h) hn
 |mr i b t s h=>intro w' k _;exact .mr i b t s (k _ _ _ h)
 |gz=>intro w' _ ha;simp only[AV.dT]at ha;cases ha
 |sl=>intro w' _ ha;simp only[AV.dT]at ha;cases ha
 |ip=>intro w' _ ha;simp only[AV.dT]at ha;cases ha
 |dP=>intro w' _ ha;simp only[AV.dT]at ha;cases ha
 |bd=>intro w' _ ha;simp only[AV.dT]at ha;cases ha
 |iG=>intro w' _ ha;simp only[AV.dT]at ha;cases ha
 |mv=>intro w' _ ha;simp only[AV.dT]at ha;cases ha
variable{P:TL}{f:FuncId}{args':TB}{H:Hp}
def SB{args:TB}{R:AV->List TN->Prop}(hc:ab P f args' [] R)(hv:∀w vs,aI w H->bq w args vs->bq (w.cR fun _=>true) args' vs)
  (hk:∀r l,R r l->(∀i,aA l i≠none->H.get i=none)/\r.dT=true/\(∀i row,aA l i=some row->lg row.cells=true)) {w:NW} {vs:TI} (h1:aI w H) (h2:bq w args vs) :
  Calls P f vs w.toWorld fun e W=>∃v r l w',W=NW.toWorld w'/\e=.returned v/\R r l/\aI w' ⟨H.B,l++H.l⟩/\aw w' r v/\Ext w H w' ⟨H.B,l++H.l⟩/\∀b,b<w.heap.size->w'.heap[b]?=w.heap[b]?:=by
 have Zg:aI (w.cR fun _=>true) (entry []):={
  rows:=fun i r h=>by cases h
  cU:=fun i m z h=>by cases h
  inj:=fun i m j n b t s t' s' h _=>by cases h
  own:=fun i m b t s h=>by cases h
  fin:=fun b hb=>h1.fin b hb.1
  bO:=h1.bO.aU (pr w fun _=>true) }
 refine(hc (w.cR fun _=>true) vs Zg (hv w vs h1 h2)).mono ?_;rintro e W ⟨v,r,H',w',rfl,rfl,hR,g1,g2,g3⟩;obtain⟨k1,k2,k3⟩:=hk r H'.l hR;have VB:∀b,b<w.heap.size->w'.heap[b]?=w.heap[b]?:=fun b hb=>by
  classical
  by_cases hO:(w.cR fun _=>true).O b
  ·exact(g3.rest b hb hO fun i m t s h=>by cases h).1
  ·exact(g3.free b hb hO).1
 have UD:∀i m z,w.nm i m=some z->w'.nm i m=none:=fun i m z hz=>by
  obtain⟨r',hr',_⟩:=h1.cU i m z hz;cases e:w'.nm i m with
  |none=>rfl
  |some z'=> obtain⟨r2,WO,_⟩:=g1.cU i m z' e;have:=k1 i (by show aA H'.l i≠none;have WO:aA H'.l i=some r2:=WO;rw[WO];simp);rw[this]at hr';cases hr'
 have Yk:∀i m b t s,w.nm i m=some (.at b t s)->¬w'.O b:=fun i m b t s hz=>by refine(g3.free b (h1.lt hz) fun hO=>hO.2 i m t s rfl hz).2
 let w2:NW:={ w' with O:=fun b=>w.O b\/w'.O b,nm:=fun i m=>(w'.nm i m).or (w.nm i m) }
 have T9:∀i m,w2.nm i m=(w'.nm i m).or (w.nm i m):=fun _ _=>rfl
 have up:∀i m z,w'.nm i m=some z->w2.nm i m=some z:=fun i m z h=>by rw[T9,h];rfl
 have Xw:Keep pT w w2:=⟨g3.size,fun b hb hO=>⟨VB b hb,fun h=>h.elim hO (g3.free b hb fun h=>hO h.1).2⟩,fun i m z _ h=>by rw[T9,UD i m z h];exact h⟩;have ex:Ext w H w2 ⟨H.B,H'.l++H.l⟩:={ Xw with
  os:=g3.os,tape:=g3.tape,output:=g3.output
  rest:=fun b hb hO Te=>⟨VB b hb,.inl hO,fun i m t s h=>by
   rw[T9]at h;cases e:w'.nm i m with
   |none=>rw[e]at h;exact Te _ _ _ _ h
   |some z=> rw[e]at h;cases h;exact(g3.rest b hb ⟨hO,fun i m t s _=>Te i m t s⟩ fun i m t s h=>by cases h).2.2 i m t s e⟩
  base:=rfl }
 have gE:∀i,(Hp.mk H.B (H'.l++H.l)).get i=(aA H'.l i).or (H.get i):=fun i=>uT _ _ _
 refine⟨v,r,H'.l,w2,rfl,rfl,hR,{ bO:=h1.bO.aU Xw,rows:=fun i s hi=>?_,cU:=fun i m z hz=>?_,inj:=fun i m j n b t s t' s' a1 a2=>?_,own:=fun i m b t s h=>?_,fin:=fun b hb=>?_ },g2.dT up k2,ex,VB⟩
 ·rw[gE]at hi;cases e:aA H'.l i with
  |some x=>
   rw[e]at hi;cases hi;obtain⟨e1,z,e2,e3⟩:=g1.rows i s e;refine⟨e1,z,up _ _ _ e2,?_⟩;cases z with
   |nil=>exact e3
   |«at» b t st=> obtain⟨c1,cur,c2,c3,c4⟩:=e3;exact⟨c1,cur,c2,c3,fun j a u ha hu=>(c4 j a u ha hu).dT up (za (k3 i s e) ha)⟩
  |none=>
   rw[e]at hi;have hi:H.get i=some s:=hi;obtain⟨e1,z,e2,e3⟩:=h1.rows i s hi;refine⟨e1,z,Xw.names _ _ _ rfl e2,?_⟩;refine e3.ext ex fun b t st ez=>?_
   subst ez;exact VB b (h1.lt e2)
 ·rw[T9]at hz;cases e:w'.nm i m with
  |some z'=> obtain⟨r',c1,c2⟩:=g1.cU i m z' e;exact⟨r',by rw[gE,show aA H'.l i=some r' from c1];rfl,c2⟩
  |none=>
   rw[e]at hz;obtain⟨r',c1,c2⟩:=h1.cU i m z hz;refine⟨r',?_,c2⟩;rw[gE];cases e2:aA H'.l i with
   |none=>exact c1
   |some x=>have:=k1 i (by rw[e2];simp);rw[this]at c1;cases c1
 ·rw[T9]at a1 a2;cases e1:w'.nm i m with
  |some z1=>
   rw[e1]at a1;cases a1;cases e2:w'.nm j n with
   |some z2=>rw[e2]at a2;cases a2;exact g1.inj _ _ _ _ _ _ _ _ _ e1 e2
   |none=>rw[e2]at a2;exact(Yk _ _ _ _ _ a2 (g1.own _ _ _ _ _ e1)).elim
  |none=>
   rw[e1]at a1;cases e2:w'.nm j n with
   |some z2=>rw[e2]at a2;cases a2;exact(Yk _ _ _ _ _ a1 (g1.own _ _ _ _ _ e2)).elim
   |none=>rw[e2]at a2;exact h1.inj _ _ _ _ _ _ _ _ _ a1 a2
 ·rw[T9]at h;cases e:w'.nm i m with
  |some z=>rw[e]at h;cases h;exact .inr (g1.own _ _ _ _ _ e)
  |none=>rw[e]at h;exact .inl (h1.own _ _ _ _ _ h)
 ·rcases hb with h|h
  ·exact Nat.lt_of_lt_of_le (h1.fin b h) g3.size
  ·exact g1.fin b h
section
variable {P:TL}{f:FuncId}{args:TB}{B:TE}{e tl:TA}{r0:AV}{q:Prop}
def eO{c:Code}{Q:Exit->S7}{F:TB}(h:dx P c Q F ⟨B,tie e []⟩):dx P c Q F ⟨B,e⟩:=by rw[Hz e];exact h
def mq{R:AV->Prop}(hd:cV P f args e r0 e)(k:q)(h0:aT P f=true:=by exact du)(hl:nM 0 tl:=by(repeat' first|exact dz|(refine dm (by decide) ?_)|fail))(e0:R r0=q:=by exact fj) :
  ∃r,(ff P (.raw (.func (.func f) #[] #[])) args ⟨B,tie e tl⟩ fun r' H'=>r'=r/\H'=⟨B,tie e tl⟩)/\R r:=
 ⟨r0,cG (K:=fun r' H'=>r'=r0/\H'=⟨B,tie e tl⟩) hd.c rfl hd.e1 hd.e2 hd.aU hl hd.a h0 ⟨rfl,rfl⟩,e0 ▸ k⟩
end
variable{F:TB}{B:TE}{tl:TA}
def E7{fn:Func}{L L1:TA}{out:TB}{ex:Exit}{r0:AV}{e l:TA}(hB:ids e=B)(k1:fO 0 e)(k2:fO 0 l)(Ts:iw r0 ⟨B,L⟩ r0 ⟨B,L1⟩)(hp:∀i,aA L1 i=aA (tie l tl) i)(hl:nM 0 tl)(rs:List ResultVar)
  (hr:r0.all (gU (fK 0))=true:=by first|rfl|(simp only[go_sem,AV.all,aW,gU,EJ];done))
  (VI:fn.results.toList=rs:=by rfl) (he:ex=.normal\/ex=.ret:=by first|exact Or.inr rfl|exact Or.inl rfl|fail) (ho:ju P ⟨B,L⟩ F rs=some out:=by first|rfl|(simp(disch:=first|omega|fail) only[go_sem,↓reduceIte,Nat.reduceEqDiff,Nat.reduceLeDiff,Nat.reduceSub,Nat.reduceAdd];rfl)) (hok:kF P ⟨B,L⟩ F rs:=by first|exact jI|(simp(disch:=first|omega|fail) only[go_sem,↓reduceIte,Nat.reduceEqDiff,Nat.reduceLeDiff,Nat.reduceSub,Nat.reduceAdd])) (hv:ku out=r0:=by first|rfl|(simp only[go_sem];done)):lM P fn (fun r l'=>r=r0/\l'=l) ex F ⟨B,L⟩:=by
 subst VI;obtain⟨h1,h2,h3⟩:=k1.free k2 hB hl;have:=iw.free (r:=r0) (r':=r0) (H:=⟨B,l++tl⟩) (Go.Gd.fK 0) h1 h2 (zJ rfl hr);rw[show(Hp.mk B (l++tl)).l=l++tl from rfl,h3]at this;exact uL he ho hok r0 ⟨B,l⟩ (hv ▸ Ts.trans ((GY (B:=B) (l:=L1) (l++tl) hp).trans this)) ⟨rfl,rfl⟩
theorem uo:∀{l:TA} {i:Nat} {r:Row},aA l i=some r->bg l i r=l
 |[],_,_,h=>by cases h
 |(j,s)::l,i,r,h=>by
  have h:(if i=j then some s else aA l i)=some r:=h;show(if i=j then(i,r)::l else(j,s)::bg l i r)=_;by_cases e:i=j
  ·subst e;rw[if_pos rfl]at h ⊢;cases h;rfl
  ·rw[if_neg e]at h ⊢;rw[uo h]
theorem ab.args{P:TL}{f:FuncId}{args args':TB}{l:TA}{R:AV->List TN->Prop}(hc:ab P f args' l R)(hv:∀w vs,aI w (entry l)->bq w args vs->bq w args' vs):ab P f args l R:=fun w vs h1 h2=>hc w vs h1 (hv w vs h1 h2)
def xg{w:NW}{a b:AV}{l m:TB}{vs:TI}(h:bq w (a::l) vs)(ZL:∀v,aw w a v->aw w b v)(hlm:∀us,bq w l us->bq w m us):bq w (b::m) vs:=by
 obtain⟨h1,h2⟩:=h;have ht:=hlm (vs.toList.tail.toArray) ⟨by simp at h1 ⊢;omega,fun i x v hx hv=>h2 (i+1) x v (by simpa using hx) (by simpa using hv)⟩;refine⟨?_,fun i x v hx hv=>?_⟩
 ·have:=ht.1;simp at h1 this ⊢;omega
 ·cases i with
  |zero=>simp at hx;subst hx;exact ZL v (h2 0 a v rfl hv)
  |succ i=>exact ht.2 i x v (by simpa using hx) (by simpa using hv)
def HP{w:NW}(sz:Nat)(d:TB):∀v,aw w (.raw (.slice none 0 0)) v->aw w (.sl false sz [] d) v:=fun v h=>by have:=db h;subst this;exact .gz _ _ _ _ (fun e=>by cases e)
def Sw{args:TB}(hv:bt (fun _=>true) H args args'):∀w vs,aI w H->bq w args vs->bq (w.cR fun _=>true) args' vs:=fun w vs h1 h2=>by
 obtain⟨UL,hg⟩:=hv.get;refine⟨by rw[<-UL];exact h2.1,fun i c v hc hv=>?_⟩;have hi:i<args.length:=by rw[UL];exact(List.getElem?_eq_some_iff.1 hc).1
 exact(hg i args[i] c (List.getElem?_eq_getElem hi) hc).sound h1 (h2.2 i _ v (List.getElem?_eq_getElem hi) hv)
def EL{w:NW}{i m sz o n:Nat}{t:TG}{css:S9}{d:TB}(hw:aI w H)(hi:H.get i=some (.aF t sz css))(hm:m=css.length)(hn:o+n<=m)(h0:0<sz)(hq:QL dU css){v:Value}(h:aw w (.rv i m sz o n) v):aw (w.cR fun _=>true) (.sl false sz ((css.drop o).take n) d) v:=by
 subst hm;have I':((css.drop o).take n).length=n:=by rw[List.length_take,List.length_drop];omega
 cases h with
 |jf _ _ _ _ c A=> have:(css.drop o).take 0=[]:=jE;rw[this];exact .gz _ _ _ _ (fun h=>by cases h)
 |rv _ _ _ _ _ b t' c Th Ts=>
  by_cases Wu:n=0
  ·subst Wu;have:(css.drop o).take 0=[]:=jE;rw[this];exact .gz _ _ _ _ (fun h=>by cases h)
  ·have hok:=(hw.rows i _ hi).1;have:=aw.sl (w:=w.cR fun _=>true) (d:=d) false sz ((css.drop o).take n) ⟨b,o*sz,none⟩ c (fun k=>(w.cell? ⟨b,o*sz+k,none⟩).getD undef) jB jB (fun h=>by cases h) (fun cs Ug=>hok.2 cs (List.mem_of_mem_drop (List.mem_of_mem_take Ug))) (hw.lt Th) (fun h=>h.2 i _ t' sz rfl Th) (fun k j hk hj=>by
    rw[I']at hk;obtain⟨_,_,_,v,h1,h2⟩:=rL hw hi Th (k:=o+k) (j:=j) jB hj;show w.cell? _=_;rw[je];have e:o*sz+(k*sz+j)=(o+k)*sz+j:=by rw[Nat.add_mul];omega
    rw[e,h1];rfl) (fun k j u hk hu=>by
    rw[I']at hk;have e0:((css.drop o).take n).getD k []=css.getD (o+k) []:=by rw[List.getD_eq_getElem?_getD,List.getElem?_take,if_pos hk,List.getElem?_drop,List.getD_eq_getElem?_getD]
    rw[e0]at hu;have Ub:css.getD (o+k) []∈css:=by rw[List.getD_eq_getElem?_getD,List.getElem?_eq_getElem jB];exact List.getElem_mem _
    have hj:j<sz:=by have:=(List.getElem?_eq_some_iff.1 hu).1;rwa [hok.2 _ Ub]at this
    obtain⟨_,_,_,v,h1,h2⟩:=rL hw hi Th (k:=o+k) (j:=j) jB hj;have e:o*sz+(k*sz+j)=(o+k)*sz+j:=by rw[Nat.add_mul];omega
    rw[e,h1];exact((h2 u hu).aU (pr w fun _=>true) (pY (fun _ h=>by cases h) _ (k8 (hq _ Ub) hu))).lb (k8 (hq _ Ub) hu))
   rw[I']at this;exact this
def B1{args:TB}{K:S8}{i sz:Nat}{t:TG}{α:Type}[Inhabited α]{enc:α->TB}[he:bC enc sz]{xs:List α}(Ux:∀x,lg (enc x)=true)(hi:H.get i=none)
  (hc:ab P f args' [] fun r l=>r=.rs i xs.length sz xs.length/\l=[(i,.aF t sz (xs.map enc))]) (hv:∀w vs,aI w H->bq w args vs->bq (w.cR fun _=>true) args' vs) (k:K (aM enc sz xs) H):di P f args H K:=fun w vs h1 h2=>by
 have W5:=SB hc hv (fun r l ⟨e1,e2⟩=>by
  subst e1 e2;refine⟨fun j hj=>?_,rfl,fun j row hj=>?_⟩
  ·by_cases e:j=i
   ·subst e;exact hi
   ·exact(hj (by simp only[aA];rw[if_neg e])).elim
  ·simp only[aA]at hj;split at hj
   ·cases hj;refine QR fun x hx=>?_
    obtain⟨y,_,rfl⟩:=List.mem_map.1 hx;exact Ux y
   ·cases hj) h1 h2
 refine W5.mono ?_;rintro e W ⟨v,r,l,w',rfl,rfl,⟨rfl,rfl⟩,g1,g2,g3,g4⟩;have g1:aI w' ⟨H.B,(i,.aF t sz (xs.map enc))::H.l⟩:=g1;have haj:∀m,w.nm i m=none:=fun m=>h1.none hi m
 have hgi:(Hp.mk H.B ((i,.aF t sz (xs.map enc))::H.l)).get i=some (.aF t sz (xs.map enc)):=by show(if i=i then _ else _)=_;rw[if_pos rfl]
 have hgj:∀j,j≠i->(Hp.mk H.B ((i,.aF t sz (xs.map enc))::H.l)).get j=H.get j:=fun j hj=>by show(if j=i then _ else _)=_;rw[if_neg hj];rfl
 have hak:=(cW.row (D:=fun j=>decide (j=i)) (dd:=enc default) (enc:=enc) xs jE hgi rfl).sound g1 g2;have k0:=pr w' (fun j=>decide (j=i));have ex:Ext w H (w'.cR fun j=>decide (j=i)) H:={
  size:=g3.size
  free:=fun b hb hO=>⟨(g3.free b hb hO).1,fun h=>(g3.free b hb hO).2 h.1⟩
  names:=fun j m z _ hz=>by
   have Vd:j≠i:=fun e=>by subst e;rw[haj]at hz;cases hz
   show(if decide (j=i)=true then none else w'.nm j m)=some z;rw[if_neg (by simpa using Vd)];exact g3.names j m z rfl hz
  os:=g3.os,tape:=g3.tape,output:=g3.output
  rest:=fun b hb hO Te=>by
   obtain⟨a1,a2,a3⟩:=g3.rest b hb hO Te;refine⟨a1,⟨a2,fun j m t' s _=>a3 j m t' s⟩,fun j m t' s h=>?_⟩;have h:(if decide (j=i)=true then none else w'.nm j m)=some (.at b t' s):=h;split at h
   ·cases h
   ·exact a3 _ _ _ _ h
  base:=rfl }
 refine⟨v,_,H,w'.cR fun j=>decide (j=i),rfl,rfl,k,{ bO:=g1.bO.aU k0,rows:=fun j s hj=>?_,cU:=fun j m z hz=>?_,inj:=fun j m j' m' b t1 s1 t2 s2 a1 a2=>?_,own:=fun j m b t1 s1 h=>?_,fin:=fun b hb=>g1.fin b hb.1 },hak,ex⟩
 ·have Vd:j≠i:=fun e=>by subst e;rw[hi]at hj;cases hj
  obtain⟨e1,z,e2,e3⟩:=h1.rows j s hj;refine⟨e1,z,ex.names _ _ _ rfl e2,e3.ext ex fun b t1 s1 ez=>?_⟩;subst ez;exact g4 b (h1.lt e2)
 ·have hz:(if decide (j=i)=true then none else w'.nm j m)=some z:=hz;split at hz
  ·cases hz
  ·rename_i e;obtain⟨r',c1,c2⟩:=g1.cU j m z hz;exact⟨r',by rw[<-hgj j (by simpa using e)];exact c1,c2⟩
 ·have a1:(if decide (j=i)=true then none else w'.nm j m)=_:=a1;have a2:(if decide (j'=i)=true then none else w'.nm j' m')=_:=a2;split at a1
  ·cases a1
  ·split at a2
   ·cases a2
   ·exact g1.inj _ _ _ _ _ _ _ _ _ a1 a2
 ·have h:(if decide (j=i)=true then none else w'.nm j m)=_:=h;split at h
  ·cases h
  ·rename_i e;refine⟨g1.own _ _ _ _ _ h,fun j' m' t' s' hd h'=>e ?_⟩;rw[g1.inj _ _ _ _ _ _ _ _ _ h h'];exact hd
@[go_sem] def j1b(a k n:Nat)(h:n<1000):(n == hn a k)=false:=by have:=ix a k;simp;omega
@[go_sem] def jw7(a b k j:Nat)(ha:a<32)(hb:b<32)(h:a≠b):(hn a k == hn b j)=false:=by simp;exact dh ha hb h
@[go_sem] def jy2(a k:Nat):(hn a k == hn a k)=true:=jE
@[go_sem] def N7(a k:Nat):hn a k+16=hn (a+16) k:=by unfold hn;omega
theorem FT{A C D:TE}(hA:A.isEmpty=false){E:TE}{l:List Oper}{ps:List TE}:∀(rest done:TE),oR (A,C,D) E l ps done rest=oR ([0],C,D) E l ps done rest
 |[],done=>rfl
 |i::rest,done=>by
  have e1:kR (A,C,D)=kR ([0],C,D):=rfl;have e2:ny (A,C,D) (dJ l i)=ny ([0],C,D) (dJ l i):=by have hA':(A,C,D).1.isEmpty=([0],C,D).1.isEmpty:=hA;unfold ny;rw[hA'];rfl
  unfold oR;rw[FT hA rest,e1,e2]
def Nd{A C D:TE}(hA:A.isEmpty=false){E:TE}{l:List Oper}{ord:TE}:pu (A,C,D) E l ord=pu ([0],C,D) E l ord:=by unfold pu;rw[FT hA];rfl
def pX{Q:Exit->S7}(id:Nat){l:List Oper}{q:Prop}(A C D E ord:TE)(hm:P.follows .mixedOrders=true)(h:q)(hA:A.isEmpty=false:=by rfl)(hok:pu ([0],C,D) E l ord=true:=by decide +kernel)(hE:ra P l E:=by simp only[ra,dJ,List.getD_cons_zero,List.getD_cons_succ,go_sem])(e:fG (A,C,D) P l.toArray (Q .normal) (ord.map (dJ l)) F H=q:=by(simp only[bc,List.map_cons,List.map_nil,dJ,List.getD_cons_zero,List.getD_cons_succ];exact fj)):dx P (.region id l.toArray true) Q F H:=Cb (A,C,D) E ord hm (by rw[Nd hA];exact hok) hE (e ▸ h)
def CJ(A:AS)(e l:TA):Prop:=∀j,A.1.contains j=false->aA e j≠none->aA l j=aA e j\/(A.1.contains (j+16)=true/\∃t c c' cs,aA e j=some (.var t (c::cs))/\aA l j=some (.var t (c'::cs)))
variable{l:TA}
def nS{A:AS}{args:TB}{e:TA}{r0:AV}{g:S8}{d:im fun r H'=>eo A ⟨B,tie e tl⟩ H'/\g r H'}{q:Prop}(hd:cV P f args e r0 l)(hx:CJ A e l)(k:q)(h0:aT P f=true:=by exact du)(hl:nM 0 tl:=by(repeat' first|exact dz|(refine dm (by decide) ?_)|fail))(e0:g r0 ⟨B,tie l tl⟩=q:=by exact fj) :
  ff P (.raw (.func (.func f) #[] #[])) args ⟨B,tie e tl⟩ (AP (fun r H'=>eo A ⟨B,tie e tl⟩ H'/\g r H') d):=by
 refine cG (K:=AP (fun r H'=>eo A ⟨B,tie e tl⟩ H'/\g r H') d) hd.c rfl hd.e1 hd.e2 hd.aU hl hd.a h0 ⟨fun i r hi hr=>?_,e0 ▸ k⟩;have hr:aA (tie e tl) i=some r:=hr;show aA (tie l tl) i=some r\/_/\∃t c c' cs,r=.var t (c::cs)/\aA (tie l tl) i=some (.var t (c'::cs));rw[j9]at hr ⊢;cases he:aA e i with
 |some s=>
  rw[he]at hr;cases hr;rcases hx i hi (by rw[he];simp)with h|⟨h1,t,c,c',cs,h2,h3⟩
  ·left;rw[h,he];rfl
  ·right
   rw[he]at h2;cases h2;exact⟨h1,t,c,c',cs,rfl,by rw[h3];rfl⟩
 |none=>
  rw[he]at hr;have hr:aA tl i=some r:=hr;have:=hl i r hr;left
  rw[hd.e2.low i this.2];exact hr
def Qv{n:Nat}{S:Type}{W:List (Nat×Nat)}{ok:S->Prop}{J:S->List (Nat×AV)}{G:S->Hp}{μ:S->Nat}{F₀:TB}{e0:TA}(hB:ids e0=B)(k1:fO 0 e0)(k2:fO 0 l)(hl:nM 0 tl)(s:S)(h1:ok s)(h2:μ s<n)(hG:(⟨B,tie l []⟩:Hp)=G s)(h3:bt (fK 0) ⟨B,tie l tl⟩ F (mB (J s) (ng W F₀))):Next n W ok J G μ F₀ F ⟨B,tie l tl⟩:=by obtain⟨a1,a2,a3⟩:=k1.free k2 hB hl;refine GQ (fK 0) s h1 h2 a1 a2 ?_ h3;rw[<-hG];show(Hp.mk B (fz (fK 0) (l++tl)))=_;rw[a3,<-Hz]
end Go.Gd
namespace Go.Proofs.YtjpcgmjaipfgdaaGreatDoor
open Go Go.Gd
structure AO(R:RS):Prop where
 sl:∀f∈R.gm,rK f.slots
 hp:tx R.heap
def KD(s:gw):Prop:=AO (RS.of s)
structure Good(p:af)(n:Nat)(s:gw):Prop where
 inv:xa p s
 cn:KD s
 t0:0<=s.time
 t1:s.time<=n
end Go.Proofs.YtjpcgmjaipfgdaaGreatDoor
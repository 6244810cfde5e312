/- Lemmas. No conditions. -/
import Derived.Test.YtjpcgmjaipfgdaaGreatDoorSo9
set_option linter.all false
set_option maxHeartbeats 4000000
set_option maxRecDepth 10000
namespace Go.Gd
open Go
theorem I7:∀(l:UT),iV (fun _=>true) l
 |[]=>trivial
 |_::l=>⟨.inl rfl,I7 l⟩
theorem Kl:∀(l:UT),fB (fun _=>true) l=[]
 |[]=>rfl
 |x::l=>Kl l
variable{P:U6}{f:FuncId}{r0:AV}
def aD.zk{args:UU}{r1:AV}{l0:UT}(hc:af P f args [] fun r l=>r=r0/\l=l0)(hv:db (fun _=>true) ⟨[],l0⟩ r0 r1):aD P f args r1:=fun w vs h1 h2=>by refine(hc w vs h1 h2).mono ?_;rintro e W ⟨v,r,⟨B,l⟩,w',rfl,e1,⟨rfl,rfl⟩,g1,g2,g3⟩;have hB:B=[]:=g3.base;subst hB;obtain⟨w2,k1,k2,k3,k4⟩:=iT.free (fun _=>true) rfl (I7 _) hv w' v g1 g2;refine⟨v,r1,_,w2,k1.symm,e1,⟨rfl,Kl _⟩,k2,k3,g3.trans k4⟩
variable{B:UZ}{l:UT}{K:UR}
def MM{args:UU}{l':UT}(h:∀i,aC l i=aC l' i)(k:dm P f args ⟨B,l'⟩ K):dm P f args ⟨B,l⟩ K:=fun w vs h1 h2=>by refine(k w vs (DE h h1) h2).mono ?_;rintro e W ⟨v,r,H',w',e0,e1,k,g1,g2,g3⟩;exact⟨v,r,H',w',e0,e1,k,g1,g2,{ g3.toExtQ with base:=g3.base }⟩
def GF(p:ab)(a:Int):Prop:=1<=(ak p a).l.length/\(ak p (nth (ak p a).l 0)).kind=21
structure fQ(lo:Nat)(e:List (Nat×Row)):Prop where
 no:∀i,lo<=i->i<1000->aC e i=none
 nodup:(ids e).Nodup
 closed:∀i r,aC e i=some r->aY (fun i=>(ids e).contains i) r.cells=true
def oe(lo:Nat)(tl:UT):Prop:=∀i r,aC tl i=some r->lo<=i/\i<1000
variable{lo:Nat}{tl:UT}
def fQ.bA{e:UT}(h:fQ lo e)(hl:oe lo tl):Lays (fun tl=>e++tl) tl:=⟨fun i=>by rw[wy,List.append_nil],fun i r hi=>by show aC (e++[]) i=none;rw[List.append_nil];exact h.no i (hl i r hi).1 (hl i r hi).2⟩
variable{e':UT}
def cG{args:UU}{H:Hp}{e:UT}(hc:af P f args e fun r l'=>r=r0/\l'=e')(hH:H=⟨B,e++tl⟩)
  (h1:fQ lo e) (h2:fQ lo e') (hs:∀i,aC e i≠none->aC e' i≠none) (hl:oe lo tl) (ha:aY (fun i=>(ids e).contains i) args=true) (h0:aX P f=true) (k:K r0 ⟨B,e'++tl⟩):fi P (.raw (.func (.func f) #[] #[])) args H K:=by
 subst hH;refine nw h0 (BF (E:=fun tl=>e++tl) (E':=fun tl=>e'++tl) ?_ (h1.bA hl) (h2.bA hl) ?_ ?_ ?_ k ?_)
 ·simp only[List.append_nil];exact hc
 ·simp only[List.append_nil];exact h2.nodup
 ·simp only[List.append_nil];exact ha
 ·simp only[List.append_nil];exact h1.closed
 ·simp only[List.append_nil];exact hs
def fR(lo:Nat):U5:=fun i=>decide (lo<=i/\i<1000)
theorem fQ.fR{lo:Nat}{e:UT}(h:fQ lo e){i:Nat}(hi:i∈ids e):fR lo i=false:=by
 unfold Go.Gd.fR;refine decide_eq_false fun h'=>?_
 exact(lT _ _).1 hi (h.no i h'.1 h'.2)
def fQ.free{e0:UT}(k1:fQ lo e0)(k2:fQ lo e')(hB:ids e0=B)(hl:oe lo tl) :
  B.all (iv (Go.Gd.fR lo))=true/\iV (Go.Gd.fR lo) (e'++tl)/\fB (Go.Gd.fR lo) (e'++tl)=e':=by
 have htl:∀i∈ids tl,Go.Gd.fR lo i=true:=fun i hi=>by obtain⟨r,hr⟩:=Option.ne_none_iff_exists'.1 ((lT _ _).1 hi);exact decide_eq_true (hl i r hr)
 refine⟨?_,?_,?_⟩
 ·rw[List.all_eq_true];intro i hi;rw[<-hB]at hi;unfold iv;rw[k1.fR hi];rfl
 ·refine Fa _ _ _ (It _ _ k2.nodup fun i r hi=>gf (fun j hj=>?_) _ (k2.closed i r hi)) (IW _ _ htl);unfold iv;rw[k2.fR (List.contains_iff_mem.1 hj)];rfl
 ·rw[EM,HT _ _ (fun i hi=>k2.fR hi),I1 _ _ htl,List.append_nil]
def hn(a k:Nat):Nat:=1000+(32*k+a)
def iN(a k:Nat):1000<=hn a k:=Nat.le_add_right _ _
def xF{a b k j:Nat}(ha:a<32)(hb:b<32)(h:hn a k=hn b j):a=b/\k=j:=by unfold hn at h;omega
@[go_sem] def qdh(a k n:Nat)(h:n<1000):(hn a k=n)=False:=by have:=iN a k;simp;omega
@[go_sem] def qds(a k n:Nat)(h:n<1000):(n=hn a k)=False:=by have:=iN a k;simp;omega
@[go_sem] def j71(a b k j:Nat)(ha:a<32)(hb:b<32)(h:a≠b):(hn a k=hn b j)=False:=by simp;intro e;exact h (xF ha hb e).1
def dt{a b k j:Nat}(ha:a<32)(hb:b<32)(h:a≠b):hn a k≠hn b j:=fun e=>h (xF ha hb e).1
@[go_sem] def j1k(l:UT)(a k:Nat)(r:Row)(i:Nat):aC (bp l (hn a k) r) i=if i=hn a k then some r else aC l i:=bP _ _ _ _
def o6:∀(l:UT) (i j:Nat) (r:Row),j∈ids (bp l i r)<->j=i\/j∈ids l:=fun l i j r=>by rw[lT,lT,bP];by_cases e:j=i<;>simp[e]
theorem DY:∀(l:UT) (i:Nat) (r:Row),(ids l).Nodup->(ids (bp l i r)).Nodup
 |[],i,r,_=>by simp[bp,ids]
 |(j,s)::l,i,r,h=>by
  have hc:=List.nodup_cons.1 h;unfold bp;split
  ·rename_i e;subst e;exact h
  ·rename_i e;refine List.nodup_cons.2 ⟨fun hm=>?_,DY l i r hc.2⟩;rcases(o6 l i j r).1 hm with h1|h1
   ·exact e h1.symm
   ·exact hc.1 h1
variable{i:Nat}
def fQ.put{e:UT}{r:Row}(h:fQ lo e)(hi:i<lo\/1000<=i)(hr:aY (fun j=>decide (j=i) || (ids e).contains j) r.cells=true):fQ lo (bp e i r):=by
 have hm:∀j,(decide (j=i) || (ids e).contains j)=true->(ids (bp e i r)).contains j=true:=fun j hj=>by
  rw[List.contains_iff_mem,o6];rcases Bool.or_eq_true _ _ ▸ hj with h1|h1
  ·exact .inl (of_decide_eq_true h1)
  ·exact .inr (List.contains_iff_mem.1 h1)
 refine⟨fun j h1 h2=>?_,DY _ _ _ h.nodup,fun j s hs=>?_⟩
 ·rw[bP,jN];exact h.no j h1 h2
 ·rw[bP]at hs;split at hs
  ·cases hs;exact gf hm _ hr
  ·exact gf (fun k hk=>hm k (by rw[Bool.or_eq_true];exact .inr hk)) _ (h.closed j s hs)
structure Up(X:List Nat)(e l:List (Nat×Row)):Prop where
 aW:∀i,aC e i≠none->aC l i≠none
 new:∀i,aC l i≠none->aC e i≠none\/i ∉ X
def Up.refl(X:UZ)(e:UT):Up X e e:=⟨fun _ h=>h,fun _ h=>.inl h⟩
def Up.trans{X:UZ}{a b c:UT}(h:Up X a b)(k:Up X b c):Up X a c:=⟨fun i hi=>k.aW i (h.aW i hi),fun i hi=>(k.new i hi).elim (h.new i) .inr⟩
def Up.put{X:UZ}{e:UT}(r:Row)(h:aC e i≠none\/i ∉ X):Up X e (bp e i r):=⟨fun j hj=>by
 rw[bP];split
 ·simp
 ·exact hj,fun j hj=>by
 rw[bP]at hj;split at hj
 ·rename_i e';subst e';exact h
 ·exact .inl hj⟩
def rA(X:UZ):Nat:=1+X.foldl max 0
theorem Fz:∀(X:UZ) (a:Nat),a<=X.foldl max a/\∀x∈X,x<=X.foldl max a
 |[],a=>⟨Nat.le_refl _,by simp⟩
 |y::X,a=>by
  obtain⟨h1,h2⟩:=Fz X (max a y);refine⟨Nat.le_trans (Nat.le_max_left _ _) h1,fun x hx=>?_⟩;rcases List.mem_cons.1 hx with rfl|hx
  ·exact Nat.le_trans (Nat.le_max_right _ _) h1
  ·exact h2 x hx
def RD(X:UZ){x:Nat}(h:x∈X):x<rA X:=by have:=(Fz X 0).2 x h;unfold rA;omega
def C4(X:UZ)(a d:Nat):hn a (rA X+d) ∉ X:=fun h=>by have:=RD X h;unfold hn at this;omega
def yH(e:UT)(X:UZ)(a d:Nat):aC e (hn a (rA (ids e++X)+d))=none:=by
 cases h:aC e (hn a (rA (ids e++X)+d))with
 |none=>rfl
 |some r=>exact(C4 (ids e++X) a d (List.mem_append_left _ ((lT _ _).2 (by rw[h];simp)))).elim
def Aa(e:UT)(X:UZ)(a d:Nat):hn a (rA (ids e++X)+d) ∉ X:=fun h=>C4 (ids e++X) a d (List.mem_append_right _ h)
def af.more{args:UU}{s e:UT}{R:AV->List U8->Prop}(hc:af P f args s R)(hs:∀i r,aC s i=some r->aC e i=some r)(ha:aY (fun i=>(ids s).contains i) args=true)(Vf:∀i r,aC s i=some r->aY (fun i=>(ids s).contains i) r.cells=true)
  (hn:∀r l,R r l->(ids l).Nodup/\∀i,aC l i≠none->aC s i≠none\/aC e i=none):af P f args e fun r l=>∃l0,R r l0/\l=gI e l0:=fun w vs hw hv=>by
 refine(zm (H:=entry e) (K:=fun r H'=>∃l0,R r l0/\H'=⟨ids e,gI e l0⟩) hc (fun i r hi=>hs i r hi) ha Vf (fun r l' hR=>⟨fun i x hx=>?_,(hn r l' hR).1,l',hR,rfl⟩) hw hv).mono ?_
 ·rcases(hn r l' hR).2 i (by rw[hx];simp)with h|h
  ·obtain⟨y,hy⟩:=Option.ne_none_iff_exists'.1 h;exact .inl (tF hy)
  ·exact .inr h
 ·rintro e' W ⟨v,r,H',w',rfl,rfl,⟨l0,hR,rfl⟩,g1,g2,g3⟩;exact⟨v,r,_,w',rfl,rfl,⟨l0,hR,rfl⟩,g1,g2,g3.pS⟩
def tie(e tl:UT):UT:=e++tl
def J2(e:UT):e=tie e []:=(List.append_nil e).symm
@[go_sem] def ko(e tl:UT)(i:Nat):aC (tie e tl) i=(aC e i).or (aC tl i):=wy _ _ _
theorem Kv:∀(e tl:UT) (i:Nat) (r:Row),bp (e++tl) i r=if(aC e i).isSome=true then bp e i r++tl else e++bp tl i r
 |[],tl,i,r=>by simp[aC,bp]
 |(j,s)::e,tl,i,r=>by
  show(if i=j then(i,r)::(e++tl)else(j,s)::bp (e++tl) i r)=if((if i=j then some s else aC e i):Option Row).isSome=true then(if i=j then(i,r)::e else(j,s)::bp e i r)++tl else(j,s)::(e++bp tl i r)
  by_cases h:i=j
  ·subst h;simp
  ·simp only[if_neg h];rw[Kv e tl i r];split<;>rfl
@[go_sem] def j79(e tl:UT)(i:Nat)(r:Row):bp (tie e tl) i r=if(aC e i).isSome=true then tie (bp e i r) tl else tie e (bp tl i r):=Kv _ _ _ _
attribute [go_sem] Option.some_or Option.none_or Option.isSome_some Option.isSome_none
def fQ.low{e:UT}(h:fQ 0 e):∀i,i<1000->aC e i=none:=fun i hi=>h.no i (Nat.zero_le _) hi
def dO:oe 0 []:=fun i r h=>by cases h
def dB{T:UT}{r:Row}(h:i<1000)(hT:oe 0 T):oe 0 ((i,r)::T):=fun j s hs=>by
 simp only[aC]at hs;split at hs
 ·omega
 ·exact hT j s hs
structure de(P:Program)(f:FuncId)(args:List AV)(e:List (Nat×Row))(r0:AV)(l:List (Nat×Row)):Prop where
 c:af P f args e fun r l'=>r=r0/\l'=l
 e1:fQ 0 e
 e2:fQ 0 l
 aW:∀i,aC e i≠none->aC l i≠none
 a:aY (fun i=>(ids e).contains i) args=true
def cT{args:UU}{e:UT}{q:Prop}(hd:de P f args e r0 l)(k:q)(h0:aX P f=true:=by exact dv)(hl:oe 0 tl:=by(repeat' first|exact dO|(refine dB (by decide) ?_)|fail))(e0:K r0 ⟨B,tie l tl⟩=q:=by exact fq):fi P (.raw (.func (.func f) #[] #[])) args ⟨B,tie e tl⟩ K:=
 cG hd.c rfl hd.e1 hd.e2 hd.aW hl hd.a h0 (e0 ▸ k)
@[go_sem] def HK(a k:Nat):fR 0 (hn a k)=false:=decide_eq_false (by have:=iN a k;omega)
def eO{fn:Func}{F:UU}{L:UT}{out:UU}{ex:Exit}{e:UT}(hB:ids e=B)(k1:fQ 0 e)(k2:fQ 0 l)(hp:∀i,aC L i=aC (tie l tl) i)(hl:oe 0 tl)(rs:List ResultVar)
  (hr:r0.all (iv (fR 0))=true:=by first|rfl|(simp only[go_sem,AV.all,aY,iv,HK];done))
  (Xr:fn.results.toList=rs:=by rfl) (he:ex=.normal\/ex=.ret:=by first|exact Or.inr rfl|exact Or.inl rfl|fail) (ho:jV P ⟨B,L⟩ F rs=some out:=by first|rfl|(simp(disch:=first|omega|fail) only[go_sem,↓reduceIte,Nat.reduceEqDiff,Nat.reduceLeDiff,Nat.reduceSub,Nat.reduceAdd];rfl)) (hok:kR P ⟨B,L⟩ F rs:=by first|exact jI|(simp(disch:=first|omega|fail) only[go_sem,↓reduceIte,Nat.reduceEqDiff,Nat.reduceLeDiff,Nat.reduceSub,Nat.reduceAdd])) (hv:kS out=r0:=by first|rfl|(simp only[go_sem];done)):lQ P fn (fun r l'=>r=r0/\l'=l) ex F ⟨B,L⟩:=by
 subst Xr;obtain⟨h1,h2,h3⟩:=k1.free k2 hB hl;have:=iT.free (r:=kS out) (r':=r0) (H:=⟨B,l++tl⟩) (Go.Gd.fR 0) h1 h2 (AB hv (hv ▸ hr));rw[show(Hp.mk B (l++tl)).l=l++tl from rfl,h3]at this;exact vO he ho hok r0 ⟨B,l⟩ ((Jb (B:=B) (l:=L) (l++tl) hp).trans this) ⟨rfl,rfl⟩
mutual
def AV.eG:AV->Bool
 |.raw _=>true
 |.any=>true
 |.agg cs=>lw cs
 |.ba cs=>lw cs
 |.gd _ v=>v.eG
 |.pt _ _ _ _=>true
 |.rs _ _ _ _=>true
 |.rc _ _ _ _=>true
 |.rv _ _ _ _ _=>true
 |.mr _=>true
 |_=>false
def lw:UU->Bool
 |[]=>true
 |a::l=>a.eG && lw l
end
theorem Ac:∀{l:UU},lw l=true->∀{i:Nat} {a:AV},l[i]?=some a->a.eG=true
 |[],_,i,a,h=>by simp at h
 |x::l,hl,i,a,h=>by
  simp only[lw,Bool.and_eq_true]at hl;cases i with
  |zero=>simp at h;subst h;exact hl.1
  |succ i=>exact Ac hl.2 (by simpa using h)
theorem Gl:∀(l m:UU),lw (l++m)=(lw l && lw m)
 |[],m=>by simp[lw]
 |a::l,m=>by simp only[List.cons_append,lw,Gl l m,Bool.and_assoc]
def KX{l:US}(h:∀x∈l,lw x=true):lw l.flatten=true:=by
 induction l with
 |nil=>rfl
 |cons x l ih=>rw[List.flatten_cons,Gl,h x jE,ih fun y hy=>h y (by simp[hy])];rfl
theorem ay.eG{w:NW}{a:AV}{v:Value}(h:ay w a v):∀{w':NW},(∀i m z,w.nm i m=some z->w'.nm i m=some z)->a.eG=true->ay w' a v:=by
 induction h with
 |raw v=>intro w' _ _;exact .raw v
 |any v=>intro w' _ _;exact .any v
 |agg cs vs hl _ ih=>intro w' k ha;simp only[AV.eG]at ha;exact .agg cs vs hl fun i a v h1 h2=>ih i a v h1 h2 k (Ac ha h1)
 |ba cs vs hl _ ih=>intro w' k ha;simp only[AV.eG]at ha;exact .ba cs vs hl fun i a v h1 h2=>ih i a v h1 h2 k (Ac ha h1)
 |gd p a v _ hu ih=>intro w' k ha;exact .gd p a v (fun hp=>ih hp k (by simpa only[AV.eG]using ha)) hu
 |pt i m o j b t s h=>intro w' k _;exact .pt i m o j b t s (k _ _ _ h)
 |iO i m sz A h=>intro w' k _;exact .iO i m sz A (k _ _ _ h)
 |rs i m sz n b t c h hc hn hs=>intro w' k _;exact .rs i m sz n b t c (k _ _ _ h) hc hn hs
 |rc i m sz n b t h hc hn hs=>intro w' k _;exact .rc i m sz n b t (k _ _ _ h) hc hn hs
 |jx i m sz o c A=>intro w' _ _;exact .jx i m sz o c A
 |rv i m sz o n b t c h hn=>intro w' k _;exact .rv i m sz o n b t c (k _ _ _ h) hn
 |mr i b t s h=>intro w' k _;exact .mr i b t s (k _ _ _ h)
 |gH=>intro w' _ ha;simp only[AV.eG]at ha;cases ha
 |sl=>intro w' _ ha;simp only[AV.eG]at ha;cases ha
 |ip=>intro w' _ ha;simp only[AV.eG]at ha;cases ha
 |eW=>intro w' _ ha;simp only[AV.eG]at ha;cases ha
 |bd=>intro w' _ ha;simp only[AV.eG]at ha;cases ha
 |iZ=>intro w' _ ha;simp only[AV.eG]at ha;cases ha
 |mv=>intro w' _ ha;simp only[AV.eG]at ha;cases ha
variable{P:U6}{f:FuncId}{args':UU}{H:Hp}
def SX{args:UU}{R:AV->List U8->Prop}(hc:af P f args' [] R)(hv:∀w vs,aL w H->bu w args vs->bu (w.cX fun _=>true) args' vs)
  (hk:∀r l,R r l->(∀i,aC l i≠none->H.get i=none)/\r.eG=true/\(∀i row,aC l i=some row->lw row.cells=true)) {w:NW} {vs:U3} (h1:aL w H) (h2:bu w args vs) :
  Calls P f vs w.toWorld fun e W=>∃v r l w',W=NW.toWorld w'/\e=.returned v/\R r l/\aL w' ⟨H.B,l++H.l⟩/\ay w' r v/\Ext w H w' ⟨H.B,l++H.l⟩/\∀b,b<w.heap.size->w'.heap[b]?=w.heap[b]?:=by
 have hw1:aL (w.cX fun _=>true) (entry []):={
  rows:=fun i r h=>by cases h
  dn:=fun i m z h=>by cases h
  inj:=fun i m j n b t s t' s' h _=>by cases h
  own:=fun i m b t s h=>by cases h
  fin:=fun b hb=>h1.fin b hb.1
  bS:=h1.bS.aW (qi w fun _=>true) }
 refine(hc (w.cX fun _=>true) vs hw1 (hv w vs h1 h2)).mono ?_;rintro e W ⟨v,r,H',w',rfl,rfl,hR,g1,g2,g3⟩;obtain⟨k1,k2,k3⟩:=hk r H'.l hR;have Xl:∀b,b<w.heap.size->w'.heap[b]?=w.heap[b]?:=fun b hb=>by
  classical
  by_cases hO:(w.cX fun _=>true).O b
  ·exact(g3.rest b hb hO fun i m t s h=>by cases h).1
  ·exact(g3.free b hb hO).1
 have Wg:∀i m z,w.nm i m=some z->w'.nm i m=none:=fun i m z hz=>by
  obtain⟨r',hr',_⟩:=h1.dn i m z hz;cases e:w'.nm i m with
  |none=>rfl
  |some z'=> obtain⟨r2,Xu,_⟩:=g1.dn i m z' e;have:=k1 i (by show aC H'.l i≠none;have Xu:aC H'.l i=some r2:=Xu;rw[Xu];simp);rw[this]at hr';cases hr'
 have Yn:∀i m b t s,w.nm i m=some (.at b t s)->¬w'.O b:=fun i m b t s hz=>by refine(g3.free b (h1.lt hz) fun hO=>hO.2 i m t s rfl hz).2
 let w2:NW:={ w' with O:=fun b=>w.O b\/w'.O b,nm:=fun i m=>(w'.nm i m).or (w.nm i m) }
 have VW:∀i m,w2.nm i m=(w'.nm i m).or (w.nm i m):=fun _ _=>rfl
 have up:∀i m z,w'.nm i m=some z->w2.nm i m=some z:=fun i m z h=>by rw[VW,h];rfl
 have Zl:Keep rD w w2:=⟨g3.size,fun b hb hO=>⟨Xl b hb,fun h=>h.elim hO (g3.free b hb fun h=>hO h.1).2⟩,fun i m z _ h=>by rw[VW,Wg i m z h];exact h⟩;have ex:Ext w H w2 ⟨H.B,H'.l++H.l⟩:={ Zl with
  os:=g3.os,tape:=g3.tape,output:=g3.output
  rest:=fun b hb hO Vj=>⟨Xl b hb,.inl hO,fun i m t s h=>by
   rw[VW]at h;cases e:w'.nm i m with
   |none=>rw[e]at h;exact Vj _ _ _ _ h
   |some z=> rw[e]at h;cases h;exact(g3.rest b hb ⟨hO,fun i m t s _=>Vj i m t s⟩ fun i m t s h=>by cases h).2.2 i m t s e⟩
  base:=rfl }
 have gE:∀i,(Hp.mk H.B (H'.l++H.l)).get i=(aC H'.l i).or (H.get i):=fun i=>wy _ _ _
 refine⟨v,r,H'.l,w2,rfl,rfl,hR,{ bS:=h1.bS.aW Zl,rows:=fun i s hi=>?_,dn:=fun i m z hz=>?_,inj:=fun i m j n b t s t' s' a1 a2=>?_,own:=fun i m b t s h=>?_,fin:=fun b hb=>?_ },g2.eG up k2,ex,Xl⟩
 ·rw[gE]at hi;cases e:aC H'.l i with
  |some x=>
   rw[e]at hi;cases hi;obtain⟨e1,z,e2,e3⟩:=g1.rows i s e;refine⟨e1,z,up _ _ _ e2,?_⟩;cases z with
   |nil=>exact e3
   |«at» b t st=> obtain⟨c1,cur,c2,c3,c4⟩:=e3;exact⟨c1,cur,c2,c3,fun j a u ha hu=>(c4 j a u ha hu).eG up (Ac (k3 i s e) ha)⟩
  |none=>
   rw[e]at hi;have hi:H.get i=some s:=hi;obtain⟨e1,z,e2,e3⟩:=h1.rows i s hi;refine⟨e1,z,Zl.names _ _ _ rfl e2,?_⟩;refine e3.ext ex fun b t st ez=>?_
   subst ez;exact Xl b (h1.lt e2)
 ·rw[VW]at hz;cases e:w'.nm i m with
  |some z'=> obtain⟨r',c1,c2⟩:=g1.dn i m z' e;exact⟨r',by rw[gE,show aC H'.l i=some r' from c1];rfl,c2⟩
  |none=>
   rw[e]at hz;obtain⟨r',c1,c2⟩:=h1.dn i m z hz;refine⟨r',?_,c2⟩;rw[gE];cases e2:aC H'.l i with
   |none=>exact c1
   |some x=>have:=k1 i (by rw[e2];simp);rw[this]at c1;cases c1
 ·rw[VW]at a1 a2;cases e1:w'.nm i m with
  |some z1=>
   rw[e1]at a1;cases a1;cases e2:w'.nm j n with
   |some z2=>rw[e2]at a2;cases a2;exact g1.inj _ _ _ _ _ _ _ _ _ e1 e2
   |none=>rw[e2]at a2;exact(Yn _ _ _ _ _ a2 (g1.own _ _ _ _ _ e1)).elim
  |none=>
   rw[e1]at a1;cases e2:w'.nm j n with
   |some z2=>rw[e2]at a2;cases a2;exact(Yn _ _ _ _ _ a1 (g1.own _ _ _ _ _ e2)).elim
   |none=>rw[e2]at a2;exact h1.inj _ _ _ _ _ _ _ _ _ a1 a2
 ·rw[VW]at h;cases e:w'.nm i m with
  |some z=>rw[e]at h;cases h;exact .inr (g1.own _ _ _ _ _ e)
  |none=>rw[e]at h;exact .inl (h1.own _ _ _ _ _ h)
 ·rcases hb with h|h
  ·exact Nat.lt_of_lt_of_le (h1.fin b h) g3.size
  ·exact g1.fin b h
section
variable {P:U6}{f:FuncId}{args:UU}{B:UZ}{e tl:UT}{r0:AV}{q:Prop}
def fg{c:Code}{Q:Exit->UQ}{F:UU}(h:dL P c Q F ⟨B,tie e []⟩):dL P c Q F ⟨B,e⟩:=by rw[J2 e];exact h
def nh{R:AV->Prop}(hd:de P f args e r0 e)(k:q)(h0:aX P f=true:=by exact dv)(hl:oe 0 tl:=by(repeat' first|exact dO|(refine dB (by decide) ?_)|fail))(e0:R r0=q:=by exact fq) :
  ∃r,(fi P (.raw (.func (.func f) #[] #[])) args ⟨B,tie e tl⟩ fun r' H'=>r'=r/\H'=⟨B,tie e tl⟩)/\R r:=
 ⟨r0,cG (K:=fun r' H'=>r'=r0/\H'=⟨B,tie e tl⟩) hd.c rfl hd.e1 hd.e2 hd.aW hl hd.a h0 ⟨rfl,rfl⟩,e0 ▸ k⟩
end
variable{F:UU}{B:UZ}{tl:UT}
def HY{fn:Func}{L L1:UT}{out:UU}{ex:Exit}{r0:AV}{e l:UT}(hB:ids e=B)(k1:fQ 0 e)(k2:fQ 0 l)(Vd:iT r0 ⟨B,L⟩ r0 ⟨B,L1⟩)(hp:∀i,aC L1 i=aC (tie l tl) i)(hl:oe 0 tl)(rs:List ResultVar)
  (hr:r0.all (iv (fR 0))=true:=by first|rfl|(simp only[go_sem,AV.all,aY,iv,HK];done))
  (Xr:fn.results.toList=rs:=by rfl) (he:ex=.normal\/ex=.ret:=by first|exact Or.inr rfl|exact Or.inl rfl|fail) (ho:jV P ⟨B,L⟩ F rs=some out:=by first|rfl|(simp(disch:=first|omega|fail) only[go_sem,↓reduceIte,Nat.reduceEqDiff,Nat.reduceLeDiff,Nat.reduceSub,Nat.reduceAdd];rfl)) (hok:kR P ⟨B,L⟩ F rs:=by first|exact jI|(simp(disch:=first|omega|fail) only[go_sem,↓reduceIte,Nat.reduceEqDiff,Nat.reduceLeDiff,Nat.reduceSub,Nat.reduceAdd])) (hv:kS out=r0:=by first|rfl|(simp only[go_sem];done)):lQ P fn (fun r l'=>r=r0/\l'=l) ex F ⟨B,L⟩:=by
 subst Xr;obtain⟨h1,h2,h3⟩:=k1.free k2 hB hl;have:=iT.free (r:=r0) (r':=r0) (H:=⟨B,l++tl⟩) (Go.Gd.fR 0) h1 h2 (AB rfl hr);rw[show(Hp.mk B (l++tl)).l=l++tl from rfl,h3]at this;exact vO he ho hok r0 ⟨B,l⟩ (hv ▸ Vd.trans ((Jb (B:=B) (l:=L1) (l++tl) hp).trans this)) ⟨rfl,rfl⟩
theorem uy:∀{l:UT} {i:Nat} {r:Row},aC l i=some r->bp l i r=l
 |[],_,_,h=>by cases h
 |(j,s)::l,i,r,h=>by
  have h:(if i=j then some s else aC l i)=some r:=h;show(if i=j then(i,r)::l else(j,s)::bp l i r)=_;by_cases e:i=j
  ·subst e;rw[if_pos rfl]at h ⊢;cases h;rfl
  ·rw[if_neg e]at h ⊢;rw[uy h]
theorem af.args{P:U6}{f:FuncId}{args args':UU}{l:UT}{R:AV->List U8->Prop}(hc:af P f args' l R)(hv:∀w vs,aL w (entry l)->bu w args vs->bu w args' vs):af P f args l R:=fun w vs h1 h2=>hc w vs h1 (hv w vs h1 h2)
def xz{w:NW}{a b:AV}{l m:UU}{vs:U3}(h:bu w (a::l) vs)(hab:∀v,ay w a v->ay w b v)(hlm:∀us,bu w l us->bu w m us):bu w (b::m) vs:=by
 obtain⟨h1,h2⟩:=h;have ht:=hlm (vs.toList.tail.toArray) ⟨by simp at h1 ⊢;omega,fun i x v hx hv=>h2 (i+1) x v (by simpa using hx) (by simpa using hv)⟩;refine⟨?_,fun i x v hx hv=>?_⟩
 ·have:=ht.1;simp at h1 this ⊢;omega
 ·cases i with
  |zero=>simp at hx;subst hx;exact hab v (h2 0 a v rfl hv)
  |succ i=>exact ht.2 i x v (by simpa using hx) (by simpa using hv)
def Ir{w:NW}(sz:Nat)(d:UU):∀v,ay w (.raw (.slice none 0 0)) v->ay w (.sl false sz [] d) v:=fun v h=>by have:=di h;subst this;exact .gH _ _ _ _ (fun e=>by cases e)
def Ls{args:UU}(hv:bD (fun _=>true) H args args'):∀w vs,aL w H->bu w args vs->bu (w.cX fun _=>true) args' vs:=fun w vs h1 h2=>by
 obtain⟨Wt,hg⟩:=hv.get;refine⟨by rw[<-Wt];exact h2.1,fun i c v hc hv=>?_⟩;have hi:i<args.length:=by rw[Wt];exact(List.getElem?_eq_some_iff.1 hc).1
 exact(hg i args[i] c (List.getElem?_eq_getElem hi) hc).sound h1 (h2.2 i _ v (List.getElem?_eq_getElem hi) hv)
def EU{w:NW}{i m sz o n:Nat}{t:U1}{css:US}{d:UU}(hw:aL w H)(hi:H.get i=some (.aJ t sz css))(hm:m=css.length)(hn:o+n<=m)(h0:0<sz)(hq:QL eJ css){v:Value}(h:ay w (.rv i m sz o n) v):ay (w.cX fun _=>true) (.sl false sz ((css.drop o).take n) d) v:=by
 subst hm;have O':((css.drop o).take n).length=n:=by rw[List.length_take,List.length_drop];omega
 cases h with
 |jx _ _ _ _ c A=> have:(css.drop o).take 0=[]:=jE;rw[this];exact .gH _ _ _ _ (fun h=>by cases h)
 |rv _ _ _ _ _ b t' c Vm Vd=>
  by_cases YO:n=0
  ·subst YO;have:(css.drop o).take 0=[]:=jE;rw[this];exact .gH _ _ _ _ (fun h=>by cases h)
  ·have hok:=(hw.rows i _ hi).1;have:=ay.sl (w:=w.cX fun _=>true) (d:=d) false sz ((css.drop o).take n) ⟨b,o*sz,none⟩ c (fun k=>(w.cell? ⟨b,o*sz+k,none⟩).getD undef) jB jB (fun h=>by cases h) (fun cs V3=>hok.2 cs (List.mem_of_mem_drop (List.mem_of_mem_take V3))) (hw.lt Vm) (fun h=>h.2 i _ t' sz rfl Vm) (fun k j hk hj=>by
    rw[O']at hk;obtain⟨_,_,_,v,h1,h2⟩:=rP hw hi Vm (k:=o+k) (j:=j) jB hj;show w.cell? _=_;rw[j6];have e:o*sz+(k*sz+j)=(o+k)*sz+j:=by rw[Nat.add_mul];omega
    rw[e,h1];rfl) (fun k j u hk hu=>by
    rw[O']at hk;have e0:((css.drop o).take n).getD k []=css.getD (o+k) []:=by rw[List.getD_eq_getElem?_getD,List.getElem?_take,if_pos hk,List.getElem?_drop,List.getD_eq_getElem?_getD]
    rw[e0]at hu;have VX:css.getD (o+k) []∈css:=by rw[List.getD_eq_getElem?_getD,List.getElem?_eq_getElem jB];exact List.getElem_mem _
    have hj:j<sz:=by have:=(List.getElem?_eq_some_iff.1 hu).1;rwa [hok.2 _ VX]at this
    obtain⟨_,_,_,v,h1,h2⟩:=rP hw hi Vm (k:=o+k) (j:=j) jB hj;have e:o*sz+(k*sz+j)=(o+k)*sz+j:=by rw[Nat.add_mul];omega
    rw[e,h1];exact((h2 u hu).aW (qi w fun _=>true) (rk (fun _ h=>by cases h) _ (mg (hq _ VX) hu))).lm (mg (hq _ VX) hu))
   rw[O']at this;exact this
def C8{args:UU}{K:UR}{i sz:Nat}{t:U1}{α:Type}[Inhabited α]{enc:α->UU}[he:bG enc sz]{xs:List α}(Wp:∀x,lw (enc x)=true)(hi:H.get i=none)
  (hc:af P f args' [] fun r l=>r=.rs i xs.length sz xs.length/\l=[(i,.aJ t sz (xs.map enc))]) (hv:∀w vs,aL w H->bu w args vs->bu (w.cX fun _=>true) args' vs) (k:K (aM enc sz xs) H):dm P f args H K:=fun w vs h1 h2=>by
 have hcn:=SX hc hv (fun r l ⟨e1,e2⟩=>by
  subst e1 e2;refine⟨fun j hj=>?_,rfl,fun j row hj=>?_⟩
  ·by_cases e:j=i
   ·subst e;exact hi
   ·exact(hj (by simp only[aC];rw[if_neg e])).elim
  ·simp only[aC]at hj;split at hj
   ·cases hj;refine KX fun x hx=>?_
    obtain⟨y,_,rfl⟩:=List.mem_map.1 hx;exact Wp y
   ·cases hj) h1 h2
 refine hcn.mono ?_;rintro e W ⟨v,r,l,w',rfl,rfl,⟨rfl,rfl⟩,g1,g2,g3,g4⟩;have g1:aL w' ⟨H.B,(i,.aJ t sz (xs.map enc))::H.l⟩:=g1;have hbr:∀m,w.nm i m=none:=fun m=>h1.none hi m
 have hgi:(Hp.mk H.B ((i,.aJ t sz (xs.map enc))::H.l)).get i=some (.aJ t sz (xs.map enc)):=by show(if i=i then _ else _)=_;rw[if_pos rfl]
 have hgj:∀j,j≠i->(Hp.mk H.B ((i,.aJ t sz (xs.map enc))::H.l)).get j=H.get j:=fun j hj=>by show(if j=i then _ else _)=_;rw[if_neg hj];rfl
 have hbs:=(db.row (D:=fun j=>decide (j=i)) (dd:=enc default) (enc:=enc) xs jE hgi rfl).sound g1 g2;have k0:=qi w' (fun j=>decide (j=i));have ex:Ext w H (w'.cX fun j=>decide (j=i)) H:={
  size:=g3.size
  free:=fun b hb hO=>⟨(g3.free b hb hO).1,fun h=>(g3.free b hb hO).2 h.1⟩
  names:=fun j m z _ hz=>by
   have WW:j≠i:=fun e=>by subst e;rw[hbr]at hz;cases hz
   show(if decide (j=i)=true then none else w'.nm j m)=some z;rw[if_neg (by simpa using WW)];exact g3.names j m z rfl hz
  os:=g3.os,tape:=g3.tape,output:=g3.output
  rest:=fun b hb hO Vj=>by
   obtain⟨a1,a2,a3⟩:=g3.rest b hb hO Vj;refine⟨a1,⟨a2,fun j m t' s _=>a3 j m t' s⟩,fun j m t' s h=>?_⟩;have h:(if decide (j=i)=true then none else w'.nm j m)=some (.at b t' s):=h;split at h
   ·cases h
   ·exact a3 _ _ _ _ h
  base:=rfl }
 refine⟨v,_,H,w'.cX fun j=>decide (j=i),rfl,rfl,k,{ bS:=g1.bS.aW k0,rows:=fun j s hj=>?_,dn:=fun j m z hz=>?_,inj:=fun j m j' m' b t1 s1 t2 s2 a1 a2=>?_,own:=fun j m b t1 s1 h=>?_,fin:=fun b hb=>g1.fin b hb.1 },hbs,ex⟩
 ·have WW:j≠i:=fun e=>by subst e;rw[hi]at hj;cases hj
  obtain⟨e1,z,e2,e3⟩:=h1.rows j s hj;refine⟨e1,z,ex.names _ _ _ rfl e2,e3.ext ex fun b t1 s1 ez=>?_⟩;subst ez;exact g4 b (h1.lt e2)
 ·have hz:(if decide (j=i)=true then none else w'.nm j m)=some z:=hz;split at hz
  ·cases hz
  ·rename_i e;obtain⟨r',c1,c2⟩:=g1.dn j m z hz;exact⟨r',by rw[<-hgj j (by simpa using e)];exact c1,c2⟩
 ·have a1:(if decide (j=i)=true then none else w'.nm j m)=_:=a1;have a2:(if decide (j'=i)=true then none else w'.nm j' m')=_:=a2;split at a1
  ·cases a1
  ·split at a2
   ·cases a2
   ·exact g1.inj _ _ _ _ _ _ _ _ _ a1 a2
 ·have h:(if decide (j=i)=true then none else w'.nm j m)=_:=h;split at h
  ·cases h
  ·rename_i e;refine⟨g1.own _ _ _ _ _ h,fun j' m' t' s' hd h'=>e ?_⟩;rw[g1.inj _ _ _ _ _ _ _ _ _ h h'];exact hd
@[go_sem] def j3c(a k n:Nat)(h:n<1000):(n == hn a k)=false:=by have:=iN a k;simp;omega
@[go_sem] def jyZ(a b k j:Nat)(ha:a<32)(hb:b<32)(h:a≠b):(hn a k == hn b j)=false:=by simp;exact dt ha hb h
@[go_sem] def j0V(a k:Nat):(hn a k == hn a k)=true:=jE
@[go_sem] def UK(a k:Nat):hn a k+16=hn (a+16) k:=by unfold hn;omega
theorem GZ{A C D:UZ}(hA:A.isEmpty=false){E:UZ}{l:List Oper}{ps:List UZ}:∀(rest done:UZ),pv (A,C,D) E l ps done rest=pv ([0],C,D) E l ps done rest
 |[],done=>rfl
 |i::rest,done=>by
  have e1:lf (A,C,D)=lf ([0],C,D):=rfl;have e2:nJ (A,C,D) (dV l i)=nJ ([0],C,D) (dV l i):=by have hA':(A,C,D).1.isEmpty=([0],C,D).1.isEmpty:=hA;unfold nJ;rw[hA'];rfl
  unfold pv;rw[GZ hA rest,e1,e2]
def NF{A C D:UZ}(hA:A.isEmpty=false){E:UZ}{l:List Oper}{ord:UZ}:qn (A,C,D) E l ord=qn ([0],C,D) E l ord:=by unfold qn;rw[GZ hA];rfl
def qw{Q:Exit->UQ}(id:Nat){l:List Oper}{q:Prop}(A C D E ord:UZ)(hm:P.follows .mixedOrders=true)(h:q)(hA:A.isEmpty=false:=by rfl)(hok:qn ([0],C,D) E l ord=true:=by decide +kernel)(hE:sd P l E:=by simp only[sd,dV,List.getD_cons_zero,List.getD_cons_succ,go_sem])(e:fM (A,C,D) P l.toArray (Q .normal) (ord.map (dV l)) F H=q:=by(simp only[bf,List.map_cons,List.map_nil,dV,List.getD_cons_zero,List.getD_cons_succ];exact fq)):dL P (.region id l.toArray true) Q F H:=A3 (A,C,D) E ord hm (by rw[NF hA];exact hok) hE (e ▸ h)
def Dx(A:AS)(e l:UT):Prop:=∀j,A.1.contains j=false->aC e j≠none->aC l j=aC e j\/(A.1.contains (j+16)=true/\∃t c c' cs,aC e j=some (.var t (c::cs))/\aC l j=some (.var t (c'::cs)))
variable{l:UT}
def o8{A:AS}{args:UU}{e:UT}{r0:AV}{g:UR}{d:ir fun r H'=>eD A ⟨B,tie e tl⟩ H'/\g r H'}{q:Prop}(hd:de P f args e r0 l)(hx:Dx A e l)(k:q)(h0:aX P f=true:=by exact dv)(hl:oe 0 tl:=by(repeat' first|exact dO|(refine dB (by decide) ?_)|fail))(e0:g r0 ⟨B,tie l tl⟩=q:=by exact fq) :
  fi P (.raw (.func (.func f) #[] #[])) args ⟨B,tie e tl⟩ (AP (fun r H'=>eD A ⟨B,tie e tl⟩ H'/\g r H') d):=by
 refine cG (K:=AP (fun r H'=>eD A ⟨B,tie e tl⟩ H'/\g r H') d) hd.c rfl hd.e1 hd.e2 hd.aW hl hd.a h0 ⟨fun i r hi hr=>?_,e0 ▸ k⟩;have hr:aC (tie e tl) i=some r:=hr;show aC (tie l tl) i=some r\/_/\∃t c c' cs,r=.var t (c::cs)/\aC (tie l tl) i=some (.var t (c'::cs));rw[ko]at hr ⊢;cases he:aC e i with
 |some s=>
  rw[he]at hr;cases hr;rcases hx i hi (by rw[he];simp)with h|⟨h1,t,c,c',cs,h2,h3⟩
  ·left;rw[h,he];rfl
  ·right
   rw[he]at h2;cases h2;exact⟨h1,t,c,c',cs,rfl,by rw[h3];rfl⟩
 |none=>
  rw[he]at hr;have hr:aC tl i=some r:=hr;have:=hl i r hr;left
  rw[hd.e2.low i this.2];exact hr
def Po{n:Nat}{S:Type}{W:List (Nat×Nat)}{ok:S->Prop}{J:S->List (Nat×AV)}{G:S->Hp}{μ:S->Nat}{F₀:UU}{e0:UT}(hB:ids e0=B)(k1:fQ 0 e0)(k2:fQ 0 l)(hl:oe 0 tl)(s:S)(h1:ok s)(h2:μ s<n)(hG:(⟨B,tie l []⟩:Hp)=G s)(h3:bD (fR 0) ⟨B,tie l tl⟩ F (ni (J s) (nH W F₀))):Next n W ok J G μ F₀ F ⟨B,tie l tl⟩:=by obtain⟨a1,a2,a3⟩:=k1.free k2 hB hl;refine Is (fR 0) s h1 h2 a1 a2 ?_ h3;rw[<-hG];show(Hp.mk B (fB (fR 0) (l++tl)))=_;rw[a3,<-J2]
end Go.Gd
namespace Go.Proofs.YtjpcgmjaipfgdaaGreatDoor
open Go Go.Gd
def AM{α:Type}[Inhabited α]{a b:List α}(hl:a.length=b.length)(h:∀j,j<a.length->nth a j=nth b j):a=b:=by apply List.ext_getElem hl;intro i h1 h2;have:=h i h1;rwa [fA h1,fA h2]at this
end Go.Proofs.YtjpcgmjaipfgdaaGreatDoor
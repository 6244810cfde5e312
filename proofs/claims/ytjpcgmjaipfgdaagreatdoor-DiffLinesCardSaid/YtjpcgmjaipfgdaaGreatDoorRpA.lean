/- Lemmas. No conditions. -/
import Derived.Test.YtjpcgmjaipfgdaaGreatDoorSo9
set_option linter.all false
set_option maxHeartbeats 4000000
set_option maxRecDepth 10000
namespace Go.Gd
open Go
theorem Es:∀(l:UR),kI (fun _=>true) l
 |[]=>trivial
 |_::l=>⟨.inl rfl,Es l⟩
theorem EJ:∀(l:UR),gi (fun _=>true) l=[]
 |[]=>rfl
 |x::l=>EJ l
variable{P:U3}{f:FuncId}{r0:AV}
def aL.S5{args:US}{r1:AV}{l0:UR}(hc:ab P f args [] fun r l=>r=r0/\l=l0)(hv:dn (fun _=>true) ⟨[],l0⟩ r0 r1):aL P f args r1:=fun w vs h1 h2=>by refine(hc w vs h1 h2).mono ?_;rintro e W ⟨v,r,⟨B,l⟩,w',rfl,e1,⟨rfl,rfl⟩,g1,g2,g3⟩;have hB:B=[]:=g3.base;subst hB;obtain⟨w2,k1,k2,k3,k4⟩:=iN.free (fun _=>true) rfl (Es _) hv w' v g1 g2;refine⟨v,r1,_,w2,k1.symm,e1,⟨rfl,EJ _⟩,k2,k3,g3.trans k4⟩
variable{B:UW}{l:UR}{K:UP}
def Nt{args:US}{l':UR}(h:∀i,az l i=az l' i)(k:cS P f args ⟨B,l'⟩ K):cS P f args ⟨B,l⟩ K:=fun w vs h1 h2=>by refine(k w vs (DA h h1) h2).mono ?_;rintro e W ⟨v,r,H',w',e0,e1,k,g1,g2,g3⟩;exact⟨v,r,H',w',e0,e1,k,g1,g2,{ g3.toExtQ with base:=g3.base }⟩
structure fF(lo:Nat)(e:List (Nat×Row)):Prop where
 no:∀i,lo<=i->i<1000->az e i=none
 nodup:(ids e).Nodup
 closed:∀i r,az e i=some r->aR (fun i=>(ids e).contains i) r.cells=true
def oF(lo:Nat)(tl:UR):Prop:=∀i r,az tl i=some r->lo<=i/\i<1000
variable{lo:Nat}{tl:UR}
def fF.bv{e:UR}(h:fF lo e)(hl:oF lo tl):Lays (fun tl=>e++tl) tl:=⟨fun i=>by rw[wy,List.append_nil],fun i r hi=>by show az (e++[]) i=none;rw[List.append_nil];exact h.no i (hl i r hi).1 (hl i r hi).2⟩
variable{e':UR}
def cG{args:US}{H:Hp}{e:UR}(hc:ab P f args e fun r l'=>r=r0/\l'=e')(hH:H=⟨B,e++tl⟩)
  (h1:fF lo e) (h2:fF lo e') (hs:∀i,az e i≠none->az e' i≠none) (hl:oF lo tl) (ha:aR (fun i=>(ids e).contains i) args=true) (h0:aW P f=true) (k:K r0 ⟨B,e'++tl⟩):eQ P (.raw (.func (.func f) #[] #[])) args H K:=by
 subst hH;refine nS h0 (CK (E:=fun tl=>e++tl) (E':=fun tl=>e'++tl) ?_ (h1.bv hl) (h2.bv hl) ?_ ?_ ?_ k ?_)
 ·simp only[List.append_nil];exact hc
 ·simp only[List.append_nil];exact h2.nodup
 ·simp only[List.append_nil];exact ha
 ·simp only[List.append_nil];exact h1.closed
 ·simp only[List.append_nil];exact hs
def fO(lo:Nat):U2:=fun i=>decide (lo<=i/\i<1000)
theorem fF.fO{lo:Nat}{e:UR}(h:fF lo e){i:Nat}(hi:i∈ids e):fO lo i=false:=by
 unfold Go.Gd.fO;refine decide_eq_false fun h'=>?_
 exact(lR _ _).1 hi (h.no i h'.1 h'.2)
def fF.free{e0:UR}(k1:fF lo e0)(k2:fF lo e')(hB:ids e0=B)(hl:oF lo tl) :
  B.all (iY (Go.Gd.fO lo))=true/\kI (Go.Gd.fO lo) (e'++tl)/\gi (Go.Gd.fO lo) (e'++tl)=e':=by
 have htl:∀i∈ids tl,Go.Gd.fO lo i=true:=fun i hi=>by obtain⟨r,hr⟩:=Option.ne_none_iff_exists'.1 ((lR _ _).1 hi);exact decide_eq_true (hl i r hr)
 refine⟨?_,?_,?_⟩
 ·rw[List.all_eq_true];intro i hi;rw[<-hB]at hi;unfold iY;rw[k1.fO hi];rfl
 ·refine IZ _ _ _ (Fg _ _ k2.nodup fun i r hi=>fR (fun j hj=>?_) _ (k2.closed i r hi)) (HQ _ _ htl);unfold iY;rw[k2.fO (List.contains_iff_mem.1 hj)];rfl
 ·rw[I8,Ic _ _ (fun i hi=>k2.fO hi),Fq _ _ htl,List.append_nil]
def hn(a k:Nat):Nat:=1000+(32*k+a)
def iJ(a k:Nat):1000<=hn a k:=Nat.le_add_right _ _
def xB{a b k j:Nat}(ha:a<32)(hb:b<32)(h:hn a k=hn b j):a=b/\k=j:=by unfold hn at h;omega
@[go_sem] def qc3(a k n:Nat)(h:n<1000):(hn a k=n)=False:=by have:=iJ a k;simp;omega
@[go_sem] def qdf(a k n:Nat)(h:n<1000):(n=hn a k)=False:=by have:=iJ a k;simp;omega
@[go_sem] def j7D(a b k j:Nat)(ha:a<32)(hb:b<32)(h:a≠b):(hn a k=hn b j)=False:=by simp;intro e;exact h (xB ha hb e).1
def dc{a b k j:Nat}(ha:a<32)(hb:b<32)(h:a≠b):hn a k≠hn b j:=fun e=>h (xB ha hb e).1
@[go_sem] def j09(l:UR)(a k:Nat)(r:Row)(i:Nat):az (aZ l (hn a k) r) i=if i=hn a k then some r else az l i:=bO _ _ _ _
def pc:∀(l:UR) (i j:Nat) (r:Row),j∈ids (aZ l i r)<->j=i\/j∈ids l:=fun l i j r=>by rw[lR,lR,bO];by_cases e:j=i<;>simp[e]
theorem Cp:∀(l:UR) (i:Nat) (r:Row),(ids l).Nodup->(ids (aZ l i r)).Nodup
 |[],i,r,_=>by simp[aZ,ids]
 |(j,s)::l,i,r,h=>by
  have hc:=List.nodup_cons.1 h;unfold aZ;split
  ·rename_i e;subst e;exact h
  ·rename_i e;refine List.nodup_cons.2 ⟨fun hm=>?_,Cp l i r hc.2⟩;rcases(pc l i j r).1 hm with h1|h1
   ·exact e h1.symm
   ·exact hc.1 h1
variable{i:Nat}
def fF.put{e:UR}{r:Row}(h:fF lo e)(hi:i<lo\/1000<=i)(hr:aR (fun j=>decide (j=i) || (ids e).contains j) r.cells=true):fF lo (aZ e i r):=by
 have hm:∀j,(decide (j=i) || (ids e).contains j)=true->(ids (aZ e i r)).contains j=true:=fun j hj=>by
  rw[List.contains_iff_mem,pc];rcases Bool.or_eq_true _ _ ▸ hj with h1|h1
  ·exact .inl (of_decide_eq_true h1)
  ·exact .inr (List.contains_iff_mem.1 h1)
 refine⟨fun j h1 h2=>?_,Cp _ _ _ h.nodup,fun j s hs=>?_⟩
 ·rw[bO,jN];exact h.no j h1 h2
 ·rw[bO]at hs;split at hs
  ·cases hs;exact fR hm _ hr
  ·exact fR (fun k hk=>hm k (by rw[Bool.or_eq_true];exact .inr hk)) _ (h.closed j s hs)
structure Up(X:List Nat)(e l:List (Nat×Row)):Prop where
 aU:∀i,az e i≠none->az l i≠none
 new:∀i,az l i≠none->az e i≠none\/i ∉ X
def Up.refl(X:UW)(e:UR):Up X e e:=⟨fun _ h=>h,fun _ h=>.inl h⟩
def Up.trans{X:UW}{a b c:UR}(h:Up X a b)(k:Up X b c):Up X a c:=⟨fun i hi=>k.aU i (h.aU i hi),fun i hi=>(k.new i hi).elim (h.new i) .inr⟩
def Up.put{X:UW}{e:UR}(r:Row)(h:az e i≠none\/i ∉ X):Up X e (aZ e i r):=⟨fun j hj=>by
 rw[bO];split
 ·simp
 ·exact hj,fun j hj=>by
 rw[bO]at hj;split at hj
 ·rename_i e';subst e';exact h
 ·exact .inl hj⟩
def ri(X:UW):Nat:=1+X.foldl max 0
theorem Kw:∀(X:UW) (a:Nat),a<=X.foldl max a/\∀x∈X,x<=X.foldl max a
 |[],a=>⟨Nat.le_refl _,by simp⟩
 |y::X,a=>by
  obtain⟨h1,h2⟩:=Kw X (max a y);refine⟨Nat.le_trans (Nat.le_max_left _ _) h1,fun x hx=>?_⟩;rcases List.mem_cons.1 hx with rfl|hx
  ·exact Nat.le_trans (Nat.le_max_right _ _) h1
  ·exact h2 x hx
def Ty(X:UW){x:Nat}(h:x∈X):x<ri X:=by have:=(Kw X 0).2 x h;unfold ri;omega
def BE(X:UW)(a d:Nat):hn a (ri X+d) ∉ X:=fun h=>by have:=Ty X h;unfold hn at this;omega
def zL(e:UR)(X:UW)(a d:Nat):az e (hn a (ri (ids e++X)+d))=none:=by
 cases h:az e (hn a (ri (ids e++X)+d))with
 |none=>rfl
 |some r=>exact(BE (ids e++X) a d (List.mem_append_left _ ((lR _ _).2 (by rw[h];simp)))).elim
def Al(e:UR)(X:UW)(a d:Nat):hn a (ri (ids e++X)+d) ∉ X:=fun h=>BE (ids e++X) a d (List.mem_append_right _ h)
def ab.more{args:US}{s e:UR}{R:AV->List U5->Prop}(hc:ab P f args s R)(hs:∀i r,az s i=some r->az e i=some r)(ha:aR (fun i=>(ids s).contains i) args=true)(U9:∀i r,az s i=some r->aR (fun i=>(ids s).contains i) r.cells=true)
  (hn:∀r l,R r l->(ids l).Nodup/\∀i,az l i≠none->az s i≠none\/az e i=none):ab P f args e fun r l=>∃l0,R r l0/\l=gB e l0:=fun w vs hw hv=>by
 refine(zC (H:=entry e) (K:=fun r H'=>∃l0,R r l0/\H'=⟨ids e,gB e l0⟩) hc (fun i r hi=>hs i r hi) ha U9 (fun r l' hR=>⟨fun i x hx=>?_,(hn r l' hR).1,l',hR,rfl⟩) hw hv).mono ?_
 ·rcases(hn r l' hR).2 i (by rw[hx];simp)with h|h
  ·obtain⟨y,hy⟩:=Option.ne_none_iff_exists'.1 h;exact .inl (tW hy)
  ·exact .inr h
 ·rintro e' W ⟨v,r,H',w',rfl,rfl,⟨l0,hR,rfl⟩,g1,g2,g3⟩;exact⟨v,r,_,w',rfl,rfl,⟨l0,hR,rfl⟩,g1,g2,g3.qA⟩
def tie(e tl:UR):UR:=e++tl
def IQ(e:UR):e=tie e []:=(List.append_nil e).symm
@[go_sem] def kg(e tl:UR)(i:Nat):az (tie e tl) i=(az e i).or (az tl i):=wy _ _ _
theorem FB:∀(e tl:UR) (i:Nat) (r:Row),aZ (e++tl) i r=if(az e i).isSome=true then aZ e i r++tl else e++aZ tl i r
 |[],tl,i,r=>by simp[az,aZ]
 |(j,s)::e,tl,i,r=>by
  show(if i=j then(i,r)::(e++tl)else(j,s)::aZ (e++tl) i r)=if((if i=j then some s else az e i):Option Row).isSome=true then(if i=j then(i,r)::e else(j,s)::aZ e i r)++tl else(j,s)::(e++aZ tl i r)
  by_cases h:i=j
  ·subst h;simp
  ·simp only[if_neg h];rw[FB e tl i r];split<;>rfl
@[go_sem] def j7K(e tl:UR)(i:Nat)(r:Row):aZ (tie e tl) i r=if(az e i).isSome=true then tie (aZ e i r) tl else tie e (aZ tl i r):=FB _ _ _ _
attribute [go_sem] Option.some_or Option.none_or Option.isSome_some Option.isSome_none
def fF.low{e:UR}(h:fF 0 e):∀i,i<1000->az e i=none:=fun i hi=>h.no i (Nat.zero_le _) hi
def dL:oF 0 []:=fun i r h=>by cases h
def du{T:UR}{r:Row}(h:i<1000)(hT:oF 0 T):oF 0 ((i,r)::T):=fun j s hs=>by
 simp only[az]at hs;split at hs
 ·omega
 ·exact hT j s hs
structure cM(P:Program)(f:FuncId)(args:List AV)(e:List (Nat×Row))(r0:AV)(l:List (Nat×Row)):Prop where
 c:ab P f args e fun r l'=>r=r0/\l'=l
 e1:fF 0 e
 e2:fF 0 l
 aU:∀i,az e i≠none->az l i≠none
 a:aR (fun i=>(ids e).contains i) args=true
def cT{args:US}{e:UR}{q:Prop}(hd:cM P f args e r0 l)(k:q)(h0:aW P f=true:=by exact dz)(hl:oF 0 tl:=by(repeat' first|exact dL|(refine du (by decide) ?_)|fail))(e0:K r0 ⟨B,tie l tl⟩=q:=by exact fj):eQ P (.raw (.func (.func f) #[] #[])) args ⟨B,tie e tl⟩ K:=
 cG hd.c rfl hd.e1 hd.e2 hd.aU hl hd.a h0 (e0 ▸ k)
@[go_sem] def JM(a k:Nat):fO 0 (hn a k)=false:=decide_eq_false (by have:=iJ a k;omega)
def eu{fn:Func}{F:US}{L:UR}{out:US}{ex:Exit}{e:UR}(hB:ids e=B)(k1:fF 0 e)(k2:fF 0 l)(hp:∀i,az L i=az (tie l tl) i)(hl:oF 0 tl)(rs:List ResultVar)
  (hr:r0.all (iY (fO 0))=true:=by first|rfl|(simp only[go_sem,AV.all,aR,iY,JM];done))
  (Xx:fn.results.toList=rs:=by rfl) (he:ex=.normal\/ex=.ret:=by first|exact Or.inr rfl|exact Or.inl rfl|fail) (ho:kf P ⟨B,L⟩ F rs=some out:=by first|rfl|(simp(disch:=first|omega|fail) only[go_sem,↓reduceIte,Nat.reduceEqDiff,Nat.reduceLeDiff,Nat.reduceSub,Nat.reduceAdd];rfl)) (hok:k8 P ⟨B,L⟩ F rs:=by first|exact jI|(simp(disch:=first|omega|fail) only[go_sem,↓reduceIte,Nat.reduceEqDiff,Nat.reduceLeDiff,Nat.reduceSub,Nat.reduceAdd])) (hv:lJ out=r0:=by first|rfl|(simp only[go_sem];done)):mw P fn (fun r l'=>r=r0/\l'=l) ex F ⟨B,L⟩:=by
 subst Xx;obtain⟨h1,h2,h3⟩:=k1.free k2 hB hl;have:=iN.free (r:=lJ out) (r':=r0) (H:=⟨B,l++tl⟩) (Go.Gd.fO 0) h1 h2 (BL hv (hv ▸ hr));rw[show(Hp.mk B (l++tl)).l=l++tl from rfl,h3]at this;exact vE he ho hok r0 ⟨B,l⟩ ((Ib (B:=B) (l:=L) (l++tl) hp).trans this) ⟨rfl,rfl⟩
mutual
def AV.dW:AV->Bool
 |.raw _=>true
 |.any=>true
 |.agg cs=>lB cs
 |.aY cs=>lB cs
 |.gd _ v=>v.dW
 |.pt _ _ _ _=>true
 |.rs _ _ _ _=>true
 |.rc _ _ _ _=>true
 |.rv _ _ _ _ _=>true
 |.mr _=>true
 |_=>false
def lB:US->Bool
 |[]=>true
 |a::l=>a.dW && lB l
end
theorem zQ:∀{l:US},lB l=true->∀{i:Nat} {a:AV},l[i]?=some a->a.dW=true
 |[],_,i,a,h=>by simp at h
 |x::l,hl,i,a,h=>by
  simp only[lB,Bool.and_eq_true]at hl;cases i with
  |zero=>simp at h;subst h;exact hl.1
  |succ i=>exact zQ hl.2 (by simpa using h)
theorem I3:∀(l m:US),lB (l++m)=(lB l && lB m)
 |[],m=>by simp[lB]
 |a::l,m=>by simp only[List.cons_append,lB,I3 l m,Bool.and_assoc]
def RO{l:UQ}(h:∀x∈l,lB x=true):lB l.flatten=true:=by
 induction l with
 |nil=>rfl
 |cons x l ih=>rw[List.flatten_cons,I3,h x jE,ih fun y hy=>h y (by simp[hy])];rfl
theorem aw.dW{w:NW}{a:AV}{v:Value}(h:aw w a v):∀{w':NW},(∀i m z,w.nm i m=some z->w'.nm i m=some z)->a.dW=true->aw w' a v:=by
 induction h with
 |raw v=>intro w' _ _;exact .raw v
 |any v=>intro w' _ _;exact .any v
 |agg cs vs hl _ ih=>intro w' k ha;simp only[AV.dW]at ha;exact .agg cs vs hl fun i a v h1 h2=>ih i a v h1 h2 k (zQ ha h1)
 |aY cs vs hl _ ih=>intro w' k ha;simp only[AV.dW]at ha;exact .aY cs vs hl fun i a v h1 h2=>ih i a v h1 h2 k (zQ ha h1)
 |gd p a v _ hu ih=>intro w' k ha;exact .gd p a v (fun hp=>ih hp k (by simpa only[AV.dW]using ha)) hu
 |pt i m o j b t s h=>intro w' k _;exact .pt i m o j b t s (k _ _ _ h)
 |iH i m sz A h=>intro w' k _;exact .iH i m sz A (k _ _ _ h)
 |rs i m sz n b t c h hc hn hs=>intro w' k _;exact .rs i m sz n b t c (k _ _ _ h) hc hn hs
 |rc i m sz n b t h hc hn hs=>intro w' k _;exact .rc i m sz n b t (k _ _ _ h) hc hn hs
 |kj i m sz o c A=>intro w' _ _;exact .kj i m sz o c A
 |rv i m sz o n b t c h hn=>intro w' k _;exact .rv i m sz o n b t c (k _ _ _ h) hn
 |mr i b t s h=>intro w' k _;exact .mr i b t s (k _ _ _ h)
 |hJ=>intro w' _ ha;simp only[AV.dW]at ha;cases ha
 |sl=>intro w' _ ha;simp only[AV.dW]at ha;cases ha
 |ip=>intro w' _ ha;simp only[AV.dW]at ha;cases ha
 |eT=>intro w' _ ha;simp only[AV.dW]at ha;cases ha
 |bd=>intro w' _ ha;simp only[AV.dW]at ha;cases ha
 |iS=>intro w' _ ha;simp only[AV.dW]at ha;cases ha
 |mv=>intro w' _ ha;simp only[AV.dW]at ha;cases ha
variable{P:U3}{f:FuncId}{args':US}{H:Hp}
def N4{args:US}{R:AV->List U5->Prop}(hc:ab P f args' [] R)(hv:∀w vs,aF w H->br w args vs->br (w.cX fun _=>true) args' vs)
  (hk:∀r l,R r l->(∀i,az l i≠none->H.get i=none)/\r.dW=true/\(∀i row,az l i=some row->lB row.cells=true)) {w:NW} {vs:U0} (h1:aF w H) (h2:br w args vs) :
  Calls P f vs w.toWorld fun e W=>∃v r l w',W=NW.toWorld w'/\e=.returned v/\R r l/\aF w' ⟨H.B,l++H.l⟩/\aw w' r v/\Ext w H w' ⟨H.B,l++H.l⟩/\∀b,b<w.heap.size->w'.heap[b]?=w.heap[b]?:=by
 have hw1:aF (w.cX fun _=>true) (entry []):={
  rows:=fun i r h=>by cases h
  dt:=fun i m z h=>by cases h
  inj:=fun i m j n b t s t' s' h _=>by cases h
  own:=fun i m b t s h=>by cases h
  fin:=fun b hb=>h1.fin b hb.1
  bY:=h1.bY.aU (sJ w fun _=>true) }
 refine(hc (w.cX fun _=>true) vs hw1 (hv w vs h1 h2)).mono ?_;rintro e W ⟨v,r,H',w',rfl,rfl,hR,g1,g2,g3⟩;obtain⟨k1,k2,k3⟩:=hk r H'.l hR;have Xa:∀b,b<w.heap.size->w'.heap[b]?=w.heap[b]?:=fun b hb=>by
  classical
  by_cases hO:(w.cX fun _=>true).O b
  ·exact(g3.rest b hb hO fun i m t s h=>by cases h).1
  ·exact(g3.free b hb hO).1
 have VZ:∀i m z,w.nm i m=some z->w'.nm i m=none:=fun i m z hz=>by
  obtain⟨r',hr',_⟩:=h1.dt i m z hz;cases e:w'.nm i m with
  |none=>rfl
  |some z'=> obtain⟨r2,Yq,_⟩:=g1.dt i m z' e;have:=k1 i (by show az H'.l i≠none;have Yq:az H'.l i=some r2:=Yq;rw[Yq];simp);rw[this]at hr';cases hr'
 have ZT:∀i m b t s,w.nm i m=some (.at b t s)->¬w'.O b:=fun i m b t s hz=>by refine(g3.free b (h1.lt hz) fun hO=>hO.2 i m t s rfl hz).2
 let w2:NW:={ w' with O:=fun b=>w.O b\/w'.O b,nm:=fun i m=>(w'.nm i m).or (w.nm i m) }
 have V9:∀i m,w2.nm i m=(w'.nm i m).or (w.nm i m):=fun _ _=>rfl
 have up:∀i m z,w'.nm i m=some z->w2.nm i m=some z:=fun i m z h=>by rw[V9,h];rfl
 have Y4:Keep rW w w2:=⟨g3.size,fun b hb hO=>⟨Xa b hb,fun h=>h.elim hO (g3.free b hb fun h=>hO h.1).2⟩,fun i m z _ h=>by rw[V9,VZ i m z h];exact h⟩;have ex:Ext w H w2 ⟨H.B,H'.l++H.l⟩:={ Y4 with
  os:=g3.os,tape:=g3.tape,output:=g3.output
  rest:=fun b hb hO Vd=>⟨Xa b hb,.inl hO,fun i m t s h=>by
   rw[V9]at h;cases e:w'.nm i m with
   |none=>rw[e]at h;exact Vd _ _ _ _ h
   |some z=> rw[e]at h;cases h;exact(g3.rest b hb ⟨hO,fun i m t s _=>Vd i m t s⟩ fun i m t s h=>by cases h).2.2 i m t s e⟩
  base:=rfl }
 have gE:∀i,(Hp.mk H.B (H'.l++H.l)).get i=(az H'.l i).or (H.get i):=fun i=>wy _ _ _
 refine⟨v,r,H'.l,w2,rfl,rfl,hR,{ bY:=h1.bY.aU Y4,rows:=fun i s hi=>?_,dt:=fun i m z hz=>?_,inj:=fun i m j n b t s t' s' a1 a2=>?_,own:=fun i m b t s h=>?_,fin:=fun b hb=>?_ },g2.dW up k2,ex,Xa⟩
 ·rw[gE]at hi;cases e:az H'.l i with
  |some x=>
   rw[e]at hi;cases hi;obtain⟨e1,z,e2,e3⟩:=g1.rows i s e;refine⟨e1,z,up _ _ _ e2,?_⟩;cases z with
   |nil=>exact e3
   |«at» b t st=> obtain⟨c1,cur,c2,c3,c4⟩:=e3;exact⟨c1,cur,c2,c3,fun j a u ha hu=>(c4 j a u ha hu).dW up (zQ (k3 i s e) ha)⟩
  |none=>
   rw[e]at hi;have hi:H.get i=some s:=hi;obtain⟨e1,z,e2,e3⟩:=h1.rows i s hi;refine⟨e1,z,Y4.names _ _ _ rfl e2,?_⟩;refine e3.ext ex fun b t st ez=>?_
   subst ez;exact Xa b (h1.lt e2)
 ·rw[V9]at hz;cases e:w'.nm i m with
  |some z'=> obtain⟨r',c1,c2⟩:=g1.dt i m z' e;exact⟨r',by rw[gE,show az H'.l i=some r' from c1];rfl,c2⟩
  |none=>
   rw[e]at hz;obtain⟨r',c1,c2⟩:=h1.dt i m z hz;refine⟨r',?_,c2⟩;rw[gE];cases e2:az H'.l i with
   |none=>exact c1
   |some x=>have:=k1 i (by rw[e2];simp);rw[this]at c1;cases c1
 ·rw[V9]at a1 a2;cases e1:w'.nm i m with
  |some z1=>
   rw[e1]at a1;cases a1;cases e2:w'.nm j n with
   |some z2=>rw[e2]at a2;cases a2;exact g1.inj _ _ _ _ _ _ _ _ _ e1 e2
   |none=>rw[e2]at a2;exact(ZT _ _ _ _ _ a2 (g1.own _ _ _ _ _ e1)).elim
  |none=>
   rw[e1]at a1;cases e2:w'.nm j n with
   |some z2=>rw[e2]at a2;cases a2;exact(ZT _ _ _ _ _ a1 (g1.own _ _ _ _ _ e2)).elim
   |none=>rw[e2]at a2;exact h1.inj _ _ _ _ _ _ _ _ _ a1 a2
 ·rw[V9]at h;cases e:w'.nm i m with
  |some z=>rw[e]at h;cases h;exact .inr (g1.own _ _ _ _ _ e)
  |none=>rw[e]at h;exact .inl (h1.own _ _ _ _ _ h)
 ·rcases hb with h|h
  ·exact Nat.lt_of_lt_of_le (h1.fin b h) g3.size
  ·exact g1.fin b h
section
variable {P:U3}{f:FuncId}{args:US}{B:UW}{e tl:UR}{r0:AV}{q:Prop}
def eK{c:Code}{Q:Exit->UO}{F:US}(h:dJ P c Q F ⟨B,tie e []⟩):dJ P c Q F ⟨B,e⟩:=by rw[IQ e];exact h
def nr{R:AV->Prop}(hd:cM P f args e r0 e)(k:q)(h0:aW P f=true:=by exact dz)(hl:oF 0 tl:=by(repeat' first|exact dL|(refine du (by decide) ?_)|fail))(e0:R r0=q:=by exact fj) :
  ∃r,(eQ P (.raw (.func (.func f) #[] #[])) args ⟨B,tie e tl⟩ fun r' H'=>r'=r/\H'=⟨B,tie e tl⟩)/\R r:=
 ⟨r0,cG (K:=fun r' H'=>r'=r0/\H'=⟨B,tie e tl⟩) hd.c rfl hd.e1 hd.e2 hd.aU hl hd.a h0 ⟨rfl,rfl⟩,e0 ▸ k⟩
end
variable{F:US}{B:UW}{tl:UR}
def F9{fn:Func}{L L1:UR}{out:US}{ex:Exit}{r0:AV}{e l:UR}(hB:ids e=B)(k1:fF 0 e)(k2:fF 0 l)(Vj:iN r0 ⟨B,L⟩ r0 ⟨B,L1⟩)(hp:∀i,az L1 i=az (tie l tl) i)(hl:oF 0 tl)(rs:List ResultVar)
  (hr:r0.all (iY (fO 0))=true:=by first|rfl|(simp only[go_sem,AV.all,aR,iY,JM];done))
  (Xx:fn.results.toList=rs:=by rfl) (he:ex=.normal\/ex=.ret:=by first|exact Or.inr rfl|exact Or.inl rfl|fail) (ho:kf P ⟨B,L⟩ F rs=some out:=by first|rfl|(simp(disch:=first|omega|fail) only[go_sem,↓reduceIte,Nat.reduceEqDiff,Nat.reduceLeDiff,Nat.reduceSub,Nat.reduceAdd];rfl)) (hok:k8 P ⟨B,L⟩ F rs:=by first|exact jI|(simp(disch:=first|omega|fail) only[go_sem,↓reduceIte,Nat.reduceEqDiff,Nat.reduceLeDiff,Nat.reduceSub,Nat.reduceAdd])) (hv:lJ out=r0:=by first|rfl|(simp only[go_sem];done)):mw P fn (fun r l'=>r=r0/\l'=l) ex F ⟨B,L⟩:=by
 subst Xx;obtain⟨h1,h2,h3⟩:=k1.free k2 hB hl;have:=iN.free (r:=r0) (r':=r0) (H:=⟨B,l++tl⟩) (Go.Gd.fO 0) h1 h2 (BL rfl hr);rw[show(Hp.mk B (l++tl)).l=l++tl from rfl,h3]at this;exact vE he ho hok r0 ⟨B,l⟩ (hv ▸ Vj.trans ((Ib (B:=B) (l:=L1) (l++tl) hp).trans this)) ⟨rfl,rfl⟩
theorem uf:∀{l:UR} {i:Nat} {r:Row},az l i=some r->aZ l i r=l
 |[],_,_,h=>by cases h
 |(j,s)::l,i,r,h=>by
  have h:(if i=j then some s else az l i)=some r:=h;show(if i=j then(i,r)::l else(j,s)::aZ l i r)=_;by_cases e:i=j
  ·subst e;rw[if_pos rfl]at h ⊢;cases h;rfl
  ·rw[if_neg e]at h ⊢;rw[uf h]
theorem ab.args{P:U3}{f:FuncId}{args args':US}{l:UR}{R:AV->List U5->Prop}(hc:ab P f args' l R)(hv:∀w vs,aF w (entry l)->br w args vs->br w args' vs):ab P f args l R:=fun w vs h1 h2=>hc w vs h1 (hv w vs h1 h2)
def xh{w:NW}{a b:AV}{l m:US}{vs:U0}(h:br w (a::l) vs)(hab:∀v,aw w a v->aw w b v)(hlm:∀us,br w l us->br w m us):br w (b::m) vs:=by
 obtain⟨h1,h2⟩:=h;have ht:=hlm (vs.toList.tail.toArray) ⟨by simp at h1 ⊢;omega,fun i x v hx hv=>h2 (i+1) x v (by simpa using hx) (by simpa using hv)⟩;refine⟨?_,fun i x v hx hv=>?_⟩
 ·have:=ht.1;simp at h1 this ⊢;omega
 ·cases i with
  |zero=>simp at hx;subst hx;exact hab v (h2 0 a v rfl hv)
  |succ i=>exact ht.2 i x v (by simpa using hx) (by simpa using hv)
def FP{w:NW}(sz:Nat)(d:US):∀v,aw w (.raw (.slice none 0 0)) v->aw w (.sl false sz [] d) v:=fun v h=>by have:=cZ h;subst this;exact .hJ _ _ _ _ (fun e=>by cases e)
def Sx{args:US}(hv:cn (fun _=>true) H args args'):∀w vs,aF w H->br w args vs->br (w.cX fun _=>true) args' vs:=fun w vs h1 h2=>by
 obtain⟨Wv,hg⟩:=hv.get;refine⟨by rw[<-Wv];exact h2.1,fun i c v hc hv=>?_⟩;have hi:i<args.length:=by rw[Wv];exact(List.getElem?_eq_some_iff.1 hc).1
 exact(hg i args[i] c (List.getElem?_eq_getElem hi) hc).sound h1 (h2.2 i _ v (List.getElem?_eq_getElem hi) hv)
def Ju{w:NW}{i m sz o n:Nat}{t:UY}{css:UQ}{d:US}(hw:aF w H)(hi:H.get i=some (.aD t sz css))(hm:m=css.length)(hn:o+n<=m)(h0:0<sz)(hq:QL eo css){v:Value}(h:aw w (.rv i m sz o n) v):aw (w.cX fun _=>true) (.sl false sz ((css.drop o).take n) d) v:=by
 subst hm;have J':((css.drop o).take n).length=n:=by rw[List.length_take,List.length_drop];omega
 cases h with
 |kj _ _ _ _ c A=> have:(css.drop o).take 0=[]:=jE;rw[this];exact .hJ _ _ _ _ (fun h=>by cases h)
 |rv _ _ _ _ _ b t' c Vh Vj=>
  by_cases XH:n=0
  ·subst XH;have:(css.drop o).take 0=[]:=jE;rw[this];exact .hJ _ _ _ _ (fun h=>by cases h)
  ·have hok:=(hw.rows i _ hi).1;have:=aw.sl (w:=w.cX fun _=>true) (d:=d) false sz ((css.drop o).take n) ⟨b,o*sz,none⟩ c (fun k=>(w.cell? ⟨b,o*sz+k,none⟩).getD undef) jB jB (fun h=>by cases h) (fun cs VW=>hok.2 cs (List.mem_of_mem_drop (List.mem_of_mem_take VW))) (hw.lt Vh) (fun h=>h.2 i _ t' sz rfl Vh) (fun k j hk hj=>by
    rw[J']at hk;obtain⟨_,_,_,v,h1,h2⟩:=sG hw hi Vh (k:=o+k) (j:=j) jB hj;show w.cell? _=_;rw[j3];have e:o*sz+(k*sz+j)=(o+k)*sz+j:=by rw[Nat.add_mul];omega
    rw[e,h1];rfl) (fun k j u hk hu=>by
    rw[J']at hk;have e0:((css.drop o).take n).getD k []=css.getD (o+k) []:=by rw[List.getD_eq_getElem?_getD,List.getElem?_take,if_pos hk,List.getElem?_drop,List.getD_eq_getElem?_getD]
    rw[e0]at hu;have VO:css.getD (o+k) []∈css:=by rw[List.getD_eq_getElem?_getD,List.getElem?_eq_getElem jB];exact List.getElem_mem _
    have hj:j<sz:=by have:=(List.getElem?_eq_some_iff.1 hu).1;rwa [hok.2 _ VO]at this
    obtain⟨_,_,_,v,h1,h2⟩:=sG hw hi Vh (k:=o+k) (j:=j) jB hj;have e:o*sz+(k*sz+j)=(o+k)*sz+j:=by rw[Nat.add_mul];omega
    rw[e,h1];exact((h2 u hu).aU (sJ w fun _=>true) (rA (fun _ h=>by cases h) _ (mH (hq _ VO) hu))).lN (mH (hq _ VO) hu))
   rw[J']at this;exact this
def AI{args:US}{K:UP}{i sz:Nat}{t:UY}{α:Type}[Inhabited α]{enc:α->US}[he:bD enc sz]{xs:List α}(Wm:∀x,lB (enc x)=true)(hi:H.get i=none)
  (hc:ab P f args' [] fun r l=>r=.rs i xs.length sz xs.length/\l=[(i,.aD t sz (xs.map enc))]) (hv:∀w vs,aF w H->br w args vs->br (w.cX fun _=>true) args' vs) (k:K (aO enc sz xs) H):cS P f args H K:=fun w vs h1 h2=>by
 have ZP:=N4 hc hv (fun r l ⟨e1,e2⟩=>by
  subst e1 e2;refine⟨fun j hj=>?_,rfl,fun j row hj=>?_⟩
  ·by_cases e:j=i
   ·subst e;exact hi
   ·exact(hj (by simp only[az];rw[if_neg e])).elim
  ·simp only[az]at hj;split at hj
   ·cases hj;refine RO fun x hx=>?_
    obtain⟨y,_,rfl⟩:=List.mem_map.1 hx;exact Wm y
   ·cases hj) h1 h2
 refine ZP.mono ?_;rintro e W ⟨v,r,l,w',rfl,rfl,⟨rfl,rfl⟩,g1,g2,g3,g4⟩;have g1:aF w' ⟨H.B,(i,.aD t sz (xs.map enc))::H.l⟩:=g1;have ha9:∀m,w.nm i m=none:=fun m=>h1.none hi m
 have hgi:(Hp.mk H.B ((i,.aD t sz (xs.map enc))::H.l)).get i=some (.aD t sz (xs.map enc)):=by show(if i=i then _ else _)=_;rw[if_pos rfl]
 have hgj:∀j,j≠i->(Hp.mk H.B ((i,.aD t sz (xs.map enc))::H.l)).get j=H.get j:=fun j hj=>by show(if j=i then _ else _)=_;rw[if_neg hj];rfl
 have hba:=(dn.row (D:=fun j=>decide (j=i)) (dd:=enc default) (enc:=enc) xs jE hgi rfl).sound g1 g2;have k0:=sJ w' (fun j=>decide (j=i));have ex:Ext w H (w'.cX fun j=>decide (j=i)) H:={
  size:=g3.size
  free:=fun b hb hO=>⟨(g3.free b hb hO).1,fun h=>(g3.free b hb hO).2 h.1⟩
  names:=fun j m z _ hz=>by
   have WN:j≠i:=fun e=>by subst e;rw[ha9]at hz;cases hz
   show(if decide (j=i)=true then none else w'.nm j m)=some z;rw[if_neg (by simpa using WN)];exact g3.names j m z rfl hz
  os:=g3.os,tape:=g3.tape,output:=g3.output
  rest:=fun b hb hO Vd=>by
   obtain⟨a1,a2,a3⟩:=g3.rest b hb hO Vd;refine⟨a1,⟨a2,fun j m t' s _=>a3 j m t' s⟩,fun j m t' s h=>?_⟩;have h:(if decide (j=i)=true then none else w'.nm j m)=some (.at b t' s):=h;split at h
   ·cases h
   ·exact a3 _ _ _ _ h
  base:=rfl }
 refine⟨v,_,H,w'.cX fun j=>decide (j=i),rfl,rfl,k,{ bY:=g1.bY.aU k0,rows:=fun j s hj=>?_,dt:=fun j m z hz=>?_,inj:=fun j m j' m' b t1 s1 t2 s2 a1 a2=>?_,own:=fun j m b t1 s1 h=>?_,fin:=fun b hb=>g1.fin b hb.1 },hba,ex⟩
 ·have WN:j≠i:=fun e=>by subst e;rw[hi]at hj;cases hj
  obtain⟨e1,z,e2,e3⟩:=h1.rows j s hj;refine⟨e1,z,ex.names _ _ _ rfl e2,e3.ext ex fun b t1 s1 ez=>?_⟩;subst ez;exact g4 b (h1.lt e2)
 ·have hz:(if decide (j=i)=true then none else w'.nm j m)=some z:=hz;split at hz
  ·cases hz
  ·rename_i e;obtain⟨r',c1,c2⟩:=g1.dt j m z hz;exact⟨r',by rw[<-hgj j (by simpa using e)];exact c1,c2⟩
 ·have a1:(if decide (j=i)=true then none else w'.nm j m)=_:=a1;have a2:(if decide (j'=i)=true then none else w'.nm j' m')=_:=a2;split at a1
  ·cases a1
  ·split at a2
   ·cases a2
   ·exact g1.inj _ _ _ _ _ _ _ _ _ a1 a2
 ·have h:(if decide (j=i)=true then none else w'.nm j m)=_:=h;split at h
  ·cases h
  ·rename_i e;refine⟨g1.own _ _ _ _ _ h,fun j' m' t' s' hd h'=>e ?_⟩;rw[g1.inj _ _ _ _ _ _ _ _ _ h h'];exact hd
@[go_sem] def j2W(a k n:Nat)(h:n<1000):(n == hn a k)=false:=by have:=iJ a k;simp;omega
@[go_sem] def jyN(a b k j:Nat)(ha:a<32)(hb:b<32)(h:a≠b):(hn a k == hn b j)=false:=by simp;exact dc ha hb h
@[go_sem] def j0N(a k:Nat):(hn a k == hn a k)=true:=jE
@[go_sem] def Lj(a k:Nat):hn a k+16=hn (a+16) k:=by unfold hn;omega
theorem EG{A C D:UW}(hA:A.isEmpty=false){E:UW}{l:List Oper}{ps:List UW}:∀(rest done:UW),pD (A,C,D) E l ps done rest=pD ([0],C,D) E l ps done rest
 |[],done=>rfl
 |i::rest,done=>by
  have e1:lh (A,C,D)=lh ([0],C,D):=rfl;have e2:nE (A,C,D) (dN l i)=nE ([0],C,D) (dN l i):=by have hA':(A,C,D).1.isEmpty=([0],C,D).1.isEmpty:=hA;unfold nE;rw[hA'];rfl
  unfold pD;rw[EG hA rest,e1,e2]
def SN{A C D:UW}(hA:A.isEmpty=false){E:UW}{l:List Oper}{ord:UW}:qu (A,C,D) E l ord=qu ([0],C,D) E l ord:=by unfold qu;rw[EG hA];rfl
def qO{Q:Exit->UO}(id:Nat){l:List Oper}{q:Prop}(A C D E ord:UW)(hm:P.follows .mixedOrders=true)(h:q)(hA:A.isEmpty=false:=by rfl)(hok:qu ([0],C,D) E l ord=true:=by decide +kernel)(hE:sk P l E:=by simp only[sk,dN,List.getD_cons_zero,List.getD_cons_succ,go_sem])(e:fC (A,C,D) P l.toArray (Q .normal) (ord.map (dN l)) F H=q:=by(simp only[bf,List.map_cons,List.map_nil,dN,List.getD_cons_zero,List.getD_cons_succ];exact fj)):dJ P (.region id l.toArray true) Q F H:=CG (A,C,D) E ord hm (by rw[SN hA];exact hok) hE (e ▸ h)
def BY(A:AS)(e l:UR):Prop:=∀j,A.1.contains j=false->az e j≠none->az l j=az e j\/(A.1.contains (j+16)=true/\∃t c c' cs,az e j=some (.var t (c::cs))/\az l j=some (.var t (c'::cs)))
variable{l:UR}
def oQ{A:AS}{args:US}{e:UR}{r0:AV}{g:UP}{d:ix fun r H'=>eG A ⟨B,tie e tl⟩ H'/\g r H'}{q:Prop}(hd:cM P f args e r0 l)(hx:BY A e l)(k:q)(h0:aW P f=true:=by exact dz)(hl:oF 0 tl:=by(repeat' first|exact dL|(refine du (by decide) ?_)|fail))(e0:g r0 ⟨B,tie l tl⟩=q:=by exact fj) :
  eQ P (.raw (.func (.func f) #[] #[])) args ⟨B,tie e tl⟩ (AP (fun r H'=>eG A ⟨B,tie e tl⟩ H'/\g r H') d):=by
 refine cG (K:=AP (fun r H'=>eG A ⟨B,tie e tl⟩ H'/\g r H') d) hd.c rfl hd.e1 hd.e2 hd.aU hl hd.a h0 ⟨fun i r hi hr=>?_,e0 ▸ k⟩;have hr:az (tie e tl) i=some r:=hr;show az (tie l tl) i=some r\/_/\∃t c c' cs,r=.var t (c::cs)/\az (tie l tl) i=some (.var t (c'::cs));rw[kg]at hr ⊢;cases he:az e i with
 |some s=>
  rw[he]at hr;cases hr;rcases hx i hi (by rw[he];simp)with h|⟨h1,t,c,c',cs,h2,h3⟩
  ·left;rw[h,he];rfl
  ·right
   rw[he]at h2;cases h2;exact⟨h1,t,c,c',cs,rfl,by rw[h3];rfl⟩
 |none=>
  rw[he]at hr;have hr:az tl i=some r:=hr;have:=hl i r hr;left
  rw[hd.e2.low i this.2];exact hr
def Uk{n:Nat}{S:Type}{W:List (Nat×Nat)}{ok:S->Prop}{J:S->List (Nat×AV)}{G:S->Hp}{μ:S->Nat}{F₀:US}{e0:UR}(hB:ids e0=B)(k1:fF 0 e0)(k2:fF 0 l)(hl:oF 0 tl)(s:S)(h1:ok s)(h2:μ s<n)(hG:(⟨B,tie l []⟩:Hp)=G s)(h3:cn (fO 0) ⟨B,tie l tl⟩ F (oR (J s) (ph W F₀))):Next n W ok J G μ F₀ F ⟨B,tie l tl⟩:=by obtain⟨a1,a2,a3⟩:=k1.free k2 hB hl;refine Is (fO 0) s h1 h2 a1 a2 ?_ h3;rw[<-hG];show(Hp.mk B (gi (fO 0) (l++tl)))=_;rw[a3,<-IQ]
end Go.Gd
namespace Go.Proofs.YtjpcgmjaipfgdaaGreatDoor
open Go Go.Gd
def yP{α:Type}[Inhabited α]{a b:List α}(hl:a.length=b.length)(h:∀j,j<a.length->nth a j=nth b j):a=b:=by apply List.ext_getElem hl;intro i h1 h2;have:=h i h1;rwa [ee h1,ee h2]at this
structure Bj(R:RS):Prop where
 sl:∀f∈R.gw,nk f.slots
 hp:pU R.heap
def Pg(s:gA):Prop:=Bj (RS.of s)
structure Good(p:ah)(n:Nat)(s:gA):Prop where
 inv:xI p s
 bG:Pg s
 t0:0<=s.time
 t1:s.time<=n
end Go.Proofs.YtjpcgmjaipfgdaaGreatDoor
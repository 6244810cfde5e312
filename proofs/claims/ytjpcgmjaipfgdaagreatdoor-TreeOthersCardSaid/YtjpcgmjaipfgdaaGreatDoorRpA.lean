/- Lemmas. No conditions. -/
import Derived.Test.YtjpcgmjaipfgdaaGreatDoorSo9
set_option linter.all false
set_option maxHeartbeats 4000000
set_option maxRecDepth 10000
namespace Go.Gd
open Go
theorem Gw:∀(l:TD),stay (fun _=>true) l
 |[]=>trivial
 |_::l=>⟨.inl rfl,Gw l⟩
theorem Ff:∀(l:TD),fv (fun _=>true) l=[]
 |[]=>rfl
 |x::l=>Ff l
variable{P:TO}{f:FuncId}{r0:AV}
def aB.ws{args:TE}{r1:AV}{l0:TD}(hc:ab P f args [] fun r l=>r=r0/\l=l0)(hv:cW (fun _=>true) ⟨[],l0⟩ r0 r1):aB P f args r1:=fun w vs h1 h2=>by refine(hc w vs h1 h2).mono ?_;rintro e W ⟨v,r,⟨B,l⟩,w',rfl,e1,⟨rfl,rfl⟩,g1,g2,g3⟩;have hB:B=[]:=g3.base;subst hB;obtain⟨w2,k1,k2,k3,k4⟩:=iB.free (fun _=>true) rfl (Gw _) hv w' v g1 g2;refine⟨v,r1,_,w2,k1.symm,e1,⟨rfl,Ff _⟩,k2,k3,g3.trans k4⟩
variable{B:TH}{l:TD}{K:TB}
def MJ{args:TE}{l':TD}(h:∀i,aA l i=aA l' i)(k:dj P f args ⟨B,l'⟩ K):dj P f args ⟨B,l⟩ K:=fun w vs h1 h2=>by refine(k w vs (BE h h1) h2).mono ?_;rintro e W ⟨v,r,H',w',e0,e1,k,g1,g2,g3⟩;exact⟨v,r,H',w',e0,e1,k,g1,g2,{ g3.toExtQ with base:=g3.base }⟩
structure fI(lo:Nat)(e:List (Nat×Row)):Prop where
 no:∀i,lo<=i->i<1000->aA e i=none
 nodup:(ids e).Nodup
 closed:∀i r,aA e i=some r->aX (fun i=>(ids e).contains i) r.cells=true
def nW(lo:Nat)(tl:TD):Prop:=∀i r,aA tl i=some r->lo<=i/\i<1000
variable{lo:Nat}{tl:TD}
def fI.bv{e:TD}(h:fI lo e)(hl:nW lo tl):Lays (fun tl=>e++tl) tl:=⟨fun i=>by rw[v7,List.append_nil],fun i r hi=>by show aA (e++[]) i=none;rw[List.append_nil];exact h.no i (hl i r hi).1 (hl i r hi).2⟩
variable{e':TD}
def cG{args:TE}{H:Hp}{e:TD}(hc:ab P f args e fun r l'=>r=r0/\l'=e')(hH:H=⟨B,e++tl⟩)
  (h1:fI lo e) (h2:fI lo e') (hs:∀i,aA e i≠none->aA e' i≠none) (hl:nW lo tl) (ha:aX (fun i=>(ids e).contains i) args=true) (h0:aU P f=true) (k:K r0 ⟨B,e'++tl⟩):fa P (.raw (.func (.func f) #[] #[])) args H K:=by
 subst hH;refine nQ h0 (zZ (E:=fun tl=>e++tl) (E':=fun tl=>e'++tl) ?_ (h1.bv hl) (h2.bv hl) ?_ ?_ ?_ k ?_)
 ·simp only[List.append_nil];exact hc
 ·simp only[List.append_nil];exact h2.nodup
 ·simp only[List.append_nil];exact ha
 ·simp only[List.append_nil];exact h1.closed
 ·simp only[List.append_nil];exact hs
def fL(lo:Nat):TN:=fun i=>decide (lo<=i/\i<1000)
theorem fI.fL{lo:Nat}{e:TD}(h:fI lo e){i:Nat}(hi:i∈ids e):fL lo i=false:=by
 unfold Go.Gd.fL;refine decide_eq_false fun h'=>?_
 exact(lr _ _).1 hi (h.no i h'.1 h'.2)
def fI.free{e0:TD}(k1:fI lo e0)(k2:fI lo e')(hB:ids e0=B)(hl:nW lo tl) :
  B.all (gV (Go.Gd.fL lo))=true/\stay (Go.Gd.fL lo) (e'++tl)/\fv (Go.Gd.fL lo) (e'++tl)=e':=by
 have htl:∀i∈ids tl,Go.Gd.fL lo i=true:=fun i hi=>by obtain⟨r,hr⟩:=Option.ne_none_iff_exists'.1 ((lr _ _).1 hi);exact decide_eq_true (hl i r hr)
 refine⟨?_,?_,?_⟩
 ·rw[List.all_eq_true];intro i hi;rw[<-hB]at hi;unfold gV;rw[k1.fL hi];rfl
 ·refine HB _ _ _ (GJ _ _ k2.nodup fun i r hi=>fS (fun j hj=>?_) _ (k2.closed i r hi)) (FR _ _ htl);unfold gV;rw[k2.fL (List.contains_iff_mem.1 hj)];rfl
 ·rw[I1,EZ _ _ (fun i hi=>k2.fL hi),E1 _ _ htl,List.append_nil]
def hn(a k:Nat):Nat:=1000+(32*k+a)
def ix(a k:Nat):1000<=hn a k:=Nat.le_add_right _ _
def wv{a b k j:Nat}(ha:a<32)(hb:b<32)(h:hn a k=hn b j):a=b/\k=j:=by unfold hn at h;omega
@[go_sem] def qa6(a k n:Nat)(h:n<1000):(hn a k=n)=False:=by have:=ix a k;simp;omega
@[go_sem] def qbg(a k n:Nat)(h:n<1000):(n=hn a k)=False:=by have:=ix a k;simp;omega
@[go_sem] def j5Z(a b k j:Nat)(ha:a<32)(hb:b<32)(h:a≠b):(hn a k=hn b j)=False:=by simp;intro e;exact h (wv ha hb e).1
def dh{a b k j:Nat}(ha:a<32)(hb:b<32)(h:a≠b):hn a k≠hn b j:=fun e=>h (wv ha hb e).1
@[go_sem] def jzy(l:TD)(a k:Nat)(r:Row)(i:Nat):aA (bh l (hn a k) r) i=if i=hn a k then some r else aA l i:=bO _ _ _ _
def oR:∀(l:TD) (i j:Nat) (r:Row),j∈ids (bh l i r)<->j=i\/j∈ids l:=fun l i j r=>by rw[lr,lr,bO];by_cases e:j=i<;>simp[e]
theorem CI:∀(l:TD) (i:Nat) (r:Row),(ids l).Nodup->(ids (bh l i r)).Nodup
 |[],i,r,_=>by simp[bh,ids]
 |(j,s)::l,i,r,h=>by
  have hc:=List.nodup_cons.1 h;unfold bh;split
  ·rename_i e;subst e;exact h
  ·rename_i e;refine List.nodup_cons.2 ⟨fun hm=>?_,CI l i r hc.2⟩;rcases(oR l i j r).1 hm with h1|h1
   ·exact e h1.symm
   ·exact hc.1 h1
variable{i:Nat}
def fI.put{e:TD}{r:Row}(h:fI lo e)(hi:i<lo\/1000<=i)(hr:aX (fun j=>decide (j=i) || (ids e).contains j) r.cells=true):fI lo (bh e i r):=by
 have hm:∀j,(decide (j=i) || (ids e).contains j)=true->(ids (bh e i r)).contains j=true:=fun j hj=>by
  rw[List.contains_iff_mem,oR];rcases Bool.or_eq_true _ _ ▸ hj with h1|h1
  ·exact .inl (of_decide_eq_true h1)
  ·exact .inr (List.contains_iff_mem.1 h1)
 refine⟨fun j h1 h2=>?_,CI _ _ _ h.nodup,fun j s hs=>?_⟩
 ·rw[bO,jN];exact h.no j h1 h2
 ·rw[bO]at hs;split at hs
  ·cases hs;exact fS hm _ hr
  ·exact fS (fun k hk=>hm k (by rw[Bool.or_eq_true];exact .inr hk)) _ (h.closed j s hs)
structure Up(X:List Nat)(e l:List (Nat×Row)):Prop where
 aZ:∀i,aA e i≠none->aA l i≠none
 new:∀i,aA l i≠none->aA e i≠none\/i ∉ X
def Up.refl(X:TH)(e:TD):Up X e e:=⟨fun _ h=>h,fun _ h=>.inl h⟩
def Up.trans{X:TH}{a b c:TD}(h:Up X a b)(k:Up X b c):Up X a c:=⟨fun i hi=>k.aZ i (h.aZ i hi),fun i hi=>(k.new i hi).elim (h.new i) .inr⟩
def Up.put{X:TH}{e:TD}(r:Row)(h:aA e i≠none\/i ∉ X):Up X e (bh e i r):=⟨fun j hj=>by
 rw[bO];split
 ·simp
 ·exact hj,fun j hj=>by
 rw[bO]at hj;split at hj
 ·rename_i e';subst e';exact h
 ·exact .inl hj⟩
def rh(X:TH):Nat:=1+X.foldl max 0
theorem F2:∀(X:TH) (a:Nat),a<=X.foldl max a/\∀x∈X,x<=X.foldl max a
 |[],a=>⟨Nat.le_refl _,by simp⟩
 |y::X,a=>by
  obtain⟨h1,h2⟩:=F2 X (max a y);refine⟨Nat.le_trans (Nat.le_max_left _ _) h1,fun x hx=>?_⟩;rcases List.mem_cons.1 hx with rfl|hx
  ·exact Nat.le_trans (Nat.le_max_right _ _) h1
  ·exact h2 x hx
def K5(X:TH){x:Nat}(h:x∈X):x<rh X:=by have:=(F2 X 0).2 x h;unfold rh;omega
def Ca(X:TH)(a d:Nat):hn a (rh X+d) ∉ X:=fun h=>by have:=K5 X h;unfold hn at this;omega
def yK(e:TD)(X:TH)(a d:Nat):aA e (hn a (rh (ids e++X)+d))=none:=by
 cases h:aA e (hn a (rh (ids e++X)+d))with
 |none=>rfl
 |some r=>exact(Ca (ids e++X) a d (List.mem_append_left _ ((lr _ _).2 (by rw[h];simp)))).elim
def yT(e:TD)(X:TH)(a d:Nat):hn a (rh (ids e++X)+d) ∉ X:=fun h=>Ca (ids e++X) a d (List.mem_append_right _ h)
def ab.more{args:TE}{s e:TD}{R:AV->List TQ->Prop}(hc:ab P f args s R)(hs:∀i r,aA s i=some r->aA e i=some r)(ha:aX (fun i=>(ids s).contains i) args=true)(Tx:∀i r,aA s i=some r->aX (fun i=>(ids s).contains i) r.cells=true)
  (hn:∀r l,R r l->(ids l).Nodup/\∀i,aA l i≠none->aA s i≠none\/aA e i=none):ab P f args e fun r l=>∃l0,R r l0/\l=gx e l0:=fun w vs hw hv=>by
 refine(xT (H:=entry e) (K:=fun r H'=>∃l0,R r l0/\H'=⟨ids e,gx e l0⟩) hc (fun i r hi=>hs i r hi) ha Tx (fun r l' hR=>⟨fun i x hx=>?_,(hn r l' hR).1,l',hR,rfl⟩) hw hv).mono ?_
 ·rcases(hn r l' hR).2 i (by rw[hx];simp)with h|h
  ·obtain⟨y,hy⟩:=Option.ne_none_iff_exists'.1 h;exact .inl (rX hy)
  ·exact .inr h
 ·rintro e' W ⟨v,r,H',w',rfl,rfl,⟨l0,hR,rfl⟩,g1,g2,g3⟩;exact⟨v,r,_,w',rfl,rfl,⟨l0,hR,rfl⟩,g1,g2,g3.pG⟩
def tie(e tl:TD):TD:=e++tl
def Ed(e:TD):e=tie e []:=(List.append_nil e).symm
@[go_sem] def jO(e tl:TD)(i:Nat):aA (tie e tl) i=(aA e i).or (aA tl i):=v7 _ _ _
theorem GP:∀(e tl:TD) (i:Nat) (r:Row),bh (e++tl) i r=if(aA e i).isSome=true then bh e i r++tl else e++bh tl i r
 |[],tl,i,r=>by simp[aA,bh]
 |(j,s)::e,tl,i,r=>by
  show(if i=j then(i,r)::(e++tl)else(j,s)::bh (e++tl) i r)=if((if i=j then some s else aA e i):Option Row).isSome=true then(if i=j then(i,r)::e else(j,s)::bh e i r)++tl else(j,s)::(e++bh tl i r)
  by_cases h:i=j
  ·subst h;simp
  ·simp only[if_neg h];rw[GP e tl i r];split<;>rfl
@[go_sem] def j56(e tl:TD)(i:Nat)(r:Row):bh (tie e tl) i r=if(aA e i).isSome=true then tie (bh e i r) tl else tie e (bh tl i r):=GP _ _ _ _
attribute [go_sem] Option.some_or Option.none_or Option.isSome_some Option.isSome_none
def fI.low{e:TD}(h:fI 0 e):∀i,i<1000->aA e i=none:=fun i hi=>h.no i (Nat.zero_le _) hi
def dD:nW 0 []:=fun i r h=>by cases h
def dm{T:TD}{r:Row}(h:i<1000)(hT:nW 0 T):nW 0 ((i,r)::T):=fun j s hs=>by
 simp only[aA]at hs;split at hs
 ·omega
 ·exact hT j s hs
structure cU(P:Program)(f:FuncId)(args:List AV)(e:List (Nat×Row))(r0:AV)(l:List (Nat×Row)):Prop where
 c:ab P f args e fun r l'=>r=r0/\l'=l
 e1:fI 0 e
 e2:fI 0 l
 aZ:∀i,aA e i≠none->aA l i≠none
 a:aX (fun i=>(ids e).contains i) args=true
def cT{args:TE}{e:TD}{q:Prop}(hd:cU P f args e r0 l)(k:q)(h0:aU P f=true:=by exact dv)(hl:nW 0 tl:=by(repeat' first|exact dD|(refine dm (by decide) ?_)|fail))(e0:K r0 ⟨B,tie l tl⟩=q:=by exact fm):fa P (.raw (.func (.func f) #[] #[])) args ⟨B,tie e tl⟩ K:=
 cG hd.c rfl hd.e1 hd.e2 hd.aZ hl hd.a h0 (e0 ▸ k)
@[go_sem] def Di(a k:Nat):fL 0 (hn a k)=false:=decide_eq_false (by have:=ix a k;omega)
def dY{fn:Func}{F:TE}{L:TD}{out:TE}{ex:Exit}{e:TD}(hB:ids e=B)(k1:fI 0 e)(k2:fI 0 l)(hp:∀i,aA L i=aA (tie l tl) i)(hl:nW 0 tl)(rs:List ResultVar)
  (hr:r0.all (gV (fL 0))=true:=by first|rfl|(simp only[go_sem,AV.all,aX,gV,Di];done))
  (V5:fn.results.toList=rs:=by rfl) (he:ex=.normal\/ex=.ret:=by first|exact Or.inr rfl|exact Or.inl rfl|fail) (ho:jo P ⟨B,L⟩ F rs=some out:=by first|rfl|(simp(disch:=first|omega|fail) only[go_sem,↓reduceIte,Nat.reduceEqDiff,Nat.reduceLeDiff,Nat.reduceSub,Nat.reduceAdd];rfl)) (hok:km P ⟨B,L⟩ F rs:=by first|exact jI|(simp(disch:=first|omega|fail) only[go_sem,↓reduceIte,Nat.reduceEqDiff,Nat.reduceLeDiff,Nat.reduceSub,Nat.reduceAdd])) (hv:kG out=r0:=by first|rfl|(simp only[go_sem];done)):lu P fn (fun r l'=>r=r0/\l'=l) ex F ⟨B,L⟩:=by
 subst V5;obtain⟨h1,h2,h3⟩:=k1.free k2 hB hl;have:=iB.free (r:=kG out) (r':=r0) (H:=⟨B,l++tl⟩) (Go.Gd.fL 0) h1 h2 (yr hv (hv ▸ hr));rw[show(Hp.mk B (l++tl)).l=l++tl from rfl,h3]at this;exact uP he ho hok r0 ⟨B,l⟩ ((HY (B:=B) (l:=L) (l++tl) hp).trans this) ⟨rfl,rfl⟩
mutual
def AV.dU:AV->Bool
 |.raw _=>true
 |.any=>true
 |.agg cs=>k9 cs
 |.aQ cs=>k9 cs
 |.gd _ v=>v.dU
 |.pt _ _ _ _=>true
 |.rs _ _ _ _=>true
 |.rc _ _ _ _=>true
 |.rv _ _ _ _ _=>true
 |.mr _=>true
 |_=>false
def k9:TE->Bool
 |[]=>true
 |a::l=>a.dU && k9 l
end
theorem yd:∀{l:TE},k9 l=true->∀{i:Nat} {a:AV},l[i]?=some a->a.dU=true
 |[],_,i,a,h=>by simp at h
 |x::l,hl,i,a,h=>by
  simp only[k9,Bool.and_eq_true]at hl;cases i with
  |zero=>simp at h;subst h;exact hl.1
  |succ i=>exact yd hl.2 (by simpa using h)
theorem Jx:∀(l m:TE),k9 (l++m)=(k9 l && k9 m)
 |[],m=>by simp[k9]
 |a::l,m=>by simp only[List.cons_append,k9,Jx l m,Bool.and_assoc]
def RB{l:TC}(h:∀x∈l,k9 x=true):k9 l.flatten=true:=by
 induction l with
 |nil=>rfl
 |cons x l ih=>rw[List.flatten_cons,Jx,h x jE,ih fun y hy=>h y (by simp[hy])];rfl
theorem ax.dU{w:NW}{a:AV}{v:Value}(h:ax w a v):∀{w':NW},(∀i m z,w.nm i m=some z->w'.nm i m=some z)->a.dU=true->ax w' a v:=by
 induction h with
 |raw v=>intro w' _ _;exact .raw v
 |any v=>intro w' _ _;exact .any v
 |agg cs vs hl _ ih=>intro w' k ha;simp only[AV.dU]at ha;exact .agg cs vs hl fun i a v h1 h2=>ih i a v h1 h2 k (yd ha h1)
 |aQ cs vs hl _ ih=>intro w' k ha;simp only[AV.dU]at ha;exact .aQ cs vs hl fun i a v h1 h2=>ih i a v h1 h2 k (yd ha h1)
 |gd p a v _ hu ih=>intro w' k ha;exact .gd p a v (fun hp=>ih hp k (by simpa only[AV.dU]using ha)) hu
 |pt i m o j b t s h=>intro w' k _;exact .pt i m o j b t s (k _ _ _ h)
 |iE i m sz A h=>intro w' k _;exact .iE i m sz A (k _ _ _ h)
 |rs i m sz n b t c h hc hn hs=>intro w' k _;exact .rs i m sz n b t c (k _ _ _ h) hc hn hs
 |rc i m sz n b t h hc hn hs=>intro w' k _;exact .rc i m sz n b t (k _ _ _ h) hc hn hs
 |jb i m sz o c A=>intro w' _ _;exact .jb i m sz o c A
 |rv i m sz o n b t c h hn=>intro w' k _;exact .rv i m sz o n b t c (k _ _ _ h) hn
 |mr i b t s h=>intro w' k _;exact .mr i b t s (k _ _ _ h)
 |gu=>intro w' _ ha;simp only[AV.dU]at ha;cases ha
 |sl=>intro w' _ ha;simp only[AV.dU]at ha;cases ha
 |ip=>intro w' _ ha;simp only[AV.dU]at ha;cases ha
 |dP=>intro w' _ ha;simp only[AV.dU]at ha;cases ha
 |bd=>intro w' _ ha;simp only[AV.dU]at ha;cases ha
 |iG=>intro w' _ ha;simp only[AV.dU]at ha;cases ha
 |mv=>intro w' _ ha;simp only[AV.dU]at ha;cases ha
variable{P:TO}{f:FuncId}{args':TE}{H:Hp}
def SQ{args:TE}{R:AV->List TQ->Prop}(hc:ab P f args' [] R)(hv:∀w vs,aJ w H->bs w args vs->bs (w.cR fun _=>true) args' vs)
  (hk:∀r l,R r l->(∀i,aA l i≠none->H.get i=none)/\r.dU=true/\(∀i row,aA l i=some row->k9 row.cells=true)) {w:NW} {vs:TL} (h1:aJ w H) (h2:bs w args vs) :
  Calls P f vs w.toWorld fun e W=>∃v r l w',W=NW.toWorld w'/\e=.returned v/\R r l/\aJ w' ⟨H.B,l++H.l⟩/\ax w' r v/\Ext w H w' ⟨H.B,l++H.l⟩/\∀b,b<w.heap.size->w'.heap[b]?=w.heap[b]?:=by
 have ZE:aJ (w.cR fun _=>true) (entry []):={
  rows:=fun i r h=>by cases h
  df:=fun i m z h=>by cases h
  inj:=fun i m j n b t s t' s' h _=>by cases h
  own:=fun i m b t s h=>by cases h
  fin:=fun b hb=>h1.fin b hb.1
  bX:=h1.bX.aZ (pF w fun _=>true) }
 refine(hc (w.cR fun _=>true) vs ZE (hv w vs h1 h2)).mono ?_;rintro e W ⟨v,r,H',w',rfl,rfl,hR,g1,g2,g3⟩;obtain⟨k1,k2,k3⟩:=hk r H'.l hR;have VW:∀b,b<w.heap.size->w'.heap[b]?=w.heap[b]?:=fun b hb=>by
  classical
  by_cases hO:(w.cR fun _=>true).O b
  ·exact(g3.rest b hb hO fun i m t s h=>by cases h).1
  ·exact(g3.free b hb hO).1
 have UK:∀i m z,w.nm i m=some z->w'.nm i m=none:=fun i m z hz=>by
  obtain⟨r',hr',_⟩:=h1.df i m z hz;cases e:w'.nm i m with
  |none=>rfl
  |some z'=> obtain⟨r2,Xb,_⟩:=g1.df i m z' e;have:=k1 i (by show aA H'.l i≠none;have Xb:aA H'.l i=some r2:=Xb;rw[Xb];simp);rw[this]at hr';cases hr'
 have YA:∀i m b t s,w.nm i m=some (.at b t s)->¬w'.O b:=fun i m b t s hz=>by refine(g3.free b (h1.lt hz) fun hO=>hO.2 i m t s rfl hz).2
 let w2:NW:={ w' with O:=fun b=>w.O b\/w'.O b,nm:=fun i m=>(w'.nm i m).or (w.nm i m) }
 have Uu:∀i m,w2.nm i m=(w'.nm i m).or (w.nm i m):=fun _ _=>rfl
 have up:∀i m z,w'.nm i m=some z->w2.nm i m=some z:=fun i m z h=>by rw[Uu,h];rfl
 have XO:Keep rM w w2:=⟨g3.size,fun b hb hO=>⟨VW b hb,fun h=>h.elim hO (g3.free b hb fun h=>hO h.1).2⟩,fun i m z _ h=>by rw[Uu,UK i m z h];exact h⟩;have ex:Ext w H w2 ⟨H.B,H'.l++H.l⟩:={ XO with
  os:=g3.os,tape:=g3.tape,output:=g3.output
  rest:=fun b hb hO TS=>⟨VW b hb,.inl hO,fun i m t s h=>by
   rw[Uu]at h;cases e:w'.nm i m with
   |none=>rw[e]at h;exact TS _ _ _ _ h
   |some z=> rw[e]at h;cases h;exact(g3.rest b hb ⟨hO,fun i m t s _=>TS i m t s⟩ fun i m t s h=>by cases h).2.2 i m t s e⟩
  base:=rfl }
 have gE:∀i,(Hp.mk H.B (H'.l++H.l)).get i=(aA H'.l i).or (H.get i):=fun i=>v7 _ _ _
 refine⟨v,r,H'.l,w2,rfl,rfl,hR,{ bX:=h1.bX.aZ XO,rows:=fun i s hi=>?_,df:=fun i m z hz=>?_,inj:=fun i m j n b t s t' s' a1 a2=>?_,own:=fun i m b t s h=>?_,fin:=fun b hb=>?_ },g2.dU up k2,ex,VW⟩
 ·rw[gE]at hi;cases e:aA H'.l i with
  |some x=>
   rw[e]at hi;cases hi;obtain⟨e1,z,e2,e3⟩:=g1.rows i s e;refine⟨e1,z,up _ _ _ e2,?_⟩;cases z with
   |nil=>exact e3
   |«at» b t st=> obtain⟨c1,cur,c2,c3,c4⟩:=e3;exact⟨c1,cur,c2,c3,fun j a u ha hu=>(c4 j a u ha hu).dU up (yd (k3 i s e) ha)⟩
  |none=>
   rw[e]at hi;have hi:H.get i=some s:=hi;obtain⟨e1,z,e2,e3⟩:=h1.rows i s hi;refine⟨e1,z,XO.names _ _ _ rfl e2,?_⟩;refine e3.ext ex fun b t st ez=>?_
   subst ez;exact VW b (h1.lt e2)
 ·rw[Uu]at hz;cases e:w'.nm i m with
  |some z'=> obtain⟨r',c1,c2⟩:=g1.df i m z' e;exact⟨r',by rw[gE,show aA H'.l i=some r' from c1];rfl,c2⟩
  |none=>
   rw[e]at hz;obtain⟨r',c1,c2⟩:=h1.df i m z hz;refine⟨r',?_,c2⟩;rw[gE];cases e2:aA H'.l i with
   |none=>exact c1
   |some x=>have:=k1 i (by rw[e2];simp);rw[this]at c1;cases c1
 ·rw[Uu]at a1 a2;cases e1:w'.nm i m with
  |some z1=>
   rw[e1]at a1;cases a1;cases e2:w'.nm j n with
   |some z2=>rw[e2]at a2;cases a2;exact g1.inj _ _ _ _ _ _ _ _ _ e1 e2
   |none=>rw[e2]at a2;exact(YA _ _ _ _ _ a2 (g1.own _ _ _ _ _ e1)).elim
  |none=>
   rw[e1]at a1;cases e2:w'.nm j n with
   |some z2=>rw[e2]at a2;cases a2;exact(YA _ _ _ _ _ a1 (g1.own _ _ _ _ _ e2)).elim
   |none=>rw[e2]at a2;exact h1.inj _ _ _ _ _ _ _ _ _ a1 a2
 ·rw[Uu]at h;cases e:w'.nm i m with
  |some z=>rw[e]at h;cases h;exact .inr (g1.own _ _ _ _ _ e)
  |none=>rw[e]at h;exact .inl (h1.own _ _ _ _ _ h)
 ·rcases hb with h|h
  ·exact Nat.lt_of_lt_of_le (h1.fin b h) g3.size
  ·exact g1.fin b h
section
variable {P:TO}{f:FuncId}{args:TE}{B:TH}{e tl:TD}{r0:AV}{q:Prop}
def eO{c:Code}{Q:Exit->TA}{F:TE}(h:dF P c Q F ⟨B,tie e []⟩):dF P c Q F ⟨B,e⟩:=by rw[Ed e];exact h
def mw{R:AV->Prop}(hd:cU P f args e r0 e)(k:q)(h0:aU P f=true:=by exact dv)(hl:nW 0 tl:=by(repeat' first|exact dD|(refine dm (by decide) ?_)|fail))(e0:R r0=q:=by exact fm) :
  ∃r,(fa P (.raw (.func (.func f) #[] #[])) args ⟨B,tie e tl⟩ fun r' H'=>r'=r/\H'=⟨B,tie e tl⟩)/\R r:=
 ⟨r0,cG (K:=fun r' H'=>r'=r0/\H'=⟨B,tie e tl⟩) hd.c rfl hd.e1 hd.e2 hd.aZ hl hd.a h0 ⟨rfl,rfl⟩,e0 ▸ k⟩
end
variable{F:TE}{B:TH}{tl:TD}
def DD{fn:Func}{L L1:TD}{out:TE}{ex:Exit}{r0:AV}{e l:TD}(hB:ids e=B)(k1:fI 0 e)(k2:fI 0 l)(T3:iB r0 ⟨B,L⟩ r0 ⟨B,L1⟩)(hp:∀i,aA L1 i=aA (tie l tl) i)(hl:nW 0 tl)(rs:List ResultVar)
  (hr:r0.all (gV (fL 0))=true:=by first|rfl|(simp only[go_sem,AV.all,aX,gV,Di];done))
  (V5:fn.results.toList=rs:=by rfl) (he:ex=.normal\/ex=.ret:=by first|exact Or.inr rfl|exact Or.inl rfl|fail) (ho:jo P ⟨B,L⟩ F rs=some out:=by first|rfl|(simp(disch:=first|omega|fail) only[go_sem,↓reduceIte,Nat.reduceEqDiff,Nat.reduceLeDiff,Nat.reduceSub,Nat.reduceAdd];rfl)) (hok:km P ⟨B,L⟩ F rs:=by first|exact jI|(simp(disch:=first|omega|fail) only[go_sem,↓reduceIte,Nat.reduceEqDiff,Nat.reduceLeDiff,Nat.reduceSub,Nat.reduceAdd])) (hv:kG out=r0:=by first|rfl|(simp only[go_sem];done)):lu P fn (fun r l'=>r=r0/\l'=l) ex F ⟨B,L⟩:=by
 subst V5;obtain⟨h1,h2,h3⟩:=k1.free k2 hB hl;have:=iB.free (r:=r0) (r':=r0) (H:=⟨B,l++tl⟩) (Go.Gd.fL 0) h1 h2 (yr rfl hr);rw[show(Hp.mk B (l++tl)).l=l++tl from rfl,h3]at this;exact uP he ho hok r0 ⟨B,l⟩ (hv ▸ T3.trans ((HY (B:=B) (l:=L1) (l++tl) hp).trans this)) ⟨rfl,rfl⟩
theorem uh:∀{l:TD} {i:Nat} {r:Row},aA l i=some r->bh l i r=l
 |[],_,_,h=>by cases h
 |(j,s)::l,i,r,h=>by
  have h:(if i=j then some s else aA l i)=some r:=h;show(if i=j then(i,r)::l else(j,s)::bh l i r)=_;by_cases e:i=j
  ·subst e;rw[if_pos rfl]at h ⊢;cases h;rfl
  ·rw[if_neg e]at h ⊢;rw[uh h]
theorem ab.args{P:TO}{f:FuncId}{args args':TE}{l:TD}{R:AV->List TQ->Prop}(hc:ab P f args' l R)(hv:∀w vs,aJ w (entry l)->bs w args vs->bs w args' vs):ab P f args l R:=fun w vs h1 h2=>hc w vs h1 (hv w vs h1 h2)
def xF{w:NW}{a b:AV}{l m:TE}{vs:TL}(h:bs w (a::l) vs)(Z5:∀v,ax w a v->ax w b v)(YC:∀us,bs w l us->bs w m us):bs w (b::m) vs:=by
 obtain⟨h1,h2⟩:=h;have ht:=YC (vs.toList.tail.toArray) ⟨by simp at h1 ⊢;omega,fun i x v hx hv=>h2 (i+1) x v (by simpa using hx) (by simpa using hv)⟩;refine⟨?_,fun i x v hx hv=>?_⟩
 ·have:=ht.1;simp at h1 this ⊢;omega
 ·cases i with
  |zero=>simp at hx;subst hx;exact Z5 v (h2 0 a v rfl hv)
  |succ i=>exact ht.2 i x v (by simpa using hx) (by simpa using hv)
def D8{w:NW}(sz:Nat)(d:TE):∀v,ax w (.raw (.slice none 0 0)) v->ax w (.sl false sz [] d) v:=fun v h=>by have:=dc h;subst this;exact .gu _ _ _ _ (fun e=>by cases e)
def Sl{args:TE}(hv:bu (fun _=>true) H args args'):∀w vs,aJ w H->bs w args vs->bs (w.cR fun _=>true) args' vs:=fun w vs h1 h2=>by
 obtain⟨U6,hg⟩:=hv.get;refine⟨by rw[<-U6];exact h2.1,fun i c v hc hv=>?_⟩;have hi:i<args.length:=by rw[U6];exact(List.getElem?_eq_some_iff.1 hc).1
 exact(hg i args[i] c (List.getElem?_eq_getElem hi) hc).sound h1 (h2.2 i _ v (List.getElem?_eq_getElem hi) hv)
def Eh{w:NW}{i m sz o n:Nat}{t:TJ}{css:TC}{d:TE}(hw:aJ w H)(hi:H.get i=some (.aG t sz css))(hm:m=css.length)(hn:o+n<=m)(h0:0<sz)(hq:QL eo css){v:Value}(h:ax w (.rv i m sz o n) v):ax (w.cR fun _=>true) (.sl false sz ((css.drop o).take n) d) v:=by
 subst hm;have I':((css.drop o).take n).length=n:=by rw[List.length_take,List.length_drop];omega
 cases h with
 |jb _ _ _ _ c A=> have:(css.drop o).take 0=[]:=jE;rw[this];exact .gu _ _ _ _ (fun h=>by cases h)
 |rv _ _ _ _ _ b t' c TV T3=>
  by_cases Xp:n=0
  ·subst Xp;have:(css.drop o).take 0=[]:=jE;rw[this];exact .gu _ _ _ _ (fun h=>by cases h)
  ·have hok:=(hw.rows i _ hi).1;have:=ax.sl (w:=w.cR fun _=>true) (d:=d) false sz ((css.drop o).take n) ⟨b,o*sz,none⟩ c (fun k=>(w.cell? ⟨b,o*sz+k,none⟩).getD undef) jB jB (fun h=>by cases h) (fun cs UD=>hok.2 cs (List.mem_of_mem_drop (List.mem_of_mem_take UD))) (hw.lt TV) (fun h=>h.2 i _ t' sz rfl TV) (fun k j hk hj=>by
    rw[I']at hk;obtain⟨_,_,_,v,h1,h2⟩:=sX hw hi TV (k:=o+k) (j:=j) jB hj;show w.cell? _=_;rw[jf];have e:o*sz+(k*sz+j)=(o+k)*sz+j:=by rw[Nat.add_mul];omega
    rw[e,h1];rfl) (fun k j u hk hu=>by
    rw[I']at hk;have e0:((css.drop o).take n).getD k []=css.getD (o+k) []:=by rw[List.getD_eq_getElem?_getD,List.getElem?_take,if_pos hk,List.getElem?_drop,List.getD_eq_getElem?_getD]
    rw[e0]at hu;have Ux:css.getD (o+k) []∈css:=by rw[List.getD_eq_getElem?_getD,List.getElem?_eq_getElem jB];exact List.getElem_mem _
    have hj:j<sz:=by have:=(List.getElem?_eq_some_iff.1 hu).1;rwa [hok.2 _ Ux]at this
    obtain⟨_,_,_,v,h1,h2⟩:=sX hw hi TV (k:=o+k) (j:=j) jB hj;have e:o*sz+(k*sz+j)=(o+k)*sz+j:=by rw[Nat.add_mul];omega
    rw[e,h1];exact((h2 u hu).aZ (pF w fun _=>true) (qu (fun _ h=>by cases h) _ (lm (hq _ Ux) hu))).lg (lm (hq _ Ux) hu))
   rw[I']at this;exact this
def Ah{args:TE}{K:TB}{i sz:Nat}{t:TJ}{α:Type}[Inhabited α]{enc:α->TE}[he:bC enc sz]{xs:List α}(UU:∀x,k9 (enc x)=true)(hi:H.get i=none)
  (hc:ab P f args' [] fun r l=>r=.rs i xs.length sz xs.length/\l=[(i,.aG t sz (xs.map enc))]) (hv:∀w vs,aJ w H->bs w args vs->bs (w.cR fun _=>true) args' vs) (k:K (aO enc sz xs) H):dj P f args H K:=fun w vs h1 h2=>by
 have Xm:=SQ hc hv (fun r l ⟨e1,e2⟩=>by
  subst e1 e2;refine⟨fun j hj=>?_,rfl,fun j row hj=>?_⟩
  ·by_cases e:j=i
   ·subst e;exact hi
   ·exact(hj (by simp only[aA];rw[if_neg e])).elim
  ·simp only[aA]at hj;split at hj
   ·cases hj;refine RB fun x hx=>?_
    obtain⟨y,_,rfl⟩:=List.mem_map.1 hx;exact UU y
   ·cases hj) h1 h2
 refine Xm.mono ?_;rintro e W ⟨v,r,l,w',rfl,rfl,⟨rfl,rfl⟩,g1,g2,g3,g4⟩;have g1:aJ w' ⟨H.B,(i,.aG t sz (xs.map enc))::H.l⟩:=g1;have hax:∀m,w.nm i m=none:=fun m=>h1.none hi m
 have hgi:(Hp.mk H.B ((i,.aG t sz (xs.map enc))::H.l)).get i=some (.aG t sz (xs.map enc)):=by show(if i=i then _ else _)=_;rw[if_pos rfl]
 have hgj:∀j,j≠i->(Hp.mk H.B ((i,.aG t sz (xs.map enc))::H.l)).get j=H.get j:=fun j hj=>by show(if j=i then _ else _)=_;rw[if_neg hj];rfl
 have haz:=(cW.row (D:=fun j=>decide (j=i)) (dd:=enc default) (enc:=enc) xs jE hgi rfl).sound g1 g2;have k0:=pF w' (fun j=>decide (j=i));have ex:Ext w H (w'.cR fun j=>decide (j=i)) H:={
  size:=g3.size
  free:=fun b hb hO=>⟨(g3.free b hb hO).1,fun h=>(g3.free b hb hO).2 h.1⟩
  names:=fun j m z _ hz=>by
   have Vz:j≠i:=fun e=>by subst e;rw[hax]at hz;cases hz
   show(if decide (j=i)=true then none else w'.nm j m)=some z;rw[if_neg (by simpa using Vz)];exact g3.names j m z rfl hz
  os:=g3.os,tape:=g3.tape,output:=g3.output
  rest:=fun b hb hO TS=>by
   obtain⟨a1,a2,a3⟩:=g3.rest b hb hO TS;refine⟨a1,⟨a2,fun j m t' s _=>a3 j m t' s⟩,fun j m t' s h=>?_⟩;have h:(if decide (j=i)=true then none else w'.nm j m)=some (.at b t' s):=h;split at h
   ·cases h
   ·exact a3 _ _ _ _ h
  base:=rfl }
 refine⟨v,_,H,w'.cR fun j=>decide (j=i),rfl,rfl,k,{ bX:=g1.bX.aZ k0,rows:=fun j s hj=>?_,df:=fun j m z hz=>?_,inj:=fun j m j' m' b t1 s1 t2 s2 a1 a2=>?_,own:=fun j m b t1 s1 h=>?_,fin:=fun b hb=>g1.fin b hb.1 },haz,ex⟩
 ·have Vz:j≠i:=fun e=>by subst e;rw[hi]at hj;cases hj
  obtain⟨e1,z,e2,e3⟩:=h1.rows j s hj;refine⟨e1,z,ex.names _ _ _ rfl e2,e3.ext ex fun b t1 s1 ez=>?_⟩;subst ez;exact g4 b (h1.lt e2)
 ·have hz:(if decide (j=i)=true then none else w'.nm j m)=some z:=hz;split at hz
  ·cases hz
  ·rename_i e;obtain⟨r',c1,c2⟩:=g1.df j m z hz;exact⟨r',by rw[<-hgj j (by simpa using e)];exact c1,c2⟩
 ·have a1:(if decide (j=i)=true then none else w'.nm j m)=_:=a1;have a2:(if decide (j'=i)=true then none else w'.nm j' m')=_:=a2;split at a1
  ·cases a1
  ·split at a2
   ·cases a2
   ·exact g1.inj _ _ _ _ _ _ _ _ _ a1 a2
 ·have h:(if decide (j=i)=true then none else w'.nm j m)=_:=h;split at h
  ·cases h
  ·rename_i e;refine⟨g1.own _ _ _ _ _ h,fun j' m' t' s' hd h'=>e ?_⟩;rw[g1.inj _ _ _ _ _ _ _ _ _ h h'];exact hd
@[go_sem] def j1m(a k n:Nat)(h:n<1000):(n == hn a k)=false:=by have:=ix a k;simp;omega
@[go_sem] def jxd(a b k j:Nat)(ha:a<32)(hb:b<32)(h:a≠b):(hn a k == hn b j)=false:=by simp;exact dh ha hb h
@[go_sem] def jza(a k:Nat):(hn a k == hn a k)=true:=jE
@[go_sem] def NB(a k:Nat):hn a k+16=hn (a+16) k:=by unfold hn;omega
theorem EF{A C D:TH}(hA:A.isEmpty=false){E:TH}{l:List Oper}{ps:List TH}:∀(rest done:TH),o6 (A,C,D) E l ps done rest=o6 ([0],C,D) E l ps done rest
 |[],done=>rfl
 |i::rest,done=>by
  have e1:kT (A,C,D)=kT ([0],C,D):=rfl;have e2:mS (A,C,D) (dJ l i)=mS ([0],C,D) (dJ l i):=by have hA':(A,C,D).1.isEmpty=([0],C,D).1.isEmpty:=hA;unfold mS;rw[hA'];rfl
  unfold o6;rw[EF hA rest,e1,e2]
def Qh{A C D:TH}(hA:A.isEmpty=false){E:TH}{l:List Oper}{ord:TH}:pQ (A,C,D) E l ord=pQ ([0],C,D) E l ord:=by unfold pQ;rw[EF hA];rfl
def qw{Q:Exit->TA}(id:Nat){l:List Oper}{q:Prop}(A C D E ord:TH)(hm:P.follows .mixedOrders=true)(h:q)(hA:A.isEmpty=false:=by rfl)(hok:pQ ([0],C,D) E l ord=true:=by decide +kernel)(hE:ru P l E:=by simp only[ru,dJ,List.getD_cons_zero,List.getD_cons_succ,go_sem])(e:fF (A,C,D) P l.toArray (Q .normal) (ord.map (dJ l)) F H=q:=by(simp only[aW,List.map_cons,List.map_nil,dJ,List.getD_cons_zero,List.getD_cons_succ];exact fm)):dF P (.region id l.toArray true) Q F H:=CH (A,C,D) E ord hm (by rw[Qh hA];exact hok) hE (e ▸ h)
def CM(A:AS)(e l:TD):Prop:=∀j,A.1.contains j=false->aA e j≠none->aA l j=aA e j\/(A.1.contains (j+16)=true/\∃t c c' cs,aA e j=some (.var t (c::cs))/\aA l j=some (.var t (c'::cs)))
variable{l:TD}
def nU{A:AS}{args:TE}{e:TD}{r0:AV}{g:TB}{d:im fun r H'=>eJ A ⟨B,tie e tl⟩ H'/\g r H'}{q:Prop}(hd:cU P f args e r0 l)(hx:CM A e l)(k:q)(h0:aU P f=true:=by exact dv)(hl:nW 0 tl:=by(repeat' first|exact dD|(refine dm (by decide) ?_)|fail))(e0:g r0 ⟨B,tie l tl⟩=q:=by exact fm) :
  fa P (.raw (.func (.func f) #[] #[])) args ⟨B,tie e tl⟩ (AP (fun r H'=>eJ A ⟨B,tie e tl⟩ H'/\g r H') d):=by
 refine cG (K:=AP (fun r H'=>eJ A ⟨B,tie e tl⟩ H'/\g r H') d) hd.c rfl hd.e1 hd.e2 hd.aZ hl hd.a h0 ⟨fun i r hi hr=>?_,e0 ▸ k⟩;have hr:aA (tie e tl) i=some r:=hr;show aA (tie l tl) i=some r\/_/\∃t c c' cs,r=.var t (c::cs)/\aA (tie l tl) i=some (.var t (c'::cs));rw[jO]at hr ⊢;cases he:aA e i with
 |some s=>
  rw[he]at hr;cases hr;rcases hx i hi (by rw[he];simp)with h|⟨h1,t,c,c',cs,h2,h3⟩
  ·left;rw[h,he];rfl
  ·right
   rw[he]at h2;cases h2;exact⟨h1,t,c,c',cs,rfl,by rw[h3];rfl⟩
 |none=>
  rw[he]at hr;have hr:aA tl i=some r:=hr;have:=hl i r hr;left
  rw[hd.e2.low i this.2];exact hr
def OY{n:Nat}{S:Type}{W:List (Nat×Nat)}{ok:S->Prop}{J:S->List (Nat×AV)}{G:S->Hp}{μ:S->Nat}{F₀:TE}{e0:TD}(hB:ids e0=B)(k1:fI 0 e0)(k2:fI 0 l)(hl:nW 0 tl)(s:S)(h1:ok s)(h2:μ s<n)(hG:(⟨B,tie l []⟩:Hp)=G s)(h3:bu (fL 0) ⟨B,tie l tl⟩ F (mC (J s) (nj W F₀))):Next n W ok J G μ F₀ F ⟨B,tie l tl⟩:=by obtain⟨a1,a2,a3⟩:=k1.free k2 hB hl;refine FY (fL 0) s h1 h2 a1 a2 ?_ h3;rw[<-hG];show(Hp.mk B (fv (fL 0) (l++tl)))=_;rw[a3,<-Ed]
end Go.Gd
namespace Go.Proofs.YtjpcgmjaipfgdaaGreatDoor
open Go Go.Gd
structure Ci(R:RS):Prop where
 sl:∀f∈R.gm,q9 f.slots
 hp:tA R.heap
def Th(s:gr):Prop:=Ci (RS.of s)
structure Good(p:af)(n:Nat)(s:gr):Prop where
 inv:wo p s
 cf:Th s
 t0:0<=s.time
 t1:s.time<=n
end Go.Proofs.YtjpcgmjaipfgdaaGreatDoor
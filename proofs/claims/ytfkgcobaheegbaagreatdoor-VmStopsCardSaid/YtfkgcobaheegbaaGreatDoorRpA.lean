/- Lemmas. No conditions. -/
import Derived.Test.YtfkgcobaheegbaaGreatDoorSoS
set_option linter.all false
namespace Go.Gd
open Go
structure eF(lo:Nat)(e:List (Nat×Row)):Prop where
 no:∀i,lo<=i->i<1000->av e i=none
 nodup:(ids e).Nodup
 closed:∀i r,av e i=some r->aW (fun i=>(ids e).contains i) r.cells=true
def nF(lo:Nat)(tl:List (Nat×Row)):Prop:=∀i r,av tl i=some r->lo<=i/\i<1000
variable{lo:Nat}{tl:List (Nat×Row)}
theorem eF.lays{e:List (Nat×Row)}(h:eF lo e)(hl:nF lo tl):Lays (fun tl=>e++tl) tl:=⟨fun i=>by rw[jd,List.append_nil],fun i r hi=>by show av (e++[]) i=none;rw[List.append_nil];exact h.no i (hl i r hi).1 (hl i r hi).2⟩
variable{P:Program}{f:FuncId}{K:AV->Hp->Prop}{e':List (Nat×Row)}{r0:AV}{B:List Nat}
theorem cG{args:List AV}{H:Hp}{e:List (Nat×Row)}(hc:aj P f args e fun r l'=>r=r0/\l'=e')(hH:H=⟨B,e++tl⟩)
  (h1:eF lo e) (h2:eF lo e') (hs:∀i,av e i≠none->av e' i≠none) (hl:nF lo tl) (ha:aW (fun i=>(ids e).contains i) args=true) (h0:bz P f=true) (k:K r0 ⟨B,e'++tl⟩):fI P (.raw (.func (.func f) #[] #[])) args H K:=by
 subst hH;refine o7 h0 (D6 (E:=fun tl=>e++tl) (E':=fun tl=>e'++tl) ?_ (h1.lays hl) (h2.lays hl) ?_ ?_ ?_ k ?_)
 ·simp only[List.append_nil];exact hc
 ·simp only[List.append_nil];exact h2.nodup
 ·simp only[List.append_nil];exact ha
 ·simp only[List.append_nil];exact h1.closed
 ·simp only[List.append_nil];exact hs
def cR(lo:Nat):Nat->Bool:=fun i=>decide (lo<=i/\i<1000)
theorem eF.cR{lo:Nat}{e:List (Nat×Row)}(h:eF lo e){i:Nat}(hi:i∈ids e):cR lo i=false:=by
 unfold Go.Gd.cR;refine decide_eq_false fun h'=>?_
 exact(gX _ _).1 hi (h.no i h'.1 h'.2)
theorem eF.free{e0:List (Nat×Row)}(k1:eF lo e0)(k2:eF lo e')(hB:ids e0=B)(hl:nF lo tl) :
  B.all (fF (Go.Gd.cR lo))=true/\gJ (Go.Gd.cR lo) (e'++tl)/\eu (Go.Gd.cR lo) (e'++tl)=e':=by
 have htl:∀i∈ids tl,Go.Gd.cR lo i=true:=fun i hi=>by obtain⟨r,hr⟩:=Option.ne_none_iff_exists'.1 ((gX _ _).1 hi);exact decide_eq_true (hl i r hr)
 refine⟨?_,?_,?_⟩
 ·rw[List.all_eq_true];intro i hi;rw[<-hB]at hi;unfold fF;rw[k1.cR hi];rfl
 ·refine wj _ _ _ (v7 _ _ k2.nodup fun i r hi=>fh (fun j hj=>?_) _ (k2.closed i r hi)) (AZ _ _ htl);unfold fF;rw[k2.cR (List.contains_iff_mem.1 hj)];rfl
 ·rw[wx,v8 _ _ (fun i hi=>k2.cR hi),CP _ _ htl,List.append_nil]
def hn(a k:Nat):Nat:=1000+(32*k+a)
theorem iw(a k:Nat):1000<=hn a k:=Nat.le_add_right _ _
theorem wG{a b k j:Nat}(ha:a<32)(hb:b<32)(h:hn a k=hn b j):a=b/\k=j:=by unfold hn at h;omega
@[go_sem] theorem j8c(a k n:Nat)(h:n<1000):(hn a k=n)=False:=by have:=iw a k;simp;omega
@[go_sem] theorem j8q(a k n:Nat)(h:n<1000):(n=hn a k)=False:=by have:=iw a k;simp;omega
@[go_sem] theorem j5y(a k j:Nat):(hn a k=hn a j)=(k=j):=by unfold hn;simp;omega
@[go_sem] theorem j34(a b k j:Nat)(ha:a<32)(hb:b<32)(h:a≠b):(hn a k=hn b j)=False:=by simp;intro e;exact h (wG ha hb e).1
theorem db{a b k j:Nat}(ha:a<32)(hb:b<32)(h:a≠b):hn a k≠hn b j:=fun e=>h (wG ha hb e).1
@[go_sem] theorem jyB(l:List (Nat×Row))(a k:Nat)(r:Row)(i:Nat):av (br l (hn a k) r) i=if i=hn a k then some r else av l i:=bM _ _ _ _
theorem oj:∀(l:List (Nat×Row)) (i j:Nat) (r:Row),j∈ids (br l i r)<->j=i\/j∈ids l:=fun l i j r=>by rw[gX,gX,bM];by_cases e:j=i<;>simp[e]
theorem CN:∀(l:List (Nat×Row)) (i:Nat) (r:Row),(ids l).Nodup->(ids (br l i r)).Nodup
 |[],i,r,_=>by simp[br,ids]
 |(j,s)::l,i,r,h=>by
  have hc:=List.nodup_cons.1 h;unfold br;split
  ·rename_i e;subst e;exact h
  ·rename_i e;refine List.nodup_cons.2 ⟨fun hm=>?_,CN l i r hc.2⟩;rcases(oj l i j r).1 hm with h1|h1
   ·exact e h1.symm
   ·exact hc.1 h1
variable{i:Nat}
theorem eF.put{e:List (Nat×Row)}{r:Row}(h:eF lo e)(hi:i<lo\/1000<=i)(hr:aW (fun j=>decide (j=i) || (ids e).contains j) r.cells=true):eF lo (br e i r):=by
 have hm:∀j,(decide (j=i) || (ids e).contains j)=true->(ids (br e i r)).contains j=true:=fun j hj=>by
  rw[List.contains_iff_mem,oj];rcases Bool.or_eq_true _ _ ▸ hj with h1|h1
  ·exact .inl (of_decide_eq_true h1)
  ·exact .inr (List.contains_iff_mem.1 h1)
 refine⟨fun j h1 h2=>?_,CN _ _ _ h.nodup,fun j s hs=>?_⟩
 ·rw[bM,jN];exact h.no j h1 h2
 ·rw[bM]at hs;split at hs
  ·cases hs;exact fh hm _ hr
  ·exact fh (fun k hk=>hm k (by rw[Bool.or_eq_true];exact .inr hk)) _ (h.closed j s hs)
structure Up(X:List Nat)(e l:List (Nat×Row)):Prop where
 aY:∀i,av e i≠none->av l i≠none
 new:∀i,av l i≠none->av e i≠none\/i ∉ X
theorem Up.refl(X:List Nat)(e:List (Nat×Row)):Up X e e:=⟨fun _ h=>h,fun _ h=>.inl h⟩
theorem Up.trans{X:List Nat}{a b c:List (Nat×Row)}(h:Up X a b)(k:Up X b c):Up X a c:=⟨fun i hi=>k.aY i (h.aY i hi),fun i hi=>(k.new i hi).elim (h.new i) .inr⟩
theorem Up.put{X:List Nat}{e:List (Nat×Row)}(r:Row)(h:av e i≠none\/i ∉ X):Up X e (br e i r):=⟨fun j hj=>by
 rw[bM];split
 ·simp
 ·exact hj,fun j hj=>by
 rw[bM]at hj;split at hj
 ·rename_i e';subst e';exact h
 ·exact .inl hj⟩
def pY(X:List Nat):Nat:=1+X.foldl max 0
theorem Il:∀(X:List Nat) (a:Nat),a<=X.foldl max a/\∀x∈X,x<=X.foldl max a
 |[],a=>⟨Nat.le_refl _,by simp⟩
 |y::X,a=>by
  obtain⟨h1,h2⟩:=Il X (max a y);refine⟨Nat.le_trans (Nat.le_max_left _ _) h1,fun x hx=>?_⟩;rcases List.mem_cons.1 hx with rfl|hx
  ·exact Nat.le_trans (Nat.le_max_right _ _) h1
  ·exact h2 x hx
theorem MB(X:List Nat){x:Nat}(h:x∈X):x<pY X:=by have:=(Il X 0).2 x h;unfold pY;omega
theorem BC(X:List Nat)(a d:Nat):hn a (pY X+d) ∉ X:=fun h=>by have:=MB X h;unfold hn at this;omega
theorem wF(e:List (Nat×Row))(X:List Nat)(a d:Nat):av e (hn a (pY (ids e++X)+d))=none:=by
 cases h:av e (hn a (pY (ids e++X)+d))with
 |none=>rfl
 |some r=>exact(BC (ids e++X) a d (List.mem_append_left _ ((gX _ _).2 (by rw[h];simp)))).elim
theorem yV(e:List (Nat×Row))(X:List Nat)(a d:Nat):hn a (pY (ids e++X)+d) ∉ X:=fun h=>BC (ids e++X) a d (List.mem_append_right _ h)
theorem aj.more{args:List AV}{s e:List (Nat×Row)}{R:AV->List (Nat×Row)->Prop}(hc:aj P f args s R)(hs:∀i r,av s i=some r->av e i=some r)(ha:aW (fun i=>(ids s).contains i) args=true)(hcl:∀i r,av s i=some r->aW (fun i=>(ids s).contains i) r.cells=true)
  (hn:∀r l,R r l->(ids l).Nodup/\∀i,av l i≠none->av s i≠none\/av e i=none):aj P f args e fun r l=>∃l0,R r l0/\l=gZ e l0:=fun w vs hw hv=>by
 refine(zZ (H:=entry e) (K:=fun r H'=>∃l0,R r l0/\H'=⟨ids e,gZ e l0⟩) hc (fun i r hi=>hs i r hi) ha hcl (fun r l' hR=>⟨fun i x hx=>?_,(hn r l' hR).1,l',hR,rfl⟩) hw hv).mono ?_
 ·rcases(hn r l' hR).2 i (by rw[hx];simp)with h|h
  ·obtain⟨y,hy⟩:=Option.ne_none_iff_exists'.1 h;exact .inl (wu hy)
  ·exact .inr h
 ·rintro e' W ⟨v,r,H',w',rfl,rfl,⟨l0,hR,rfl⟩,g1,g2,g3⟩;exact⟨v,r,_,w',rfl,rfl,⟨l0,hR,rfl⟩,g1,g2,g3.pB⟩
def tie(e tl:List (Nat×Row)):List (Nat×Row):=e++tl
theorem wL(e:List (Nat×Row)):e=tie e []:=(List.append_nil e).symm
@[go_sem] theorem gF(e tl:List (Nat×Row))(i:Nat):av (tie e tl) i=(av e i).or (av tl i):=jd _ _ _
theorem AL:∀(e tl:List (Nat×Row)) (i:Nat) (r:Row),br (e++tl) i r=if(av e i).isSome=true then br e i r++tl else e++br tl i r
 |[],tl,i,r=>by simp[av,br]
 |(j,s)::e,tl,i,r=>by
  show(if i=j then(i,r)::(e++tl)else(j,s)::br (e++tl) i r)=if((if i=j then some s else av e i):Option Row).isSome=true then(if i=j then(i,r)::e else(j,s)::br e i r)++tl else(j,s)::(e++br tl i r)
  by_cases h:i=j
  ·subst h;simp
  ·simp only[if_neg h];rw[AL e tl i r];split<;>rfl
@[go_sem] theorem j4c(e tl:List (Nat×Row))(i:Nat)(r:Row):br (tie e tl) i r=if(av e i).isSome=true then tie (br e i r) tl else tie e (br tl i r):=AL _ _ _ _
attribute [go_sem] Option.some_or Option.none_or Option.isSome_some Option.isSome_none
theorem eF.low{e:List (Nat×Row)}(h:eF 0 e):∀i,i<1000->av e i=none:=fun i hi=>h.no i (Nat.zero_le _) hi
theorem er:nF 0 []:=fun i r h=>by cases h
theorem eO{T:List (Nat×Row)}{r:Row}(h:i<1000)(hT:nF 0 T):nF 0 ((i,r)::T):=fun j s hs=>by
 simp only[av]at hs;split at hs
 ·omega
 ·exact hT j s hs
structure du(P:Program)(f:FuncId)(args:List AV)(e:List (Nat×Row))(r0:AV)(l:List (Nat×Row)):Prop where
 c:aj P f args e fun r l'=>r=r0/\l'=l
 e1:eF 0 e
 e2:eF 0 l
 aY:∀i,av e i≠none->av l i≠none
 a:aW (fun i=>(ids e).contains i) args=true
variable{l:List (Nat×Row)}
theorem cT{args:List AV}{e:List (Nat×Row)}{q:Prop}(hd:du P f args e r0 l)(k:q)(h0:bz P f=true:=by exact dj)(hl:nF 0 tl:=by(repeat' first|exact er|(refine eO (by decide) ?_)|fail))(e0:K r0 ⟨B,tie l tl⟩=q:=by exact eJ):fI P (.raw (.func (.func f) #[] #[])) args ⟨B,tie e tl⟩ K:=
 cG hd.c rfl hd.e1 hd.e2 hd.aY hl hd.a h0 (e0 ▸ k)
@[go_sem] theorem Ex(a k:Nat):cR 0 (hn a k)=false:=decide_eq_false (by have:=iw a k;omega)
theorem fp{fn:Func}{F:List AV}{L:List (Nat×Row)}{out:List AV}{ex:Exit}{e:List (Nat×Row)}(hB:ids e=B)(k1:eF 0 e)(k2:eF 0 l)(hp:∀i,av L i=av (tie l tl) i)(hl:nF 0 tl)(rs:List ResultVar)
  (hr:r0.all (fF (cR 0))=true:=by first|rfl|(simp only[go_sem,AV.all,aW,fF,Ex];done))
  (hrs:fn.results.toList=rs:=by rfl) (he:ex=.normal\/ex=.ret:=by first|exact Or.inr rfl|exact Or.inl rfl|fail) (ho:jg P ⟨B,L⟩ F rs=some out:=by first|rfl|(simp(disch:=first|omega|fail) only[go_sem,↓reduceIte,Nat.reduceEqDiff,Nat.reduceLeDiff,Nat.reduceSub,Nat.reduceAdd];rfl)) (hok:j3 P ⟨B,L⟩ F rs:=by first|exact jI|(simp(disch:=first|omega|fail) only[go_sem,↓reduceIte,Nat.reduceEqDiff,Nat.reduceLeDiff,Nat.reduceSub,Nat.reduceAdd])) (hv:jU out=r0:=by first|rfl|(simp only[go_sem];done)):kX P fn (fun r l'=>r=r0/\l'=l) ex F ⟨B,L⟩:=by
 subst hrs;obtain⟨h1,h2,h3⟩:=k1.free k2 hB hl;have:=hZ.free (r:=jU out) (r':=r0) (H:=⟨B,l++tl⟩) (Go.Gd.cR 0) h1 h2 (yF hv (hv ▸ hr));rw[show(Hp.mk B (l++tl)).l=l++tl from rfl,h3]at this;exact rE he ho hok r0 ⟨B,l⟩ ((Bb (B:=B) (l:=L) (l++tl) hp).trans this) ⟨rfl,rfl⟩
mutual
def AV.eK:AV->Bool
 |.raw _=>true
 |.any=>true
 |.agg cs=>ka cs
 |.bj cs=>ka cs
 |.gd _ v=>v.eK
 |.pt _ _ _ _=>true
 |.rs _ _ _ _=>true
 |.rv _ _ _ _ _=>true
 |.mr _=>true
 |_=>false
def ka:List AV->Bool
 |[]=>true
 |a::l=>a.eK && ka l
end
theorem zA:∀{l:List AV},ka l=true->∀{i:Nat} {a:AV},l[i]?=some a->a.eK=true
 |[],_,i,a,h=>by simp at h
 |x::l,hl,i,a,h=>by
  simp only[ka,Bool.and_eq_true]at hl;cases i with
  |zero=>simp at h;subst h;exact hl.1
  |succ i=>exact zA hl.2 (by simpa using h)
theorem E7:∀(l m:List AV),ka (l++m)=(ka l && ka m)
 |[],m=>by simp[ka]
 |a::l,m=>by simp only[List.cons_append,ka,E7 l m,Bool.and_assoc]
theorem Dj{l:List (List AV)}(h:∀x∈l,ka x=true):ka l.flatten=true:=by
 induction l with
 |nil=>rfl
 |cons x l ih=>rw[List.flatten_cons,E7,h x jE,ih fun y hy=>h y (by simp[hy])];rfl
theorem aw.eK{w:NW}{a:AV}{v:Value}(h:aw w a v):∀{w':NW},(∀i m z,w.nm i m=some z->w'.nm i m=some z)->a.eK=true->aw w' a v:=by
 induction h with
 |raw v=>intro w' _ _;exact .raw v
 |any v=>intro w' _ _;exact .any v
 |agg cs vs hl _ ih=>intro w' k ha;simp only[AV.eK]at ha;exact .agg cs vs hl fun i a v h1 h2=>ih i a v h1 h2 k (zA ha h1)
 |bj cs vs hl _ ih=>intro w' k ha;simp only[AV.eK]at ha;exact .bj cs vs hl fun i a v h1 h2=>ih i a v h1 h2 k (zA ha h1)
 |gd p a v _ hu ih=>intro w' k ha;exact .gd p a v (fun hp=>ih hp k (by simpa only[AV.eK]using ha)) hu
 |pt i m o j b t s h=>intro w' k _;exact .pt i m o j b t s (k _ _ _ h)
 |iO i m sz A h=>intro w' k _;exact .iO i m sz A (k _ _ _ h)
 |rs i m sz n b t c h hc hn hs=>intro w' k _;exact .rs i m sz n b t c (k _ _ _ h) hc hn hs
 |lu i m sz o c A=>intro w' _ _;exact .lu i m sz o c A
 |rv i m sz o n b t c h hn=>intro w' k _;exact .rv i m sz o n b t c (k _ _ _ h) hn
 |mr i b t s h=>intro w' k _;exact .mr i b t s (k _ _ _ h)
 |gm=>intro w' _ ha;simp only[AV.eK]at ha;cases ha
 |sl=>intro w' _ ha;simp only[AV.eK]at ha;cases ha
 |ip=>intro w' _ ha;simp only[AV.eK]at ha;cases ha
 |fQ=>intro w' _ ha;simp only[AV.eK]at ha;cases ha
 |bd=>intro w' _ ha;simp only[AV.eK]at ha;cases ha
 |kH=>intro w' _ ha;simp only[AV.eK]at ha;cases ha
variable{P:Program}{f:FuncId}{args':List AV}{H:Hp}
theorem Dn{args:List AV}{R:AV->List (Nat×Row)->Prop}(hc:aj P f args' [] R)(hv:∀w vs,aO w H->bc w args vs->bc (w.cD fun _=>true) args' vs)
  (hk:∀r l,R r l->(∀i,av l i≠none->H.get i=none)/\r.eK=true/\(∀i row,av l i=some row->ka row.cells=true)) {w:NW} {vs:Array Value} (h1:aO w H) (h2:bc w args vs) :
  Calls P f vs w.toWorld fun e W=>∃v r l w',W=NW.toWorld w'/\e=.returned v/\R r l/\aO w' ⟨H.B,l++H.l⟩/\aw w' r v/\Ext w H w' ⟨H.B,l++H.l⟩/\∀b,b<w.heap.size->w'.heap[b]?=w.heap[b]?:=by
 have hw1:aO (w.cD fun _=>true) (entry []):={
  rows:=fun i r h=>by cases h
  dO:=fun i m z h=>by cases h
  inj:=fun i m j n b t s t' s' h _=>by cases h
  own:=fun i m b t s h=>by cases h
  fin:=fun b hb=>h1.fin b hb.1
  cn:=h1.cn.aY (rO w fun _=>true) }
 refine(hc (w.cD fun _=>true) vs hw1 (hv w vs h1 h2)).mono ?_;rintro e W ⟨v,r,H',w',rfl,rfl,hR,g1,g2,g3⟩;obtain⟨k1,k2,k3⟩:=hk r H'.l hR;have hheap:∀b,b<w.heap.size->w'.heap[b]?=w.heap[b]?:=fun b hb=>by
  classical
  by_cases hO:(w.cD fun _=>true).O b
  ·exact(g3.rest b hb hO fun i m t s h=>by cases h).1
  ·exact(g3.free b hb hO).1
 have hne:∀i m z,w.nm i m=some z->w'.nm i m=none:=fun i m z hz=>by
  obtain⟨r',hr',_⟩:=h1.dO i m z hz;cases e:w'.nm i m with
  |none=>rfl
  |some z'=> obtain⟨r2,hr2,_⟩:=g1.dO i m z' e;have:=k1 i (by show av H'.l i≠none;have hr2:av H'.l i=some r2:=hr2;rw[hr2];simp);rw[this]at hr';cases hr'
 have hap:∀i m b t s,w.nm i m=some (.at b t s)->¬w'.O b:=fun i m b t s hz=>by refine(g3.free b (h1.lt hz) fun hO=>hO.2 i m t s rfl hz).2
 let w2:NW:={ w' with O:=fun b=>w.O b\/w'.O b,nm:=fun i m=>(w'.nm i m).or (w.nm i m) }
 have nmE:∀i m,w2.nm i m=(w'.nm i m).or (w.nm i m):=fun _ _=>rfl
 have up:∀i m z,w'.nm i m=some z->w2.nm i m=some z:=fun i m z h=>by rw[nmE,h];rfl
 have hkeep:Keep su w w2:=⟨g3.size,fun b hb hO=>⟨hheap b hb,fun h=>h.elim hO (g3.free b hb fun h=>hO h.1).2⟩,fun i m z _ h=>by rw[nmE,hne i m z h];exact h⟩;have ex:Ext w H w2 ⟨H.B,H'.l++H.l⟩:={ hkeep with
  os:=g3.os,tape:=g3.tape,output:=g3.output
  rest:=fun b hb hO hno=>⟨hheap b hb,.inl hO,fun i m t s h=>by
   rw[nmE]at h;cases e:w'.nm i m with
   |none=>rw[e]at h;exact hno _ _ _ _ h
   |some z=> rw[e]at h;cases h;exact(g3.rest b hb ⟨hO,fun i m t s _=>hno i m t s⟩ fun i m t s h=>by cases h).2.2 i m t s e⟩
  base:=rfl }
 have gE:∀i,(Hp.mk H.B (H'.l++H.l)).get i=(av H'.l i).or (H.get i):=fun i=>jd _ _ _
 refine⟨v,r,H'.l,w2,rfl,rfl,hR,{ cn:=h1.cn.aY hkeep,rows:=fun i s hi=>?_,dO:=fun i m z hz=>?_,inj:=fun i m j n b t s t' s' a1 a2=>?_,own:=fun i m b t s h=>?_,fin:=fun b hb=>?_ },g2.eK up k2,ex,hheap⟩
 ·rw[gE]at hi;cases e:av H'.l i with
  |some x=>
   rw[e]at hi;cases hi;obtain⟨e1,z,e2,e3⟩:=g1.rows i s e;refine⟨e1,z,up _ _ _ e2,?_⟩;cases z with
   |nil=>exact e3
   |«at» b t st=> obtain⟨c1,cur,c2,c3,c4⟩:=e3;exact⟨c1,cur,c2,c3,fun j a u ha hu=>(c4 j a u ha hu).eK up (zA (k3 i s e) ha)⟩
  |none=>
   rw[e]at hi;have hi:H.get i=some s:=hi;obtain⟨e1,z,e2,e3⟩:=h1.rows i s hi;refine⟨e1,z,hkeep.names _ _ _ rfl e2,?_⟩;refine e3.ext ex fun b t st ez=>?_
   subst ez;exact hheap b (h1.lt e2)
 ·rw[nmE]at hz;cases e:w'.nm i m with
  |some z'=> obtain⟨r',c1,c2⟩:=g1.dO i m z' e;exact⟨r',by rw[gE,show av H'.l i=some r' from c1];rfl,c2⟩
  |none=>
   rw[e]at hz;obtain⟨r',c1,c2⟩:=h1.dO i m z hz;refine⟨r',?_,c2⟩;rw[gE];cases e2:av H'.l i with
   |none=>exact c1
   |some x=>have:=k1 i (by rw[e2];simp);rw[this]at c1;cases c1
 ·rw[nmE]at a1 a2;cases e1:w'.nm i m with
  |some z1=>
   rw[e1]at a1;cases a1;cases e2:w'.nm j n with
   |some z2=>rw[e2]at a2;cases a2;exact g1.inj _ _ _ _ _ _ _ _ _ e1 e2
   |none=>rw[e2]at a2;exact(hap _ _ _ _ _ a2 (g1.own _ _ _ _ _ e1)).elim
  |none=>
   rw[e1]at a1;cases e2:w'.nm j n with
   |some z2=>rw[e2]at a2;cases a2;exact(hap _ _ _ _ _ a1 (g1.own _ _ _ _ _ e2)).elim
   |none=>rw[e2]at a2;exact h1.inj _ _ _ _ _ _ _ _ _ a1 a2
 ·rw[nmE]at h;cases e:w'.nm i m with
  |some z=>rw[e]at h;cases h;exact .inr (g1.own _ _ _ _ _ e)
  |none=>rw[e]at h;exact .inl (h1.own _ _ _ _ _ h)
 ·rcases hb with h|h
  ·exact Nat.lt_of_lt_of_le (h1.fin b h) g3.size
  ·exact g1.fin b h
section
variable {P:Program}{f:FuncId}{args:List AV}{B:List Nat}{e tl:List (Nat×Row)}{r0:AV}{q:Prop}
theorem fk{c:Code}{Q:Exit->List AV->Hp->Prop}{F:List AV}(h:dH P c Q F ⟨B,tie e []⟩):dH P c Q F ⟨B,e⟩:=by rw[wL e];exact h
theorem o8{R:AV->Prop}(hd:du P f args e r0 e)(k:q)(h0:bz P f=true:=by exact dj)(hl:nF 0 tl:=by(repeat' first|exact er|(refine eO (by decide) ?_)|fail))(e0:R r0=q:=by exact eJ) :
  ∃r,(fI P (.raw (.func (.func f) #[] #[])) args ⟨B,tie e tl⟩ fun r' H'=>r'=r/\H'=⟨B,tie e tl⟩)/\R r:=
 ⟨r0,cG (K:=fun r' H'=>r'=r0/\H'=⟨B,tie e tl⟩) hd.c rfl hd.e1 hd.e2 hd.aY hl hd.a h0 ⟨rfl,rfl⟩,e0 ▸ k⟩
end
variable{tl:List (Nat×Row)}
theorem Ht{fn:Func}{F:List AV}{B:List Nat}{L L1:List (Nat×Row)}{out:List AV}{ex:Exit}{r0:AV}{e l:List (Nat×Row)}(hB:ids e=B)(k1:eF 0 e)(k2:eF 0 l)(hle:hZ r0 ⟨B,L⟩ r0 ⟨B,L1⟩)(hp:∀i,av L1 i=av (tie l tl) i)(hl:nF 0 tl)(rs:List ResultVar)
  (hr:r0.all (fF (cR 0))=true:=by first|rfl|(simp only[go_sem,AV.all,aW,fF,Ex];done))
  (hrs:fn.results.toList=rs:=by rfl) (he:ex=.normal\/ex=.ret:=by first|exact Or.inr rfl|exact Or.inl rfl|fail) (ho:jg P ⟨B,L⟩ F rs=some out:=by first|rfl|(simp(disch:=first|omega|fail) only[go_sem,↓reduceIte,Nat.reduceEqDiff,Nat.reduceLeDiff,Nat.reduceSub,Nat.reduceAdd];rfl)) (hok:j3 P ⟨B,L⟩ F rs:=by first|exact jI|(simp(disch:=first|omega|fail) only[go_sem,↓reduceIte,Nat.reduceEqDiff,Nat.reduceLeDiff,Nat.reduceSub,Nat.reduceAdd])) (hv:jU out=r0:=by first|rfl|(simp only[go_sem];done)):kX P fn (fun r l'=>r=r0/\l'=l) ex F ⟨B,L⟩:=by
 subst hrs;obtain⟨h1,h2,h3⟩:=k1.free k2 hB hl;have:=hZ.free (r:=r0) (r':=r0) (H:=⟨B,l++tl⟩) (Go.Gd.cR 0) h1 h2 (yF rfl hr);rw[show(Hp.mk B (l++tl)).l=l++tl from rfl,h3]at this;exact rE he ho hok r0 ⟨B,l⟩ (hv ▸ hle.trans ((Bb (B:=B) (l:=L1) (l++tl) hp).trans this)) ⟨rfl,rfl⟩
theorem tQ:∀{l:List (Nat×Row)} {i:Nat} {r:Row},av l i=some r->br l i r=l
 |[],_,_,h=>by cases h
 |(j,s)::l,i,r,h=>by
  have h:(if i=j then some s else av l i)=some r:=h;show(if i=j then(i,r)::l else(j,s)::br l i r)=_;by_cases e:i=j
  ·subst e;rw[if_pos rfl]at h ⊢;cases h;rfl
  ·rw[if_neg e]at h ⊢;rw[tQ h]
theorem aj.args{P:Program}{f:FuncId}{args args':List AV}{l:List (Nat×Row)}{R:AV->List (Nat×Row)->Prop}(hc:aj P f args' l R)(hv:∀w vs,aO w (entry l)->bc w args vs->bc w args' vs):aj P f args l R:=fun w vs h1 h2=>hc w vs h1 (hv w vs h1 h2)
theorem tO{w:NW}{a b:AV}{l m:List AV}{vs:Array Value}(h:bc w (a::l) vs)(hab:∀v,aw w a v->aw w b v)(hlm:∀us,bc w l us->bc w m us):bc w (b::m) vs:=by
 obtain⟨h1,h2⟩:=h;have ht:=hlm (vs.toList.tail.toArray) ⟨by simp at h1 ⊢;omega,fun i x v hx hv=>h2 (i+1) x v (by simpa using hx) (by simpa using hv)⟩;refine⟨?_,fun i x v hx hv=>?_⟩
 ·have:=ht.1;simp at h1 this ⊢;omega
 ·cases i with
  |zero=>simp at hx;subst hx;exact hab v (h2 0 a v rfl hv)
  |succ i=>exact ht.2 i x v (by simpa using hx) (by simpa using hv)
theorem CF{w:NW}(sz:Nat)(d:List AV):∀v,aw w (.raw (.slice none 0 0)) v->aw w (.sl false sz [] d) v:=fun v h=>by have:=dm h;subst this;exact .gm _ _ _ _ (fun e=>by cases e)
theorem Ed{args:List AV}(hv:bX (fun _=>true) H args args'):∀w vs,aO w H->bc w args vs->bc (w.cD fun _=>true) args' vs:=fun w vs h1 h2=>by
 obtain⟨hl',hg⟩:=hv.get;refine⟨by rw[<-hl'];exact h2.1,fun i c v hc hv=>?_⟩;have hi:i<args.length:=by rw[hl'];exact(List.getElem?_eq_some_iff.1 hc).1
 exact(hg i args[i] c (List.getElem?_eq_getElem hi) hc).sound h1 (h2.2 i _ v (List.getElem?_eq_getElem hi) hv)
theorem E5{w:NW}{i m sz o n:Nat}{t:TypeId}{css:List (List AV)}{d:List AV}(hw:aO w H)(hi:H.get i=some (.aL t sz css))(hm:m=css.length)(hn:o+n<=m)(h0:0<sz)(hq:QL dY css){v:Value}(h:aw w (.rv i m sz o n) v):aw (w.cD fun _=>true) (.sl false sz ((css.drop o).take n) d) v:=by
 subst hm;have hlen:((css.drop o).take n).length=n:=by rw[List.length_take,List.length_drop];omega
 cases h with
 |lu _ _ _ _ c A=> have:(css.drop o).take 0=[]:=jE;rw[this];exact .gm _ _ _ _ (fun h=>by cases h)
 |rv _ _ _ _ _ b t' c hnm hle=>
  by_cases hn0:n=0
  ·subst hn0;have:(css.drop o).take 0=[]:=jE;rw[this];exact .gm _ _ _ _ (fun h=>by cases h)
  ·have hok:=(hw.rows i _ hi).1;have:=aw.sl (w:=w.cD fun _=>true) (d:=d) false sz ((css.drop o).take n) ⟨b,o*sz,none⟩ c (fun k=>(w.cell? ⟨b,o*sz+k,none⟩).getD undef) jB jB (fun h=>by cases h) (fun cs hcs=>hok.2 cs (List.mem_of_mem_drop (List.mem_of_mem_take hcs))) (hw.lt hnm) (fun h=>h.2 i _ t' sz rfl hnm) (fun k j hk hj=>by
    rw[hlen]at hk;obtain⟨_,_,_,v,h1,h2⟩:=sY hw hi hnm (k:=o+k) (j:=j) jB hj;show w.cell? _=_;rw[lM];have e:o*sz+(k*sz+j)=(o+k)*sz+j:=by rw[Nat.add_mul];omega
    rw[e,h1];rfl) (fun k j u hk hu=>by
    rw[hlen]at hk;have e0:((css.drop o).take n).getD k []=css.getD (o+k) []:=by rw[List.getD_eq_getElem?_getD,List.getElem?_take,if_pos hk,List.getElem?_drop,List.getD_eq_getElem?_getD]
    rw[e0]at hu;have hmem:css.getD (o+k) []∈css:=by rw[List.getD_eq_getElem?_getD,List.getElem?_eq_getElem jB];exact List.getElem_mem _
    have hj:j<sz:=by have:=(List.getElem?_eq_some_iff.1 hu).1;rwa [hok.2 _ hmem]at this
    obtain⟨_,_,_,v,h1,h2⟩:=sY hw hi hnm (k:=o+k) (j:=j) jB hj;have e:o*sz+(k*sz+j)=(o+k)*sz+j:=by rw[Nat.add_mul];omega
    rw[e,h1];exact((h2 u hu).aY (rO w fun _=>true) (rZ (fun _ h=>by cases h) _ (mz (hq _ hmem) hu))).kS (mz (hq _ hmem) hu))
   rw[hlen]at this;exact this
theorem CK{args:List AV}{K:AV->Hp->Prop}{i sz:Nat}{t:TypeId}{α:Type}[Inhabited α]{enc:α->List AV}[he:bG enc sz]{xs:List α}(hfl:∀x,ka (enc x)=true)(hi:H.get i=none)
  (hc:aj P f args' [] fun r l=>r=.rs i xs.length sz xs.length/\l=[(i,.aL t sz (xs.map enc))]) (hv:∀w vs,aO w H->bc w args vs->bc (w.cD fun _=>true) args' vs) (k:K (bp enc sz xs) H):eW P f args H K:=fun w vs h1 h2=>by
 have hcn:=Dn hc hv (fun r l ⟨e1,e2⟩=>by
  subst e1 e2;refine⟨fun j hj=>?_,rfl,fun j row hj=>?_⟩
  ·by_cases e:j=i
   ·subst e;exact hi
   ·exact(hj (by simp only[av];rw[if_neg e])).elim
  ·simp only[av]at hj;split at hj
   ·cases hj;refine Dj fun x hx=>?_
    obtain⟨y,_,rfl⟩:=List.mem_map.1 hx;exact hfl y
   ·cases hj) h1 h2
 refine hcn.mono ?_;rintro e W ⟨v,r,l,w',rfl,rfl,⟨rfl,rfl⟩,g1,g2,g3,g4⟩;have g1:aO w' ⟨H.B,(i,.aL t sz (xs.map enc))::H.l⟩:=g1;have hnmi:∀m,w.nm i m=none:=fun m=>h1.none hi m
 have hgi:(Hp.mk H.B ((i,.aL t sz (xs.map enc))::H.l)).get i=some (.aL t sz (xs.map enc)):=by show(if i=i then _ else _)=_;rw[if_pos rfl]
 have hgj:∀j,j≠i->(Hp.mk H.B ((i,.aL t sz (xs.map enc))::H.l)).get j=H.get j:=fun j hj=>by show(if j=i then _ else _)=_;rw[if_neg hj];rfl
 have hsnd:=(dv.row (D:=fun j=>decide (j=i)) (dd:=enc default) (enc:=enc) xs jE hgi rfl).sound g1 g2;have k0:=rO w' (fun j=>decide (j=i));have ex:Ext w H (w'.cD fun j=>decide (j=i)) H:={
  size:=g3.size
  free:=fun b hb hO=>⟨(g3.free b hb hO).1,fun h=>(g3.free b hb hO).2 h.1⟩
  names:=fun j m z _ hz=>by
   have hji:j≠i:=fun e=>by subst e;rw[hnmi]at hz;cases hz
   show(if decide (j=i)=true then none else w'.nm j m)=some z;rw[if_neg (by simpa using hji)];exact g3.names j m z rfl hz
  os:=g3.os,tape:=g3.tape,output:=g3.output
  rest:=fun b hb hO hno=>by
   obtain⟨a1,a2,a3⟩:=g3.rest b hb hO hno;refine⟨a1,⟨a2,fun j m t' s _=>a3 j m t' s⟩,fun j m t' s h=>?_⟩;have h:(if decide (j=i)=true then none else w'.nm j m)=some (.at b t' s):=h;split at h
   ·cases h
   ·exact a3 _ _ _ _ h
  base:=rfl }
 refine⟨v,_,H,w'.cD fun j=>decide (j=i),rfl,rfl,k,{ cn:=g1.cn.aY k0,rows:=fun j s hj=>?_,dO:=fun j m z hz=>?_,inj:=fun j m j' m' b t1 s1 t2 s2 a1 a2=>?_,own:=fun j m b t1 s1 h=>?_,fin:=fun b hb=>g1.fin b hb.1 },hsnd,ex⟩
 ·have hji:j≠i:=fun e=>by subst e;rw[hi]at hj;cases hj
  obtain⟨e1,z,e2,e3⟩:=h1.rows j s hj;refine⟨e1,z,ex.names _ _ _ rfl e2,e3.ext ex fun b t1 s1 ez=>?_⟩;subst ez;exact g4 b (h1.lt e2)
 ·have hz:(if decide (j=i)=true then none else w'.nm j m)=some z:=hz;split at hz
  ·cases hz
  ·rename_i e;obtain⟨r',c1,c2⟩:=g1.dO j m z hz;exact⟨r',by rw[<-hgj j (by simpa using e)];exact c1,c2⟩
 ·have a1:(if decide (j=i)=true then none else w'.nm j m)=_:=a1;have a2:(if decide (j'=i)=true then none else w'.nm j' m')=_:=a2;split at a1
  ·cases a1
  ·split at a2
   ·cases a2
   ·exact g1.inj _ _ _ _ _ _ _ _ _ a1 a2
 ·have h:(if decide (j=i)=true then none else w'.nm j m)=_:=h;split at h
  ·cases h
  ·rename_i e;refine⟨g1.own _ _ _ _ _ h,fun j' m' t' s' hd h'=>e ?_⟩;rw[g1.inj _ _ _ _ _ _ _ _ _ h h'];exact hd
@[go_sem] theorem j0j(a k n:Nat)(h:n<1000):(n == hn a k)=false:=by have:=iw a k;simp;omega
@[go_sem] theorem jwE(a b k j:Nat)(ha:a<32)(hb:b<32)(h:a≠b):(hn a k == hn b j)=false:=by simp;exact db ha hb h
@[go_sem] theorem jyf(a k:Nat):(hn a k == hn a k)=true:=jE
@[go_sem] theorem Kh(a k:Nat):hn a k+16=hn (a+16) k:=by unfold hn;omega
theorem GY{A C D:List Nat}(hA:A.isEmpty=false){E:List Nat}{l:List Oper}{ps:List (List Nat)}:∀(rest done:List Nat),oM (A,C,D) E l ps done rest=oM ([0],C,D) E l ps done rest
 |[],done=>rfl
 |i::rest,done=>by
  have e1:ku (A,C,D)=ku ([0],C,D):=rfl;have e2:mV (A,C,D) (dP l i)=mV ([0],C,D) (dP l i):=by have hA':(A,C,D).1.isEmpty=([0],C,D).1.isEmpty:=hA;unfold mV;rw[hA'];rfl
  unfold oM;rw[GY hA rest,e1,e2]
theorem PQ{A C D:List Nat}(hA:A.isEmpty=false){E:List Nat}{l:List Oper}{ord:List Nat}:pN (A,C,D) E l ord=pN ([0],C,D) E l ord:=by unfold pN;rw[GY hA];rfl
theorem qt{Q:Exit->List AV->Hp->Prop}{F:List AV}(id:Nat){l:List Oper}{q:Prop}(A C D E ord:List Nat)(hm:P.follows .mixedOrders=true)(h:q)(hA:A.isEmpty=false:=by rfl)(hok:pN ([0],C,D) E l ord=true:=by decide +kernel)(hE:qI P l E:=by simp only[qI,dP,List.getD_cons_zero,List.getD_cons_succ,go_sem])(e:fZ (A,C,D) P l.toArray (Q .normal) (ord.map (dP l)) F H=q:=by(simp only[List.map_cons,List.map_nil,dP,List.getD_cons_zero,List.getD_cons_succ];exact eJ)):dH P (.region id l.toArray true) Q F H:=CB (A,C,D) E ord hm (by rw[PQ hA];exact hok) hE (e ▸ h)
def Cg(A:AS)(e l:List (Nat×Row)):Prop:=∀j,A.1.contains j=false->av e j≠none->av l j=av e j\/(A.1.contains (j+16)=true/\∃t c c' cs,av e j=some (.var t (c::cs))/\av l j=some (.var t (c'::cs)))
theorem pD{A:AS}{args:List AV}{B:List Nat}{e l:List (Nat×Row)}{r0:AV}{g:AV->Hp->Prop}{d:gb fun r H'=>dI A ⟨B,tie e tl⟩ H'/\g r H'}{q:Prop}(hd:du P f args e r0 l)(hx:Cg A e l)(k:q)(h0:bz P f=true:=by exact dj)(hl:nF 0 tl:=by(repeat' first|exact er|(refine eO (by decide) ?_)|fail))(e0:g r0 ⟨B,tie l tl⟩=q:=by exact eJ) :
  fI P (.raw (.func (.func f) #[] #[])) args ⟨B,tie e tl⟩ (AP (fun r H'=>dI A ⟨B,tie e tl⟩ H'/\g r H') d):=by
 refine cG (K:=AP (fun r H'=>dI A ⟨B,tie e tl⟩ H'/\g r H') d) hd.c rfl hd.e1 hd.e2 hd.aY hl hd.a h0 ⟨fun i r hi hr=>?_,e0 ▸ k⟩;have hr:av (tie e tl) i=some r:=hr;show av (tie l tl) i=some r\/_/\∃t c c' cs,r=.var t (c::cs)/\av (tie l tl) i=some (.var t (c'::cs));rw[gF]at hr ⊢;cases he:av e i with
 |some s=>
  rw[he]at hr;cases hr;rcases hx i hi (by rw[he];simp)with h|⟨h1,t,c,c',cs,h2,h3⟩
  ·left;rw[h,he];rfl
  ·right
   rw[he]at h2;cases h2;exact⟨h1,t,c,c',cs,rfl,by rw[h3];rfl⟩
 |none=>
  rw[he]at hr;have hr:av tl i=some r:=hr;have:=hl i r hr;left
  rw[hd.e2.low i this.2];exact hr
end Go.Gd

/- Lemmas. No conditions. -/
import Derived.Test.YtghoellpinmenaaGreatDoorSo9
set_option linter.all false
set_option maxHeartbeats 4000000
set_option maxRecDepth 10000
namespace Go.Gd
open Go
def RS.rows(R:RS):PG:=
 (1,.aE 87 3 (gU R.bp.length R.fr))::(2,.aE 22 1 (gU R.heap.length fun k=>[.rs (bP 2 k) (nth R.heap k).length 1 (nth R.heap k).length]))::(3,.aE 9 1 (R.aD.map eS)) ::
  cz 0 R.bp.length R.sl (cz 1 R.bp.length R.pt (cz 2 R.heap.length R.hp []))
variable{n:Nat}{F:PH}{B:PK}{l:PG}
def Gt{S:Type}{W:List (Nat×Nat)}{ok:S->Prop}{J:S->List (Nat×AV)}{G:S->Hp}{μ:S->Nat}{F₀:PH}(l':PG)(D:PR)(s:S)(h1:ok s)(h2:μ s<n)(Tr:∀i,ak l i=ak l' i)(hB:B.all (fi D)=true)(hl:gJ D l')(h4:⟨B,er D l'⟩=G s)(h3:bT D ⟨B,l'⟩ F (mm (J s) (l8 W F₀))):Next n W ok J G μ F₀ F ⟨B,l⟩:=
 ⟨s,h2,(cU.perm l' Tr).trans (by rw[<-h4];exact cU.free D hB hl h3),h1⟩
theorem Ey(D:PR)(a:Nat)(f:PT)(l:PG):∀(n k:Nat),(∀j,k<=j->j<k+n->pF (fi D) (f j))->gJ D l->gJ D (fT a f k n l)
 |0,k,_,h=>h
 |n+1,k,hf,h=>⟨.inr (hf k jl jB),Ey D a f l n (k+1) (fun j h1 h2=>hf j jB jB) h⟩
variable{a:Nat}
def vV{D:PR}{f:PT}(hf:∀j,j<n->pF (fi D) (f j))(h:gJ D l):gJ D (cz a n f l):=Ey D a f l n 0 (fun j _ h2=>hf j jB) h
theorem DV(D:PR)(a:Nat)(f:PT)(l:PG)(hD:∀k,D (bP a k)=false):∀(n k:Nat),er D (fT a f k n l)=fT a f k n (er D l)
 |0,k=>rfl
 |n+1,k=>by show(bif D (bP a k)then _ else(bP a k,f k)::er D (fT a f (k+1) n l))=_;rw[hD k,DV D a f l hD n (k+1)];rfl
def wz{D:PR}{f:PT}(hD:∀k,D (bP a k)=false):er D (cz a n f l)=cz a n f (er D l):=DV D a f l hD n 0
def ry{L:PK}(h:L.all (fun i=>decide (i<1000))=true)(a k:Nat):L.contains (bP a k)=false:=by
 cases e:L.contains (bP a k)with
 |false=>rfl
 |true=> have:=List.all_eq_true.1 h _ (List.contains_iff_mem.1 e);simp only[decide_eq_true_eq]at this;have:=n8 a k;omega
variable{P:PS}{fn:Func}{out:PH}
def JB{l0 l':PG}{e:Exit}{r:AV}(Tr:∀i,ak l0 i=ak l' i)(rs:List ResultVar)(hv:jd out=r)(hl:gJ gM l')(hq:(jd out).all (fi gM)=true)(h2:er gM l'=l)(RF:fn.results.toList=rs:=by rfl)(he:e=.normal\/e=.ret:=by first|exact Or.inr rfl|exact Or.inl rfl|fail)
  (ho:iB P ⟨[],l0⟩ F rs=some out:=by first|(simp(disch:=first|omega|fail) only[go_sem,↓reduceIte,Nat.reduceEqDiff,Nat.reduceLeDiff,Nat.reduceSub,Nat.reduceAdd];rfl)|rfl) (hok:ju P ⟨[],l0⟩ F rs:=by first|exact jI|(simp(disch:=first|omega|fail) only[go_sem,↓reduceIte,Nat.reduceEqDiff,Nat.reduceLeDiff,Nat.reduceSub,Nat.reduceAdd])):j9 P fn (fun r' l'=>r'=r/\l'=l) e F ⟨[],l0⟩:=by
 subst RF;refine rN he ho hok r ⟨[],l⟩ ((Ab l' Tr).trans ?_) ⟨rfl,rfl⟩;have:=gL.free (H:=⟨[],l'⟩) gM rfl hl (xI hv hq);rw[h2]at this;exact this
def Po{A:AS}{H:Hp}(i:Nat){t e:PM}{sz:Nat}{x:AV}{c:Prop}{ys:PF}{zs:PQ}{f:PE}{d:gq fun r H'=>df A H H'/\f r H'}{q:Prop}(k:q)(ht:ie P t=some e:=by(simp only[go_sem];rfl))(hs:cR P e=some sz:=by(simp only[go_sem];done))(hz:dY P e=some zs:=by(simp only[go_sem];rfl))(SD:zs.length=sz:=by rfl)(h0:0<sz:=by decide)
  (hx:sN H x=some (c,ys):=by rfl) (hc:c:=by trivial) (hg:nI sz ys:=by(simp(disch:=first|omega|assumption|fail) only[go_sem];done)) (hr:room (iN P e) ys.length:=by(simp only[go_sem];omega)) (hi:H.get i=none:=by first|rfl|(simp(disch:=first|omega|assumption|fail) only[go_sem,↓reduceIte,Nat.reduceEqDiff,Nat.reduceAdd];done))
  (e:f (.rs i ys.length sz ys.length) (H.put i (.aE e sz ys))=q:=by(simp(disch:=first|omega|assumption|fail) only[go_sem,rk,↓reduceIte,Int.reduceToNat,Nat.reduceMul,Nat.reduceAdd,Nat.reduceLeDiff,Nat.reduceSub,Nat.reduceEqDiff,Nat.reduceBEq];rfl)):pj P t t (.sl true sz [] []) x H (AP (fun r H'=>df A H H'/\f r H') d):=Jq (b:=true) (d:=d) i k ht hs hz SD h0 hx hc hg hr hi e
def B6(D:PR)(R:RS)(k:Nat):pF (fi D) (R.sl k):=la (enc:=bG) (sz:=3) _
def Fk(D:PR)(R:RS)(k:Nat):pF (fi D) (R.pt k):=la (enc:=pT) (sz:=2) _
def LU(D:PR)(R:RS)(k:Nat):pF (fi D) (R.hp k):=la (enc:=eI) (sz:=1) _
def RS.lq(R:RS)(tl:PG):PG:=
 (1,.aE 87 3 (gU R.bp.length R.fr))::(2,.aE 22 1 (gU R.heap.length fun k=>[.rs (bP 2 k) (nth R.heap k).length 1 (nth R.heap k).length]))::(3,.aE 9 1 (R.aD.map eS)) ::
  cz 0 R.bp.length R.sl (cz 1 R.bp.length R.pt (cz 2 R.heap.length R.hp tl))
def RS.kj(R:RS):R.lq []=R.rows:=rfl
def RS.nN(R:RS)(tl:PG):R.lq tl=R.rows++tl:=by rw[<-RS.kj];unfold RS.lq;rw[show tl=[]++tl from rfl,qb,qb,qb];rfl
def RS.kZ{R:RS}(i:Nat)(h:i=0\/4<=i)(h':i<1000):ak R.rows i=none:=by rw[<-RS.kj];unfold RS.lq;simp only[ak];rw[jN,jN,jN,qE _ _ _ _ _ h',qE _ _ _ _ _ h',qE _ _ _ _ _ h'];rfl
theorem Gh:∀(l:PG),gJ (fun _=>true) l
 |[]=>trivial
 |_::l=>⟨.inl rfl,Gh l⟩
theorem D2:∀(l:PG),er (fun _=>true) l=[]
 |[]=>rfl
 |x::l=>D2 l
def Gy{H:Hp}{e:Exit}{r:AV}(rs:List ResultVar)(hH:H=⟨[],l⟩)(hv:dz (fun _=>true) H (jd out) r)(RF:fn.results.toList=rs:=by rfl)(he:e=.normal\/e=.ret:=by first|exact Or.inr rfl|exact Or.inl rfl|fail)
  (ho:iB P H F rs=some out:=by first|rfl|(simp(disch:=first|omega|fail) only[go_sem,↓reduceIte,Nat.reduceEqDiff,Nat.reduceLeDiff,Nat.reduceSub,Nat.reduceAdd];rfl)) (hok:ju P H F rs:=by first|exact jI|(simp(disch:=first|omega|fail) only[go_sem,↓reduceIte,Nat.reduceEqDiff,Nat.reduceLeDiff,Nat.reduceSub,Nat.reduceAdd])):j9 P fn (fun r' l'=>r'=r/\l'=[]) e F H:=by
 subst RF hH;refine rN he ho hok r ⟨[],[]⟩ ?_ ⟨rfl,rfl⟩;have:=gL.free (H:=⟨[],l⟩) (fun _=>true) rfl (Gh _) hv;rw[D2]at this;exact this
structure cZ(lo:Nat)(e:List (Nat×Row)):Prop where
 no:∀i,lo<=i->i<1000->ak e i=none
 nodup:(ids e).Nodup
 closed:∀i r,ak e i=some r->aS (fun i=>(ids e).contains i) r.cells=true
def nA(lo:Nat)(tl:PG):Prop:=∀i r,ak tl i=some r->lo<=i/\i<1000
variable{lo:Nat}{tl:PG}
def cZ.bn{e:PG}(h:cZ lo e)(hl:nA lo tl):Lays (fun tl=>e++tl) tl:=⟨fun i=>by rw[gg,List.append_nil],fun i r hi=>by show ak (e++[]) i=none;rw[List.append_nil];exact h.no i (hl i r hi).1 (hl i r hi).2⟩
variable{f:FuncId}{K:PE}{e':PG}{r0:AV}
def cG{args:PH}{H:Hp}{e:PG}(hc:ai P f args e fun r l'=>r=r0/\l'=e')(hH:H=⟨B,e++tl⟩)
  (h1:cZ lo e) (h2:cZ lo e') (hs:∀i,ak e i≠none->ak e' i≠none) (hl:nA lo tl) (ha:aS (fun i=>(ids e).contains i) args=true) (h0:bo P f=true) (k:K r0 ⟨B,e'++tl⟩):fh P (.raw (.func (.func f) #[] #[])) args H K:=by
 subst hH;refine nB h0 (Ew (E:=fun tl=>e++tl) (E':=fun tl=>e'++tl) ?_ (h1.bn hl) (h2.bn hl) ?_ ?_ ?_ k ?_)
 ·simp only[List.append_nil];exact hc
 ·simp only[List.append_nil];exact h2.nodup
 ·simp only[List.append_nil];exact ha
 ·simp only[List.append_nil];exact h1.closed
 ·simp only[List.append_nil];exact hs
def dx(lo:Nat):PR:=fun i=>decide (lo<=i/\i<1000)
theorem cZ.dx{lo:Nat}{e:PG}(h:cZ lo e){i:Nat}(hi:i∈ids e):dx lo i=false:=by
 unfold Go.Gd.dx;refine decide_eq_false fun h'=>?_
 exact(fO _ _).1 hi (h.no i h'.1 h'.2)
def cZ.free{e0:PG}(k1:cZ lo e0)(k2:cZ lo e')(hB:ids e0=B)(hl:nA lo tl) :
  B.all (fi (Go.Gd.dx lo))=true/\gJ (Go.Gd.dx lo) (e'++tl)/\er (Go.Gd.dx lo) (e'++tl)=e':=by
 have US:∀i∈ids tl,Go.Gd.dx lo i=true:=fun i hi=>by obtain⟨r,hr⟩:=Option.ne_none_iff_exists'.1 ((fO _ _).1 hi);exact decide_eq_true (hl i r hr)
 refine⟨?_,?_,?_⟩
 ·rw[List.all_eq_true];intro i hi;rw[<-hB]at hi;unfold fi;rw[k1.dx hi];rfl
 ·refine xl _ _ _ (wO _ _ k2.nodup fun i r hi=>eH (fun j hj=>?_) _ (k2.closed i r hi)) (y8 _ _ US);unfold fi;rw[k2.dx (List.contains_iff_mem.1 hj)];rfl
 ·rw[xt,xP _ _ (fun i hi=>k2.dx hi),Ah _ _ US,List.append_nil]
def hn(a k:Nat):Nat:=1000+(32*k+a)
def gA(a k:Nat):1000<=hn a k:=Nat.le_add_right _ _
def sV{b k j:Nat}(ha:a<32)(hb:b<32)(h:hn a k=hn b j):a=b/\k=j:=by unfold hn at h;omega
@[go_sem] def j6d(a k n:Nat)(h:n<1000):(hn a k=n)=False:=by have:=gA a k;simp;omega
@[go_sem] def j6q(a k n:Nat)(h:n<1000):(n=hn a k)=False:=by have:=gA a k;simp;omega
@[go_sem] def j3S(a k j:Nat):(hn a k=hn a j)=(k=j):=by unfold hn;simp;omega
@[go_sem] def j2w(a b k j:Nat)(ha:a<32)(hb:b<32)(h:a≠b):(hn a k=hn b j)=False:=by simp;intro e;exact h (sV ha hb e).1
def cB{b k j:Nat}(ha:a<32)(hb:b<32)(h:a≠b):hn a k≠hn b j:=fun e=>h (sV ha hb e).1
@[go_sem] def jwY(l:PG)(a k:Nat)(r:Row)(i:Nat):ak (bf l (hn a k) r) i=if i=hn a k then some r else ak l i:=bz _ _ _ _
def nD:∀(l:PG) (i j:Nat) (r:Row),j∈ids (bf l i r)<->j=i\/j∈ids l:=fun l i j r=>by rw[fO,fO,bz];by_cases e:j=i<;>simp[e]
theorem y7:∀(l:PG) (i:Nat) (r:Row),(ids l).Nodup->(ids (bf l i r)).Nodup
 |[],i,r,_=>by simp[bf,ids]
 |(j,s)::l,i,r,h=>by
  have hc:=List.nodup_cons.1 h;unfold bf;split
  ·rename_i e;subst e;exact h
  ·rename_i e;refine List.nodup_cons.2 ⟨fun hm=>?_,y7 l i r hc.2⟩;rcases(nD l i j r).1 hm with h1|h1
   ·exact e h1.symm
   ·exact hc.1 h1
variable{i:Nat}
def cZ.put{e:PG}{r:Row}(h:cZ lo e)(hi:i<lo\/1000<=i)(hr:aS (fun j=>decide (j=i) || (ids e).contains j) r.cells=true):cZ lo (bf e i r):=by
 have hm:∀j,(decide (j=i) || (ids e).contains j)=true->(ids (bf e i r)).contains j=true:=fun j hj=>by
  rw[List.contains_iff_mem,nD];rcases Bool.or_eq_true _ _ ▸ hj with h1|h1
  ·exact .inl (of_decide_eq_true h1)
  ·exact .inr (List.contains_iff_mem.1 h1)
 refine⟨fun j h1 h2=>?_,y7 _ _ _ h.nodup,fun j s hs=>?_⟩
 ·rw[bz,jN];exact h.no j h1 h2
 ·rw[bz]at hs;split at hs
  ·cases hs;exact eH hm _ hr
  ·exact eH (fun k hk=>hm k (by rw[Bool.or_eq_true];exact .inr hk)) _ (h.closed j s hs)
structure Up(X:List Nat)(e l:List (Nat×Row)):Prop where
 aT:∀i,ak e i≠none->ak l i≠none
 new:∀i,ak l i≠none->ak e i≠none\/i ∉ X
def Up.refl(X:PK)(e:PG):Up X e e:=⟨fun _ h=>h,fun _ h=>.inl h⟩
def Up.trans{X:PK}{a b c:PG}(h:Up X a b)(k:Up X b c):Up X a c:=⟨fun i hi=>k.aT i (h.aT i hi),fun i hi=>(k.new i hi).elim (h.new i) .inr⟩
def Up.put{X:PK}{e:PG}(r:Row)(h:ak e i≠none\/i ∉ X):Up X e (bf e i r):=⟨fun j hj=>by
 rw[bz];split
 ·simp
 ·exact hj,fun j hj=>by
 rw[bz]at hj;split at hj
 ·rename_i e';subst e';exact h
 ·exact .inl hj⟩
def oK(X:PK):Nat:=1+X.foldl max 0
theorem Cp:∀(X:PK) (a:Nat),a<=X.foldl max a/\∀x∈X,x<=X.foldl max a
 |[],a=>⟨Nat.le_refl _,by simp⟩
 |y::X,a=>by
  obtain⟨h1,h2⟩:=Cp X (max a y);refine⟨Nat.le_trans (Nat.le_max_left _ _) h1,fun x hx=>?_⟩;rcases List.mem_cons.1 hx with rfl|hx
  ·exact Nat.le_trans (Nat.le_max_right _ _) h1
  ·exact h2 x hx
def IG(X:PK){x:Nat}(h:x∈X):x<oK X:=by have:=(Cp X 0).2 x h;unfold oK;omega
def Ap(X:PK)(a d:Nat):hn a (oK X+d) ∉ X:=fun h=>by have:=IG X h;unfold hn at this;omega
def tQ(e:PG)(X:PK)(a d:Nat):ak e (hn a (oK (ids e++X)+d))=none:=by
 cases h:ak e (hn a (oK (ids e++X)+d))with
 |none=>rfl
 |some r=>exact(Ap (ids e++X) a d (List.mem_append_left _ ((fO _ _).2 (by rw[h];simp)))).elim
def wT(e:PG)(X:PK)(a d:Nat):hn a (oK (ids e++X)+d) ∉ X:=fun h=>Ap (ids e++X) a d (List.mem_append_right _ h)
def ai.more{args:PH}{s e:PG}{R:AV->List PU->Prop}(hc:ai P f args s R)(hs:∀i r,ak s i=some r->ak e i=some r)(ha:aS (fun i=>(ids s).contains i) args=true)(P7:∀i r,ak s i=some r->aS (fun i=>(ids s).contains i) r.cells=true)
  (hn:∀r l,R r l->(ids l).Nodup/\∀i,ak l i≠none->ak s i≠none\/ak e i=none):ai P f args e fun r l=>∃l0,R r l0/\l=fp e l0:=fun w vs hw hv=>by
 refine(Ax (H:=entry e) (K:=fun r H'=>∃l0,R r l0/\H'=⟨ids e,fp e l0⟩) hc (fun i r hi=>hs i r hi) ha P7 (fun r l' hR=>⟨fun i x hx=>?_,(hn r l' hR).1,l',hR,rfl⟩) hw hv).mono ?_
 ·rcases(hn r l' hR).2 i (by rw[hx];simp)with h|h
  ·obtain⟨y,hy⟩:=Option.ne_none_iff_exists'.1 h;exact .inl (vM hy)
  ·exact .inr h
 ·rintro e' W ⟨v,r,H',w',rfl,rfl,⟨l0,hR,rfl⟩,g1,g2,g3⟩;exact⟨v,r,_,w',rfl,rfl,⟨l0,hR,rfl⟩,g1,g2,g3.px⟩
def tie(e tl:PG):PG:=e++tl
def sx(e:PG):e=tie e []:=(List.append_nil e).symm
@[go_sem] def eD(e tl:PG)(i:Nat):ak (tie e tl) i=(ak e i).or (ak tl i):=gg _ _ _
theorem zh:∀(e tl:PG) (i:Nat) (r:Row),bf (e++tl) i r=if(ak e i).isSome=true then bf e i r++tl else e++bf tl i r
 |[],tl,i,r=>by simp[ak,bf]
 |(j,s)::e,tl,i,r=>by
  show(if i=j then(i,r)::(e++tl)else(j,s)::bf (e++tl) i r)=if((if i=j then some s else ak e i):Option Row).isSome=true then(if i=j then(i,r)::e else(j,s)::bf e i r)++tl else(j,s)::(e++bf tl i r)
  by_cases h:i=j
  ·subst h;simp
  ·simp only[if_neg h];rw[zh e tl i r];split<;>rfl
@[go_sem] def j2D(e tl:PG)(i:Nat)(r:Row):bf (tie e tl) i r=if(ak e i).isSome=true then tie (bf e i r) tl else tie e (bf tl i r):=zh _ _ _ _
attribute [go_sem] Option.some_or Option.none_or Option.isSome_some Option.isSome_none
def cZ.low{e:PG}(h:cZ 0 e):∀i,i<1000->ak e i=none:=fun i hi=>h.no i (Nat.zero_le _) hi
def de:nA 0 []:=fun i r h=>by cases h
def dD{T:PG}{r:Row}(h:i<1000)(hT:nA 0 T):nA 0 ((i,r)::T):=fun j s hs=>by
 simp only[ak]at hs;split at hs
 ·omega
 ·exact hT j s hs
structure cw(P:Program)(f:FuncId)(args:List AV)(e:List (Nat×Row))(r0:AV)(l:List (Nat×Row)):Prop where
 c:ai P f args e fun r l'=>r=r0/\l'=l
 e1:cZ 0 e
 e2:cZ 0 l
 aT:∀i,ak e i≠none->ak l i≠none
 a:aS (fun i=>(ids e).contains i) args=true
def cT{args:PH}{e:PG}{q:Prop}(hd:cw P f args e r0 l)(k:q)(h0:bo P f=true:=by exact db)(hl:nA 0 tl:=by(repeat' first|exact de|(refine dD (by decide) ?_)|fail))(e0:K r0 ⟨B,tie l tl⟩=q:=by exact eu):fh P (.raw (.func (.func f) #[] #[])) args ⟨B,tie e tl⟩ K:=
 cG hd.c rfl hd.e1 hd.e2 hd.aT hl hd.a h0 (e0 ▸ k)
@[go_sem] def BN(a k:Nat):dx 0 (hn a k)=false:=decide_eq_false (by have:=gA a k;omega)
def dW{L:PG}{ex:Exit}{e:PG}(hB:ids e=B)(k1:cZ 0 e)(k2:cZ 0 l)(hp:∀i,ak L i=ak (tie l tl) i)(hl:nA 0 tl)(rs:List ResultVar)
  (hr:r0.all (fi (dx 0))=true:=by first|rfl|(simp only[go_sem,AV.all,aS,fi,BN];done))
  (RF:fn.results.toList=rs:=by rfl) (he:ex=.normal\/ex=.ret:=by first|exact Or.inr rfl|exact Or.inl rfl|fail) (ho:iB P ⟨B,L⟩ F rs=some out:=by first|rfl|(simp(disch:=first|omega|fail) only[go_sem,↓reduceIte,Nat.reduceEqDiff,Nat.reduceLeDiff,Nat.reduceSub,Nat.reduceAdd];rfl)) (hok:ju P ⟨B,L⟩ F rs:=by first|exact jI|(simp(disch:=first|omega|fail) only[go_sem,↓reduceIte,Nat.reduceEqDiff,Nat.reduceLeDiff,Nat.reduceSub,Nat.reduceAdd])) (hv:jd out=r0:=by first|rfl|(simp only[go_sem];done)):j9 P fn (fun r l'=>r=r0/\l'=l) ex F ⟨B,L⟩:=by
 subst RF;obtain⟨h1,h2,h3⟩:=k1.free k2 hB hl;have:=gL.free (r:=jd out) (r':=r0) (H:=⟨B,l++tl⟩) (Go.Gd.dx 0) h1 h2 (xI hv (hv ▸ hr));rw[show(Hp.mk B (l++tl)).l=l++tl from rfl,h3]at this;exact rN he ho hok r0 ⟨B,l⟩ ((Ab (B:=B) (l:=L) (l++tl) hp).trans this) ⟨rfl,rfl⟩
mutual
def AV.dH:AV->Bool
 |.raw _=>true
 |.any=>true
 |.agg cs=>jx cs
 |.ba cs=>jx cs
 |.gd _ v=>v.dH
 |.pt _ _ _ _=>true
 |.rs _ _ _ _=>true
 |.rv _ _ _ _ _=>true
 |.mr _=>true
 |_=>false
def jx:PH->Bool
 |[]=>true
 |a::l=>a.dH && jx l
end
theorem wZ:∀{l:PH},jx l=true->∀{i:Nat} {a:AV},l[i]?=some a->a.dH=true
 |[],_,i,a,h=>by simp at h
 |x::l,hl,i,a,h=>by
  simp only[jx,Bool.and_eq_true]at hl;cases i with
  |zero=>simp at h;subst h;exact hl.1
  |succ i=>exact wZ hl.2 (by simpa using h)
theorem Cx:∀(l m:PH),jx (l++m)=(jx l && jx m)
 |[],m=>by simp[jx]
 |a::l,m=>by simp only[List.cons_append,jx,Cx l m,Bool.and_assoc]
def B8{l:PF}(h:∀x∈l,jx x=true):jx l.flatten=true:=by
 induction l with
 |nil=>rfl
 |cons x l ih=>rw[List.flatten_cons,Cx,h x jE,ih fun y hy=>h y (by simp[hy])];rfl
theorem ar.dH{w:NW}{a:AV}{v:Value}(h:ar w a v):∀{w':NW},(∀i m z,w.nm i m=some z->w'.nm i m=some z)->a.dH=true->ar w' a v:=by
 induction h with
 |raw v=>intro w' _ _;exact .raw v
 |any v=>intro w' _ _;exact .any v
 |agg cs vs hl _ ih=>intro w' k ha;simp only[AV.dH]at ha;exact .agg cs vs hl fun i a v h1 h2=>ih i a v h1 h2 k (wZ ha h1)
 |ba cs vs hl _ ih=>intro w' k ha;simp only[AV.dH]at ha;exact .ba cs vs hl fun i a v h1 h2=>ih i a v h1 h2 k (wZ ha h1)
 |gd p a v _ hu ih=>intro w' k ha;exact .gd p a v (fun hp=>ih hp k (by simpa only[AV.dH]using ha)) hu
 |pt i m o j b t s h=>intro w' k _;exact .pt i m o j b t s (k _ _ _ h)
 |ik i m sz A h=>intro w' k _;exact .ik i m sz A (k _ _ _ h)
 |rs i m sz n b t c h hc hn hs=>intro w' k _;exact .rs i m sz n b t c (k _ _ _ h) hc hn hs
 |kX i m sz o c A=>intro w' _ _;exact .kX i m sz o c A
 |rv i m sz o n b t c h hn=>intro w' k _;exact .rv i m sz o n b t c (k _ _ _ h) hn
 |mr i b t s h=>intro w' k _;exact .mr i b t s (k _ _ _ h)
 |gb=>intro w' _ ha;simp only[AV.dH]at ha;cases ha
 |sl=>intro w' _ ha;simp only[AV.dH]at ha;cases ha
 |ip=>intro w' _ ha;simp only[AV.dH]at ha;cases ha
 |fJ=>intro w' _ ha;simp only[AV.dH]at ha;cases ha
 |bd=>intro w' _ ha;simp only[AV.dH]at ha;cases ha
 |iq=>intro w' _ ha;simp only[AV.dH]at ha;cases ha
 |mv=>intro w' _ ha;simp only[AV.dH]at ha;cases ha
variable{P:PS}{f:FuncId}{args':PH}{H:Hp}
def Gv{args:PH}{R:AV->List PU->Prop}(hc:ai P f args' [] R)(hv:∀w vs,aH w H->aY w args vs->aY (w.ck fun _=>true) args' vs)
  (hk:∀r l,R r l->(∀i,ak l i≠none->H.get i=none)/\r.dH=true/\(∀i row,ak l i=some row->jx row.cells=true)) {w:NW} {vs:PO} (h1:aH w H) (h2:aY w args vs) :
  Calls P f vs w.toWorld fun e W=>∃v r l w',W=NW.toWorld w'/\e=.returned v/\R r l/\aH w' ⟨H.B,l++H.l⟩/\ar w' r v/\Ext w H w' ⟨H.B,l++H.l⟩/\∀b,b<w.heap.size->w'.heap[b]?=w.heap[b]?:=by
 have Wt:aH (w.ck fun _=>true) (entry []):={
  rows:=fun i r h=>by cases h
  dr:=fun i m z h=>by cases h
  inj:=fun i m j n b t s t' s' h _=>by cases h
  own:=fun i m b t s h=>by cases h
  fin:=fun b hb=>h1.fin b hb.1
  ca:=h1.ca.aT (rh w fun _=>true) }
 refine(hc (w.ck fun _=>true) vs Wt (hv w vs h1 h2)).mono ?_;rintro e W ⟨v,r,H',w',rfl,rfl,hR,g1,g2,g3⟩;obtain⟨k1,k2,k3⟩:=hk r H'.l hR;have RN:∀b,b<w.heap.size->w'.heap[b]?=w.heap[b]?:=fun b hb=>by
  classical
  by_cases hO:(w.ck fun _=>true).O b
  ·exact(g3.rest b hb hO fun i m t s h=>by cases h).1
  ·exact(g3.free b hb hO).1
 have QW:∀i m z,w.nm i m=some z->w'.nm i m=none:=fun i m z hz=>by
  obtain⟨r',XS,_⟩:=h1.dr i m z hz;cases e:w'.nm i m with
  |none=>rfl
  |some z'=> obtain⟨r2,SM,_⟩:=g1.dr i m z' e;have:=k1 i (by show ak H'.l i≠none;have SM:ak H'.l i=some r2:=SM;rw[SM];simp);rw[this]at XS;cases XS
 have Ub:∀i m b t s,w.nm i m=some (.at b t s)->¬w'.O b:=fun i m b t s hz=>by refine(g3.free b (h1.lt hz) fun hO=>hO.2 i m t s rfl hz).2
 let w2:NW:={ w' with O:=fun b=>w.O b\/w'.O b,nm:=fun i m=>(w'.nm i m).or (w.nm i m) }
 have QO:∀i m,w2.nm i m=(w'.nm i m).or (w.nm i m):=fun _ _=>rfl
 have up:∀i m z,w'.nm i m=some z->w2.nm i m=some z:=fun i m z h=>by rw[QO,h];rfl
 have Ts:Keep rf w w2:=⟨g3.size,fun b hb hO=>⟨RN b hb,fun h=>h.elim hO (g3.free b hb fun h=>hO h.1).2⟩,fun i m z _ h=>by rw[QO,QW i m z h];exact h⟩;have ex:Ext w H w2 ⟨H.B,H'.l++H.l⟩:={ Ts with
  os:=g3.os,tape:=g3.tape,output:=g3.output
  rest:=fun b hb hO Qb=>⟨RN b hb,.inl hO,fun i m t s h=>by
   rw[QO]at h;cases e:w'.nm i m with
   |none=>rw[e]at h;exact Qb _ _ _ _ h
   |some z=> rw[e]at h;cases h;exact(g3.rest b hb ⟨hO,fun i m t s _=>Qb i m t s⟩ fun i m t s h=>by cases h).2.2 i m t s e⟩
  base:=rfl }
 have gE:∀i,(Hp.mk H.B (H'.l++H.l)).get i=(ak H'.l i).or (H.get i):=fun i=>gg _ _ _
 refine⟨v,r,H'.l,w2,rfl,rfl,hR,{ ca:=h1.ca.aT Ts,rows:=fun i s hi=>?_,dr:=fun i m z hz=>?_,inj:=fun i m j n b t s t' s' a1 a2=>?_,own:=fun i m b t s h=>?_,fin:=fun b hb=>?_ },g2.dH up k2,ex,RN⟩
 ·rw[gE]at hi;cases e:ak H'.l i with
  |some x=>
   rw[e]at hi;cases hi;obtain⟨e1,z,e2,e3⟩:=g1.rows i s e;refine⟨e1,z,up _ _ _ e2,?_⟩;cases z with
   |nil=>exact e3
   |«at» b t st=> obtain⟨c1,cur,c2,c3,c4⟩:=e3;exact⟨c1,cur,c2,c3,fun j a u ha hu=>(c4 j a u ha hu).dH up (wZ (k3 i s e) ha)⟩
  |none=>
   rw[e]at hi;have hi:H.get i=some s:=hi;obtain⟨e1,z,e2,e3⟩:=h1.rows i s hi;refine⟨e1,z,Ts.names _ _ _ rfl e2,?_⟩;refine e3.ext ex fun b t st ez=>?_
   subst ez;exact RN b (h1.lt e2)
 ·rw[QO]at hz;cases e:w'.nm i m with
  |some z'=> obtain⟨r',c1,c2⟩:=g1.dr i m z' e;exact⟨r',by rw[gE,show ak H'.l i=some r' from c1];rfl,c2⟩
  |none=>
   rw[e]at hz;obtain⟨r',c1,c2⟩:=h1.dr i m z hz;refine⟨r',?_,c2⟩;rw[gE];cases e2:ak H'.l i with
   |none=>exact c1
   |some x=>have:=k1 i (by rw[e2];simp);rw[this]at c1;cases c1
 ·rw[QO]at a1 a2;cases e1:w'.nm i m with
  |some z1=>
   rw[e1]at a1;cases a1;cases e2:w'.nm j n with
   |some z2=>rw[e2]at a2;cases a2;exact g1.inj _ _ _ _ _ _ _ _ _ e1 e2
   |none=>rw[e2]at a2;exact(Ub _ _ _ _ _ a2 (g1.own _ _ _ _ _ e1)).elim
  |none=>
   rw[e1]at a1;cases e2:w'.nm j n with
   |some z2=>rw[e2]at a2;cases a2;exact(Ub _ _ _ _ _ a1 (g1.own _ _ _ _ _ e2)).elim
   |none=>rw[e2]at a2;exact h1.inj _ _ _ _ _ _ _ _ _ a1 a2
 ·rw[QO]at h;cases e:w'.nm i m with
  |some z=>rw[e]at h;cases h;exact .inr (g1.own _ _ _ _ _ e)
  |none=>rw[e]at h;exact .inl (h1.own _ _ _ _ _ h)
 ·rcases hb with h|h
  ·exact Nat.lt_of_lt_of_le (h1.fin b h) g3.size
  ·exact g1.fin b h
section
variable {P:PS}{f:FuncId}{args:PH}{B:PK}{e tl:PG}{r0:AV}{q:Prop}
def dP{c:Code}{Q:Exit->PD}{F:PH}(h:dp P c Q F ⟨B,tie e []⟩):dp P c Q F ⟨B,e⟩:=by rw[sx e];exact h
def mJ{R:AV->Prop}(hd:cw P f args e r0 e)(k:q)(h0:bo P f=true:=by exact db)(hl:nA 0 tl:=by(repeat' first|exact de|(refine dD (by decide) ?_)|fail))(e0:R r0=q:=by exact eu) :
  ∃r,(fh P (.raw (.func (.func f) #[] #[])) args ⟨B,tie e tl⟩ fun r' H'=>r'=r/\H'=⟨B,tie e tl⟩)/\R r:=
 ⟨r0,cG (K:=fun r' H'=>r'=r0/\H'=⟨B,tie e tl⟩) hd.c rfl hd.e1 hd.e2 hd.aT hl hd.a h0 ⟨rfl,rfl⟩,e0 ▸ k⟩
end
variable{F:PH}{B:PK}{tl:PG}
def C5{fn:Func}{L L1:PG}{out:PH}{ex:Exit}{r0:AV}{e l:PG}(hB:ids e=B)(k1:cZ 0 e)(k2:cZ 0 l)(Qa:gL r0 ⟨B,L⟩ r0 ⟨B,L1⟩)(hp:∀i,ak L1 i=ak (tie l tl) i)(hl:nA 0 tl)(rs:List ResultVar)
  (hr:r0.all (fi (dx 0))=true:=by first|rfl|(simp only[go_sem,AV.all,aS,fi,BN];done))
  (RF:fn.results.toList=rs:=by rfl) (he:ex=.normal\/ex=.ret:=by first|exact Or.inr rfl|exact Or.inl rfl|fail) (ho:iB P ⟨B,L⟩ F rs=some out:=by first|rfl|(simp(disch:=first|omega|fail) only[go_sem,↓reduceIte,Nat.reduceEqDiff,Nat.reduceLeDiff,Nat.reduceSub,Nat.reduceAdd];rfl)) (hok:ju P ⟨B,L⟩ F rs:=by first|exact jI|(simp(disch:=first|omega|fail) only[go_sem,↓reduceIte,Nat.reduceEqDiff,Nat.reduceLeDiff,Nat.reduceSub,Nat.reduceAdd])) (hv:jd out=r0:=by first|rfl|(simp only[go_sem];done)):j9 P fn (fun r l'=>r=r0/\l'=l) ex F ⟨B,L⟩:=by
 subst RF;obtain⟨h1,h2,h3⟩:=k1.free k2 hB hl;have:=gL.free (r:=r0) (r':=r0) (H:=⟨B,l++tl⟩) (Go.Gd.dx 0) h1 h2 (xI rfl hr);rw[show(Hp.mk B (l++tl)).l=l++tl from rfl,h3]at this;exact rN he ho hok r0 ⟨B,l⟩ (hv ▸ Qa.trans ((Ab (B:=B) (l:=L1) (l++tl) hp).trans this)) ⟨rfl,rfl⟩
theorem sW:∀{l:PG} {i:Nat} {r:Row},ak l i=some r->bf l i r=l
 |[],_,_,h=>by cases h
 |(j,s)::l,i,r,h=>by
  have h:(if i=j then some s else ak l i)=some r:=h;show(if i=j then(i,r)::l else(j,s)::bf l i r)=_;by_cases e:i=j
  ·subst e;rw[if_pos rfl]at h ⊢;cases h;rfl
  ·rw[if_neg e]at h ⊢;rw[sW h]
theorem ai.args{P:PS}{f:FuncId}{args args':PH}{l:PG}{R:AV->List PU->Prop}(hc:ai P f args' l R)(hv:∀w vs,aH w (entry l)->aY w args vs->aY w args' vs):ai P f args l R:=fun w vs h1 h2=>hc w vs h1 (hv w vs h1 h2)
def sT{w:NW}{a b:AV}{l m:PH}{vs:PO}(h:aY w (a::l) vs)(TE:∀v,ar w a v->ar w b v)(YQ:∀us,aY w l us->aY w m us):aY w (b::m) vs:=by
 obtain⟨h1,h2⟩:=h;have ht:=YQ (vs.toList.tail.toArray) ⟨by simp at h1 ⊢;omega,fun i x v hx hv=>h2 (i+1) x v (by simpa using hx) (by simpa using hv)⟩;refine⟨?_,fun i x v hx hv=>?_⟩
 ·have:=ht.1;simp at h1 this ⊢;omega
 ·cases i with
  |zero=>simp at hx;subst hx;exact TE v (h2 0 a v rfl hv)
  |succ i=>exact ht.2 i x v (by simpa using hx) (by simpa using hv)
def BE{w:NW}(sz:Nat)(d:PH):∀v,ar w (.raw (.slice none 0 0)) v->ar w (.sl false sz [] d) v:=fun v h=>by have:=cY h;subst this;exact .gb _ _ _ _ (fun e=>by cases e)
def GP{args:PH}(hv:bT (fun _=>true) H args args'):∀w vs,aH w H->aY w args vs->aY (w.ck fun _=>true) args' vs:=fun w vs h1 h2=>by
 obtain⟨Rc,hg⟩:=hv.get;refine⟨by rw[<-Rc];exact h2.1,fun i c v hc hv=>?_⟩;have hi:i<args.length:=by rw[Rc];exact(List.getElem?_eq_some_iff.1 hc).1
 exact(hg i args[i] c (List.getElem?_eq_getElem hi) hc).sound h1 (h2.2 i _ v (List.getElem?_eq_getElem hi) hv)
def Gr{w:NW}{i m sz o n:Nat}{t:PM}{css:PF}{d:PH}(hw:aH w H)(hi:H.get i=some (.aE t sz css))(hm:m=css.length)(hn:o+n<=m)(h0:0<sz)(hq:QL dq css){v:Value}(h:ar w (.rv i m sz o n) v):ar (w.ck fun _=>true) (.sl false sz ((css.drop o).take n) d) v:=by
 subst hm;have J':((css.drop o).take n).length=n:=by rw[List.length_take,List.length_drop];omega
 cases h with
 |kX _ _ _ _ c A=> have:(css.drop o).take 0=[]:=jE;rw[this];exact .gb _ _ _ _ (fun h=>by cases h)
 |rv _ _ _ _ _ b t' c Qi Qa=>
  by_cases T':n=0
  ·subst T';have:(css.drop o).take 0=[]:=jE;rw[this];exact .gb _ _ _ _ (fun h=>by cases h)
  ·have hok:=(hw.rows i _ hi).1;have:=ar.sl (w:=w.ck fun _=>true) (d:=d) false sz ((css.drop o).take n) ⟨b,o*sz,none⟩ c (fun k=>(w.cell? ⟨b,o*sz+k,none⟩).getD undef) jB jB (fun h=>by cases h) (fun cs Q4=>hok.2 cs (List.mem_of_mem_drop (List.mem_of_mem_take Q4))) (hw.lt Qi) (fun h=>h.2 i _ t' sz rfl Qi) (fun k j hk hj=>by
    rw[J']at hk;obtain⟨_,_,_,v,h1,h2⟩:=sZ hw hi Qi (k:=o+k) (j:=j) jB hj;show w.cell? _=_;rw[kK];have e:o*sz+(k*sz+j)=(o+k)*sz+j:=by rw[Nat.add_mul];omega
    rw[e,h1];rfl) (fun k j u hk hu=>by
    rw[J']at hk;have e0:((css.drop o).take n).getD k []=css.getD (o+k) []:=by rw[List.getD_eq_getElem?_getD,List.getElem?_take,if_pos hk,List.getElem?_drop,List.getD_eq_getElem?_getD]
    rw[e0]at hu;have Qw:css.getD (o+k) []∈css:=by rw[List.getD_eq_getElem?_getD,List.getElem?_eq_getElem jB];exact List.getElem_mem _
    have hj:j<sz:=by have:=(List.getElem?_eq_some_iff.1 hu).1;rwa [hok.2 _ Qw]at this
    obtain⟨_,_,_,v,h1,h2⟩:=sZ hw hi Qi (k:=o+k) (j:=j) jB hj;have e:o*sz+(k*sz+j)=(o+k)*sz+j:=by rw[Nat.add_mul];omega
    rw[e,h1];exact((h2 u hu).aT (rh w fun _=>true) (ql (fun _ h=>by cases h) _ (lZ (hq _ Qw) hu))).kq (lZ (hq _ Qw) hu))
   rw[J']at this;exact this
def Bq{args:PH}{K:PE}{i sz:Nat}{t:PM}{α:Type}[Inhabited α]{enc:α->PH}[he:bD enc sz]{xs:List α}(QT:∀x,jx (enc x)=true)(hi:H.get i=none)
  (hc:ai P f args' [] fun r l=>r=.rs i xs.length sz xs.length/\l=[(i,.aE t sz (xs.map enc))]) (hv:∀w vs,aH w H->aY w args vs->aY (w.ck fun _=>true) args' vs) (k:K (aX enc sz xs) H):cX P f args H K:=fun w vs h1 h2=>by
 have Uz:=Gv hc hv (fun r l ⟨e1,e2⟩=>by
  subst e1 e2;refine⟨fun j hj=>?_,rfl,fun j row hj=>?_⟩
  ·by_cases e:j=i
   ·subst e;exact hi
   ·exact(hj (by simp only[ak];rw[if_neg e])).elim
  ·simp only[ak]at hj;split at hj
   ·cases hj;refine B8 fun x hx=>?_
    obtain⟨y,_,rfl⟩:=List.mem_map.1 hx;exact QT y
   ·cases hj) h1 h2
 refine Uz.mono ?_;rintro e W ⟨v,r,l,w',rfl,rfl,⟨rfl,rfl⟩,g1,g2,g3,g4⟩;have g1:aH w' ⟨H.B,(i,.aE t sz (xs.map enc))::H.l⟩:=g1;have WW:∀m,w.nm i m=none:=fun m=>h1.none hi m
 have YR:(Hp.mk H.B ((i,.aE t sz (xs.map enc))::H.l)).get i=some (.aE t sz (xs.map enc)):=by show(if i=i then _ else _)=_;rw[if_pos rfl]
 have YS:∀j,j≠i->(Hp.mk H.B ((i,.aE t sz (xs.map enc))::H.l)).get j=H.get j:=fun j hj=>by show(if j=i then _ else _)=_;rw[if_neg hj];rfl
 have WX:=(dz.row (D:=fun j=>decide (j=i)) (dd:=enc default) (enc:=enc) xs jE YR rfl).sound g1 g2;have k0:=rh w' (fun j=>decide (j=i));have ex:Ext w H (w'.ck fun j=>decide (j=i)) H:={
  size:=g3.size
  free:=fun b hb hO=>⟨(g3.free b hb hO).1,fun h=>(g3.free b hb hO).2 h.1⟩
  names:=fun j m z _ hz=>by
   have Rv:j≠i:=fun e=>by subst e;rw[WW]at hz;cases hz
   show(if decide (j=i)=true then none else w'.nm j m)=some z;rw[if_neg (by simpa using Rv)];exact g3.names j m z rfl hz
  os:=g3.os,tape:=g3.tape,output:=g3.output
  rest:=fun b hb hO Qb=>by
   obtain⟨a1,a2,a3⟩:=g3.rest b hb hO Qb;refine⟨a1,⟨a2,fun j m t' s _=>a3 j m t' s⟩,fun j m t' s h=>?_⟩;have h:(if decide (j=i)=true then none else w'.nm j m)=some (.at b t' s):=h;split at h
   ·cases h
   ·exact a3 _ _ _ _ h
  base:=rfl }
 refine⟨v,_,H,w'.ck fun j=>decide (j=i),rfl,rfl,k,{ ca:=g1.ca.aT k0,rows:=fun j s hj=>?_,dr:=fun j m z hz=>?_,inj:=fun j m j' m' b t1 s1 t2 s2 a1 a2=>?_,own:=fun j m b t1 s1 h=>?_,fin:=fun b hb=>g1.fin b hb.1 },WX,ex⟩
 ·have Rv:j≠i:=fun e=>by subst e;rw[hi]at hj;cases hj
  obtain⟨e1,z,e2,e3⟩:=h1.rows j s hj;refine⟨e1,z,ex.names _ _ _ rfl e2,e3.ext ex fun b t1 s1 ez=>?_⟩;subst ez;exact g4 b (h1.lt e2)
 ·have hz:(if decide (j=i)=true then none else w'.nm j m)=some z:=hz;split at hz
  ·cases hz
  ·rename_i e;obtain⟨r',c1,c2⟩:=g1.dr j m z hz;exact⟨r',by rw[<-YS j (by simpa using e)];exact c1,c2⟩
 ·have a1:(if decide (j=i)=true then none else w'.nm j m)=_:=a1;have a2:(if decide (j'=i)=true then none else w'.nm j' m')=_:=a2;split at a1
  ·cases a1
  ·split at a2
   ·cases a2
   ·exact g1.inj _ _ _ _ _ _ _ _ _ a1 a2
 ·have h:(if decide (j=i)=true then none else w'.nm j m)=_:=h;split at h
  ·cases h
  ·rename_i e;refine⟨g1.own _ _ _ _ _ h,fun j' m' t' s' hd h'=>e ?_⟩;rw[g1.inj _ _ _ _ _ _ _ _ _ h h'];exact hd
@[go_sem] def jyE(a k n:Nat)(h:n<1000):(n == hn a k)=false:=by have:=gA a k;simp;omega
@[go_sem] def jva(a b k j:Nat)(ha:a<32)(hb:b<32)(h:a≠b):(hn a k == hn b j)=false:=by simp;exact cB ha hb h
@[go_sem] def jwD(a k:Nat):(hn a k == hn a k)=true:=jE
@[go_sem] def M8(a k:Nat):hn a k+16=hn (a+16) k:=by unfold hn;omega
theorem DS{A C D:PK}(hA:A.isEmpty=false){E:PK}{l:List Oper}{ps:List PK}:∀(rest done:PK),oB (A,C,D) E l ps done rest=oB ([0],C,D) E l ps done rest
 |[],done=>rfl
 |i::rest,done=>by
  have e1:j4 (A,C,D)=j4 ([0],C,D):=rfl;have e2:mq (A,C,D) (du l i)=mq ([0],C,D) (du l i):=by have YT:(A,C,D).1.isEmpty=([0],C,D).1.isEmpty:=hA;unfold mq;rw[YT];rfl
  unfold oB;rw[DS hA rest,e1,e2]
def Ke{A C D:PK}(hA:A.isEmpty=false){E:PK}{l:List Oper}{ord:PK}:oQ (A,C,D) E l ord=oQ ([0],C,D) E l ord:=by unfold oQ;rw[DS hA];rfl
def qn{Q:Exit->PD}(id:Nat){l:List Oper}{q:Prop}(A C D E ord:PK)(hm:P.follows .mixedOrders=true)(h:q)(hA:A.isEmpty=false:=by rfl)(hok:oQ ([0],C,D) E l ord=true:=by decide +kernel)(hE:qp P l E:=by simp only[qp,du,List.getD_cons_zero,List.getD_cons_succ,go_sem])(e:fV (A,C,D) P l.toArray (Q .normal) (ord.map (du l)) F H=q:=by(simp only[aK,List.map_cons,List.map_nil,du,List.getD_cons_zero,List.getD_cons_succ];exact eu)):dp P (.region id l.toArray true) Q F H:=yC (A,C,D) E ord hm (by rw[Ke hA];exact hok) hE (e ▸ h)
def Aw(A:AS)(e l:PG):Prop:=∀j,A.1.contains j=false->ak e j≠none->ak l j=ak e j\/(A.1.contains (j+16)=true/\∃t c c' cs,ak e j=some (.var t (c::cs))/\ak l j=some (.var t (c'::cs)))
variable{l:PG}
def oi{A:AS}{args:PH}{e:PG}{r0:AV}{g:PE}{d:gq fun r H'=>df A ⟨B,tie e tl⟩ H'/\g r H'}{q:Prop}(hd:cw P f args e r0 l)(hx:Aw A e l)(k:q)(h0:bo P f=true:=by exact db)(hl:nA 0 tl:=by(repeat' first|exact de|(refine dD (by decide) ?_)|fail))(e0:g r0 ⟨B,tie l tl⟩=q:=by exact eu) :
  fh P (.raw (.func (.func f) #[] #[])) args ⟨B,tie e tl⟩ (AP (fun r H'=>df A ⟨B,tie e tl⟩ H'/\g r H') d):=by
 refine cG (K:=AP (fun r H'=>df A ⟨B,tie e tl⟩ H'/\g r H') d) hd.c rfl hd.e1 hd.e2 hd.aT hl hd.a h0 ⟨fun i r hi hr=>?_,e0 ▸ k⟩;have hr:ak (tie e tl) i=some r:=hr;show ak (tie l tl) i=some r\/_/\∃t c c' cs,r=.var t (c::cs)/\ak (tie l tl) i=some (.var t (c'::cs));rw[eD]at hr ⊢;cases he:ak e i with
 |some s=>
  rw[he]at hr;cases hr;rcases hx i hi (by rw[he];simp)with h|⟨h1,t,c,c',cs,h2,h3⟩
  ·left;rw[h,he];rfl
  ·right
   rw[he]at h2;cases h2;exact⟨h1,t,c,c',cs,rfl,by rw[h3];rfl⟩
 |none=>
  rw[he]at hr;have hr:ak tl i=some r:=hr;have:=hl i r hr;left
  rw[hd.e2.low i this.2];exact hr
def Be{n:Nat}{S:Type}{W:List (Nat×Nat)}{ok:S->Prop}{J:S->List (Nat×AV)}{G:S->Hp}{μ:S->Nat}{F₀:PH}{e0:PG}(hB:ids e0=B)(k1:cZ 0 e0)(k2:cZ 0 l)(hl:nA 0 tl)(s:S)(h1:ok s)(h2:μ s<n)(hG:(⟨B,tie l []⟩:Hp)=G s)(h3:bT (dx 0) ⟨B,tie l tl⟩ F (mm (J s) (l8 W F₀))):Next n W ok J G μ F₀ F ⟨B,tie l tl⟩:=by obtain⟨a1,a2,a3⟩:=k1.free k2 hB hl;refine zb (dx 0) s h1 h2 a1 a2 ?_ h3;rw[<-hG];show(Hp.mk B (er (dx 0) (l++tl)))=_;rw[a3,<-sx]
end Go.Gd
namespace Go.Proofs.YtghoellpinmenaaGreatDoor
open Go Go.Gd Tryz
def _root_.Go.Gd.RS.says(R:RS)(w:PL):RS:={ R with aD:=R.aD++[w] }
def Mv(s:bK)(h1:s.aG.length<=1000)(h2:s.heap.length<=1000)(h3:s.aD.length<=1000)(h4:∀k,k<s.aG.length->(nth s.aG k).slots.length<=1000/\(nth s.aG k).path.length<=1000)(h5:∀k,k<s.heap.length->(nth s.heap k).length<=1000) :
  ai prog 36 [.agg (k9 s)] [] (fun r l=>r=.agg (RS.of s).c/\l=(RS.of s).rows):=by
 generalize hR:RS.of s=R;refine aQ func36 ntmps36 ?_
 (repeat' (first|refine ax fun K hK=>?_|refine az ?_|(with_reducible refine gR 15 ?_);refine dC 15 ([],[],[58,59]) [] (aK 0 13) mixed ?_|(refine hK _ _ ?_;clear hK K)|(refine aw ?_ ?_<;>intro hc<;>try exact jz)|refine dL 4 ?_|refine ld 5 ?_|refine ld 6 ?_|refine pO 3 ?_|refine ay ?_|exact jI|(clear hK K)))
 refine gT (cU.fl 1 6 0 87 3 rfl jC rfl rfl) ?_;refine gT (cU.fl 2 6 1 22 1 rfl jC rfl rfl) ?_
 (refine S ?_;try exact jI)
 have PY:=hK;clear hK;refine dR (S:=Nat) [(4,2),(15,28)] (fun k=>k<=s.aG.length) (fun k=>[(4,rI k)])
  (fun k=>⟨[],(4,.var 39 (k9 s))::(5,.var 39 [.raw (.slice none 0 0),.raw (.slice none 0 0),rI 0,.raw (.slice none 0 0),rI 0,rI 0,rI 0])::(6,.var 39 [.rs 1 k 3 k,.rs 2 0 1 0,rI s.in_,.rs 3 s.aD.length 1 s.aD.length,rI s.status,rI s.bs,rI s.time])::(3,.aE 9 1 (s.aD.map eS))::(1,.aE 87 3 (gU k R.fr))::(2,.aE 22 1 [])::cz 0 k R.sl (cz 1 k R.pt [])⟩)
  (fun k=>s.aG.length-k) 0 jB (dS ?_ cc) ?_
 ·rfl
 rintro k hk Kr P3;by_cases RU:k<s.aG.length
 ·obtain⟨g1,g2⟩:=h4 k RU;have Wl:uA (nth s.aG k)=[rI (nth s.aG k).fn,aX bG 3 (nth s.aG k).slots,aX pT 2 (nth s.aG k).path]:=rfl;refine S ?_
  (have W:=Wl;repeat' (first|refine ax fun K hK=>?_|refine az ?_|(with_reducible refine gR 15 ?_);refine dC 15 ([],[],[58,59]) [] (aK 0 13) mixed ?_|(refine hK _ _ ?_;clear hK K)|(refine aw ?_ ?_<;>intro hc<;>try exact jz)|refine ld 7 ?_|refine pO (bP 0 k) ?_|refine pO (bP 1 k) ?_|refine pO 8 ?_|refine ay ?_|exact jI|(clear hK K)))
  have YU:∀j,j<k+1->(if j=k then[rI (nth s.aG k).fn,.rs (bP 0 k) (nth s.aG k).slots.length 3 (nth s.aG k).slots.length,.rs (bP 1 k) (nth s.aG k).path.length 2 (nth s.aG k).path.length]else R.fr j)=R.fr j:=fun j hj=>by
   split
   ·rename_i e;subst e;subst hR;unfold RS.fr;rw[show nth (RS.of s).jp j=[] from zE _ _ _ RU];rfl
   ·rfl
  have hg0:=n8 0 k;have QG:=n8 1 k;have Re:bP 1 k≠bP 0 k:=fun e=>by have:=(re jB jB e).1;omega
  refine P3 _ _ (Gt ((4,.var 39 (k9 s))::(5,.var 39 [.raw (.slice none 0 0),.raw (.slice none 0 0),rI 0,.raw (.slice none 0 0),rI 0,rI 0,rI 0])::(6,.var 39 [.rs 1 (k+1) 3 (k+1),.rs 2 0 1 0,rI s.in_,.rs 3 s.aD.length 1 s.aD.length,rI s.status,rI s.bs,rI s.time])::(3,.aE 9 1 (s.aD.map eS))::(1,.aE 87 3 (gU (k+1) R.fr))::(2,.aE 22 1 []) ::
   cz 0 (k+1) R.sl (cz 1 (k+1) R.pt [(7,.var 87 [rI (nth s.aG k).fn,.rs (bP 0 k) (nth s.aG k).slots.length 3 (nth s.aG k).slots.length,.rs (bP 1 k) (nth s.aG k).path.length 2 (nth s.aG k).path.length]),(8,.aE 87 3 [[rI (nth s.aG k).fn,.rs (bP 0 k) (nth s.aG k).slots.length 3 (nth s.aG k).slots.length,.rs (bP 1 k) (nth s.aG k).path.length 2 (nth s.aG k).path.length]])]))
   (fun i=>[7,8].contains i) (k+1) jB (by show s.aG.length-(k+1)<s.aG.length-k;omega) (oe _ _ (oe _ _ (oe _ _ (oe _ _ (GJ _ ?_ (oe _ _ fun i=>?_)))))) rfl ?_ ?_ ?_)
  ·exact congrArg (Row.aE _ _) (CV rfl YU)
  ·refine(rb 0 k R.sl (fun i=>rb 1 k R.pt (l':=[_,_]++[(bP 1 k,.aE 89 2 ((nth s.aG k).path.map pT)),(bP 0 k,.aE 50 3 ((nth s.aG k).slots.map bG))]) (fun i=>?_) i) i).trans (LF (h:=0) (q:=R.hp) R.sl R.pt (fun _ _=>rfl) (fun _ _=>rfl) ?_ ?_ xm i)
   ·simp only[ak,List.cons_append,List.nil_append];repeat' split
    all_goals first
     |rfl
     |omega
   ·subst hR;rfl
   ·subst hR;unfold RS.pt;rw[show nth (RS.of s).jp k=[] from zE _ _ _ RU,List.append_nil];rfl
  ·refine⟨.inr (zD _ _),.inr rfl,.inr rfl,.inr (la (enc:=eS) (sz:=1) _),.inr (uZ fun j _=>?_),.inr (GL _),vV (fun j _=>B6 _ _ _) (vV (fun j _=>Fk _ _ _) ⟨.inl rfl,.inl rfl,trivial⟩)⟩;simp only[RS.fr,aS,AV.all,fi,ry (L:=[7,8]) rfl];rfl
  ·show Hp.mk [] (_::_::_::_::_::_::er _ (cz 0 _ _ _))=_;rw[wz (ry rfl 0),wz (ry rfl 1)];rfl
  ·exact j6
 ·have SL:k=s.aG.length:=jB;subst SL;refine S ?_
  (repeat' (first|refine ax fun K hK=>?_|refine az ?_|(with_reducible refine gR 15 ?_);refine dC 15 ([],[],[58,59]) [] (aK 0 13) mixed ?_|(refine hK _ _ ?_;clear hK K)|(refine aw ?_ ?_<;>intro hc<;>try exact jz)|refine PY _ _ ?_|refine ay ?_|exact jI|(clear hK K)))
  have YV:=hK;clear hK;refine dR (S:=Nat) [(6,1),(43,19)] (fun j=>j<=s.heap.length) (fun j=>[(6,rI j)])
   (fun j=>⟨[],(4,.var 39 (k9 s))::(5,.var 39 [.raw (.slice none 0 0),.raw (.slice none 0 0),rI 0,.raw (.slice none 0 0),rI 0,rI 0,rI 0])::(6,.var 39 [.rs 1 s.aG.length 3 s.aG.length,.rs 2 j 1 j,rI s.in_,.rs 3 s.aD.length 1 s.aD.length,rI s.status,rI s.bs,rI s.time])::(3,.aE 9 1 (s.aD.map eS))::(1,.aE 87 3 (gU s.aG.length R.fr))::(2,.aE 22 1 (gU j fun k=>[.rs (bP 2 k) (nth s.heap k).length 1 (nth s.heap k).length]))::cz 0 s.aG.length R.sl (cz 1 s.aG.length R.pt (cz 2 j R.hp []))⟩)
   (fun j=>s.heap.length-j) 0 jB (dS rfl cc) ?_
  rintro j hj Ks WY;by_cases UD:j<s.heap.length
  ·have g3:=h5 j UD;refine S ?_
   (repeat' (first|refine ax fun K hK=>?_|refine az ?_|(with_reducible refine gR 15 ?_);refine dC 15 ([],[],[58,59]) [] (aK 0 13) mixed ?_|(refine hK _ _ ?_;clear hK K)|(refine aw ?_ ?_<;>intro hc<;>try exact jz)|refine Po (bP 2 j) ?_|refine BM 8 ?_|refine ay ?_|exact jI|(clear hK K)))
   have YW:∀i,i<j+1->(if i=j then[AV.rs (bP 2 j) (nth s.heap j).length 1 (nth s.heap j).length]else[AV.rs (bP 2 i) (nth s.heap i).length 1 (nth s.heap i).length])=[AV.rs (bP 2 i) (nth s.heap i).length 1 (nth s.heap i).length]:=fun i hi=>by
    split
    ·rename_i e;subst e;rfl
    ·rfl
   have Re:=n8 2 j;refine WY _ _ (Gt ((4,.var 39 (k9 s))::(5,.var 39 [.raw (.slice none 0 0),.raw (.slice none 0 0),rI 0,.raw (.slice none 0 0),rI 0,rI 0,rI 0])::(6,.var 39 [.rs 1 s.aG.length 3 s.aG.length,.rs 2 (j+1) 1 (j+1),rI s.in_,.rs 3 s.aD.length 1 s.aD.length,rI s.status,rI s.bs,rI s.time])::(3,.aE 9 1 (s.aD.map eS))::(1,.aE 87 3 (gU s.aG.length R.fr))::(2,.aE 22 1 (gU (j+1) fun k=>[.rs (bP 2 k) (nth s.heap k).length 1 (nth s.heap k).length])) ::
    cz 0 s.aG.length R.sl (cz 1 s.aG.length R.pt (cz 2 (j+1) R.hp [(8,.aE 22 1 [[.rs (bP 2 j) (nth s.heap j).length 1 (nth s.heap j).length]])])))
    (fun i=>[8].contains i) (j+1) jB (by show s.heap.length-(j+1)<s.heap.length-j;omega) (oe _ _ (oe _ _ (oe _ _ (oe _ _ (oe _ _ (GJ _ ?_ fun i=>?_)))))) rfl ?_ ?_ ?_)
   ·exact congrArg (Row.aE _ _) (CV rfl YW)
   ·refine(rb 0 _ R.sl (fun i=>rb 1 _ R.pt (fun i=>rb 2 j R.hp (l':=[_]++[(bP 2 j,.aE 3 1 ((nth s.heap j).map eI))]) (fun i=>?_) i) i) i).trans (KQ R.hp (fun _ _=>rfl) ?_ xm i)
    ·simp only[ak,List.cons_append,List.nil_append];repeat' split
     all_goals first
      |rfl
      |omega
    ·subst hR;unfold RS.hp;rfl
   ·refine⟨.inr (zD _ _),.inr rfl,.inr rfl,.inr (la (enc:=eS) (sz:=1) _),.inr (uZ fun j _=>?_),.inr (uZ fun j _=>?_),vV (fun j _=>B6 _ _ _) (vV (fun j _=>Fk _ _ _) (vV (fun j _=>LU _ _ _) ⟨.inl rfl,trivial⟩))⟩
    ·simp only[RS.fr,aS,AV.all,fi,ry (L:=[8]) rfl];rfl
    ·simp only[aS,AV.all,fi,ry (L:=[8]) rfl];rfl
   ·show Hp.mk [] (_::_::_::_::_::_::er _ (cz 0 _ _ _))=_;rw[wz (ry rfl 0),wz (ry rfl 1),wz (ry rfl 2)];rfl
   ·exact j6
  ·have XT:j=s.heap.length:=jB;subst XT;refine S ?_
   (repeat' (first|refine ax fun K hK=>?_|refine az ?_|(with_reducible refine gR 15 ?_);refine dC 15 ([],[],[58,59]) [] (aK 0 13) mixed ?_|(refine hK _ _ ?_;clear hK K)|(refine aw ?_ ?_<;>intro hc<;>try exact jz)|(refine YV _ _ ?_)|refine ay ?_|exact jI|(clear hK K)))
   refine JB (l':=R.lq [(4,.var 39 (k9 s)),(5,.var 39 R.c),(6,.var 39 R.c)]) (fun i=>?_) [.cell 2 39] ?_ ?_ ?_ ?_
   ·subst hR;rw[RS.nN,gg];by_cases i4:i=4
    ·subst i4;rw[RS.kZ 4 jB jB];rfl
    by_cases i5:i=5
    ·subst i5;rw[RS.kZ 5 jB jB];rfl
    by_cases i6:i=6
    ·subst i6;rw[RS.kZ 6 jB jB];rfl
    rw[show ak [(4,Row.var 39 (k9 s)),(5,.var 39 (RS.of s).c),(6,.var 39 (RS.of s).c)] i=none by simp only[ak,if_neg i4,if_neg i5,if_neg i6],Option.or_none];unfold RS.rows;simp only[ak,if_neg i4,if_neg i5,if_neg i6];by_cases i1:i=1
    ·subst i1;rfl
    by_cases i2:i=2
    ·subst i2;rfl
    by_cases i3:i=3
    ·subst i3;rfl
    simp only[if_neg i1,if_neg i2,if_neg i3];rfl
   ·subst hR;rfl
   ·exact(RS.free (t:=0) (pre:=[]) (post:=[]) (R:=R) (t':=0) (pre':=[]) (post':=[]) (R':=R) rfl xm rfl rfl).2.1.2
   ·rfl
   ·have:=(RS.free (t:=0) (pre:=[]) (post:=[]) (R:=R) (t':=0) (pre':=[]) (post':=[]) (R':=R) (tl:=[(4,.var 39 (k9 s)),(5,.var 39 R.c),(6,.var 39 R.c)]) rfl xm rfl rfl).2.2;exact(List.cons.inj this).2
def vH{α:Type}[Inhabited α]{a b:List α}(hl:a.length=b.length)(h:∀j,j<a.length->nth a j=nth b j):a=b:=by apply List.ext_getElem hl;intro i h1 h2;have:=h i h1;rwa [dT h1,dT h2]at this
def O8(a b:PJ)(ha:a.length<=1000000000):dO prog 33 [aX eI 1 a,aX eI 1 b] (rB (decide (a=b))):=by
 refine fg func33 ntmps33 ?_
 (repeat' (first|refine ax fun K hK=>?_|refine az ?_|(with_reducible refine gR 6 ?_);refine dE 6 (aK 0 9) mixed ?_|(refine hK _ _ ?_;clear hK K)|(refine aw ?_ ?_<;>intro hc<;>try exact jz)|refine ay ?_|exact jI|(clear hK K)))
 ·(refine bA [.tmp 4] ?_;try simp only[go_sem])
  rw[show decide (a=b)=false from decide_eq_false fun h=>hc (by rw[h])]
 have hl:a.length=b.length:=jB;have PY:=hK;clear hK;refine dR (S:=Nat) [(4,2),(11,15)] (fun k=>k<=a.length/\∀j,j<k->nth a j=nth b j) (fun k=>[(5,rI k)]) (fun k=>⟨[],[]⟩) (fun k=>a.length-k) 0 ⟨jB,fun j h=>jB⟩ (dS jD cc) ?_;rintro k ⟨Qg,P1⟩ Kr P3;refine S ?_
 (repeat' (first|refine ax fun K hK=>?_|refine az ?_|(with_reducible refine gR 6 ?_);refine dE 6 (aK 0 9) mixed ?_|(refine hK _ _ ?_;clear hK K)|(refine aw ?_ ?_<;>intro hc<;>try exact jz)|refine PY _ _ ?_|refine ay ?_|exact jI|(clear hK K)))
 ·(refine bA [.tmp 4] ?_;try simp only[go_sem])
  rw[show decide (a=b)=false from decide_eq_false fun h=>hc (by rw[h])]
 ·refine P3 _ _ (dZ (k+1) ⟨jB,fun j hj=>?_⟩ jJ jD cc);by_cases h:j<k
  ·exact P1 j h
  ·rw[show j=k from jB];exact hc
 ·(refine bA [.tmp 4] ?_;try simp only[go_sem])
  rw[show decide (a=b)=true from decide_eq_true (vH hl fun j hj=>P1 j jB)]
def KS(s:PL){a b:Int}(ha:cr a):cr (qH s a b).1.n:=by
 unfold qH
 (repeat' split)<;>first|exact tT _|exact ka|exact vl _|exact Ea ha
def OX(s:PL){a b:aj}(ha:cr a.n):cr (mz s a b).1.n:=by
 unfold mz
 (repeat' split)<;>first|exact KS _ ha|exact ka|exact vl _
def JM{h:PI}(hr:p7 h)(v:aj)(k:Nat)(hk:k<(oT h v).length):cr (nth (oT h v) k):=by
 unfold oT at hk ⊢;split at hk
 ·simp at hk
 ·rename_i e;rw[if_neg e];exact hr _ (fu jB) _ (fu hk)
def nq{c:Prop}[Decidable c]{x y:aj×Int}(h:c->cr x.1.n)(k:¬c->cr y.1.n):cr (if c then x else y).1.n:=by
 by_cases e:c
 ·rw[if_pos e];exact h e
 ·rw[if_neg e];exact k e
theorem Dy{p:ab}(h:s8 p){slots:List aj}{heap:PI}(h1:lG slots)(h2:p7 heap)(h3:∀l∈heap,l.length<=1000000):∀(n:Nat) (a:Int),0<=a->a.toNat<p.aa.nodes.length->a.toNat<n->bW (bE p.aa.nodes a)->cr (nO p slots heap n a).1.n
 |0,a,_,_,hn,_=>by omega
 |n+1,a,h0,hl,hn,hk=>by
  have sh:=h.aa.shape a.toNat hl;have hk:1<=(nth p.aa.nodes a.toNat).kind/\(nth p.aa.nodes a.toNat).kind<=9:=hk;have J':∀v:aj,((oT heap v).length:Int)<=1000000:=fun v=>by
   unfold oT;split
   ·simp
   ·have:=h3 _ (fu (l:=heap) (k:=(v.n-1).toNat) jB);omega
  have hX:(∃x y,(nth p.aa.nodes a.toNat).l=[x,y]/\bW (bE p.aa.nodes x))\/(∃x,(nth p.aa.nodes a.toNat).l=[x]/\bW (bE p.aa.nodes x))\/(nth p.aa.nodes a.toNat).kind<=4:=by
   by_cases e:(nth p.aa.nodes a.toNat).kind=9
   ·obtain⟨x,y,g1,g2,_⟩:=sh.1.two (.inl e);exact .inl ⟨x,y,g1,g2⟩
   ·by_cases e4:(nth p.aa.nodes a.toNat).kind<=4
    ·exact .inr (.inr e4)
    ·obtain⟨x,g1,g2⟩:=sh.1.one jB;exact .inr (.inl ⟨x,g1,g2⟩)
  have YX:4<(nth p.aa.nodes a.toNat).kind->cr (nO p slots heap n (nth (nth p.aa.nodes a.toNat).l 0)).1.n/\(nO p slots heap n (nth (nth p.aa.nodes a.toNat).l 0)).1.s.size<=40:=fun hk4=>by
   have:∃x,nth (nth p.aa.nodes a.toNat).l 0=x/\x∈(nth p.aa.nodes a.toNat).l/\bW (bE p.aa.nodes x):=by
    rcases hX with⟨x,y,g1,g2⟩|⟨x,g1,g2⟩|g
    ·exact⟨x,by rw[g1];rfl,by rw[g1];simp,g2⟩
    ·exact⟨x,by rw[g1];rfl,by rw[g1];simp,g2⟩
    ·omega
   obtain⟨x,g1,g2,g3⟩:=this;rw[g1];have hb:=sh.2.1 x g2;exact⟨Dy h h1 h2 h3 n x hb.1 jB jB g3,(Ft h slots heap n x hb.1 jB jB g3).size⟩
  unfold nO;dsimp only;generalize nO p slots heap n (nth (nth p.aa.nodes a.toNat).l 0)=X at*;generalize nO p slots heap n (nth (nth p.aa.nodes a.toNat).l 1)=Y at*;refine nq (fun e=>h.cr _ hl e) fun e1=>nq (fun _=>vl _) fun e2=>nq (fun _=>ka) fun e3=>nq (fun _=>EY h1 _ _) fun e4=>?_
  obtain⟨x1,x2⟩:=YX jB;refine nq (fun _=>ka) fun e5=>nq (fun _=>nq (fun _=>ka) fun e=>JM h2 _ _ jB) fun e6=>nq (fun _=>nq (fun _=>x1) fun _=>nq (fun _=>ka) fun _=>OX _ x1) fun e7=>nq (fun _=>nq (fun _=>?_) fun _=>?_) fun e8=>nq (fun _=>BH _ _) fun _=>BH _ _
  ·show Go.Gd.cr (_:Int);unfold vI Go.Gd.cr;simp only;omega
  ·have:=J' X.1;show Go.Gd.cr (_:Int);unfold vI Go.Gd.cr;simp only;omega
structure bS(R:RS):Prop where
 sl:∀f∈R.bp,lG f.slots
 hp:p7 R.heap
def oX(s:bK):Prop:=bS (RS.of s)
theorem bS.aM{R:RS}(h:bS R)(k:Nat){f:bu}(hf:lG f.slots):bS (R.aM k f):=⟨fun g hg=>by
 rcases tG hg with rfl|hg
 ·exact hf
 ·exact h.sl g hg,h.hp⟩
def bS.at_{R:RS}(h:bS R)(k:Nat):lG (nth R.bp k).slots:=by
 rcases vX R.bp k with e|e
 ·exact h.sl _ e
 ·rw[e];intro v hv;cases hv
theorem bS.on{R:RS}(h:bS R):bS R.on:=h.aM _ (h.at_ _)
theorem bS.gN{R:RS}(h:bS R)(p:ab)(a:Int){v:aj}(hv:cr v.n):bS (R.gN p a v):=h.aM _ (yG (h.at_ _) _ hv)
theorem bS.store{R:RS}(h:bS R)(p:ab)(a:Int){v:aj}(hv:cr v.n):bS (R.store p a v):=(h.gN p a hv).on
theorem bS.dG{R:RS}(h:bS R)(p:ab){v:aj}(hv:cr v.n):bS (R.dG p v):=by
 have hp:bS R.pop:=⟨h.sl,h.hp⟩;unfold RS.dG;split
 ·exact⟨h.sl,h.hp⟩
 split
 ·exact(hp.gN p _ hv).on
 ·exact hp.on
theorem bS.cut{R:RS}(h:bS R):bS R.cut:=⟨fun g hg=>by
 rcases tG hg with rfl|hg
 ·exact h.at_ _
 ·exact h.sl g hg,h.hp⟩
theorem bS.settle{p:ab}:∀(n:Nat) {R:RS},bS R->bS (u3 p n R)
 |0,R,h=>h
 |n+1,R,h=>by
  unfold u3;split
  ·exact h
  split
  ·exact bS.settle n (h.dG p ka)
  split
  ·exact h
  ·exact bS.settle n h.cut
theorem bS.push{R:RS}(h:bS R){f:bu}(hf:lG f.slots):bS (R.push f):=⟨fun g hg=>by
 have hg:g∈R.bp++[f]:=hg;rcases List.mem_append.1 hg with hg|hg
 ·exact h.sl g hg
 ·rw[List.mem_singleton]at hg;subst hg;exact hf,h.hp⟩
theorem bS.bM{R:RS}(h:bS R)(b:Int):bS (R.bM b):=h.aM _ (h.at_ _)
theorem DC{p:ab}(R:RS):∀(l:PJ) (a:List aj),(∀x∈l,cr (R.val p x).1.n)->lG a->lG (R.args p l a).1
 |[],a,_,h=>by unfold RS.args;exact h
 |x::l,a,hl,h=>by
  unfold RS.args;split
  ·exact h
  ·refine DC R l _ (fun y hy=>hl y (by simp[hy])) fun v hv=>?_
   rcases List.mem_append.1 hv with hv|hv
   ·exact h v hv
   ·rw[List.mem_singleton]at hv;subst hv;exact hl x jE
def NP(p:ab)(fn:Int){a:List aj}(h:lG a):lG (pK p fn a).slots:=fun v hv=>by
 have hv:v∈a++List.replicate _ v0:=hv;rcases List.mem_append.1 hv with hv|hv
 ·exact h v hv
 ·rw[(List.mem_replicate.1 hv).2];exact ka
theorem bS.val{p:ab}(hs:fG p){R:RS}(h:bS R)(hc:fv R.heap<=40){x:Int}(h0:0<=x)(hl:x.toNat<p.aa.nodes.length)(hE:bW (bE p.aa.nodes x)):cr (R.val p x).1.n:=
 Dy hs.ok (h.at_ _) h.hp (fun l hm=>by obtain⟨k,hk,rfl⟩:=List.getElem_of_mem hm;have:=xq R.heap k hk;rw[dT hk]at this;omega) _ x h0 hl jB hE
theorem bS.call{p:ab}(hs:fG p){R:RS}(h:bS R)(hc:fv R.heap<=40){a:Int}(hl:a.toNat<p.aa.nodes.length)(hk:(ao p a).kind=21):bS (R.call p a).1:=by
 have sh:=hs.ok.aa.shape a.toNat hl;unfold RS.call;simp only;split
 ·exact h
 split
 ·exact h
 ·refine h.push (NP p _ (DC R _ _ (fun x hx=>?_) fun v hv=>by cases hv));have:=sh.2.1 x hx;exact h.val hs hc this.1 jB (sh.1.call hk x hx)
theorem bS.lM{p:ab}(hs:fG p){R:RS}(h:bS R)(hc:fv R.heap<=40){node:Int}(h0:0<=node)(hl:node.toNat<p.aa.nodes.length){inp:PJ}(hi:∀x∈inp,cr x):bS (R.lM p node inp).1:=by
 have sh:=hs.ok.aa.shape node.toNat hl;have aA:∀x∈(ao p node).l,0<=x/\x.toNat<p.aa.nodes.length:=fun x hx=>by have:=sh.2.1 x hx;omega
 have hv:∀x∈(ao p node).l,bW (bE p.aa.nodes x)->cr (R.val p x).1.n:=fun x hx hE=>h.val hs hc (aA x hx).1 (aA x hx).2 hE
 unfold RS.lM;simp only;split
 ·rename_i e;obtain⟨a,ha,hr⟩:=sh.1.right e;have QZ:(ao p node).l=[a]:=ha;have SS:=aA a (by rw[QZ];simp);have hx:nth (ao p node).l 0=a:=by rw[QZ];rfl
  unfold RS.right;simp only[hx];split
  ·rename_i e1;exact h.call hs hc SS.2 e1
  split
  ·refine bS.store (R:={ R with in_:=R.in_+1 }) ⟨h.sl,h.hp⟩ p node ?_;show cr (nth inp _);rcases vX inp R.in_.toNat with e|e
   ·exact hi _ e
   ·rw[e];exact ka
  split
  ·unfold RS.fresh;simp only;have hf:∀(n:Nat),bS { R with heap:=R.heap++[List.replicate n 0] }:=fun n=>⟨h.sl,fun l hm=>by
    have hm:l∈R.heap++[List.replicate n 0]:=hm;rcases List.mem_append.1 hm with hm|hm
    ·exact h.hp l hm
    ·rw[List.mem_singleton]at hm;subst hm;intro x hx;rw[(List.mem_replicate.1 hx).2];exact ka⟩
   have J':=xn R.heap;have key:∀r:RS×aj×Int,bS r.1->cr r.2.1.n->bS (if r.2.2=0 then(r.1.store p node r.2.1,(0:Int))else(r.1,r.2.2)).1:=fun r g1 g2=>by
    split
    ·exact g1.store p node g2
    ·exact g1
   refine key _ ?_ ?_
   ·(repeat' split)<;>first|exact h|exact hf _
   ·(repeat' split)<;>first|exact ka|(show cr (_:Int);unfold cr;simp only;omega)
  rename_i e1 e2 e3;split
  ·refine h.store p node (hv a (by rw[QZ];simp) ?_);have e1:bE p.aa.nodes a≠21:=e1;have e2:bE p.aa.nodes a≠19:=e2;have e3:bE p.aa.nodes a≠20:=e3;rcases hr with hr|hr|hr|hr
   ·exact hr
   ·exact(e2 hr).elim
   ·exact(e3 hr).elim
   ·exact(e1 hr).elim
  ·exact h
 split
 ·rename_i e1;obtain⟨a,ha,hr⟩:=sh.1.pB e1;have QZ:(ao p node).l=[a]:=ha;have SS:=aA a (by rw[QZ];simp);have hx:nth (ao p node).l 0=a:=by rw[QZ];rfl
  rw[hx];exact h.call hs hc SS.2 hr
 split
 ·rename_i e2;obtain⟨x,y,UR,hx,hy⟩:=sh.1.two (.inr e2);have UR:(ao p node).l=[x,y]:=UR;unfold RS.put;simp only;split
  ·exact h
  split
  ·exact h
  split
  ·exact h
  ·refine bS.on ⟨h.sl,fun l hm=>?_⟩;rcases tG hm with rfl|hm
   ·intro z hz;rcases tG hz with rfl|hz
    ·rw[show nth (ao p node).l 1=y by rw[UR];rfl];exact hv y (by rw[UR];simp) hy
    ·rcases vX R.heap (((dt R.bO.slots (nth p.slots node.toNat) 4).n)-1).toNat with e|e
     ·exact h.hp _ e z hz
     ·rw[e]at hz;cases hz
   ·exact h.hp l hm
 split
 ·rename_i e3;split
  ·exact h.dG p ka
  rename_i e4;split
  ·exact h
  ·rcases sh.1.ret e3 with Q3|⟨a,Q3,hE⟩
   ·exact(e4 (by unfold ao;rw[Q3];rfl)).elim
   ·have Q3:(ao p node).l=[a]:=Q3;rw[show nth (ao p node).l 0=a by rw[Q3];rfl];exact h.dG p (hv a (by rw[Q3];simp) hE)
 split
 ·exact h
 split
 ·split
  ·exact h
  ·exact bS.on ⟨h.sl,h.hp⟩
 split
 ·split
  ·exact h.on.bM _
  split
  ·exact h.on.bM _
  ·exact h.on
 split
 ·split
  ·exact h.bM _
  ·exact h.on
 ·exact h
theorem bS.st{R:RS}(h:bS R):oX R.st:=⟨fun f hf=>h.sl f (List.mem_of_mem_take hf),h.hp⟩
theorem oX.with{s:bK}(h:oX s)(c t n:Int):oX { s with status:=c,bs:=t,time:=n }:=⟨h.sl,h.hp⟩
structure Fits(s:bK):Prop where
 bp:s.aG.length<=8
 heap:s.heap.length<=40
 out:s.aD.length<=24
 fr:∀k,k<s.aG.length->(nth s.aG k).slots.length<=24/\(nth s.aG k).path.length<=300
 hp:∀k,k<s.heap.length->(nth s.heap k).length<=40
structure nI(p:ab)(n:Nat)(s:bK):Prop where
 inv:fL p s
 cr:oX s
 t0:0<=s.time
 t1:s.time<=n
structure nT(R R':RS):Prop where
 time:R'.time=R.time
 bp:R.bp.length<=R'.bp.length
 heap:R.heap.length<=R'.heap.length
def nT.refl(R:RS):nT R R:=⟨rfl,Nat.le_refl _,Nat.le_refl _⟩
theorem nT.trans{a b c:RS}(h:nT a b)(k:nT b c):nT a c:=⟨k.time.trans h.time,Nat.le_trans h.bp k.bp,Nat.le_trans h.heap k.heap⟩
def fL.fits{p:ab}(hs:fG p){s:bK}(h:fL p s):Fits s:=by
 have h2:=xn s.heap;have h3:=h.cells;refine⟨h.inv.bp,jB,h.outs,fun k hk=>?_,fun k hk=>?_⟩
 ·have hf:eO p (nth s.aG k):=h.inv.fr k hk;have h0:=hf.f0;have h1:=hf.f1;have hz:=(hs.au (nth s.aG k).fn.toNat jB).hi;have:=hf.sl;exact⟨jB,hf.len hs⟩
 ·have:=xq s.heap k hk;omega
def fL.copy{p:ab}(hs:fG p){s:bK}(h:fL p s):ai prog 36 [.agg (k9 s)] [] (fun r l=>r=.agg (RS.of s).c/\l=(RS.of s).rows):=by
 have h1:s.aG.length<=8:=h.inv.bp;have h2:=xn s.heap;have h3:=h.cells;refine Mv s jB jB (by have:=h.outs;omega) (fun k hk=>?_) fun k hk=>?_
 ·have hf:eO p (nth s.aG k):=h.inv.fr k hk;have:=hf.len hs;exact⟨by have:=(hs.au (nth s.aG k).fn.toNat (by have:=hf.f0;have:=hf.f1;omega)).hi;have:=hf.sl;omega,jB⟩
 ·have:=xq s.heap k hk;omega
end Go.Proofs.YtghoellpinmenaaGreatDoor
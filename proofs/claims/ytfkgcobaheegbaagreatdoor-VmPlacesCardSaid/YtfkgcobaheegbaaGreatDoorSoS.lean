/- Lemmas. No conditions. -/
import Derived.Test.YtfkgcobaheegbaaGreatDoorSlF
set_option linter.all false
set_option maxHeartbeats 1000000
set_option maxRecDepth 10000
namespace Go.Gd
open Go
structure RS where
 aJ:List aI
 nf:Nat
 jp:List (List aZ)
 heap:List (List Int)
 in_:Int
 ay:List ByteArray
 status:Int
 bn:Int
 time:Int
namespace RS
def st(R:RS):aK:=⟨R.aJ.take R.nf,R.heap,R.in_,R.ay,R.status,R.bn,R.time⟩
structure Ok(R:RS):Prop where
 nf:R.nf<=R.aJ.length
 jp:R.jp.length=R.aJ.length
def fr(R:RS)(k:Nat):List AV:=[.raw (.int .i64 (nth R.aJ k).fn),.rs (bW 0 k) (nth R.aJ k).slots.length 3 (nth R.aJ k).slots.length,.rs (bW 1 k) ((nth R.aJ k).path.length+(nth R.jp k).length) 2 (nth R.aJ k).path.length]
def sl(R:RS)(k:Nat):Row:=.aO 59 3 ((nth R.aJ k).slots.map cI)
def pt(R:RS)(k:Nat):Row:=.aO 89 2 (((nth R.aJ k).path++nth R.jp k).map l7)
def hp(R:RS)(k:Nat):Row:=.aO 3 1 ((nth R.heap k).map eI)
def c(R:RS):List AV:=[.rs 1 R.aJ.length 3 R.nf,.rs 2 R.heap.length 1 R.heap.length,.raw (.int .i64 R.in_),.rs 3 R.ay.length 1 R.ay.length,.raw (.int .i64 R.status),.raw (.int .i64 R.bn),.raw (.int .i64 R.time)]
def e(t:TypeId)(pre post:List AV)(R:RS)(tl:List (Nat×Row)):List (Nat×Row):=
 (0,.var t (pre++R.c++post))::(1,.aO 57 3 (ig R.aJ.length R.fr))::(2,.aO 22 1 (ig R.heap.length fun k=>[.rs (bW 2 k) (nth R.heap k).length 1 (nth R.heap k).length]))::(3,.aO 9 1 (R.ay.map eS)) ::
  cD 0 R.aJ.length R.sl (cD 1 R.aJ.length R.pt (cD 2 R.heap.length R.hp tl))
end RS
attribute [go_sem] RS.fr RS.sl RS.pt RS.hp RS.c RS.e
theorem bc{α:Type}[Inhabited α](l:List α)(i k:Nat)(v:α)(h:i<l.length):nth (l.set i v) k=if k=i then v else nth l k:=by
 unfold nth;rw[List.getD_eq_getElem?_getD,List.getElem?_set,List.getD_eq_getElem?_getD];by_cases e:i=k
 ·subst e;simp[h]
 ·rw[if_neg e,if_neg (fun h=>e h.symm)]
variable{t:TypeId}{R:RS}{tl:List (Nat×Row)}
theorem RS.sU{pre post:List AV}:aD (R.e t pre post tl) 0=some (.var t (pre++R.c++post)):=rfl
theorem RS.sO{pre post:List AV}:aD (R.e t pre post tl) 1=some (.aO 57 3 (ig R.aJ.length R.fr)):=rfl
theorem RS.s8{pre post:List AV}:aD (R.e t pre post tl) 2=some (.aO 22 1 (ig R.heap.length fun k=>[.rs (bW 2 k) (nth R.heap k).length 1 (nth R.heap k).length])):=rfl
theorem RS.sN{pre post:List AV}:aD (R.e t pre post tl) 3=some (.aO 9 1 (R.ay.map eS)):=rfl
theorem RS.pD{pre post:List AV}(i:Nat)(h:1000<=i):aD (R.e t pre post tl) i=aD (cD 0 R.aJ.length R.sl (cD 1 R.aJ.length R.pt (cD 2 R.heap.length R.hp tl))) i:=by
 unfold RS.e;simp only[aD];rw[jN,jN,jN,jN]
variable{k:Nat}
theorem RS.pg{pre post:List AV}(h:k<R.aJ.length):aD (R.e t pre post tl) (bW 0 k)=some (R.sl k):=by rw[RS.pD _ (oH _ _),tQ _ _ _ _ _ jB h]
theorem RS.B6{pre post:List AV}(h:k<R.aJ.length):aD (R.e t pre post tl) (bW 1 k)=some (R.pt k):=by rw[RS.pD _ (oH _ _),oG _ _ _ _ _ _ jB jB jB,tQ _ _ _ _ _ jB h]
theorem RS.zQ{pre post:List AV}(h:k<R.heap.length):aD (R.e t pre post tl) (bW 2 k)=some (R.hp k):=by rw[RS.pD _ (oH _ _),oG _ _ _ _ _ _ jB jB jB,oG _ _ _ _ _ _ jB jB jB,tQ _ _ _ _ _ jB h]
theorem D1(a:Nat)(f:Nat->Row)(l m:List (Nat×Row)):∀(n k:Nat),fQ a f k n (l++m)=fQ a f k n l++m
 |0,k=>rfl
 |n+1,k=>by unfold fQ;rw[D1 a f l m n (k+1)];rfl
theorem qw(a n:Nat)(f:Nat->Row)(l m:List (Nat×Row)):cD a n f (l++m)=cD a n f l++m:=D1 a f l m n 0
theorem rz:∀(l m:List (Nat×Row)) (i:Nat),aD (l++m) i=(aD l i).or (aD m i)
 |[],m,i=>by simp[aD]
 |(j,r)::l,m,i=>by
  show(if i=j then some r else aD (l++m) i)=((if i=j then some r else aD l i):Option Row).or _;split
  ·rfl
  ·exact rz l m i
theorem RS.pc{pre post:List AV}(tl:List (Nat×Row)):R.e t pre post tl=R.e t pre post []++tl:=by
 unfold RS.e;rw[show tl=[]++tl from rfl,qw,qw,qw];rfl
theorem RS.no{pre post:List AV}(i:Nat)(h:4<=i)(h':i<1000):aD (R.e t pre post []) i=none:=by
 unfold RS.e;simp only[aD];rw[jN,jN,jN,jN,qp _ _ _ _ _ h',qp _ _ _ _ _ h',qp _ _ _ _ _ h'];rfl
def low(tl:List (Nat×Row)):Prop:=∀i r,aD tl i=some r->4<=i/\i<1000
theorem RS.lays{pre post:List AV}(h:low tl):Lays (fun tl=>R.e t pre post tl) tl:=⟨fun i=>by rw[RS.pc,rz],fun i r hi=>RS.no i (h i r hi).1 (h i r hi).2⟩
variable{pre' post':List AV}{R':RS}
theorem RS.size{pre post:List AV}(h1:R.aJ.length<=R'.aJ.length)(h2:R.heap.length<=R'.heap.length)(i:Nat)(h:aD (R.e t pre post []) i≠none):aD (R'.e t pre' post' []) i≠none:=by
 by_cases h0:i=0
 ·subst h0;rw[RS.sU];simp
 by_cases h1':i=1
 ·subst h1';rw[RS.sO];simp
 by_cases h2':i=2
 ·subst h2';rw[RS.s8];simp
 by_cases h3':i=3
 ·subst h3';rw[RS.sN];simp
 by_cases h4:i<1000
 ·exact(h (RS.no i jB h4)).elim
 rw[RS.pD i jB]at h ⊢;rcases uj 0 R.aJ.length jB R.sl (cD 1 R.aJ.length R.pt (cD 2 R.heap.length R.hp [])) i with⟨k,hk,rfl,e⟩|⟨_,e⟩
 ·rw[tQ _ _ _ _ _ jB jB];simp
 rw[e]at h;rcases uj 1 R.aJ.length jB R.pt (cD 2 R.heap.length R.hp []) i with⟨k,hk,rfl,e⟩|⟨_,e⟩
 ·rw[oG _ _ _ _ _ _ jB jB jB,tQ _ _ _ _ _ jB jB];simp
 rw[e]at h;rcases uj 2 R.heap.length jB R.hp [] i with⟨k,hk,rfl,e⟩|⟨_,e⟩
 ·rw[oG _ _ _ _ _ _ jB jB jB,oG _ _ _ _ _ _ jB jB jB,tQ _ _ _ _ _ jB jB];simp
 rw[e]at h;exact(h rfl).elim
theorem mb:∀(l:List (Nat×Row)) (i:Nat),i∈ids l<->aD l i≠none
 |[],i=>by simp[ids,aD]
 |(j,r)::l,i=>by
  have:=mb l i;simp only[ids,List.map_cons,List.mem_cons,aD]at this ⊢;by_cases e:i=j
  ·simp[e]
  ·rw[if_neg e];simp only[e,false_or];exact this
variable{l:List (Nat×Row)}
theorem gD{i:Nat}{r:Row}(h:aD l i=some r):(ids l).contains i=true:=List.contains_iff_mem.2 ((mb l i).2 (by rw[h];simp))
theorem Fm(a:Nat)(f:Nat->Row)(l:List (Nat×Row)):∀(n k:Nat),ids (fQ a f k n l)=(List.range' k n).map (bW a)++ids l
 |0,k=>rfl
 |n+1,k=>by
  unfold fQ;rw[List.range'_succ];show bW a k::ids (fQ a f (k+1) n l)=_;rw[Fm a f l n (k+1)];rfl
theorem zw{a n:Nat}{f:Nat->Row}(ha:a<8)(h:(ids l).Nodup)(hl:∀k,k<n->aD l (bW a k)=Option.none):(ids (cD a n f l)).Nodup:=by
 unfold cD;rw[Fm,List.nodup_append];refine⟨?_,h,fun x hx y hy e=>?_⟩
 ·refine List.Pairwise.map _ (fun x y hxy e=>?_) (List.nodup_range' (step:=1) (s:=0) (n:=n) jB)
  exact hxy (sx ha ha e).2
 ·obtain⟨k,hk,rfl⟩:=List.mem_map.1 hx
  subst e;exact(mb _ _).1 hy (hl k (by simp at hk;omega))
theorem nodup_cons{l:List (Nat×Row)}{i:Nat}{r:Row}(h:(ids l).Nodup)(hl:aD l i=Option.none):(ids ((i,r)::l)).Nodup:=List.nodup_cons.2 ⟨fun hm=>(mb _ _).1 hm hl,h⟩
theorem RS.nodup{pre post:List AV}:(ids (R.e t pre post [])).Nodup:=by
 have f2:∀i,i<1000->aD (cD 0 R.aJ.length R.sl (cD 1 R.aJ.length R.pt (cD 2 R.heap.length R.hp []))) i=Option.none:=fun i h=>by
  rw[qp _ _ _ _ _ h,qp _ _ _ _ _ h,qp _ _ _ _ _ h];rfl
 unfold RS.e;refine nodup_cons (nodup_cons (nodup_cons (nodup_cons (zw jB (zw jB (zw jB List.nodup_nil (fun k _=>rfl)) fun k _=>?_) fun k _=>?_) ?_) ?_) ?_) ?_
 ·rw[oG _ _ _ _ _ _ jB jB jB];rfl
 ·rw[oG _ _ _ _ _ _ jB jB jB,oG _ _ _ _ _ _ jB jB jB];rfl
 ·exact f2 3 jB
 ·show(if(2:Nat)=3 then _ else _)=_
  rw[jN];exact f2 2 jB
 ·show(if(1:Nat)=2 then _ else if(1:Nat)=3 then _ else _)=_
  rw[jN,jN];exact f2 1 jB
 ·show(if(0:Nat)=1 then _ else if(0:Nat)=2 then _ else if(0:Nat)=3 then _ else _)=_
  rw[jN,jN,jN];exact f2 0 jB
theorem sZ(q:Nat->Bool):∀(l m:List AV),aY q (l++m)=(aY q l && aY q m)
 |[],m=>by simp[aY]
 |a::l,m=>by simp only[List.cons_append,aY,sZ q l m,Bool.and_assoc]
variable{q:Nat->Bool}
theorem oD{l:List (List AV)}(h:QL q l):aY q l.flatten=true:=by
 induction l with
 |nil=>rfl
 |cons x l ih=>rw[List.flatten_cons,sZ,h x jE,ih fun y hy=>h y (by simp[hy])];rfl
theorem RS.closed{pre post:List AV}(h1:aY dQ pre=true)(h2:aY dQ post=true):∀i r,aD (R.e t pre post []) i=some r->aY (fun i=>(ids (R.e t pre post [])).contains i) r.cells=true:=fun i r h=>by
 have up:∀{l},aY dQ l=true->aY (fun i=>(ids (R.e t pre post [])).contains i) l=true:=fun h=>fN (fun _ h=>by cases h) _ h
 have c1:=gD (RS.sO (t:=t) (pre:=pre) (post:=post) (R:=R) (tl:=[]));have c2:=gD (RS.s8 (t:=t) (pre:=pre) (post:=post) (R:=R) (tl:=[]));have c3:=gD (RS.sN (t:=t) (pre:=pre) (post:=post) (R:=R) (tl:=[]));by_cases h0:i=0
 ·subst h0;rw[RS.sU]at h;cases h
  show aY _ (pre++R.c++post)=true;rw[sZ,sZ,up h1,up h2];simp only[RS.c,aY,AV.all,c1,c2,c3,Bool.and_self]
 by_cases h1':i=1
 ·subst h1';rw[RS.sO]at h;cases h
  exact oD (wk fun k hk=>by
   have a:=gD (RS.pg (t:=t) (pre:=pre) (post:=post) (R:=R) (tl:=[]) hk);have b:=gD (RS.B6 (t:=t) (pre:=pre) (post:=post) (R:=R) (tl:=[]) hk);simp only[RS.fr,aY,AV.all,a,b,Bool.and_self])
 by_cases h2':i=2
 ·subst h2';rw[RS.s8]at h;cases h
  exact oD (wk fun k hk=>by
   have a:=gD (RS.zQ (t:=t) (pre:=pre) (post:=post) (R:=R) (tl:=[]) hk);simp only[aY,AV.all,a,Bool.and_self])
 by_cases h3':i=3
 ·subst h3';rw[RS.sN]at h;cases h
  exact up (oD (lu (enc:=eS) (sz:=1) _))
 by_cases h4:i<1000
 ·rw[RS.no i jB h4]at h;cases h
 rw[RS.pD i jB]at h;rcases uj 0 R.aJ.length jB R.sl (cD 1 R.aJ.length R.pt (cD 2 R.heap.length R.hp [])) i with⟨k,hk,rfl,e⟩|⟨_,e⟩
 ·rw[e]at h;cases h
  exact up (oD (lu (enc:=cI) (sz:=3) _))
 rw[e]at h;rcases uj 1 R.aJ.length jB R.pt (cD 2 R.heap.length R.hp []) i with⟨k,hk,rfl,e⟩|⟨_,e⟩
 ·rw[e]at h;cases h
  exact up (oD (lu (enc:=l7) (sz:=2) _))
 rw[e]at h;rcases uj 2 R.heap.length jB R.hp [] i with⟨k,hk,rfl,e⟩|⟨_,e⟩
 ·rw[e]at h;cases h
  exact up (oD (lu (enc:=eI) (sz:=1) _))
 rw[e]at h;cases h
theorem cE{P:Program}{f:FuncId}{args:List AV}{H:Hp}{K:AV->Hp->Prop}{pre post:List AV}{r0:AV}{B:List Nat}(hc:aj P f args (R.e t pre post []) fun r l'=>r=r0/\l'=R'.e t pre' post' [])(hH:H=⟨B,R.e t pre post tl⟩)
  (h1:R.aJ.length<=R'.aJ.length) (h2:R.heap.length<=R'.heap.length) (hp:aY dQ pre=true) (hq:aY dQ post=true) (hl:low tl) (ha:aY (fun i=>decide (i=0)) args=true) (h0:bz P f=true) (k:K r0 ⟨B,R'.e t pre' post' tl⟩):fF P (.raw (.func (.func f) #[] #[])) args H K:=by
 subst hH;refine pv h0 (DM (E:=fun tl=>R.e t pre post tl) (E':=fun tl=>R'.e t pre' post' tl) hc (RS.lays hl) (RS.lays hl) RS.nodup (fN (fun i hi=>?_) _ ha) (RS.closed hp hq) k (RS.size h1 h2));have:i=0:=of_decide_eq_true hi;subst this;exact gD RS.sU
theorem yD(D:Nat->Bool):∀(l m:List (Nat×Row)),eo D (l++m)=eo D l++eo D m
 |[],m=>rfl
 |(j,r)::l,m=>by
  show(bif D j then eo D (l++m)else(j,r)::eo D (l++m))=(bif D j then eo D l else(j,r)::eo D l)++_;rw[yD D l m];cases D j<;>rfl
theorem xD(D:Nat->Bool):∀(l:List (Nat×Row)),(∀i∈ids l,D i=false)->eo D l=l
 |[],_=>rfl
 |(j,r)::l,h=>by
  show(bif D j then eo D l else(j,r)::eo D l)=_;rw[h j (by simp[ids]),xD D l fun i hi=>h i (by simp[ids]at hi ⊢;exact .inr hi)];rfl
theorem zO(D:Nat->Bool):∀(l:List (Nat×Row)),(∀i∈ids l,D i=true)->eo D l=[]
 |[],_=>rfl
 |(j,r)::l,h=>by
  show(bif D j then eo D l else(j,r)::eo D l)=_;rw[h j (by simp[ids]),zO D l fun i hi=>h i (by simp[ids]at hi ⊢;exact .inr hi)];rfl
theorem xK(D:Nat->Bool):∀(l m:List (Nat×Row)),gz D l->gz D m->gz D (l++m)
 |[],m,_,h=>h
 |(j,r)::l,m,h,k=>⟨h.1,xK D l m h.2 k⟩
theorem Bh(D:Nat->Bool):∀(l:List (Nat×Row)),(∀i∈ids l,D i=true)->gz D l
 |[],_=>trivial
 |(j,r)::l,h=>⟨.inl (h j (by simp[ids])),Bh D l fun i hi=>h i (by simp[ids]at hi ⊢;exact .inr hi)⟩
theorem Ap{q:Nat->Bool}:∀{l:List (List AV)},aY q l.flatten=true->QL q l
 |[],_,x,hx=>by simp at hx
 |a::l,h,x,hx=>by
  rw[List.flatten_cons,Bw,Bool.and_eq_true]at h;rcases List.mem_cons.1 hx with rfl|hx
  ·exact h.1
  ·exact Ap h.2 x hx
theorem Kd:∀{r:Row},aY q r.cells=true->qh q r
 |.var _ _,h=>h
 |.aO _ _ _,h=>Ap h
 |.mp _ _,h=>h
theorem yv(D:Nat->Bool):∀(l:List (Nat×Row)),(ids l).Nodup->(∀i r,aD l i=some r->aY (fy D) r.cells=true)->gz D l
 |[],_,_=>trivial
 |(j,r)::l,hn,h=>by
  have hn':=List.nodup_cons.1 hn;refine⟨.inr (Kd (h j r (by simp[aD]))),yv D l hn'.2 fun i r' hi=>h i r' ?_⟩;have:i≠j:=fun e=>by
   subst e;exact hn'.1 ((mb l i).2 (by rw[hi];simp))
  simp only[aD,if_neg this];exact hi
def gP:Nat->Bool:=fun i=>decide (4<=i/\i<1000)
theorem RS.gP{t:TypeId}{pre post:List AV}{R:RS}{i:Nat}(h:i∈ids (R.e t pre post [])):gP i=false:=by
 unfold Go.Gd.gP;refine decide_eq_false fun h'=>?_
 exact(mb _ _).1 h (RS.no i h'.1 h'.2)
theorem RS.free{t':TypeId}{pre post:List AV}{B:List Nat}(hB:ids (R.e t pre post [])=B)(hl:low tl)(hp:aY dQ pre'=true)(hq:aY dQ post'=true) :
  B.all (fy Go.Gd.gP)=true/\gz Go.Gd.gP (R'.e t' pre' post' tl)/\eo Go.Gd.gP (R'.e t' pre' post' tl)=R'.e t' pre' post' []:=by
 have htl:∀i∈ids tl,Go.Gd.gP i=true:=fun i hi=>by
  obtain⟨r,hr⟩:=Option.ne_none_iff_exists'.1 ((mb _ _).1 hi);exact decide_eq_true (hl i r hr)
 refine⟨?_,?_,?_⟩
 ·rw[List.all_eq_true]
  intro i hi;rw[<-hB]at hi;unfold fy;rw[RS.gP hi];rfl
 ·rw[RS.pc]
  refine xK _ _ _ (yv _ _ RS.nodup fun i r hi=>fN (fun j hj=>?_) _ (RS.closed hp hq i r hi)) (Bh _ _ htl);unfold fy;rw[RS.gP (List.contains_iff_mem.1 hj)];rfl
 ·rw[RS.pc,yD,xD _ _ (fun i hi=>RS.gP hi),zO _ _ htl,List.append_nil]
def RS.aQ(R:RS)(k:Nat)(f:aI):RS:={ R with aJ:=R.aJ.set k f }
theorem RS.bc{R:RS}{k:Nat}(h:k<R.aJ.length)(f:aI)(j:Nat):nth (R.aQ k f).aJ j=if j=k then f else nth R.aJ j:=Go.Gd.bc _ _ _ _ h
theorem RS.bB{f:aI}:R.aJ.length=(R.aQ k f).aJ.length:=by simp[RS.aQ]
def dm(p:ab)(b:Int):List Int:=(nth p.aa.nodes b.toNat).l
def aK.af(s:aK):aI:=nth s.ao (s.ao.length-1)
def aI.pl(f:aI):aZ:=nth f.path (f.path.length-1)
def cn(p:ab)(s:aK):Int:=nth (dm p s.af.pl.block) s.af.pl.at_.toNat
def fz(f:aI):aI:={ f with path:=f.path.set (f.path.length-1) ⟨(nth f.path (f.path.length-1)).block,(nth f.path (f.path.length-1)).at_+1⟩ }
def RS.on(R:RS):RS:=R.aQ (R.nf-1) (fz (nth R.aJ (R.nf-1)))
structure sJ(R:RS):Prop where
 ok:R.Ok
 nf:1<=R.nf
 aJ:R.aJ.length<=1000
 pa:1<=(nth R.aJ (R.nf-1)).path.length
 yi:(nth R.aJ (R.nf-1)).path.length<=1000
 a0:0<=(nth R.aJ (R.nf-1)).pl.at_
 a1:(nth R.aJ (R.nf-1)).pl.at_<=1000000
theorem sJ.aQ{R:RS}(h:sJ R){f:aI}(e:f.path=(nth R.aJ (R.nf-1)).path):sJ (R.aQ (R.nf-1) f):=by
 have hu:nth (R.aQ (R.nf-1) f).aJ ((R.aQ (R.nf-1) f).nf-1)=f:=by
  have h1:=h.nf;have h2:=h.ok.nf;show nth (R.aQ (R.nf-1) f).aJ (R.nf-1)=f;rw[RS.bc jB,if_pos rfl]
 have hl:(R.aQ (R.nf-1) f).aJ.length=R.aJ.length:=RS.bB.symm;refine⟨⟨by rw[hl];exact h.ok.nf,by rw[hl];exact h.ok.jp⟩,h.nf,by rw[hl];exact h.aJ,by rw[hu,e];exact h.pa,by rw[hu,e];exact h.yi,?_,?_⟩
 ·rw[hu];unfold aI.pl;rw[e];exact h.a0
 ·rw[hu];unfold aI.pl;rw[e];exact h.a1
end Go.Gd
namespace Go.Proofs.YtfkgcobaheegbaaGreatDoor
open Go Go.Gd Tryz
theorem Ms(p:ab)(s:aK)(h1:1<=s.ao.length)(h2:s.ao.length<=1000)(h3:1<=s.af.path.length)(h4:s.af.path.length<=1000)(h5:0<=s.af.pl.block)(h6:s.af.pl.block<p.aa.nodes.length)(h7:0<=s.af.pl.at_)(h8:s.af.pl.at_<(dm p s.af.pl.block).length) :
  dV prog 63 [.agg (fB p),.agg (jT s)] (.raw (.int .i64 (cn p s))):=by
 unfold aK.af at h3 h4 h5 h6 h7 h8;unfold aI.pl at h5 h6 h7 h8;unfold dm at h8;refine eQ func63 ntmps63 ?_
 (repeat' (first|refine aA fun K hK=>?_|refine aC ?_|(with_reducible refine gR 3 ?_);refine dE 3 [0,1,2,3,4,5,6,7,8,9,10,11,12] mixed ?_|(refine hK _ _ ?_;clear hK K)|(refine aB ?_ ?_<;>intro hc<;>try exact jz)|refine az ?_|exact jI|(clear hK K)))
 (refine bH [.tmp 4] ?_;try simp only[go_sem])
 rfl
end Go.Proofs.YtfkgcobaheegbaaGreatDoor
namespace Go.Gd
open Go
def kU(p:ab)(node:Int):Prop:=(nth p.aa.nodes node.toNat).kind=10\/(nth p.aa.nodes node.toNat).kind=11
instance (p:ab)(node:Int):Decidable (kU p node):=by unfold kU;infer_instance
structure qP(p:ab)(s:aK):Prop where
 fr:1<=s.ao.length
 aJ:s.ao.length<=1000
 pa:1<=s.af.path.length
 yi:s.af.path.length<=1000
 b0:0<=s.af.pl.block
 b1:s.af.pl.block<p.aa.nodes.length
 a0:0<=s.af.pl.at_
 a1:s.af.pl.at_<(dm p s.af.pl.block).length
 Ol:s.af.pl.at_<=1000000
 n0:0<=cn p s
 n1:cn p s<p.aa.nodes.length
 sl:p.slots.length=p.aa.nodes.length
 s0:kU p (cn p s)->0<=nth p.slots (cn p s).toNat/\nth p.slots (cn p s).toNat<s.af.slots.length
def RS.pop(R:RS):RS:={ R with nf:=R.nf-1 }
def RS.fC(R:RS)(p:ab)(node:Int)(v:ak):RS:=R.aQ (R.nf-1) { nth R.aJ (R.nf-1)with slots:=(nth R.aJ (R.nf-1)).slots.set (nth p.slots node.toNat).toNat v }
def RS.bI(R:RS)(p:ab)(v:ak):RS:=
 if R.nf<=1 then{ R.pop with status:=2 }
 else if kU p (cn p R.pop.st)then(R.pop.fC p (cn p R.pop.st) v).on else R.pop.on
theorem RS.af{R:RS}(h:R.Ok)(h1:1<=R.nf):R.st.af=nth R.aJ (R.nf-1):=by
 have:=h.nf;unfold RS.st aK.af;simp only;have hl:(R.aJ.take R.nf).length=R.nf:=by simp;omega
 rw[hl,dN jB,dN jB];simp
end Go.Gd
namespace Go.Proofs.YtfkgcobaheegbaaGreatDoor
open Go Go.Gd Tryz
end Go.Proofs.YtfkgcobaheegbaaGreatDoor
namespace Go.Gd
open Go
def RS.ah(R:RS):aI:=nth R.aJ (R.nf-1)
def RS.cut(R:RS):RS:={ R with aJ:=R.aJ.set (R.nf-1) { R.ah with path:=R.ah.path.take (R.ah.path.length-1) },jp:=R.jp.set (R.nf-1) (R.ah.pl::nth R.jp (R.nf-1)) }
def pA(f:Nat->Nat):Nat->Nat
 |0=>0
 |n+1=>pA f n+f n
theorem zA{f g:Nat->Nat}:∀{n:Nat},(∀k,k<n->f k=g k)->pA f n=pA g n
 |0,_=>rfl
 |n+1,h=>by unfold pA;rw[zA (n:=n) fun k hk=>h k jB,h n jB]
def RS.left(R:RS):Nat:=pA (fun k=>(nth R.aJ k).path.length+1) R.nf
def lB(p:ab):Nat->RS->RS
 |0,R=>R
 |n+1,R=>
  if R.status=2 then R
  else if R.ah.path.length=0 then lB p n (R.bI p (vZ (nth p.aa.ap R.ah.fn.toNat).ret))
  else if R.ah.pl.at_<(dm p R.ah.pl.block).length then R
  else lB p n R.cut
def RS.settle(R:RS)(p:ab):RS:=lB p (R.left+1) R
end Go.Gd
namespace Go.Proofs.YtfkgcobaheegbaaGreatDoor
open Go Go.Gd Tryz
structure j6(p:ab)(fn:Int)(x:aZ):Prop where
 b0:0<=x.block
 lo:nK p.aa fn.toNat<=x.block.toNat
 hi:x.block.toNat<=(nth p.aa.ap fn.toNat).body.toNat
 kind:bs p.aa.nodes x.block=18
 a0:0<=x.at_
 a1:x.at_<=(dm p x.block).length
structure dc(p:ab)(f:aI):Prop where
 f0:0<=f.fn
 f1:f.fn<p.aa.ap.length
 sl:(f.slots.length:Int)=nth p.size f.fn.toNat
 pl:∀x∈f.path,j6 p f.fn x
 dec:(f.path.map (·.block)).Pairwise fun a b=>b<a
def lH(p:ab)(f:aI):Prop:=f.path≠[]/\f.pl.at_<(dm p f.pl.block).length
variable{f:aI}
theorem lI(h:f.path≠[]):f.pl∈f.path:=dx (by have:=List.length_pos_iff.2 h;omega)
theorem Af{t:List bh}{lo hi:Nat}{L:List Int}(h:aG t lo L hi):lo+L.length<=hi:=by
 induction h with
 |nil=>simp
 |@cons lo c hi L hc h1 h2 i1 i2=>
  have:=h1.le;simp only[List.length_cons];omega
theorem Fa:∀(l:List aZ) (n:Nat),(l.Pairwise fun a b=>b.block<a.block)->(∀x∈l,0<=x.block/\x.block<n)->l.length<=n
 |[],n,_,_=>Nat.zero_le _
 |x::l,n,h,hb=>by
  have hx:=hb x jE;have:=Fa l x.block.toNat (List.pairwise_cons.1 h).2 fun y hy=>⟨(hb y (by simp[hy])).1,by have:=(List.pairwise_cons.1 h).1 y hy;omega⟩
  simp only[List.length_cons];omega
variable{p:ab}{fn:Int}
theorem j6.in_(h:dT p)(f0:0<=fn)(f1:fn<p.aa.ap.length){x:aZ}(hx:j6 p fn x):x.block.toNat<p.aa.nodes.length:=by
 have:=ot h.ok.aa (k:=fn.toNat) jB;have h1:=this.1;have h2:=this.2;have h3:=hx.hi;omega
theorem j6.aw(h:dT p)(f0:0<=fn)(f1:fn<p.aa.ap.length){x:aZ}(hx:j6 p fn x){a:Int}(ha:a∈dm p x.block):0<=a/\a.toNat<x.block.toNat/\nK p.aa fn.toNat<=a.toNat/\dv (bs p.aa.nodes a):=by
 have hi:=hx.in_ h f0 f1;have sh:=h.ok.aa.shape x.block.toNat hi;have h1:=sh.2.1 a ha;refine⟨h1.1,h1.2,?_,sh.1.block hx.kind a ha⟩;have hc:=(h.ap fn.toNat jB).chain;by_cases e:x.block.toNat<(nth p.aa.ap fn.toNat).body.toNat
 ·exact hc.closed _ hx.lo e a ha
 ·have e:x.block.toNat=(nth p.aa.ap fn.toNat).body.toNat:=by have:=hx.hi;omega
  have ha:a∈(nth p.aa.nodes x.block.toNat).l:=ha;rw[e]at ha;exact(hc.mem a ha).2.1
theorem dc.len(h:dT p)(hf:dc p f):f.path.length<=300:=by
 have:=Fa f.path p.aa.nodes.length (List.pairwise_map.1 hf.dec) fun x hx=>⟨(hf.pl x hx).b0,by have:=(hf.pl x hx).in_ h hf.f0 hf.f1;have:=(hf.pl x hx).b0;omega⟩
 have:=h.ok.aa.many;omega
theorem j6.vU(h:dT p)(f0:0<=fn)(f1:fn<p.aa.ap.length){x:aZ}(hx:j6 p fn x):x.at_<=300:=by
 have hi:=hx.in_ h f0 f1;obtain⟨lo,hc⟩:=(h.ok.aa.shape x.block.toNat hi).2.2;have:=Af hc;have:=h.ok.aa.many;have:=hx.a1;unfold dm at this;omega
theorem Fg(h:dT p){s:aK}(h1:1<=s.ao.length)(h2:s.ao.length<=8)(hf:dc p s.af)(hb:lH p s.af):qP p s:=by
 have hx:=hf.pl _ (lI hb.1);have hi:=hx.in_ h hf.f0 hf.f1;have hb1:=hb.2;have ha0:=hx.a0;have hb0:=hx.b0;have hm:cn p s∈dm p s.af.pl.block:=dx jB;obtain⟨k0,k1,k2,k3⟩:=hx.aw h hf.f0 hf.f1 hm;have hl:=hf.len h;have hat:=hx.vU h hf.f0 hf.f1;refine⟨h1,jB,List.length_pos_iff.2 hb.1,jB,hb0,jB,ha0,hb1,jB,k0,jB,h.ok.slots,fun hls=>?_⟩;have:=(h.ap s.af.fn.toNat (by have:=hf.f0;have:=hf.f1;omega)).all (cn p s).toNat k2 (by have:=hx.hi;omega) (by unfold kU at hls;unfold ie;omega);have:=hf.sl;omega
structure cS(p:ab)(R:RS):Prop where
 ok:R.Ok
 aJ:R.aJ.length<=8
 fr:∀k,k<R.nf->dc p (nth R.aJ k)
 busy:∀k,k+1<R.nf->lH p (nth R.aJ k)
 go:R.status≠2->1<=R.nf
theorem tP{α:Type}{l:List α}{i:Nat}{x y:α}(h:x∈l.set i y):x=y\/x∈l:=by
 rcases List.mem_or_eq_of_mem_set h with h|h
 ·exact .inr h
 ·exact .inl h
theorem yQ(h:dc p f)(hb:lH p f):dc p (fz f):=by
 have hx:=h.pl _ (lI hb.1);have hb2:=hb.2;have ha0:=hx.a0;refine⟨h.f0,h.f1,h.sl,fun x hm=>?_,?_⟩
 ·rcases tP hm with rfl|hm
  ·exact⟨hx.b0,hx.lo,hx.hi,hx.kind,by show 0<=f.pl.at_+1;omega,by show f.pl.at_+1<=_;show _<=((dm p f.pl.block).length:Int);omega⟩
  ·exact h.pl x hm
 ·have e:(fz f).path.map (·.block)=f.path.map (·.block):=by
   have hl:f.path.length-1<f.path.length:=by have:=List.length_pos_iff.2 hb.1;omega
   show(f.path.set (f.path.length-1) _).map _=_;rw[List.map_set];apply List.ext_getElem jE;intro i h1 h2;rw[List.getElem_set];split
   ·rename_i e
    subst e;show(nth f.path (f.path.length-1)).block=_;rw[dN hl];simp
   ·rfl
  rw[e];exact h.dec
theorem Jy(h:dc p f)(n:Nat):dc p { f with path:=f.path.take n }:=
 ⟨h.f0,h.f1,h.sl,fun x hx=>h.pl x (List.mem_of_mem_take hx),by
  show((f.path.take n).map _).Pairwise _;rw[List.map_take];exact h.dec.sublist (List.take_sublist _ _)⟩
theorem DP(h:dc p f)(i:Nat)(v:ak):dc p { f with slots:=f.slots.set i v }:=⟨h.f0,h.f1,by show((f.slots.set i v).length:Int)=_;rw[List.length_set];exact h.sl,h.pl,h.dec⟩
theorem cS.cut{p:ab}{R:RS}(h:cS p R)(h1:1<=R.nf)(hp:R.ah.path.length≠0):cS p R.cut/\R.cut.left+1=R.left:=by
 have hnf:=h.ok.nf;have hjp:=h.ok.jp;have hu:∀k,nth R.cut.aJ k=if k=R.nf-1 then{ R.ah with path:=R.ah.path.take (R.ah.path.length-1) }else nth R.aJ k:=fun k=>Go.Gd.bc _ _ _ _ jB
 refine⟨⟨⟨by show R.nf<=(R.aJ.set _ _).length;rw[List.length_set];exact hnf,by show(R.jp.set _ _).length=(R.aJ.set _ _).length;rw[List.length_set,List.length_set];exact hjp⟩,by show(R.aJ.set _ _).length<=8;rw[List.length_set];exact h.aJ,fun k hk=>?_,fun k hk=>?_,h.go⟩,?_⟩
 ·rw[hu]
  split
  ·exact Jy (h.fr _ jB) _
  ·exact h.fr k hk
 ·have hk:k+1<R.nf:=hk
  rw[hu,jN];exact h.busy k hk
 ·obtain⟨m,hm⟩:∃m,R.nf=m+1:=⟨R.nf-1,jB⟩
  show pA _ R.nf+1=pA _ R.nf;have hm':R.nf-1=m:=jB
  have ht:(nth R.aJ m).path.length≠0:=by unfold RS.ah at hp;rw[hm']at hp;exact hp
  rw[hm];unfold pA;rw[zA (n:=m) (g:=fun k=>(nth R.aJ k).path.length+1) fun k hk=>by rw[hu,jN]];rw[hu,if_pos hm'.symm];show _+((R.ah.path.take (R.ah.path.length-1)).length+1)+1=_+((nth R.aJ m).path.length+1);have:R.ah=nth R.aJ m:=by unfold RS.ah;rw[hm']
  rw[this,List.length_take];omega
theorem cS.bI{p:ab}{R:RS}(h:cS p R)(h1:1<=R.nf)(v:ak):cS p (R.bI p v)/\(R.bI p v).left<R.left/\(R.bI p v).nf=R.nf-1:=by
 have hnf:=h.ok.nf;have hjp:=h.ok.jp;obtain⟨m,hm⟩:∃m,R.nf=m+1:=⟨R.nf-1,jB⟩;have hsz:pA (fun k=>(nth R.aJ k).path.length+1) m<R.left:=by
  unfold RS.left;rw[hm];show _<pA (fun k=>(nth R.aJ k).path.length+1) m+((nth R.aJ m).path.length+1);omega
 unfold RS.bI;split
 ·rename_i h2
  refine⟨⟨⟨by show R.nf-1<=R.aJ.length;omega,hjp⟩,h.aJ,fun k hk=>?_,fun k hk=>?_,fun e=>(e rfl).elim⟩,?_,rfl⟩
  ·exact h.fr k (by have hk:k<R.nf-1:=hk;omega)
  ·exact h.busy k (by have hk:k+1<R.nf-1:=hk;omega)
  ·show pA _ (R.nf-1)<_
   rw[show R.nf-1=m from jB];exact hsz
 ·rename_i h2
  have hb:=h.busy (R.nf-1-1) jB;have hf:=h.fr (R.nf-1-1) jB;have key:∀Q:RS,Q.nf=R.nf-1->Q.aJ.length=R.aJ.length->Q.jp=R.jp->(∀k,k≠R.nf-1-1->nth Q.aJ k=nth R.aJ k)->dc p (nth Q.aJ (R.nf-1-1))->(nth Q.aJ (R.nf-1-1)).path.length=(nth R.aJ (R.nf-1-1)).path.length->cS p Q/\Q.left<R.left/\Q.nf=R.nf-1:=fun Q q1 q2 q3 q4 q5 q6=>by
   refine⟨⟨⟨jB,by rw[q3,q2];exact hjp⟩,by rw[q2];exact h.aJ,fun k hk=>?_,fun k hk=>?_,fun _=>jB⟩,?_,q1⟩
   ·by_cases e:k=R.nf-1-1
    ·subst e;exact q5
    ·rw[q4 k e];exact h.fr k jB
   ·rw[q4 k jB];exact h.busy k jB
   ·unfold RS.left
    rw[q1,show R.nf-1=m from jB,zA (g:=fun k=>(nth R.aJ k).path.length+1) fun k hk=>?_]
    ·exact hsz
    ·by_cases e:k=R.nf-1-1
     ·subst e;show _+1=_+1;rw[q6]
     ·show _+1=_+1;rw[q4 k e]
  have hk:R.nf-1-1<R.aJ.length:=jB
  split
  ·have hu:∀k,nth (R.pop.fC p (cn p R.pop.st) v).aJ k=if k=R.nf-1-1 then{ nth R.aJ (R.nf-1-1)with slots:=(nth R.aJ (R.nf-1-1)).slots.set (nth p.slots (cn p R.pop.st).toNat).toNat v }else nth R.aJ k:=fun k=>RS.bc (R:=R.pop) hk _ k
   have hl:(R.pop.fC p (cn p R.pop.st) v).aJ.length=R.aJ.length:=RS.bB.symm;have hu2:∀k,nth (R.pop.fC p (cn p R.pop.st) v).on.aJ k=if k=R.nf-1-1 then fz (nth (R.pop.fC p (cn p R.pop.st) v).aJ (R.nf-1-1))else nth (R.pop.fC p (cn p R.pop.st) v).aJ k:=fun k=>RS.bc (by rw[hl];exact hk) _ k
   refine key _ rfl (RS.bB.symm.trans hl) rfl (fun k hk'=>by rw[hu2,if_neg hk',hu,if_neg hk']) ?_ ?_
   ·rw[hu2,if_pos rfl,hu,if_pos rfl]
    exact yQ (DP hf _ _) hb
   ·rw[hu2,if_pos rfl,hu,if_pos rfl]
    simp[fz]
  ·have hu2:∀k,nth R.pop.on.aJ k=if k=R.nf-1-1 then fz (nth R.aJ (R.nf-1-1))else nth R.aJ k:=fun k=>RS.bc (R:=R.pop) hk _ k
   refine key _ rfl RS.bB.symm rfl (fun k hk'=>by rw[hu2,if_neg hk']) ?_ ?_
   ·rw[hu2,if_pos rfl];exact yQ hf hb
   ·rw[hu2,if_pos rfl];simp[fz]
end Go.Proofs.YtfkgcobaheegbaaGreatDoor
namespace Go.Gd
open Go
def RS.of(s:aK):RS:=⟨s.ao,s.ao.length,s.ao.map fun _=>[],s.heap,s.in_,s.ay,s.status,s.bn,s.time⟩
def RS.push(R:RS)(f:aI):RS:={ R with aJ:=R.aJ++[f],nf:=R.nf+1,jp:=R.jp++[[]] }
def RS.store(R:RS)(p:ab)(node:Int)(v:ak):RS:=(R.fC p node v).on
def RS.bq(R:RS)(block:Int):RS:=R.aQ (R.nf-1) { R.ah with path:=R.ah.path++[⟨block,0⟩] }
def iJ(p:ab)(fn:Int)(args:List ak):aI:=⟨fn,args++List.replicate ((nth p.size fn.toNat)-args.length).toNat v0,[⟨(nth p.aa.ap fn.toNat).body,0⟩]⟩
def FP:aK:=⟨[],[],0,[],0,0,0⟩
def jn(p:ab):Int:=fX aW.name (⟨#[109,97,105,110]⟩:ByteArray) p.aa.ap 0
def oi(p:ab):aK:=((RS.of { FP with ao:=[iJ p (jn p) []] }).settle p).st
def fG(p:ab)(s:aK):Int:=if s.status=2\/s.status=3 then -1 else cn p s
def io(n:Int)(l:List Int):Int:=n+l.length
def fg(h:List (List Int)):Int:=h.foldl io (h.length:Int)
def RS.val(R:RS)(p:ab)(node:Int):ak×Int:=dZ p R.ah.slots R.heap p.aa.nodes.length node
def RS.args(R:RS)(p:ab):List Int->List ak->List ak×Int
 |[],a=>(a,0)
 |x::l,a=>if(R.val p x).2≠0 then(a,(R.val p x).2)else R.args p l (a++[(R.val p x).1])
def ai(p:ab)(a:Int):bh:=nth p.aa.nodes a.toNat
def RS.call(R:RS)(p:ab)(node:Int):RS×Int:=
 let a:=R.args p (ai p node).l []
 if a.2≠0 then(R,a.2)
 else if 8<=R.nf then(R,3)
 else(R.push (iJ p (fX aW.name (ai p node).name p.aa.ap 0) a.1),0)
def RS.fresh(R:RS)(p:ab)(node:Int):RS×ak×Int:=
 let v:=R.val p (nth (ai p node).l 0)
 if v.2≠0 then(R,v0,v.2)
 else if v.1.n<0\/16<v.1.n then(R,v0,7)
 else if 40<fg R.heap+v.1.n+1 then(R,v0,4)
 else({ R with heap:=R.heap++[List.replicate v.1.n.toNat 0] },⟨4,R.heap.length+1,sE⟩,0)
def RS.right(R:RS)(p:ab)(node:Int)(inp:List Int):RS×Int:=
 let x:=nth (ai p node).l 0
 let k:=(ai p x).kind
 if k=21 then R.call p x
 else if k=19 then(({ R with in_:=R.in_+1 }:RS).store p node (vI (nth inp R.in_.toNat)),0)
 else if k=20 then
  let r:=R.fresh p x
  if r.2.2=0 then(r.1.store p node r.2.1,0)else(r.1,r.2.2)
 else
  let v:=R.val p x
  if v.2=0 then(R.store p node v.1,0)else(R,v.2)
def RS.put(R:RS)(p:ab)(node:Int):RS×Int:=
 let x:=R.val p (nth (ai p node).l 0)
 let y:=R.val p (nth (ai p node).l 1)
 let v:=df R.ah.slots (nth p.slots node.toNat) 4
 if x.2≠0 then(R,x.2)
 else if y.2≠0 then(R,y.2)
 else if x.1.n<0\/((lg R.heap v).length:Int)<=x.1.n then(R,2)
 else(({ R with heap:=R.heap.set (v.n-1).toNat ((nth R.heap (v.n-1).toNat).set x.1.n.toNat y.1.n) }:RS).on,0)
def zp(n:Int):ByteArray:=⟨(Lib.itoa n).toArray⟩
def jW(v:ak):ByteArray:=
 if v.ty=1 then zp v.n
 else if v.ty=2 then(if v.n=1 then(⟨#[116,114,117,101]⟩:ByteArray)else(⟨#[102,97,108,115,101]⟩:ByteArray))
 else if v.ty=3 then v.s
 else if v.ty=4 then(⟨#[108,105,115,116]⟩:ByteArray)
 else sE
def RS.cr(R:RS)(p:ab)(node:Int)(inp:List Int):RS×Int:=
 let n:=ai p node
 let v:=R.val p (nth n.l 0)
 if n.kind=10\/n.kind=11 then R.right p node inp
 else if n.kind=13 then R.call p (nth n.l 0)
 else if n.kind=12 then R.put p node
 else if n.kind=17 then
  (if n.l.length=0 then(R.bI p v0,0)
  else if v.2≠0 then(R,v.2)else(R.bI p v.1,0))
 else if v.2≠0 then(R,v.2)
 else if n.kind=14 then
  (if 24<=R.ay.length then(R,5)else(({ R with ay:=R.ay++[jW v.1] }:RS).on,0))
 else if n.kind=15 then
  (if v.1.n=1 then(R.on.bq (nth n.l 1),0)
  else if n.l.length=3 then(R.on.bq (nth n.l 2),0)else(R.on,0))
 else if n.kind=16 then
  (if v.1.n=1 then(R.bq (nth n.l 1),0)else(R.on,0))
 else(R,0)
def mf(p:ab)(s:aK)(node:Int)(inp:List Int):Prop:=kU p node/\(ai p (nth (ai p node).l 0)).kind=19/\(inp.length:Int)<=s.in_
instance (p:ab)(s:aK)(node:Int)(inp:List Int):Decidable (mf p s node inp):=by unfold mf;infer_instance
def hZ(p:ab)(s:aK)(inp:List Int):aK:=
 if fG p s<0 then s
 else if mf p s (fG p s) inp then{ s with status:=1 }
 else
  let r:=(RS.of { s with status:=0 }).cr p (fG p s) inp
  if r.2≠0 then{ s with status:=3,bn:=r.2,time:=s.time+1 }
  else(({ r.1 with time:=s.time+1 }:RS).settle p).st
def oL(p:ab)(inp:List Int):Nat->aK
 |0=>oi p
 |n+1=>hZ p (oL p inp n) inp
end Go.Gd

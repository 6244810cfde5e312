/- Lemmas. No conditions. -/
import Derived.Test.YtfkgcobaheegbaaGreatDoorSlF
set_option linter.all false
namespace Go.Gd
open Go
structure RS where
 aK:List aI
 nf:Nat
 jp:List (List bf)
 heap:List (List Int)
 in_:Int
 ax:List ByteArray
 status:Int
 aZ:Int
 time:Int
namespace RS
def st(R:RS):aJ:=⟨R.aK.take R.nf,R.heap,R.in_,R.ax,R.status,R.aZ,R.time⟩
structure Ok(R:RS):Prop where
 nf:R.nf<=R.aK.length
 jp:R.jp.length=R.aK.length
def fr(R:RS)(k:Nat):List AV:=[.raw (.int .i64 (nth R.aK k).fn),.rs (bY 0 k) (nth R.aK k).slots.length 3 (nth R.aK k).slots.length,.rs (bY 1 k) ((nth R.aK k).path.length+(nth R.jp k).length) 2 (nth R.aK k).path.length]
def sl(R:RS)(k:Nat):Row:=.aL 59 3 ((nth R.aK k).slots.map cv)
def pt(R:RS)(k:Nat):Row:=.aL 89 2 (((nth R.aK k).path++nth R.jp k).map qc)
def hp(R:RS)(k:Nat):Row:=.aL 3 1 ((nth R.heap k).map eI)
def c(R:RS):List AV:=[.rs 1 R.aK.length 3 R.nf,.rs 2 R.heap.length 1 R.heap.length,.raw (.int .i64 R.in_),.rs 3 R.ax.length 1 R.ax.length,.raw (.int .i64 R.status),.raw (.int .i64 R.aZ),.raw (.int .i64 R.time)]
def e(t:TypeId)(pre post:List AV)(R:RS)(tl:List (Nat×Row)):List (Nat×Row):=
 (0,.var t (pre++R.c++post))::(1,.aL 57 3 (iy R.aK.length R.fr))::(2,.aL 22 1 (iy R.heap.length fun k=>[.rs (bY 2 k) (nth R.heap k).length 1 (nth R.heap k).length]))::(3,.aL 9 1 (R.ax.map eS)) ::
  cK 0 R.aK.length R.sl (cK 1 R.aK.length R.pt (cK 2 R.heap.length R.hp tl))
end RS
attribute [go_sem] RS.fr RS.sl RS.pt RS.hp RS.c RS.e
theorem bh{α:Type}[Inhabited α](l:List α)(i k:Nat)(v:α)(h:i<l.length):nth (l.set i v) k=if k=i then v else nth l k:=by
 unfold nth;rw[List.getD_eq_getElem?_getD,List.getElem?_set,List.getD_eq_getElem?_getD];by_cases e:i=k
 ·subst e;simp[h]
 ·rw[if_neg e,if_neg (fun h=>e h.symm)]
theorem dv.ud{D:Nat->Bool}{H:Hp}{dd:List AV}{i sz m n:Nat}{e:TypeId}{α:Type}{enc:α->List AV}[he:bG enc sz](l more:List α)(hD:D i=true)(hi:H.get i=some (.aL e sz ((l++more).map enc)))(hm:m=l.length+more.length)(hn:n=l.length):dv D H (.rs i m sz n) (.sl false sz (l.map enc) dd):=
 .Ce dd i sz m n e _ _ hD hi jF jB jF (fun ds hds=>by obtain⟨x,_,rfl⟩:=List.mem_map.1 hds;exact he.len x) (lJ l) fun k j c d hk h1 h2=>by
  have hk':k<l.length:=jB;have e1:((l++more).map enc).getD k []=enc l[k]:=by rw[List.map_append,List.getD_eq_getElem?_getD,List.getElem?_append_left (by simpa using hk')];simp[hk']
  have e2:(l.map enc).getD k []=enc l[k]:=by simp[hk']
  rw[e1]at h1;rw[e2,h1]at h2;cases h2;exact .same c (rZ (fun _ h=>by cases h) _ (mz (he.free _) h1))
variable{t:TypeId}{R:RS}{tl:List (Nat×Row)}
theorem RS.tD{pre post:List AV}:av (R.e t pre post tl) 0=some (.var t (pre++R.c++post)):=rfl
theorem RS.tW{pre post:List AV}:av (R.e t pre post tl) 1=some (.aL 57 3 (iy R.aK.length R.fr)):=rfl
theorem RS.tg{pre post:List AV}:av (R.e t pre post tl) 2=some (.aL 22 1 (iy R.heap.length fun k=>[.rs (bY 2 k) (nth R.heap k).length 1 (nth R.heap k).length])):=rfl
theorem RS.tc{pre post:List AV}:av (R.e t pre post tl) 3=some (.aL 9 1 (R.ax.map eS)):=rfl
theorem RS.pO{pre post:List AV}(i:Nat)(h:1000<=i):av (R.e t pre post tl) i=av (cK 0 R.aK.length R.sl (cK 1 R.aK.length R.pt (cK 2 R.heap.length R.hp tl))) i:=by unfold RS.e;simp only[av];rw[jN,jN,jN,jN]
variable{k:Nat}
theorem RS.pg{pre post:List AV}(h:k<R.aK.length):av (R.e t pre post tl) (bY 0 k)=some (R.sl k):=by rw[RS.pO _ (o6 _ _),tA _ _ _ _ _ jB h]
theorem RS.A3{pre post:List AV}(h:k<R.aK.length):av (R.e t pre post tl) (bY 1 k)=some (R.pt k):=by rw[RS.pO _ (o6 _ _),oU _ _ _ _ _ _ jB jB jB,tA _ _ _ _ _ jB h]
theorem RS.zO{pre post:List AV}(h:k<R.heap.length):av (R.e t pre post tl) (bY 2 k)=some (R.hp k):=by rw[RS.pO _ (o6 _ _),oU _ _ _ _ _ _ jB jB jB,oU _ _ _ _ _ _ jB jB jB,tA _ _ _ _ _ jB h]
theorem Gp(a:Nat)(f:Nat->Row)(l m:List (Nat×Row)):∀(n k:Nat),fX a f k n (l++m)=fX a f k n l++m
 |0,k=>rfl
 |n+1,k=>by unfold fX;rw[Gp a f l m n (k+1)];rfl
theorem rb(a n:Nat)(f:Nat->Row)(l m:List (Nat×Row)):cK a n f (l++m)=cK a n f l++m:=Gp a f l m n 0
theorem jd:∀(l m:List (Nat×Row)) (i:Nat),av (l++m) i=(av l i).or (av m i)
 |[],m,i=>by simp[av]
 |(j,r)::l,m,i=>by
  show(if i=j then some r else av (l++m) i)=((if i=j then some r else av l i):Option Row).or _;split
  ·rfl
  ·exact jd l m i
theorem RS.pv{pre post:List AV}(tl:List (Nat×Row)):R.e t pre post tl=R.e t pre post []++tl:=by unfold RS.e;rw[show tl=[]++tl from rfl,rb,rb,rb];rfl
theorem RS.no{pre post:List AV}(i:Nat)(h:4<=i)(h':i<1000):av (R.e t pre post []) i=none:=by unfold RS.e;simp only[av];rw[jN,jN,jN,jN,rc _ _ _ _ _ h',rc _ _ _ _ _ h',rc _ _ _ _ _ h'];rfl
def low(tl:List (Nat×Row)):Prop:=∀i r,av tl i=some r->4<=i/\i<1000
theorem RS.lays{pre post:List AV}(h:low tl):Lays (fun tl=>R.e t pre post tl) tl:=⟨fun i=>by rw[RS.pv,jd],fun i r hi=>RS.no i (h i r hi).1 (h i r hi).2⟩
variable{pre' post':List AV}{R':RS}
theorem RS.size{pre post:List AV}(h1:R.aK.length<=R'.aK.length)(h2:R.heap.length<=R'.heap.length)(i:Nat)(h:av (R.e t pre post []) i≠none):av (R'.e t pre' post' []) i≠none:=by
 by_cases h0:i=0
 ·subst h0;rw[RS.tD];simp
 by_cases h1':i=1
 ·subst h1';rw[RS.tW];simp
 by_cases h2':i=2
 ·subst h2';rw[RS.tg];simp
 by_cases h3':i=3
 ·subst h3';rw[RS.tc];simp
 by_cases h4:i<1000
 ·exact(h (RS.no i jB h4)).elim
 rw[RS.pO i jB]at h ⊢;rcases uv 0 R.aK.length jB R.sl (cK 1 R.aK.length R.pt (cK 2 R.heap.length R.hp [])) i with⟨k,hk,rfl,e⟩|⟨_,e⟩
 ·rw[tA _ _ _ _ _ jB jB];simp
 rw[e]at h;rcases uv 1 R.aK.length jB R.pt (cK 2 R.heap.length R.hp []) i with⟨k,hk,rfl,e⟩|⟨_,e⟩
 ·rw[oU _ _ _ _ _ _ jB jB jB,tA _ _ _ _ _ jB jB];simp
 rw[e]at h;rcases uv 2 R.heap.length jB R.hp [] i with⟨k,hk,rfl,e⟩|⟨_,e⟩
 ·rw[oU _ _ _ _ _ _ jB jB jB,oU _ _ _ _ _ _ jB jB jB,tA _ _ _ _ _ jB jB];simp
 rw[e]at h;exact(h rfl).elim
theorem gX:∀(l:List (Nat×Row)) (i:Nat),i∈ids l<->av l i≠none
 |[],i=>by simp[ids,av]
 |(j,r)::l,i=>by
  have:=gX l i;simp only[ids,List.map_cons,List.mem_cons,av]at this ⊢;by_cases e:i=j
  ·simp[e]
  ·rw[if_neg e];simp only[e,false_or];exact this
variable{l:List (Nat×Row)}
theorem gG{i:Nat}{r:Row}(h:av l i=some r):(ids l).contains i=true:=List.contains_iff_mem.2 ((gX l i).2 (by rw[h];simp))
theorem Ib(a:Nat)(f:Nat->Row)(l:List (Nat×Row)):∀(n k:Nat),ids (fX a f k n l)=(List.range' k n).map (bY a)++ids l
 |0,k=>rfl
 |n+1,k=>by unfold fX;rw[List.range'_succ];show bY a k::ids (fX a f (k+1) n l)=_;rw[Ib a f l n (k+1)];rfl
theorem Bh{a n:Nat}{f:Nat->Row}(ha:a<8)(h:(ids l).Nodup)(hl:∀k,k<n->av l (bY a k)=Option.none):(ids (cK a n f l)).Nodup:=by
 unfold cK;rw[Ib,List.nodup_append];refine⟨?_,h,fun x hx y hy e=>?_⟩
 ·refine List.Pairwise.map _ (fun x y hxy e=>?_) (List.nodup_range' (step:=1) (s:=0) (n:=n) jB);exact hxy (ry ha ha e).2
 ·obtain⟨k,hk,rfl⟩:=List.mem_map.1 hx;subst e;exact(gX _ _).1 hy (hl k (by simp at hk;omega))
theorem nodup_cons{l:List (Nat×Row)}{i:Nat}{r:Row}(h:(ids l).Nodup)(hl:av l i=Option.none):(ids ((i,r)::l)).Nodup:=List.nodup_cons.2 ⟨fun hm=>(gX _ _).1 hm hl,h⟩
theorem RS.nodup{pre post:List AV}:(ids (R.e t pre post [])).Nodup:=by
 have f2:∀i,i<1000->av (cK 0 R.aK.length R.sl (cK 1 R.aK.length R.pt (cK 2 R.heap.length R.hp []))) i=Option.none:=fun i h=>by rw[rc _ _ _ _ _ h,rc _ _ _ _ _ h,rc _ _ _ _ _ h];rfl
 unfold RS.e;refine nodup_cons (nodup_cons (nodup_cons (nodup_cons (Bh jB (Bh jB (Bh jB List.nodup_nil (fun k _=>rfl)) fun k _=>?_) fun k _=>?_) ?_) ?_) ?_) ?_
 ·rw[oU _ _ _ _ _ _ jB jB jB];rfl
 ·rw[oU _ _ _ _ _ _ jB jB jB,oU _ _ _ _ _ _ jB jB jB];rfl
 ·exact f2 3 jB
 ·show(if(2:Nat)=3 then _ else _)=_;rw[jN];exact f2 2 jB
 ·show(if(1:Nat)=2 then _ else if(1:Nat)=3 then _ else _)=_;rw[jN,jN];exact f2 1 jB
 ·show(if(0:Nat)=1 then _ else if(0:Nat)=2 then _ else if(0:Nat)=3 then _ else _)=_;rw[jN,jN,jN];exact f2 0 jB
theorem qD(q:Nat->Bool):∀(l m:List AV),aW q (l++m)=(aW q l && aW q m)
 |[],m=>by simp[aW]
 |a::l,m=>by simp only[List.cons_append,aW,qD q l m,Bool.and_assoc]
theorem o3{q:Nat->Bool}{l:List (List AV)}(h:QL q l):aW q l.flatten=true:=by
 induction l with
 |nil=>rfl
 |cons x l ih=>rw[List.flatten_cons,qD,h x jE,ih fun y hy=>h y (by simp[hy])];rfl
theorem RS.closed{pre post:List AV}(h1:aW dY pre=true)(h2:aW dY post=true):∀i r,av (R.e t pre post []) i=some r->aW (fun i=>(ids (R.e t pre post [])).contains i) r.cells=true:=fun i r h=>by
 have up:∀{l},aW dY l=true->aW (fun i=>(ids (R.e t pre post [])).contains i) l=true:=fun h=>fh (fun _ h=>by cases h) _ h
 have c1:=gG (RS.tW (t:=t) (pre:=pre) (post:=post) (R:=R) (tl:=[]));have c2:=gG (RS.tg (t:=t) (pre:=pre) (post:=post) (R:=R) (tl:=[]));have c3:=gG (RS.tc (t:=t) (pre:=pre) (post:=post) (R:=R) (tl:=[]));by_cases h0:i=0
 ·subst h0;rw[RS.tD]at h;cases h;show aW _ (pre++R.c++post)=true;rw[qD,qD,up h1,up h2];simp only[RS.c,aW,AV.all,c1,c2,c3,Bool.and_self]
 by_cases h1':i=1
 ·subst h1';rw[RS.tW]at h;cases h;exact o3 (we fun k hk=>by have a:=gG (RS.pg (t:=t) (pre:=pre) (post:=post) (R:=R) (tl:=[]) hk);have b:=gG (RS.A3 (t:=t) (pre:=pre) (post:=post) (R:=R) (tl:=[]) hk);simp only[RS.fr,aW,AV.all,a,b,Bool.and_self])
 by_cases h2':i=2
 ·subst h2';rw[RS.tg]at h;cases h;exact o3 (we fun k hk=>by have a:=gG (RS.zO (t:=t) (pre:=pre) (post:=post) (R:=R) (tl:=[]) hk);simp only[aW,AV.all,a,Bool.and_self])
 by_cases h3':i=3
 ·subst h3';rw[RS.tc]at h;cases h;exact up (o3 (lJ (enc:=eS) (sz:=1) _))
 by_cases h4:i<1000
 ·rw[RS.no i jB h4]at h;cases h
 rw[RS.pO i jB]at h;rcases uv 0 R.aK.length jB R.sl (cK 1 R.aK.length R.pt (cK 2 R.heap.length R.hp [])) i with⟨k,hk,rfl,e⟩|⟨_,e⟩
 ·rw[e]at h;cases h;exact up (o3 (lJ (enc:=cv) (sz:=3) _))
 rw[e]at h;rcases uv 1 R.aK.length jB R.pt (cK 2 R.heap.length R.hp []) i with⟨k,hk,rfl,e⟩|⟨_,e⟩
 ·rw[e]at h;cases h;exact up (o3 (lJ (enc:=qc) (sz:=2) _))
 rw[e]at h;rcases uv 2 R.heap.length jB R.hp [] i with⟨k,hk,rfl,e⟩|⟨_,e⟩
 ·rw[e]at h;cases h;exact up (o3 (lJ (enc:=eI) (sz:=1) _))
 rw[e]at h;cases h
theorem cE{P:Program}{f:FuncId}{args:List AV}{H:Hp}{K:AV->Hp->Prop}{pre post:List AV}{r0:AV}{B:List Nat}(hc:aj P f args (R.e t pre post []) fun r l'=>r=r0/\l'=R'.e t pre' post' [])(hH:H=⟨B,R.e t pre post tl⟩)
  (h1:R.aK.length<=R'.aK.length) (h2:R.heap.length<=R'.heap.length) (hp:aW dY pre=true) (hq:aW dY post=true) (hl:low tl) (ha:aW (fun i=>decide (i=0)) args=true) (h0:bz P f=true) (k:K r0 ⟨B,R'.e t pre' post' tl⟩):fI P (.raw (.func (.func f) #[] #[])) args H K:=by
 subst hH;refine o7 h0 (D6 (E:=fun tl=>R.e t pre post tl) (E':=fun tl=>R'.e t pre' post' tl) hc (RS.lays hl) (RS.lays hl) RS.nodup (fh (fun i hi=>?_) _ ha) (RS.closed hp hq) k (RS.size h1 h2));have:i=0:=of_decide_eq_true hi;subst this;exact gG RS.tD
theorem wx(D:Nat->Bool):∀(l m:List (Nat×Row)),eu D (l++m)=eu D l++eu D m
 |[],m=>rfl
 |(j,r)::l,m=>by show(bif D j then eu D (l++m)else(j,r)::eu D (l++m))=(bif D j then eu D l else(j,r)::eu D l)++_;rw[wx D l m];cases D j<;>rfl
theorem v8(D:Nat->Bool):∀(l:List (Nat×Row)),(∀i∈ids l,D i=false)->eu D l=l
 |[],_=>rfl
 |(j,r)::l,h=>by show(bif D j then eu D l else(j,r)::eu D l)=_;rw[h j (by simp[ids]),v8 D l fun i hi=>h i (by simp[ids]at hi ⊢;exact .inr hi)];rfl
theorem CP(D:Nat->Bool):∀(l:List (Nat×Row)),(∀i∈ids l,D i=true)->eu D l=[]
 |[],_=>rfl
 |(j,r)::l,h=>by show(bif D j then eu D l else(j,r)::eu D l)=_;rw[h j (by simp[ids]),CP D l fun i hi=>h i (by simp[ids]at hi ⊢;exact .inr hi)];rfl
theorem wj(D:Nat->Bool):∀(l m:List (Nat×Row)),gJ D l->gJ D m->gJ D (l++m)
 |[],m,_,h=>h
 |(j,r)::l,m,h,k=>⟨h.1,wj D l m h.2 k⟩
theorem AZ(D:Nat->Bool):∀(l:List (Nat×Row)),(∀i∈ids l,D i=true)->gJ D l
 |[],_=>trivial
 |(j,r)::l,h=>⟨.inl (h j (by simp[ids])),AZ D l fun i hi=>h i (by simp[ids]at hi ⊢;exact .inr hi)⟩
theorem Cp{q:Nat->Bool}:∀{l:List (List AV)},aW q l.flatten=true->QL q l
 |[],_,x,hx=>by simp at hx
 |a::l,h,x,hx=>by
  rw[List.flatten_cons,CO,Bool.and_eq_true]at h;rcases List.mem_cons.1 hx with rfl|hx
  ·exact h.1
  ·exact Cp h.2 x hx
theorem Kg{q:Nat->Bool}:∀{r:Row},aW q r.cells=true->pX q r
 |.var _ _,h=>h
 |.aL _ _ _,h=>Cp h
 |.mp _ _,h=>h
theorem v7(D:Nat->Bool):∀(l:List (Nat×Row)),(ids l).Nodup->(∀i r,av l i=some r->aW (fF D) r.cells=true)->gJ D l
 |[],_,_=>trivial
 |(j,r)::l,hn,h=>by
  have hn':=List.nodup_cons.1 hn;refine⟨.inr (Kg (h j r (by simp[av]))),v7 D l hn'.2 fun i r' hi=>h i r' ?_⟩;have:i≠j:=fun e=>by subst e;exact hn'.1 ((gX l i).2 (by rw[hi];simp))
  simp only[av,if_neg this];exact hi
def ie:Nat->Bool:=fun i=>decide (4<=i/\i<1000)
theorem RS.ie{t:TypeId}{pre post:List AV}{R:RS}{i:Nat}(h:i∈ids (R.e t pre post [])):ie i=false:=by
 unfold Go.Gd.ie;refine decide_eq_false fun h'=>?_
 exact(gX _ _).1 h (RS.no i h'.1 h'.2)
theorem RS.free{t':TypeId}{pre post:List AV}{B:List Nat}(hB:ids (R.e t pre post [])=B)(hl:low tl)(hp:aW dY pre'=true)(hq:aW dY post'=true) :
  B.all (fF Go.Gd.ie)=true/\gJ Go.Gd.ie (R'.e t' pre' post' tl)/\eu Go.Gd.ie (R'.e t' pre' post' tl)=R'.e t' pre' post' []:=by
 have htl:∀i∈ids tl,Go.Gd.ie i=true:=fun i hi=>by obtain⟨r,hr⟩:=Option.ne_none_iff_exists'.1 ((gX _ _).1 hi);exact decide_eq_true (hl i r hr)
 refine⟨?_,?_,?_⟩
 ·rw[List.all_eq_true];intro i hi;rw[<-hB]at hi;unfold fF;rw[RS.ie hi];rfl
 ·rw[RS.pv];refine wj _ _ _ (v7 _ _ RS.nodup fun i r hi=>fh (fun j hj=>?_) _ (RS.closed hp hq i r hi)) (AZ _ _ htl);unfold fF;rw[RS.ie (List.contains_iff_mem.1 hj)];rfl
 ·rw[RS.pv,wx,v8 _ _ (fun i hi=>RS.ie hi),CP _ _ htl,List.append_nil]
def RS.aQ(R:RS)(k:Nat)(f:aI):RS:={ R with aK:=R.aK.set k f }
theorem RS.bh{R:RS}{k:Nat}(h:k<R.aK.length)(f:aI)(j:Nat):nth (R.aQ k f).aK j=if j=k then f else nth R.aK j:=Go.Gd.bh _ _ _ _ h
theorem RS.bB{f:aI}:R.aK.length=(R.aQ k f).aK.length:=by simp[RS.aQ]
def dD(p:ab)(b:Int):List Int:=(nth p.aa.nodes b.toNat).l
def aJ.af(s:aJ):aI:=nth s.aq (s.aq.length-1)
def aI.pl(f:aI):bf:=nth f.path (f.path.length-1)
def cu(p:ab)(s:aJ):Int:=nth (dD p s.af.pl.block) s.af.pl.at_.toNat
def fK(f:aI):aI:={ f with path:=f.path.set (f.path.length-1) ⟨(nth f.path (f.path.length-1)).block,(nth f.path (f.path.length-1)).at_+1⟩ }
def RS.on(R:RS):RS:=R.aQ (R.nf-1) (fK (nth R.aK (R.nf-1)))
structure uc(R:RS):Prop where
 ok:R.Ok
 nf:1<=R.nf
 aK:R.aK.length<=1000
 pa:1<=(nth R.aK (R.nf-1)).path.length
 AG:(nth R.aK (R.nf-1)).path.length<=1000
 a0:0<=(nth R.aK (R.nf-1)).pl.at_
 a1:(nth R.aK (R.nf-1)).pl.at_<=1000000
theorem uc.aQ{R:RS}(h:uc R){f:aI}(e:f.path=(nth R.aK (R.nf-1)).path):uc (R.aQ (R.nf-1) f):=by
 have hu:nth (R.aQ (R.nf-1) f).aK ((R.aQ (R.nf-1) f).nf-1)=f:=by have h1:=h.nf;have h2:=h.ok.nf;show nth (R.aQ (R.nf-1) f).aK (R.nf-1)=f;rw[RS.bh jB,if_pos rfl]
 have hl:(R.aQ (R.nf-1) f).aK.length=R.aK.length:=RS.bB.symm;refine⟨⟨by rw[hl];exact h.ok.nf,by rw[hl];exact h.ok.jp⟩,h.nf,by rw[hl];exact h.aK,by rw[hu,e];exact h.pa,by rw[hu,e];exact h.AG,?_,?_⟩
 ·rw[hu];unfold aI.pl;rw[e];exact h.a0
 ·rw[hu];unfold aI.pl;rw[e];exact h.a1
end Go.Gd
namespace Go.Proofs.YtfkgcobaheegbaaGreatDoor
open Go Go.Gd
end Go.Proofs.YtfkgcobaheegbaaGreatDoor
namespace Go.Gd
open Go
def kJ(p:ab)(node:Int):Prop:=(nth p.aa.nodes node.toNat).kind=10\/(nth p.aa.nodes node.toNat).kind=11
instance (p:ab)(node:Int):Decidable (kJ p node):=by unfold kJ;infer_instance
structure ru(p:ab)(s:aJ):Prop where
 fr:1<=s.aq.length
 aK:s.aq.length<=1000
 pa:1<=s.af.path.length
 AG:s.af.path.length<=1000
 b0:0<=s.af.pl.block
 b1:s.af.pl.block<p.aa.nodes.length
 a0:0<=s.af.pl.at_
 a1:s.af.pl.at_<(dD p s.af.pl.block).length
 NP:s.af.pl.at_<=1000000
 n0:0<=cu p s
 n1:cu p s<p.aa.nodes.length
 sl:p.slots.length=p.aa.nodes.length
 s0:kJ p (cu p s)->0<=nth p.slots (cu p s).toNat/\nth p.slots (cu p s).toNat<s.af.slots.length
def RS.pop(R:RS):RS:={ R with nf:=R.nf-1 }
def RS.fS(R:RS)(p:ab)(node:Int)(v:ak):RS:=R.aQ (R.nf-1) { nth R.aK (R.nf-1)with slots:=(nth R.aK (R.nf-1)).slots.set (nth p.slots node.toNat).toNat v }
def RS.bL(R:RS)(p:ab)(v:ak):RS:=
 if R.nf<=1 then{ R.pop with status:=2 }
 else if kJ p (cu p R.pop.st)then(R.pop.fS p (cu p R.pop.st) v).on else R.pop.on
theorem RS.af{R:RS}(h:R.Ok)(h1:1<=R.nf):R.st.af=nth R.aK (R.nf-1):=by
 have:=h.nf;unfold RS.st aJ.af;simp only;have hl:(R.aK.take R.nf).length=R.nf:=by simp;omega
 rw[hl,dN jB,dN jB];simp
end Go.Gd
namespace Go.Proofs.YtfkgcobaheegbaaGreatDoor
open Go Go.Gd
end Go.Proofs.YtfkgcobaheegbaaGreatDoor
namespace Go.Gd
open Go
def RS.ah(R:RS):aI:=nth R.aK (R.nf-1)
def RS.cut(R:RS):RS:={ R with aK:=R.aK.set (R.nf-1) { R.ah with path:=R.ah.path.take (R.ah.path.length-1) },jp:=R.jp.set (R.nf-1) (R.ah.pl::nth R.jp (R.nf-1)) }
def pU(f:Nat->Nat):Nat->Nat
 |0=>0
 |n+1=>pU f n+f n
theorem CA{f g:Nat->Nat}:∀{n:Nat},(∀k,k<n->f k=g k)->pU f n=pU g n
 |0,_=>rfl
 |n+1,h=>by unfold pU;rw[CA (n:=n) fun k hk=>h k jB,h n jB]
def RS.left(R:RS):Nat:=pU (fun k=>(nth R.aK k).path.length+1) R.nf
def jL(p:ab):Nat->RS->RS
 |0,R=>R
 |n+1,R=>
  if R.status=2 then R
  else if R.ah.path.length=0 then jL p n (R.bL p (vZ (nth p.aa.ao R.ah.fn.toNat).ret))
  else if R.ah.pl.at_<(dD p R.ah.pl.block).length then R
  else jL p n R.cut
def RS.settle(R:RS)(p:ab):RS:=jL p (R.left+1) R
end Go.Gd
namespace Go.Proofs.YtfkgcobaheegbaaGreatDoor
open Go Go.Gd
structure kG(p:ab)(fn:Int)(x:bf):Prop where
 b0:0<=x.block
 lo:ow p.aa fn.toNat<=x.block.toNat
 hi:x.block.toNat<=(nth p.aa.ao fn.toNat).body.toNat
 kind:bt p.aa.nodes x.block=18
 a0:0<=x.at_
 a1:x.at_<=(dD p x.block).length
structure dr(p:ab)(f:aI):Prop where
 f0:0<=f.fn
 f1:f.fn<p.aa.ao.length
 sl:(f.slots.length:Int)=nth p.size f.fn.toNat
 pl:∀x∈f.path,kG p f.fn x
 dec:(f.path.map (·.block)).Pairwise fun a b=>b<a
def mI(p:ab)(f:aI):Prop:=f.path≠[]/\f.pl.at_<(dD p f.pl.block).length
variable{f:aI}
theorem mD(h:f.path≠[]):f.pl∈f.path:=dT (by have:=List.length_pos_iff.2 h;omega)
theorem Ag{t:List bk}{lo hi:Nat}{L:List Int}(h:aG t lo L hi):lo+L.length<=hi:=by
 induction h with
 |nil=>simp
 |@cons lo c hi L hc h1 h2 i1 i2=> have:=h1.le;simp only[List.length_cons];omega
theorem DE:∀(l:List bf) (n:Nat),(l.Pairwise fun a b=>b.block<a.block)->(∀x∈l,0<=x.block/\x.block<n)->l.length<=n
 |[],n,_,_=>Nat.zero_le _
 |x::l,n,h,hb=>by
  have hx:=hb x jE;have:=DE l x.block.toNat (List.pairwise_cons.1 h).2 fun y hy=>⟨(hb y (by simp[hy])).1,by have:=(List.pairwise_cons.1 h).1 y hy;omega⟩
  simp only[List.length_cons];omega
variable{p:ab}{fn:Int}
theorem kG.in_(h:dx p)(f0:0<=fn)(f1:fn<p.aa.ao.length){x:bf}(hx:kG p fn x):x.block.toNat<p.aa.nodes.length:=by have:=oG h.ok.aa (k:=fn.toNat) jB;have h1:=this.1;have h2:=this.2;have h3:=hx.hi;omega
theorem kG.ay(h:dx p)(f0:0<=fn)(f1:fn<p.aa.ao.length){x:bf}(hx:kG p fn x){a:Int}(ha:a∈dD p x.block):0<=a/\a.toNat<x.block.toNat/\ow p.aa fn.toNat<=a.toNat/\dL (bt p.aa.nodes a):=by
 have hi:=hx.in_ h f0 f1;have sh:=h.ok.aa.shape x.block.toNat hi;have h1:=sh.2.1 a ha;refine⟨h1.1,h1.2,?_,sh.1.block hx.kind a ha⟩;have hc:=(h.ao fn.toNat jB).chain;by_cases e:x.block.toNat<(nth p.aa.ao fn.toNat).body.toNat
 ·exact hc.closed _ hx.lo e a ha
 ·have e:x.block.toNat=(nth p.aa.ao fn.toNat).body.toNat:=by have:=hx.hi;omega
  have ha:a∈(nth p.aa.nodes x.block.toNat).l:=ha;rw[e]at ha;exact(hc.mem a ha).2.1
theorem dr.len(h:dx p)(hf:dr p f):f.path.length<=300:=by
 have:=DE f.path p.aa.nodes.length (List.pairwise_map.1 hf.dec) fun x hx=>⟨(hf.pl x hx).b0,by have:=(hf.pl x hx).in_ h hf.f0 hf.f1;have:=(hf.pl x hx).b0;omega⟩
 have:=h.ok.aa.many;omega
theorem kG.xu(h:dx p)(f0:0<=fn)(f1:fn<p.aa.ao.length){x:bf}(hx:kG p fn x):x.at_<=300:=by have hi:=hx.in_ h f0 f1;obtain⟨lo,hc⟩:=(h.ok.aa.shape x.block.toNat hi).2.2;have:=Ag hc;have:=h.ok.aa.many;have:=hx.a1;unfold dD at this;omega
theorem HM(h:dx p){s:aJ}(h1:1<=s.aq.length)(h2:s.aq.length<=8)(hf:dr p s.af)(hb:mI p s.af):ru p s:=by have hx:=hf.pl _ (mD hb.1);have hi:=hx.in_ h hf.f0 hf.f1;have hb1:=hb.2;have ha0:=hx.a0;have hb0:=hx.b0;have hm:cu p s∈dD p s.af.pl.block:=dT jB;obtain⟨k0,k1,k2,k3⟩:=hx.ay h hf.f0 hf.f1 hm;have hl:=hf.len h;have hat:=hx.xu h hf.f0 hf.f1;refine⟨h1,jB,List.length_pos_iff.2 hb.1,jB,hb0,jB,ha0,hb1,jB,k0,jB,h.ok.slots,fun hls=>?_⟩;have:=(h.ao s.af.fn.toNat (by have:=hf.f0;have:=hf.f1;omega)).all (cu p s).toNat k2 (by have:=hx.hi;omega) (by unfold kJ at hls;unfold iA;omega);have:=hf.sl;omega
structure cO(p:ab)(R:RS):Prop where
 ok:R.Ok
 aK:R.aK.length<=8
 fr:∀k,k<R.nf->dr p (nth R.aK k)
 busy:∀k,k+1<R.nf->mI p (nth R.aK k)
 go:R.status≠2->1<=R.nf
theorem tH{α:Type}{l:List α}{i:Nat}{x y:α}(h:x∈l.set i y):x=y\/x∈l:=by
 rcases List.mem_or_eq_of_mem_set h with h|h
 ·exact .inr h
 ·exact .inl h
theorem yE(h:dr p f)(hb:mI p f):dr p (fK f):=by
 have hx:=h.pl _ (mD hb.1);have hb2:=hb.2;have ha0:=hx.a0;refine⟨h.f0,h.f1,h.sl,fun x hm=>?_,?_⟩
 ·rcases tH hm with rfl|hm
  ·exact⟨hx.b0,hx.lo,hx.hi,hx.kind,by show 0<=f.pl.at_+1;omega,by show f.pl.at_+1<=_;show _<=((dD p f.pl.block).length:Int);omega⟩
  ·exact h.pl x hm
 ·have e:(fK f).path.map (·.block)=f.path.map (·.block):=by
   have hl:f.path.length-1<f.path.length:=by have:=List.length_pos_iff.2 hb.1;omega
   show(f.path.set (f.path.length-1) _).map _=_;rw[List.map_set];apply List.ext_getElem jE;intro i h1 h2;rw[List.getElem_set];split
   ·rename_i e;subst e;show(nth f.path (f.path.length-1)).block=_;rw[dN hl];simp
   ·rfl
  rw[e];exact h.dec
theorem Lf(h:dr p f)(n:Nat):dr p { f with path:=f.path.take n }:=
 ⟨h.f0,h.f1,h.sl,fun x hx=>h.pl x (List.mem_of_mem_take hx),by show((f.path.take n).map _).Pairwise _;rw[List.map_take];exact h.dec.sublist (List.take_sublist _ _)⟩
theorem GP(h:dr p f)(i:Nat)(v:ak):dr p { f with slots:=f.slots.set i v }:=⟨h.f0,h.f1,by show((f.slots.set i v).length:Int)=_;rw[List.length_set];exact h.sl,h.pl,h.dec⟩
theorem cO.cut{p:ab}{R:RS}(h:cO p R)(h1:1<=R.nf)(hp:R.ah.path.length≠0):cO p R.cut/\R.cut.left+1=R.left:=by
 have hnf:=h.ok.nf;have hjp:=h.ok.jp;have hu:∀k,nth R.cut.aK k=if k=R.nf-1 then{ R.ah with path:=R.ah.path.take (R.ah.path.length-1) }else nth R.aK k:=fun k=>Go.Gd.bh _ _ _ _ jB
 refine⟨⟨⟨by show R.nf<=(R.aK.set _ _).length;rw[List.length_set];exact hnf,by show(R.jp.set _ _).length=(R.aK.set _ _).length;rw[List.length_set,List.length_set];exact hjp⟩,by show(R.aK.set _ _).length<=8;rw[List.length_set];exact h.aK,fun k hk=>?_,fun k hk=>?_,h.go⟩,?_⟩
 ·rw[hu];split
  ·exact Lf (h.fr _ jB) _
  ·exact h.fr k hk
 ·have hk:k+1<R.nf:=hk;rw[hu,jN];exact h.busy k hk
 ·obtain⟨m,hm⟩:∃m,R.nf=m+1:=⟨R.nf-1,jB⟩;show pU _ R.nf+1=pU _ R.nf;have hm':R.nf-1=m:=jB;have ht:(nth R.aK m).path.length≠0:=by unfold RS.ah at hp;rw[hm']at hp;exact hp
  rw[hm];unfold pU;rw[CA (n:=m) (g:=fun k=>(nth R.aK k).path.length+1) fun k hk=>by rw[hu,jN]];rw[hu,if_pos hm'.symm];show _+((R.ah.path.take (R.ah.path.length-1)).length+1)+1=_+((nth R.aK m).path.length+1);have:R.ah=nth R.aK m:=by unfold RS.ah;rw[hm']
  rw[this,List.length_take];omega
theorem cO.bL{p:ab}{R:RS}(h:cO p R)(h1:1<=R.nf)(v:ak):cO p (R.bL p v)/\(R.bL p v).left<R.left/\(R.bL p v).nf=R.nf-1:=by
 have hnf:=h.ok.nf;have hjp:=h.ok.jp;obtain⟨m,hm⟩:∃m,R.nf=m+1:=⟨R.nf-1,jB⟩;have hsz:pU (fun k=>(nth R.aK k).path.length+1) m<R.left:=by unfold RS.left;rw[hm];show _<pU (fun k=>(nth R.aK k).path.length+1) m+((nth R.aK m).path.length+1);omega
 unfold RS.bL;split
 ·rename_i h2;refine⟨⟨⟨by show R.nf-1<=R.aK.length;omega,hjp⟩,h.aK,fun k hk=>?_,fun k hk=>?_,fun e=>(e rfl).elim⟩,?_,rfl⟩
  ·exact h.fr k (by have hk:k<R.nf-1:=hk;omega)
  ·exact h.busy k (by have hk:k+1<R.nf-1:=hk;omega)
  ·show pU _ (R.nf-1)<_;rw[show R.nf-1=m from jB];exact hsz
 ·rename_i h2;have hb:=h.busy (R.nf-1-1) jB;have hf:=h.fr (R.nf-1-1) jB;have key:∀Q:RS,Q.nf=R.nf-1->Q.aK.length=R.aK.length->Q.jp=R.jp->(∀k,k≠R.nf-1-1->nth Q.aK k=nth R.aK k)->dr p (nth Q.aK (R.nf-1-1))->(nth Q.aK (R.nf-1-1)).path.length=(nth R.aK (R.nf-1-1)).path.length->cO p Q/\Q.left<R.left/\Q.nf=R.nf-1:=fun Q q1 q2 q3 q4 q5 q6=>by
   refine⟨⟨⟨jB,by rw[q3,q2];exact hjp⟩,by rw[q2];exact h.aK,fun k hk=>?_,fun k hk=>?_,fun _=>jB⟩,?_,q1⟩
   ·by_cases e:k=R.nf-1-1
    ·subst e;exact q5
    ·rw[q4 k e];exact h.fr k jB
   ·rw[q4 k jB];exact h.busy k jB
   ·unfold RS.left;rw[q1,show R.nf-1=m from jB,CA (g:=fun k=>(nth R.aK k).path.length+1) fun k hk=>?_]
    ·exact hsz
    ·by_cases e:k=R.nf-1-1
     ·subst e;show _+1=_+1;rw[q6]
     ·show _+1=_+1;rw[q4 k e]
  have hk:R.nf-1-1<R.aK.length:=jB;split
  ·have hu:∀k,nth (R.pop.fS p (cu p R.pop.st) v).aK k=if k=R.nf-1-1 then{ nth R.aK (R.nf-1-1)with slots:=(nth R.aK (R.nf-1-1)).slots.set (nth p.slots (cu p R.pop.st).toNat).toNat v }else nth R.aK k:=fun k=>RS.bh (R:=R.pop) hk _ k
   have hl:(R.pop.fS p (cu p R.pop.st) v).aK.length=R.aK.length:=RS.bB.symm;have hu2:∀k,nth (R.pop.fS p (cu p R.pop.st) v).on.aK k=if k=R.nf-1-1 then fK (nth (R.pop.fS p (cu p R.pop.st) v).aK (R.nf-1-1))else nth (R.pop.fS p (cu p R.pop.st) v).aK k:=fun k=>RS.bh (by rw[hl];exact hk) _ k
   refine key _ rfl (RS.bB.symm.trans hl) rfl (fun k hk'=>by rw[hu2,if_neg hk',hu,if_neg hk']) ?_ ?_
   ·rw[hu2,if_pos rfl,hu,if_pos rfl];exact yE (GP hf _ _) hb
   ·rw[hu2,if_pos rfl,hu,if_pos rfl];simp[fK]
  ·have hu2:∀k,nth R.pop.on.aK k=if k=R.nf-1-1 then fK (nth R.aK (R.nf-1-1))else nth R.aK k:=fun k=>RS.bh (R:=R.pop) hk _ k
   refine key _ rfl RS.bB.symm rfl (fun k hk'=>by rw[hu2,if_neg hk']) ?_ ?_
   ·rw[hu2,if_pos rfl];exact yE hf hb
   ·rw[hu2,if_pos rfl];simp[fK]
end Go.Proofs.YtfkgcobaheegbaaGreatDoor
namespace Go.Gd
open Go
def RS.of(s:aJ):RS:=⟨s.aq,s.aq.length,s.aq.map fun _=>[],s.heap,s.in_,s.ax,s.status,s.aZ,s.time⟩
def RS.push(R:RS)(f:aI):RS:={ R with aK:=R.aK++[f],nf:=R.nf+1,jp:=R.jp++[[]] }
def RS.store(R:RS)(p:ab)(node:Int)(v:ak):RS:=(R.fS p node v).on
def RS.bs(R:RS)(block:Int):RS:=R.aQ (R.nf-1) { R.ah with path:=R.ah.path++[⟨block,0⟩] }
def jc(p:ab)(fn:Int)(args:List ak):aI:=⟨fn,args++List.replicate ((nth p.size fn.toNat)-args.length).toNat v0,[⟨(nth p.aa.ao fn.toNat).body,0⟩]⟩
def H6:aJ:=⟨[],[],0,[],0,0,0⟩
def jy(p:ab):Int:=gj aX.name (⟨#[109,97,105,110]⟩:ByteArray) p.aa.ao 0
def ot(p:ab):aJ:=((RS.of { H6 with aq:=[jc p (jy p) []] }).settle p).st
def dK(p:ab)(s:aJ):Int:=if s.status=2\/s.status=3 then -1 else cu p s
def ll(n:Int)(l:List Int):Int:=n+l.length
def ga(h:List (List Int)):Int:=h.foldl ll (h.length:Int)
def RS.val(R:RS)(p:ab)(node:Int):ak×Int:=eN p R.ah.slots R.heap p.aa.nodes.length node
def RS.args(R:RS)(p:ab):List Int->List ak->List ak×Int
 |[],a=>(a,0)
 |x::l,a=>if(R.val p x).2≠0 then(a,(R.val p x).2)else R.args p l (a++[(R.val p x).1])
def ai(p:ab)(a:Int):bk:=nth p.aa.nodes a.toNat
def RS.call(R:RS)(p:ab)(node:Int):RS×Int:=
 let a:=R.args p (ai p node).l []
 if a.2≠0 then(R,a.2)
 else if 8<=R.nf then(R,3)
 else(R.push (jc p (gj aX.name (ai p node).name p.aa.ao 0) a.1),0)
def RS.fresh(R:RS)(p:ab)(node:Int):RS×ak×Int:=
 let v:=R.val p (nth (ai p node).l 0)
 if v.2≠0 then(R,v0,v.2)
 else if v.1.n<0\/16<v.1.n then(R,v0,7)
 else if 40<ga R.heap+v.1.n+1 then(R,v0,4)
 else({ R with heap:=R.heap++[List.replicate v.1.n.toNat 0] },⟨4,R.heap.length+1,sE⟩,0)
def RS.right(R:RS)(p:ab)(node:Int)(inp:List Int):RS×Int:=
 let x:=nth (ai p node).l 0
 let k:=(ai p x).kind
 if k=21 then R.call p x
 else if k=19 then(({ R with in_:=R.in_+1 }:RS).store p node (vI (nth inp R.in_.toNat)),0)
 else if k=20 then
  let r:=R.fresh p x
  if r.2.2=0 then(r.1.store p node r.2.1,0)else(r.1,r.2.2)
 else
  let v:=R.val p x
  if v.2=0 then(R.store p node v.1,0)else(R,v.2)
def RS.put(R:RS)(p:ab)(node:Int):RS×Int:=
 let x:=R.val p (nth (ai p node).l 0)
 let y:=R.val p (nth (ai p node).l 1)
 let v:=dp R.ah.slots (nth p.slots node.toNat) 4
 if x.2≠0 then(R,x.2)
 else if y.2≠0 then(R,y.2)
 else if x.1.n<0\/((lz R.heap v).length:Int)<=x.1.n then(R,2)
 else(({ R with heap:=R.heap.set (v.n-1).toNat ((nth R.heap (v.n-1).toNat).set x.1.n.toNat y.1.n) }:RS).on,0)
def Be(n:Int):ByteArray:=⟨(Lib.itoa n).toArray⟩
def kn(v:ak):ByteArray:=
 if v.ty=1 then Be v.n
 else if v.ty=2 then(if v.n=1 then(⟨#[116,114,117,101]⟩:ByteArray)else(⟨#[102,97,108,115,101]⟩:ByteArray))
 else if v.ty=3 then v.s
 else if v.ty=4 then(⟨#[108,105,115,116]⟩:ByteArray)
 else sE
def RS.bT(R:RS)(p:ab)(node:Int)(inp:List Int):RS×Int:=
 let n:=ai p node
 let v:=R.val p (nth n.l 0)
 if n.kind=10\/n.kind=11 then R.right p node inp
 else if n.kind=13 then R.call p (nth n.l 0)
 else if n.kind=12 then R.put p node
 else if n.kind=17 then
  (if n.l.length=0 then(R.bL p v0,0)
  else if v.2≠0 then(R,v.2)else(R.bL p v.1,0))
 else if v.2≠0 then(R,v.2)
 else if n.kind=14 then
  (if 24<=R.ax.length then(R,5)else(({ R with ax:=R.ax++[kn v.1] }:RS).on,0))
 else if n.kind=15 then
  (if v.1.n=1 then(R.on.bs (nth n.l 1),0)
  else if n.l.length=3 then(R.on.bs (nth n.l 2),0)else(R.on,0))
 else if n.kind=16 then
  (if v.1.n=1 then(R.bs (nth n.l 1),0)else(R.on,0))
 else(R,0)
def jo(p:ab)(s:aJ)(node:Int)(inp:List Int):Prop:=kJ p node/\(ai p (nth (ai p node).l 0)).kind=19/\(inp.length:Int)<=s.in_
instance (p:ab)(s:aJ)(node:Int)(inp:List Int):Decidable (jo p s node inp):=by unfold jo;infer_instance
def dn(p:ab)(s:aJ)(inp:List Int):aJ:=
 if dK p s<0 then s
 else if jo p s (dK p s) inp then{ s with status:=1 }
 else
  let r:=(RS.of { s with status:=0 }).bT p (dK p s) inp
  if r.2≠0 then{ s with status:=3,aZ:=r.2,time:=s.time+1 }
  else(({ r.1 with time:=s.time+1 }:RS).settle p).st
def bI(p:ab)(inp:List Int):Nat->aJ
 |0=>ot p
 |n+1=>dn p (bI p inp n) inp
end Go.Gd

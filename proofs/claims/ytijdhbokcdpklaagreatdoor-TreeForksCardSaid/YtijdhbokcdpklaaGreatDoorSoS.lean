/- Lemmas. No conditions. -/
import Derived.Test.YtijdhbokcdpklaaGreatDoorCk8
set_option linter.all false
set_option maxHeartbeats 4000000
set_option maxRecDepth 10000
namespace Go.Gd
open Go
variable{α:Type}
def dG[Inhabited α](l:List α)(i k:Nat)(v:α)(h:i<l.length):nth (l.set i v) k=if k=i then v else nth l k:=by
 unfold nth;rw[List.getD_eq_getElem?_getD,List.getElem?_set,List.getD_eq_getElem?_getD];by_cases e:i=k
 ·subst e;simp[h]
 ·rw[if_neg e,if_neg (fun h=>e h.symm)]
theorem uT:∀(l m:UD) (i:Nat),aA (l++m) i=(aA l i).or (aA m i)
 |[],m,i=>by simp[aA]
 |(j,r)::l,m,i=>by
  show(if i=j then some r else aA (l++m) i)=((if i=j then some r else aA l i):Option Row).or _;split
  ·rfl
  ·exact uT l m i
theorem lJ:∀(l:UD) (i:Nat),i∈ids l<->aA l i≠none
 |[],i=>by simp[ids,aA]
 |(j,r)::l,i=>by
  have:=lJ l i;simp only[ids,List.map_cons,List.mem_cons,aA]at this ⊢;by_cases e:i=j
  ·simp[e]
  ·rw[if_neg e];simp only[e,false_or];exact this
variable{l:UD}
def ga{i:Nat}{r:Row}(h:aA l i=some r):(ids l).contains i=true:=List.contains_iff_mem.2 ((lJ l i).2 (by rw[h];simp))
theorem sI(q:UO):∀(l m:UE),aY q (l++m)=(aY q l && aY q m)
 |[],m=>by simp[aY]
 |a::l,m=>by simp only[List.cons_append,aY,sI q l m,Bool.and_assoc]
def po{q:UO}{l:UC}(h:QL q l):aY q l.flatten=true:=by
 induction l with
 |nil=>rfl
 |cons x l ih=>rw[List.flatten_cons,sI,h x jE,ih fun y hy=>h y (by simp[hy])];rfl
theorem HF(D:UO):∀(l m:UD),fy D (l++m)=fy D l++fy D m
 |[],m=>rfl
 |(j,r)::l,m=>by show(bif D j then fy D (l++m)else(j,r)::fy D (l++m))=(bif D j then fy D l else(j,r)::fy D l)++_;rw[HF D l m];cases D j<;>rfl
theorem Ja(D:UO):∀(l:UD),(∀i∈ids l,D i=false)->fy D l=l
 |[],_=>rfl
 |(j,r)::l,h=>by show(bif D j then fy D l else(j,r)::fy D l)=_;rw[h j (by simp[ids]),Ja D l fun i hi=>h i (by simp[ids]at hi ⊢;exact .inr hi)];rfl
theorem DM(D:UO):∀(l:UD),(∀i∈ids l,D i=true)->fy D l=[]
 |[],_=>rfl
 |(j,r)::l,h=>by show(bif D j then fy D l else(j,r)::fy D l)=_;rw[h j (by simp[ids]),DM D l fun i hi=>h i (by simp[ids]at hi ⊢;exact .inr hi)];rfl
theorem G9(D:UO):∀(l m:UD),iL D l->iL D m->iL D (l++m)
 |[],m,_,h=>h
 |(j,r)::l,m,h,k=>⟨h.1,G9 D l m h.2 k⟩
theorem GM(D:UO):∀(l:UD),(∀i∈ids l,D i=true)->iL D l
 |[],_=>trivial
 |(j,r)::l,h=>⟨.inl (h j (by simp[ids])),GM D l fun i hi=>h i (by simp[ids]at hi ⊢;exact .inr hi)⟩
theorem A0{q:UO}:∀{l:UC},aY q l.flatten=true->QL q l
 |[],_,x,hx=>by simp at hx
 |a::l,h,x,hx=>by
  rw[List.flatten_cons,vQ,Bool.and_eq_true]at h;rcases List.mem_cons.1 hx with rfl|hx
  ·exact h.1
  ·exact A0 h.2 x hx
def NH{q:UO}:∀{r:Row},aY q r.cells=true->xS q r
 |.var _ _,h=>h
 |.aG _ _ _,h=>A0 h
 |.mp _ _,h=>h
theorem FZ(D:UO):∀(l:UD),(ids l).Nodup->(∀i r,aA l i=some r->aY (gZ D) r.cells=true)->iL D l
 |[],_,_=>trivial
 |(j,r)::l,hn,h=>by
  have hn':=List.nodup_cons.1 hn;refine⟨.inr (NH (h j r (by simp[aA]))),FZ D l hn'.2 fun i r' hi=>h i r' ?_⟩;have:i≠j:=fun e=>by subst e;exact hn'.1 ((lJ l i).2 (by rw[hi];simp))
  simp only[aA,if_neg this];exact hi
def xh(p:af)(b:Int):UG:=(nth p.aa.nodes b.toNat).l
def ii(p:af):Int:=ji bh.name (⟨#[109,97,105,110]⟩:UI) p.aa.aw 0
def lC(n:Int)(l:UG):Int:=n+l.length
def gr(h:UF):Int:=h.foldl lC (h.length:Int)
def ao(p:af)(a:Int):bq:=nth p.aa.nodes a.toNat
def Az(n:Int):UI:=⟨(Lib.itoa n).toArray⟩
def mH(v:aj):UI:=
 if v.ty=1 then Az v.n
 else if v.ty=2 then(if v.n=1 then(⟨#[116,114,117,101]⟩:UI)else(⟨#[102,97,108,115,101]⟩:UI))
 else if v.ty=3 then v.s
 else if v.ty=4 then(⟨#[108,105,115,116]⟩:UI)
 else sE
def bD(n:Int):Prop:=-9223372036854775808<=n/\n<=9223372036854775807
def K2[Inhabited α](l:List α)(i:Nat)(h:i<l.length):l.take (i+1)=l.take i++[nth l i]:=by rw[List.take_succ,List.getElem?_eq_getElem h,fO h];rfl
structure RS where
 gm:List fD
 nf:Nat
 jp:List (List gb)
 heap:List (List Int)
 in_:Int
 bC:List ByteArray
 status:Int
 dn:Int
 time:Int
namespace RS
structure Ok(R:RS):Prop where
 nf:R.nf<=R.gm.length
 jp:R.jp.length=R.gm.length
def fr(R:RS)(k:Nat):UE:=[.raw (.int .i64 (nth R.gm k).fn),.rs (gB 0 k) (nth R.gm k).slots.length 3 (nth R.gm k).slots.length,.rs (gB 1 k) ((nth R.gm k).path.length+(nth R.jp k).length) 2 (nth R.gm k).path.length]
def sl(R:RS)(k:Nat):Row:=.aG 42 3 ((nth R.gm k).slots.map bV)
def pt(R:RS)(k:Nat):Row:=.aG 301 2 (((nth R.gm k).path++nth R.jp k).map uy)
def hp(R:RS)(k:Nat):Row:=.aG 3 1 ((nth R.heap k).map eI)
def c(R:RS):UE:=[.rs 1 R.gm.length 3 R.nf,.rs 2 R.heap.length 1 R.heap.length,.raw (.int .i64 R.in_),.rs 3 R.bC.length 1 R.bC.length,.raw (.int .i64 R.status),.raw (.int .i64 R.dn),.raw (.int .i64 R.time)]
def e(t:UJ)(pre post:UE)(R:RS)(tl:UD):UD:=
 (0,.var t (pre++R.c++post))::(1,.aG 304 3 (wJ R.gm.length R.fr))::(2,.aG 28 1 (wJ R.heap.length fun k=>[.rs (gB 2 k) (nth R.heap k).length 1 (nth R.heap k).length]))::(3,.aG 9 1 (R.bC.map eS)) ::
  iT 0 R.gm.length R.sl (iT 1 R.gm.length R.pt (iT 2 R.heap.length R.hp tl))
end RS
attribute [go_sem] RS.fr RS.sl RS.pt RS.hp RS.c RS.e
def cY.pI{D:UO}{H:Hp}{dd:UE}{i sz m n:Nat}{e:UJ}{enc:α->UE}[he:bH enc sz](l more:List α)(hD:D i=true)(hi:H.get i=some (.aG e sz ((l++more).map enc)))(hm:m=l.length+more.length)(hn:n=l.length):cY D H (.rs i m sz n) (.sl false sz (l.map enc) dd):=
 .yn dd i sz m n e _ _ hD hi jF jB jF (fun ds Xt=>by obtain⟨x,_,rfl⟩:=List.mem_map.1 Xt;exact he.len x) (nG l) fun k j c d hk h1 h2=>by
  have UY:k<l.length:=jB;have e1:((l++more).map enc).getD k []=enc l[k]:=by rw[List.map_append,List.getD_eq_getElem?_getD,List.getElem?_append_left (by simpa using UY)];simp[UY]
  have e2:(l.map enc).getD k []=enc l[k]:=by simp[UY]
  rw[e1]at h1;rw[e2,h1]at h2;cases h2;exact .same c (qe (fun _ h=>by cases h) _ (lK (he.free _) h1))
variable{t:UJ}{R:RS}{tl:UD}
def RS.ug{pre post:UE}:aA (R.e t pre post tl) 0=some (.var t (pre++R.c++post)):=rfl
def RS.uH{pre post:UE}:aA (R.e t pre post tl) 1=some (.aG 304 3 (wJ R.gm.length R.fr)):=rfl
def RS.uJ{pre post:UE}:aA (R.e t pre post tl) 2=some (.aG 28 1 (wJ R.heap.length fun k=>[.rs (gB 2 k) (nth R.heap k).length 1 (nth R.heap k).length])):=rfl
def RS.uF{pre post:UE}:aA (R.e t pre post tl) 3=some (.aG 9 1 (R.bC.map eS)):=rfl
def RS.pH{pre post:UE}(i:Nat)(h:1000<=i):aA (R.e t pre post tl) i=aA (iT 0 R.gm.length R.sl (iT 1 R.gm.length R.pt (iT 2 R.heap.length R.hp tl))) i:=by unfold RS.e;simp only[aA];rw[jN,jN,jN,jN]
variable{k:Nat}
def RS.pN{pre post:UE}(h:k<R.gm.length):aA (R.e t pre post tl) (gB 0 k)=some (R.sl k):=by rw[RS.pH _ (yh _ _),uC _ _ _ _ _ jB h]
def RS.B2{pre post:UE}(h:k<R.gm.length):aA (R.e t pre post tl) (gB 1 k)=some (R.pt k):=by rw[RS.pH _ (yh _ _),rD _ _ _ _ _ _ jB jB jB,uC _ _ _ _ _ jB h]
def RS.Cm{pre post:UE}(h:k<R.heap.length):aA (R.e t pre post tl) (gB 2 k)=some (R.hp k):=by rw[RS.pH _ (yh _ _),rD _ _ _ _ _ _ jB jB jB,rD _ _ _ _ _ _ jB jB jB,uC _ _ _ _ _ jB h]
theorem IQ(a:Nat)(f:UQ)(l m:UD):∀(n k:Nat),ov a f k n (l++m)=ov a f k n l++m
 |0,k=>rfl
 |n+1,k=>by unfold ov;rw[IQ a f l m n (k+1)];rfl
def CO(a n:Nat)(f:UQ)(l m:UD):iT a n f (l++m)=iT a n f l++m:=IQ a f l m n 0
def RS.x9{pre post:UE}(tl:UD):R.e t pre post tl=R.e t pre post []++tl:=by unfold RS.e;rw[show tl=[]++tl from rfl,CO,CO,CO];rfl
def RS.no{pre post:UE}(i:Nat)(h:4<=i)(h':i<1000):aA (R.e t pre post []) i=none:=by unfold RS.e;simp only[aA];rw[jN,jN,jN,jN,uR _ _ _ _ _ h',uR _ _ _ _ _ h',uR _ _ _ _ _ h'];rfl
def low(tl:UD):Prop:=∀i r,aA tl i=some r->4<=i/\i<1000
def RS.bv{pre post:UE}(h:low tl):Lays (fun tl=>R.e t pre post tl) tl:=⟨fun i=>by rw[RS.x9,uT],fun i r hi=>RS.no i (h i r hi).1 (h i r hi).2⟩
variable{pre' post':UE}
def RS.size{pre post:UE}{R':RS}(h1:R.gm.length<=R'.gm.length)(h2:R.heap.length<=R'.heap.length)(i:Nat)(h:aA (R.e t pre post []) i≠none):aA (R'.e t pre' post' []) i≠none:=by
 by_cases h0:i=0
 ·subst h0;rw[RS.ug];simp
 by_cases YY:i=1
 ·subst YY;rw[RS.uH];simp
 by_cases Zb:i=2
 ·subst Zb;rw[RS.uJ];simp
 by_cases h3':i=3
 ·subst h3';rw[RS.uF];simp
 by_cases h4:i<1000
 ·exact(h (RS.no i jB h4)).elim
 rw[RS.pH i jB]at h ⊢;rcases wx 0 R.gm.length jB R.sl (iT 1 R.gm.length R.pt (iT 2 R.heap.length R.hp [])) i with⟨k,hk,rfl,e⟩|⟨_,e⟩
 ·rw[uC _ _ _ _ _ jB jB];simp
 rw[e]at h;rcases wx 1 R.gm.length jB R.pt (iT 2 R.heap.length R.hp []) i with⟨k,hk,rfl,e⟩|⟨_,e⟩
 ·rw[rD _ _ _ _ _ _ jB jB jB,uC _ _ _ _ _ jB jB];simp
 rw[e]at h;rcases wx 2 R.heap.length jB R.hp [] i with⟨k,hk,rfl,e⟩|⟨_,e⟩
 ·rw[rD _ _ _ _ _ _ jB jB jB,rD _ _ _ _ _ _ jB jB jB,uC _ _ _ _ _ jB jB];simp
 rw[e]at h;exact(h rfl).elim
theorem Gk(a:Nat)(f:UQ)(l:UD):∀(n k:Nat),ids (ov a f k n l)=(List.range' k n).map (gB a)++ids l
 |0,k=>rfl
 |n+1,k=>by unfold ov;rw[List.range'_succ];show gB a k::ids (ov a f (k+1) n l)=_;rw[Gk a f l n (k+1)];rfl
def AT{a n:Nat}{f:UQ}(ha:a<8)(h:(ids l).Nodup)(hl:∀k,k<n->aA l (gB a k)=Option.none):(ids (iT a n f l)).Nodup:=by
 unfold iT;rw[Gk,List.nodup_append];refine⟨?_,h,fun x hx y hy e=>?_⟩
 ·refine List.Pairwise.map _ (fun x y hxy e=>?_) (List.nodup_range' (step:=1) (s:=0) (n:=n) jB);exact hxy (Ac ha ha e).2
 ·obtain⟨k,hk,rfl⟩:=List.mem_map.1 hx;subst e;exact(lJ _ _).1 hy (hl k (by simp at hk;omega))
theorem nodup_cons{l:UD}{i:Nat}{r:Row}(h:(ids l).Nodup)(hl:aA l i=Option.none):(ids ((i,r)::l)).Nodup:=List.nodup_cons.2 ⟨fun hm=>(lJ _ _).1 hm hl,h⟩
def RS.nodup{pre post:UE}:(ids (R.e t pre post [])).Nodup:=by
 have f2:∀i,i<1000->aA (iT 0 R.gm.length R.sl (iT 1 R.gm.length R.pt (iT 2 R.heap.length R.hp []))) i=Option.none:=fun i h=>by rw[uR _ _ _ _ _ h,uR _ _ _ _ _ h,uR _ _ _ _ _ h];rfl
 unfold RS.e;refine nodup_cons (nodup_cons (nodup_cons (nodup_cons (AT jB (AT jB (AT jB List.nodup_nil (fun k _=>rfl)) fun k _=>?_) fun k _=>?_) ?_) ?_) ?_) ?_
 ·rw[rD _ _ _ _ _ _ jB jB jB];rfl
 ·rw[rD _ _ _ _ _ _ jB jB jB,rD _ _ _ _ _ _ jB jB jB];rfl
 ·exact f2 3 jB
 ·show(if(2:Nat)=3 then _ else _)=_;rw[jN];exact f2 2 jB
 ·show(if(1:Nat)=2 then _ else if(1:Nat)=3 then _ else _)=_;rw[jN,jN];exact f2 1 jB
 ·show(if(0:Nat)=1 then _ else if(0:Nat)=2 then _ else if(0:Nat)=3 then _ else _)=_;rw[jN,jN,jN];exact f2 0 jB
def RS.closed{pre post:UE}(h1:aY eu pre=true)(h2:aY eu post=true):∀i r,aA (R.e t pre post []) i=some r->aY (fun i=>(ids (R.e t pre post [])).contains i) r.cells=true:=fun i r h=>by
 have up:∀{l},aY eu l=true->aY (fun i=>(ids (R.e t pre post [])).contains i) l=true:=fun h=>fV (fun _ h=>by cases h) _ h
 have c1:=ga (RS.uH (t:=t) (pre:=pre) (post:=post) (R:=R) (tl:=[]));have c2:=ga (RS.uJ (t:=t) (pre:=pre) (post:=post) (R:=R) (tl:=[]));have c3:=ga (RS.uF (t:=t) (pre:=pre) (post:=post) (R:=R) (tl:=[]));by_cases h0:i=0
 ·subst h0;rw[RS.ug]at h;cases h;show aY _ (pre++R.c++post)=true;rw[sI,sI,up h1,up h2];simp only[RS.c,aY,AV.all,c1,c2,c3,Bool.and_self]
 by_cases YY:i=1
 ·subst YY;rw[RS.uH]at h;cases h;exact po (DJ fun k hk=>by have a:=ga (RS.pN (t:=t) (pre:=pre) (post:=post) (R:=R) (tl:=[]) hk);have b:=ga (RS.B2 (t:=t) (pre:=pre) (post:=post) (R:=R) (tl:=[]) hk);simp only[RS.fr,aY,AV.all,a,b,Bool.and_self])
 by_cases Zb:i=2
 ·subst Zb;rw[RS.uJ]at h;cases h;exact po (DJ fun k hk=>by have a:=ga (RS.Cm (t:=t) (pre:=pre) (post:=post) (R:=R) (tl:=[]) hk);simp only[aY,AV.all,a,Bool.and_self])
 by_cases h3':i=3
 ·subst h3';rw[RS.uF]at h;cases h;exact up (po (nG (enc:=eS) (sz:=1) _))
 by_cases h4:i<1000
 ·rw[RS.no i jB h4]at h;cases h
 rw[RS.pH i jB]at h;rcases wx 0 R.gm.length jB R.sl (iT 1 R.gm.length R.pt (iT 2 R.heap.length R.hp [])) i with⟨k,hk,rfl,e⟩|⟨_,e⟩
 ·rw[e]at h;cases h;exact up (po (nG (enc:=bV) (sz:=3) _))
 rw[e]at h;rcases wx 1 R.gm.length jB R.pt (iT 2 R.heap.length R.hp []) i with⟨k,hk,rfl,e⟩|⟨_,e⟩
 ·rw[e]at h;cases h;exact up (po (nG (enc:=uy) (sz:=2) _))
 rw[e]at h;rcases wx 2 R.heap.length jB R.hp [] i with⟨k,hk,rfl,e⟩|⟨_,e⟩
 ·rw[e]at h;cases h;exact up (po (nG (enc:=eI) (sz:=1) _))
 rw[e]at h;cases h
def cE{P:UP}{f:FuncId}{args:UE}{H:Hp}{K:UB}{pre post:UE}{R':RS}{r0:AV}{B:UH}(hc:ab P f args (R.e t pre post []) fun r l'=>r=r0/\l'=R'.e t pre' post' [])(hH:H=⟨B,R.e t pre post tl⟩)
  (h1:R.gm.length<=R'.gm.length) (h2:R.heap.length<=R'.heap.length) (hp:aY eu pre=true) (hq:aY eu post=true) (hl:low tl) (ha:aY (fun i=>decide (i=0)) args=true) (h0:aS P f=true) (k:K r0 ⟨B,R'.e t pre' post' tl⟩):fg P (.raw (.func (.func f) #[] #[])) args H K:=by
 subst hH;refine nZ h0 (C9 (E:=fun tl=>R.e t pre post tl) (E':=fun tl=>R'.e t pre' post' tl) hc (RS.bv hl) (RS.bv hl) RS.nodup (fV (fun i hi=>?_) _ ha) (RS.closed hp hq) k (RS.size h1 h2));have:i=0:=of_decide_eq_true hi;subst this;exact ga RS.ug
def Af:UO:=fun i=>decide (4<=i/\i<1000)
def fD.pl(f:fD):gb:=nth f.path (f.path.length-1)
def Da(p:af)(node:Int):Prop:=(nth p.aa.nodes node.toNat).kind=10\/(nth p.aa.nodes node.toNat).kind=11
instance (p:af)(node:Int):Decidable (Da p node):=by unfold Da;infer_instance
def RS.Cz(R:RS):fD:=nth R.gm (R.nf-1)
def RS.of(s:gH):RS:=⟨s.j3,s.j3.length,s.j3.map fun _=>[],s.heap,s.in_,s.bC,s.status,s.dn,s.time⟩
def Cu(p:af)(fn:Int)(args:List aj):fD:=⟨fn,args++List.replicate ((nth p.size fn.toNat)-args.length).toNat v0,[⟨(nth p.aa.aw fn.toNat).body,0⟩]⟩
def Gn(p:af)(s:gH)(node:Int)(inp:UG):Prop:=Da p node/\(ao p (nth (ao p node).l 0)).kind=19/\(inp.length:Int)<=s.in_
instance (p:af)(s:gH)(node:Int)(inp:List Int):Decidable (Gn p s node inp):=by unfold Gn;infer_instance
end Go.Gd
namespace Go.Proofs.YtijdhbokcdpklaaGreatDoor
open Go Go.Gd Tryz
def gA(t:aH)(a:Int):Prop:=0<=a/\a<t.nodes.length
def yK(c:Ck):Prop:=c.e=0\/c.e=44\/gA c.aa c.at_
def Kp(t:aH)(c c':Ck):Prop:=c.aa=t->c'.aa=t/\(yK c->yK c')
def Kp.refl(t:aH)(c:Ck):Kp t c c:=fun h=>⟨h,id⟩
variable{t:aH}{b:Ck}
def Kp.trans{a c:Ck}(h:Kp t a b)(k:Kp t b c):Kp t a c:=fun e=>⟨(k (h e).1).1,fun x=>(k (h e).1).2 ((h e).2 x)⟩
variable{c':Ck}
def pQ{c:Ck}(h1:c'.aa=c.aa)(h2:c'.e=c.e)(h3:c'.at_=c.at_):Kp t c c':=fun e=>⟨h1.trans e,fun h=>by unfold yK at*;rw[h1,h2,h3];exact h⟩
variable{a:Int}
def rO(c:Ck)(e:Int)(ha:gA t a):Kp t c (c.aE e a):=fun ht=>by
 unfold Ck.aE;split
 ·refine⟨ht,fun _=>.inr (.inr ?_)⟩;show gA c.aa a;rw[ht];exact ha
 ·exact⟨ht,id⟩
def qy(c:Ck)(b:Bool)(ha:gA t a):Kp t c (c.ap b a):=by
 unfold Ck.ap;split
 ·exact .refl t c
 ·exact rO c 42 ha
def Ae(c:Ck)(ha:gA t a):Kp t c (c.named a).1:=by
 unfold Ck.named;split
 ·exact rO c 40 ha
 ·exact pQ rfl rfl rfl
variable{α:Type}
def Jm[Inhabited α]{l:List α}{i:Nat}(h:l.length<=i):nth l i=default:=by simp[nth,List.getD_eq_getElem?_getD,List.getElem?_eq_none h]
def wu(h:aR t){c:Ck}(hc:c.aa=t)(ha:gA t a)(i:Nat):gA t (c.aF a i):=by
 obtain⟨h0,h1⟩:=ha;unfold Ck.aF Ck.node;rw[hc];by_cases hi:i<(nth t.nodes a.toNat).l.length
 ·have:=(h.shape a.toNat jB).2.1 _ (ff hi);unfold gA;omega
 ·have:nth (nth t.nodes a.toNat).l i=0:=Jm (Nat.le_of_not_lt hi);rw[this];unfold gA;omega
def yv(h:aR t){c:Ck}(hc:c.aa=t)(ha:gA t a):∀x∈(c.node a).l,gA t x:=fun x hx=>by obtain⟨h0,h1⟩:=ha;unfold Ck.node at hx;rw[hc]at hx;have:=(h.shape a.toNat jB).2.1 _ hx;unfold gA;omega
theorem CP{t:aH}{ex:Ck->Int->Ck×Int}(hex:∀c a,gA t a->Kp t c (ex c a).1):∀(l:UG) (c:Ck) (ts:UG),(∀x∈l,gA t x)->Kp t c (gD ex c l ts).1
 |[],c,ts,_=>by unfold gD;exact .refl t c
 |a::l,c,ts,hl=>by
  unfold gD;split
  ·exact(hex c a (hl a jE)).trans (CP hex l _ _ fun x hx=>hl x (by simp[hx]))
  ·exact .refl t c
theorem ID{t:aH}{a:Int}(ha:gA t a):∀(ts:UG) (ps:List bI) (c:Ck),Kp t c (iG a c ts ps)
 |[],ps,c=>by rw[uv];exact .refl t c
 |_::_,[],c=>by rw[tY];exact .refl t c
 |x::ts,p::ps,c=>by
  unfold iG;split
  ·exact(qy c _ ha).trans (ID ha ts ps _)
  ·exact .refl t c
variable{ex:Ck->Int->Ck×Int}
def OK(h:aR t)(hex:∀c a,gA t a->Kp t c (ex c a).1)(c:Ck)(ha:gA t a):Kp t c (iX ex c a).1:=fun hc=>by
 refine(show Kp t c (iX ex c a).1 from ?_) hc;unfold iX;split
 ·exact rO c 40 ha
 ·refine Kp.trans ?_ (ID ha _ _ _);split
  ·exact(CP hex _ _ _ (yv h hc ha)).trans (rO _ 43 ha)
  ·exact CP hex _ _ _ (yv h hc ha)
def QU(h:aR t)(hex:∀c a,gA t a->Kp t c (ex c a).1)(c:Ck)(ha:gA t a):Kp t c (cw ex c a).1:=fun hc=>by
 have k0:=wu h hc ha 0;have k1:=wu h hc ha 1;refine(show Kp t c (cw ex c a).1 from ?_) hc;unfold cw;simp only;repeat' split
 all_goals first
  |exact .refl t c
  |exact Ae c ha
  |exact OK h hex c ha
  |exact((Ae c ha).trans (hex _ _ k0)).trans (qy _ _ ha)
  |exact((hex c _ k0).trans (hex _ _ k1)).trans (qy _ _ ha)
  |exact(hex c _ k0).trans (qy _ _ ha)
theorem DE{t:aH}(h:aR t):∀(n:Nat) (c:Ck) (a:Int),gA t a->Kp t c (az n c a).1
 |0,c,a,ha=>by unfold az;exact .refl t c
 |n+1,c,a,ha=>by
  unfold az;split
  ·exact .refl t c
  ·exact(QU h (DE h n) c ha).trans (pQ rfl rfl rfl)
def TB(h:aR t)(hex:∀c a,gA t a->Kp t c (ex c a).1)(c:Ck)(ha:gA t a):Kp t c (o3 ex c a):=fun hc=>by
 have k0:=wu h hc ha 0;refine(show Kp t c (o3 ex c a) from ?_) hc;rw[ub];have kA:Kp t c (iN ex c a):=(hex c _ k0).trans (qy _ _ ha);have kB:Kp t c (jO ex c a):=by
  unfold jO;split
  ·exact kA.trans (rO _ 41 ha)
  ·exact kA
 have kC:Kp t c (eJ ex c a):=by
  unfold eJ;split
  ·exact kB.trans (rO _ 4 ha)
  ·exact kB
 exact kC.trans (pQ rfl rfl rfl)
def Ny(h:aR t)(hex:∀c a,gA t a->Kp t c (ex c a).1)(c:Ck)(ha:gA t a):Kp t c (kH ex c a):=fun hc=>by
 have k0:=wu h hc ha 0;refine(show Kp t c (kH ex c a) from ?_) hc;unfold kH;simp only;split
 ·exact rO c 43 ha
 split
 ·exact(hex c _ k0).trans (qy _ _ ha)
 ·exact .refl t c
theorem Cw{t:aH}{st:Ck->Int->Ck}(P':∀c a,gA t a->Kp t c (st c a)):∀(l:UG) (c:Ck),(∀x∈l,gA t x)->Kp t c (dP st c l)
 |[],c,_=>by unfold dP;exact .refl t c
 |a::l,c,hl=>by
  unfold dP;split
  ·exact(P' c a (hl a jE)).trans (Cw P' l _ fun x hx=>hl x (by simp[hx]))
  ·exact .refl t c
def Hw(h:aR t){st:Ck->Int->Ck}(P':∀c a,gA t a->Kp t c (st c a))(c:Ck)(ha:gA t a):Kp t c (fl st c a):=fun hc=>by refine(show Kp t c (fl st c a) from ?_) hc;have h1:Kp t c (c.ai a):=pQ rfl rfl rfl;exact(h1.trans (Cw P' _ _ (yv h hc ha))).trans (pQ rfl rfl rfl)
theorem HN{t:aH}(h:aR t):∀(n:Nat) (c:Ck) (a:Int),gA t a->Kp t c (bT n c a)
 |0,c,a,ha=>by unfold bT;exact .refl t c
 |n+1,c,a,ha=>fun hc=>by
  have k0:=wu h hc ha 0;have k1:=wu h hc ha 1;have kl:=yv h hc ha;refine(show Kp t c (bT (n+1) c a) from ?_) hc;have e0:Kp t c (c.ai a):=pQ rfl rfl rfl;have hx:=DE h n;unfold bT;simp only;refine e0.trans ?_;repeat' split
  ·exact TB h hx _ ha
  ·exact((Ae _ ha).trans (hx _ _ k0)).trans (qy _ _ ha)
  ·exact(((Ae _ ha).trans (hx _ _ k0)).trans (hx _ _ k1)).trans (qy _ _ ha)
  ·exact hx _ _ k0
  ·exact(hx _ _ k0).trans (qy _ _ ha)
  ·exact Ny h hx _ ha
  ·exact((hx _ _ k0).trans (qy _ _ ha)).trans (Cw (fun c a ha=>Hw h (HN h n) c ha) _ _ fun x Va=>kl x (List.mem_of_mem_drop Va))
theorem Jh{t:aH}{body:Int}(hb:gA t body):∀(ps:List bI) (c:Ck) (i:Int),Kp t c (fB body c ps i)
 |[],c,i=>by unfold fB;exact .refl t c
 |p::ps,c,i=>by
  unfold fB;simp only;refine Kp.trans ?_ (Jh hb ps _ _);split
  ·exact(rO c 41 hb).trans (pQ rfl rfl rfl)
  ·exact pQ rfl rfl rfl
variable{k:Nat}
def o8(h:aR t)(hk:k<t.aw.length):gA t (nth t.aw k).body:=by have:=h.chain.mem (nth t.aw k).body (List.mem_map.2 ⟨_,ff hk,rfl⟩);unfold gA;omega
def KK(h:aR t)(c:Ck)(hk:k<t.aw.length):Kp t c (gQ c k):=fun hc=>by
 refine(show Kp t c (gQ c k) from ?_) hc;have hb:gA t (nth c.aa.aw k).body:=by rw[hc];exact o8 h hk
 have h1:Kp t c (fB (nth c.aa.aw k).body { c with fn:=(k:Int),vars:=[],more:=[],size:=0 } (nth c.aa.aw k).params 0):=Kp.trans (b:={ c with fn:=(k:Int),vars:=[],more:=[],size:=0 }) (pQ rfl rfl rfl) (Jh hb _ _ _);unfold gQ;simp only;split
 ·exact(h1.trans (Hw h (HN h _) _ hb)).trans (pQ rfl rfl rfl)
 ·exact h1.trans (pQ rfl rfl rfl)
theorem Em{t:aH}(h:aR t):∀(n:Nat) (c:Ck) (i:Nat),i+n<=t.aw.length->Kp t c (gz c i n)
 |0,c,i,_=>by unfold gz;exact .refl t c
 |n+1,c,i,hi=>by
  unfold gz;split
  ·exact(KK h c jB).trans (Em h n _ _ jB)
  ·exact .refl t c
theorem HB{t:aH}{x:bh}(hx:gA t x.body):∀(l:List bh) (c:Ck),Kp t c (kU x c l)
 |[],c=>by unfold kU;exact .refl t c
 |f::l,c=>by
  unfold kU;refine Kp.trans ?_ (HB hx l _);split
  ·exact rO c 41 hx
  ·exact .refl t c
theorem Fz{t:aH}(h:aR t):∀(n:Nat) (c:Ck) (m:Bool) (i:Nat),i+n<=t.aw.length->Kp t c (jX t.aw c m i n).1
 |0,c,m,i,_=>by unfold jX;exact .refl t c
 |n+1,c,m,i,hi=>by unfold jX;exact(HB (o8 h jB) _ _).trans (Fz h n _ _ _ jB)
def Rv(h:aR t)(c:Ck):Kp t c (jd c):=fun hc=>by
 have h1:Kp t c (jX c.aa.aw c false 0 c.aa.aw.length).1:=by rw[hc];exact Fz h _ _ _ _ jB
 refine(show Kp t c (jd c) from ?_) hc;unfold jd;simp only;split
 ·exact h1
 ·refine h1.trans fun hq=>?_
  unfold Ck.aE;split
  ·exact⟨hq,fun _=>.inr (.inl rfl)⟩
  ·exact⟨hq,id⟩
def TH(h:aR t):yK (jc t)/\(jc t).aa=t:=by have k:Kp t (js t) (jc t):=(Rv h (js t)).trans (Em h _ _ _ jB);exact⟨(k rfl).2 (.inl rfl),(k rfl).1⟩
def Qr(h:aR t):(iy t).2.2=0\/(iy t).2.2=44\/gA t (iy t).2.1:=by
 obtain⟨a,b⟩:=TH h;unfold iy;split
 ·rcases a with a|a|a
  ·exact .inl a
  ·exact .inr (.inl a)
  ·rw[b]at a;exact .inr (.inr a)
 ·exact .inl rfl
def JS(s:UI)(hs:s.size<=1000000):aC prog 6 [rS s] (.aQ [.agg (cn (gh s).1),rI (gh s).2.1,rI (gh s).2.2]):=by
 have hp:=T8 s hs;by_cases h1:(gV s).2.2=0
 ·have ht:=vD h1;have hk:=KV (gV s).1 ht;have Vm:=Qr ht;by_cases h2:(iy (gV s).1).2.2=44
  ·have e:gh s=(k9,0,44):=by unfold gh;rw[if_neg (fun h=>h h1)];simp only;rw[if_pos h2]
   rw[e];refine bQ func6 ntmps6 ?_
   (have W:=jA h1 h2;repeat' (first|refine av fun K hK=>?_|refine au ?_|(refine hK _ _ ?_;clear hK K)|(refine ar ?_ ?_<;>intro hc<;>try exact jz)|refine cp (hp) ?_|refine cp (hk) ?_|refine aq ?_|exact jI|(clear hK K)))
   refine fF [.cell 2 30,.tmp 3,.tmp 4] ?_;refine bt.aQ (ds:=[.agg (cn k9),rI _,rI _]) ?_;refine jA (bt.agg (ds:=cn k9) ?_) (jA (.same _ rfl) (jA (.same _ rfl) trivial));simp only[cn,k9];exact jL
  ·by_cases h3:(iy (gV s).1).2.2=0
   ·have e:gh s=((iy (gV s).1).1,0,0):=by unfold gh;rw[if_neg (fun h=>h h1)];simp only;rw[if_neg h2,if_neg (fun h=>h h3)]
    rw[e];refine bQ func6 ntmps6 ?_
    (have W:=jA h1 h3;repeat' (first|refine av fun K hK=>?_|refine au ?_|(refine hK _ _ ?_;clear hK K)|(refine ar ?_ ?_<;>intro hc<;>try exact jz)|refine cp (hp) ?_|refine cp (hk) ?_|refine aq ?_|exact jI|(clear hK K)))
    (refine ba [.cell 2 30,.tmp 3,.tmp 4] ?_;try simp only[go_sem])
   ·have e:gh s=(k9,(nth (gV s).1.nodes (iy (gV s).1).2.1.toNat).cV,(iy (gV s).1).2.2):=by unfold gh;rw[if_neg (fun h=>h h1)];simp only;rw[if_neg h2,if_pos h3]
    obtain⟨Vw,WG⟩:=(Vm.resolve_left h3).resolve_left h2;rw[e];refine bQ func6 ntmps6 ?_
    (have W:=jA h1 (jA h2 (h3));repeat' (first|refine av fun K hK=>?_|refine au ?_|(with_reducible refine gR 8 ?_);refine dA 8 [0] (bf 0 11) mixed ?_|(refine hK _ _ ?_;clear hK K)|(refine ar ?_ ?_<;>intro hc<;>try exact jz)|refine cp (hp) ?_|refine cp (hk) ?_|refine aq ?_|exact jI|(clear hK K)))
    refine fF [.cell 2 30,.tmp 3,.tmp 4] ?_;refine bt.aQ (ds:=[.agg (cn k9),rI _,rI _]) ?_;refine jA (bt.agg (ds:=cn k9) ?_) (jA (.same _ rfl) (jA (.same _ rfl) trivial));simp only[cn,k9];exact jL
 ·have e:gh s=(k9,(gV s).2.1,(gV s).2.2):=by unfold gh;rw[if_pos h1]
  rw[e];refine bQ func6 ntmps6 ?_
  (have W:=h1;repeat' (first|refine av fun K hK=>?_|refine au ?_|(refine hK _ _ ?_;clear hK K)|(refine ar ?_ ?_<;>intro hc<;>try exact jz)|refine cp (hp) ?_|refine aq ?_|exact jI|(clear hK K)))
  refine fF [.cell 2 30,.tmp 3,.tmp 4] ?_;refine bt.aQ (ds:=[.agg (cn k9),rI _,rI _]) ?_;refine jA (bt.agg (ds:=cn k9) ?_) (jA (.same _ rfl) (jA (.same _ rfl) trivial));simp only[cn,k9];exact jL
def xv[Inhabited α](l:List α)(i k:Nat)(v:α):nth (l.set i v) k=if i=k/\k<l.length then v else nth l k:=by
 unfold nth;rw[List.getD_eq_getElem?_getD,List.getElem?_set,List.getD_eq_getElem?_getD];by_cases h:i=k
 ·subst h;by_cases hi:i<l.length
  ·simp[hi]
  ·simp[hi]
 ·simp[h]
structure vk(t:aH)(ty:List Int)(k:Nat):Prop where
 int:(nth t.nodes k).kind=1->nth ty k=1
 bool:(nth t.nodes k).kind=2->nth ty k=2
 text:(nth t.nodes k).kind=3->nth ty k=3
 var:(nth t.nodes k).kind=4->1<=nth ty k/\nth ty k<=4
 index:(nth t.nodes k).kind=5->nth ty k=1/\nth ty (nth (nth t.nodes k).l 0).toNat=1
 len:(nth t.nodes k).kind=6->nth ty k=1/\(nth ty (nth (nth t.nodes k).l 0).toNat=3\/nth ty (nth (nth t.nodes k).l 0).toNat=4)
 neg:(nth t.nodes k).kind=7->nth ty k=1/\nth ty (nth (nth t.nodes k).l 0).toNat=1
 not:(nth t.nodes k).kind=8->nth ty k=2/\nth ty (nth (nth t.nodes k).l 0).toNat=2
 Lo:(nth t.nodes k).kind=9->nth ty k=lT (nth t.nodes k).name (nth ty (nth (nth t.nodes k).l 0).toNat) (nth ty (nth (nth t.nodes k).l 1).toNat)/\nth ty k≠0
 cond:(nth t.nodes k).kind=15\/(nth t.nodes k).kind=16->nth ty (nth (nth t.nodes k).l 0).toNat=2
 call:(nth t.nodes k).kind=21->0<=jy bh.name (nth t.nodes k).name t.aw 0 (-1)/\(nth t.nodes k).l.length=(nth t.aw (jy bh.name (nth t.nodes k).name t.aw 0 (-1)).toNat).params.length
 in_:(nth t.nodes k).kind=19->nth ty k=1
 new:(nth t.nodes k).kind=20->nth ty k=4
 Cx:(nth t.nodes k).kind=10->1<=nth ty (nth (nth t.nodes k).l 0).toNat/\nth ty (nth (nth t.nodes k).l 0).toNat<=4
def gg(t:aH)(ty:UG)(lo hi:Nat):Prop:=∀k,lo<=k->k<hi->vk t ty k
def Tw(lo hi:Nat)(c c':Ck):Prop:=∀k,(k<lo\/hi<=k)->nth c'.types k=nth c.types k
variable{lo hi:Nat}{L:UG}
def _root_.Go.Gd.aL.closed{t:List bq}(h:aL t lo L hi):∀k,lo<=k->k<hi->∀a∈(nth t k).l,lo<=a.toNat:=by
 induction h with
 |nil=>intro k h1 h2;omega
 |@cons lo c hi L hc h1 h2 i1 i2=>
  intro k U8 Uy a ha;have l1:=h1.le;by_cases h:k<c
  ·exact i1 k U8 h a ha
  by_cases h':k=c
  ·subst h';exact(h1.mem a ha).2.1
  ·have:=i2 k jB Uy a ha;omega
variable{ty:UG}
def vk.aX(h:aR t){ty':UG}(hk:k<t.nodes.length)(Ul:lo<=k)(hc:∀a∈(nth t.nodes k).l,lo<=a.toNat)(he:∀i,lo<=i->i<=k->nth ty' i=nth ty i)(x:vk t ty k):vk t ty' k:=by
 have hm:=(h.shape k hk).2.1;have sh:=(h.shape k hk).1;have e0:=he k Ul jl;have ea:∀i,i<(nth t.nodes k).l.length->nth ty' (nth (nth t.nodes k).l i).toNat=nth ty (nth (nth t.nodes k).l i).toNat:=fun i hi=>by have Vl:=ff hi;have:=hm _ Vl;exact he _ (hc _ Vl) jB
 refine⟨fun e=>by rw[e0];exact x.int e,fun e=>by rw[e0];exact x.bool e,fun e=>by rw[e0];exact x.text e,fun e=>by rw[e0];exact x.var e,fun e=>?_,fun e=>?_,fun e=>?_,fun e=>?_,fun e=>?_,fun e=>?_,x.call,fun e=>by rw[e0];exact x.in_ e,fun e=>by rw[e0];exact x.new e,fun e=>?_⟩
 ·obtain⟨a,hl,_⟩:=sh.one jB;rw[e0,ea 0 (by rw[hl];simp)];exact x.index e
 ·obtain⟨a,hl,_⟩:=sh.one jB;rw[e0,ea 0 (by rw[hl];simp)];exact x.len e
 ·obtain⟨a,hl,_⟩:=sh.one jB;rw[e0,ea 0 (by rw[hl];simp)];exact x.neg e
 ·obtain⟨a,hl,_⟩:=sh.one jB;rw[e0,ea 0 (by rw[hl];simp)];exact x.not e
 ·obtain⟨a,b,hl,_⟩:=sh.two jB;rw[e0,ea 0 (by rw[hl];simp),ea 1 (by rw[hl];simp)];exact x.Lo e
 ·have hl:0<(nth t.nodes k).l.length:=by
   rcases e with e|e
   ·obtain⟨a,b,_,_,hl|⟨d,hl,_⟩⟩:=sh.lE e<;>rw[hl]<;>simp
   ·obtain⟨a,b,hl,_⟩:=sh.eG e;rw[hl];simp
  rw[ea 0 hl];exact x.cond e
 ·obtain⟨a,hl,_⟩:=sh.right jB;rw[ea 0 (by rw[hl];simp)];exact x.Cx e
theorem gg.aX{t:aH}(h:aR t){ty ty':UG}{lo hi:Nat}{L:UG}(hc:aL t.nodes lo L hi)(hl:hi<=t.nodes.length)(he:∀i,lo<=i->i<hi->nth ty' i=nth ty i)(x:gg t ty lo hi):gg t ty' lo hi:=fun k h1 h2=> (x k h1 h2).aX h jB h1 (hc.closed k h1 h2) fun i g1 g2=>he i g1 jB
variable{mid:Nat}
def gg.join(x:gg t ty lo mid)(y:gg t ty mid hi):gg t ty lo hi:=fun k h1 h2=>by
 by_cases h:k<mid
 ·exact x k h1 h
 ·exact y k jB h2
def gg.none:gg t ty lo lo:=fun k h1 h2=>jB
def Tw.refl(lo hi:Nat)(c:Ck):Tw lo hi c c:=fun _ _=>rfl
def Tw.same{c:Ck}(h:c'.types=c.types):Tw lo hi c c':=fun _ _=>by rw[h]
theorem Tw.trans{lo hi:Nat}{a b c:Ck}(h:Tw lo hi a b)(k:Tw lo hi b c):Tw lo hi a c:=fun i hi=>(k i hi).trans (h i hi)
def Tw.mono{lo' Vi:Nat}{a:Ck}(h:Tw lo hi a b)(h1:lo'<=lo)(h2:hi<=Vi):Tw lo' Vi a b:=fun i hi=>h i jB
def Bw(c:Ck)(e a:Int):(c.aE e a).types=c.types:=by unfold Ck.aE;split<;>rfl
def lR(c:Ck)(b:Bool)(a:Int):(c.ap b a).types=c.types:=by unfold Ck.ap;split;rfl;exact Bw _ _ _
def jr{c:Ck}{b:Bool}(h:(c.ap b a).e=0):b=true/\c.e=0:=by
 unfold Ck.ap at h;split at h
 ·exact⟨by assumption,h⟩
 ·exfalso;unfold Ck.aE at h;split at h
  ·cases h
  ·contradiction
def qs{c:Ck}{e:Int}(he:e≠0)(h:(c.aE e a).e=0):False:=by
 unfold Ck.aE at h;split at h
 ·exact he h
 ·contradiction
def yN(c:Ck)(a:Int):(c.named a).1.types=c.types:=by unfold Ck.named;split;exact Bw _ _ _;rfl
def cX(c:Ck):Prop:=∀v∈c.vars,1<=v.ty/\v.ty<=4
def cX.ev{c:Ck}(h:cX c)(s:Ev c c'):cX c':=by unfold cX;rw[s.vars];exact h
def LQ{c:Ck}(h:cX c)(he:(c.named a).1.e=0):1<=(c.named a).2/\(c.named a).2<=4:=by
 unfold Ck.named at he ⊢;split
 ·rename_i hf;rw[if_pos hf]at he;exact(qs jC he).elim
 ·rename_i hf;rcases zd bE.name (c.node a).name c.vars 0 jB with⟨h1,_⟩|h1
  ·exact(hf (by show ji bE.name (c.node a).name c.vars 0<0;rw[h1];decide)).elim
  ·exact h _ (ff (by show(ji bE.name (c.node a).name c.vars 0).toNat<_;omega))
def Ev.e0{c:Ck}(s:Ev c c')(h:c'.e=0):c.e=0:=Classical.byContradiction fun e=>s.err e h
structure gv(t:aH)(lo hi:Nat)(c c':Ck):Prop where
 tw:Tw lo hi c c'
 all:gg t c'.types lo hi
def gv.post{a c:Ck}(h:gv t lo hi a b)(e:c.types=b.types):gv t lo hi a c:=⟨h.tw.trans (.same e),by rw[e];exact h.all⟩
def gv.pre{a c:Ck}(e:b.types=a.types)(h:gv t lo hi b c):gv t lo hi a c:=⟨(Tw.same e).trans h.tw,h.all⟩
def gv.seq(ht:aR t){a c:Ck}(hc:aL t.nodes lo L mid)(hl:mid<=t.nodes.length)(h1:mid<=hi)(h:gv t lo mid a b)(k:gv t mid hi b c):gv t lo hi a c:=
 ⟨(h.tw.mono jl h1).trans (k.tw.mono hc.le jl),(h.all.aX ht hc hl fun i _ h2=>k.tw i (.inl h2)).join k.all⟩
def C6(t:aH)(n:Nat):Prop:=∀(c:Ck) (a:Int) (lo:Nat),bG c->c.aa=t->cX c->0<=a->a<t.nodes.length->a.toNat<n->fv (bX t.nodes a)->aL t.nodes lo (nth t.nodes a.toNat).l a.toNat->(az n c a).1.e=0->
 gv t lo (a.toNat+1) c (az n c a).1/\nth (az n c a).1.types a.toNat=(az n c a).2/\0<=(az n c a).2/\(az n c a).2<=4
variable{t:List bq}
def kK(h:aL t lo [a] hi):0<=a/\a<t.length/\lo<=a.toNat/\hi=a.toNat+1/\aL t lo (nth t a.toNat).l a.toNat:=by
 cases h with
 |cons hc h1 h2=> cases h2;exact⟨jB,jB,by have:=h1.le;simpa using this,jE,by simpa using h1⟩
def kI(h:aL t lo (a::L) hi):0<=a/\a<t.length/\lo<=a.toNat/\a.toNat+1<=hi/\aL t lo (nth t a.toNat).l a.toNat/\aL t (a.toNat+1) L hi:=by
 cases h with
 |cons hc h1 h2=>exact⟨jB,jB,by have:=h1.le;simpa using this,by have:=h2.le;simpa using this,by simpa using h1,by simpa using h2⟩
def aL.og(h0:0<=a)(h1:a<t.length)(h:aL t lo (nth t a.toNat).l a.toNat):aL t lo [a] (a.toNat+1):=by have e:a=((a.toNat:Nat):Int):=jB;rw[e];exact aL.one jB (by simpa using h)
theorem G7{t:aH}(ht:aR t){n:Nat}(hx:C6 t n):∀(L:UG) (c:Ck) (ts:UG) (lo hi:Nat),bG c->c.aa=t->cX c->hi<=n->hi<=t.nodes.length->(∀x∈L,fv (bX t.nodes x))->aL t.nodes lo L hi->(gD (az n) c L ts).1.e=0->gv t lo hi c (gD (az n) c L ts).1
 |[],c,ts,lo,hi,h,hc,hv,hn,hl,hr,Un,he=>by cases Un;unfold gD;exact⟨.refl _ _ _,.none⟩
 |a::L,c,ts,lo,hi,h,hc,hv,hn,hl,hr,Un,he=>by have e0:=(uD (fk n) (a::L) c ts).e0 he;unfold gD at he ⊢;rw[if_pos e0]at he ⊢;obtain⟨c1,c2,c3,c4,c5,c6⟩:=kI Un;have ev:=fk n c a;have e1:=(uD (fk n) L _ _).e0 he;have r1:=(hx c a lo h hc hv c1 c2 jB (hr a jE) c5 e1).1;exact r1.seq ht (aL.og c1 c2 c5) jB jB (G7 ht hx L _ _ _ hi (h.ev ev) (ev.aa.trans hc) (hv.ev ev) hn hl (fun x hx=>hr x (by simp[hx])) c6 he)
theorem Fx(a:Int):∀(ts:UG) (ps:List bI) (c:Ck),(iG a c ts ps).types=c.types
 |[],ps,c=>by rw[uv]
 |_::_,[],c=>by rw[tY]
 |x::ts,p::ps,c=>by
  unfold iG;split
  ·rw[Fx a ts ps _];exact lR _ _ _
  ·rfl
variable{t:aH}{n:Nat}
def R8(ht:aR t)(hx:C6 t n){c:Ck}(h:bG c)(hc:c.aa=t)(hv:cX c)(h0:0<=a)(h1:a<t.nodes.length)(hn:a.toNat<=n)(hk:(nth t.nodes a.toNat).kind=21)(Un:aL t.nodes lo (nth t.nodes a.toNat).l a.toNat)(he:(iX (az n) c a).1.e=0) :
  gv t lo a.toNat c (iX (az n) c a).1/\(0<=(iX (az n) c a).2/\(iX (az n) c a).2<=4)/\0<=jy bh.name (nth t.nodes a.toNat).name t.aw 0 (-1)/\(nth t.nodes a.toNat).l.length=(nth t.aw (jy bh.name (nth t.nodes a.toNat).name t.aw 0 (-1)).toNat).params.length:=by
 have p':c.node a=nth t.nodes a.toNat:=by unfold Ck.node;rw[hc]
 have Vc:=(ht.shape a.toNat jB).1.call hk;unfold iX at he ⊢;split at he
 ·exact(qs jC he).elim
 rename_i hf;rw[if_neg hf];simp only at he ⊢;have e1:=(yJ a _ _ _).e0 he;split at e1
 ·exact(qs jC e1).elim
 rename_i hl;rw[if_neg hl];have r:=G7 ht hx (c.node a).l c [] lo a.toNat h hc hv hn jB (fun x Va=>.inl (Vc x (by rw[<-p'];exact Va))) (by rw[p'];exact Un) e1;have Zc:fL c a=jy bh.name (nth t.nodes a.toNat).name t.aw 0 (-1):=by unfold fL;rw[p',hc]
 refine⟨r.post (Fx _ _ _ _),?_,by rw[<-Zc];omega,by rw[<-Zc,<-p',<-hc];omega⟩;have VO:(nth c.aa.aw (fL c a).toNat)∈c.aa.aw\/(nth c.aa.aw (fL c a).toNat)=default:=by
  by_cases hi:(fL c a).toNat<c.aa.aw.length
  ·exact .inl (ff hi)
  ·exact .inr (Jm (Nat.le_of_not_lt hi))
 rcases VO with VO|VO
 ·exact(ht.fn _ (by rw[<-hc];exact VO)).1.ret
 ·rw[VO];decide
def Rs(s:UI)(a b:Int):0<=lT s a b/\lT s a b<=4:=by
 unfold lT;repeat' split
 all_goals omega
def MY(ht:aR t){c:Ck}{T:Int}(hl:c'.types.length=t.nodes.length)(h0:0<=a)(h1:a<t.nodes.length)(Un:aL t.nodes lo (nth t.nodes a.toNat).l a.toNat)(r:gv t lo a.toNat c c')(hT:vk t (c'.types.set a.toNat T) a.toNat) :
  gv t lo (a.toNat+1) c (c'.note a T)/\nth (c'.note a T).types a.toNat=T:=by
 have hs:∀k,nth (c'.note a T).types k=if a.toNat=k/\k<c'.types.length then T else nth c'.types k:=fun k=>xv _ _ _ _
 refine⟨⟨fun k hk=>?_,?_⟩,by rw[hs,if_pos ⟨rfl,jB⟩]⟩
 ·have Ul:=Un.le;rw[hs,jN];exact r.tw k jB
 ·refine(r.all.aX ht Un jB fun i _ h2=>by rw[hs,jN]).join fun k g1 g2=>?_
  have:k=a.toNat:=jB;subst this;exact hT
theorem xJ{t:aH}(ht:aR t):∀n,C6 t n
 |0=>fun c a lo h hc hv h0 h1 hn=>by omega
 |n+1=>fun c a lo h hc hv h0 h1 hn hr Un he=>by
  have hx:=xJ ht n;have e0:=(fk (n+1) c a).e0 he;unfold az at he ⊢;rw[jN]at he ⊢;simp only at he ⊢;have he:(cw (az n) c a).1.e=0:=he;have p':c.node a=nth t.nodes a.toNat:=by unfold Ck.node;rw[hc]
  have sh:=(ht.shape a.toNat jB).1;have I':(cw (az n) c a).1.types.length=t.nodes.length:=by rw[(Db (fk n) c a).types,h.types,hc]
  -- what is to be shown of the node itself
  suffices hs:gv t lo a.toNat c (cw (az n) c a).1/\vk t ((cw (az n) c a).1.types.set a.toNat (cw (az n) c a).2) a.toNat/\0<=(cw (az n) c a).2/\(cw (az n) c a).2<=4 by obtain⟨s1,s2,s3⟩:=hs;obtain⟨g1,g2⟩:=MY ht I' h0 h1 Un s1 s2;exact⟨g1,g2,s3⟩
  have Um:∀T,nth ((cw (az n) c a).1.types.set a.toNat T) a.toNat=T:=fun T=>by rw[xv,if_pos ⟨rfl,jB⟩]
  have VA:∀T k,k≠a.toNat->nth ((cw (az n) c a).1.types.set a.toNat T) k=nth (cw (az n) c a).1.types k:=fun T k hk=>by rw[xv,jN]
  have leaf:(nth t.nodes a.toNat).l=[]->∀c',c'.types=c.types->gv t lo a.toNat c c':=fun hl c' e=>by
   rw[hl]at Un;have:lo=a.toNat:=by cases Un;rfl
   subst this;exact⟨.same e,.none⟩
  have kid1:∀c0 x,bG c0->c0.aa=t->cX c0->c0.types=c.types->(nth t.nodes a.toNat).l=[x]->fv (bX t.nodes x)->(az n c0 x).1.e=0->gv t lo a.toNat c (az n c0 x).1/\nth (az n c0 x).1.types x.toNat=(az n c0 x).2/\x.toNat≠a.toNat:=fun c0 x g1 g2 g3 g4 hl X8 U4=>by rw[hl]at Un;obtain⟨c1,c2,c3,c4,c5⟩:=kK Un;obtain⟨r1,r2,_⟩:=hx c0 x lo g1 g2 g3 c1 c2 jB X8 c5 U4;rw[c4];exact⟨r1.pre g4,r2,jB⟩
  have kd:∀i,c.aF a i=nth (nth t.nodes a.toNat).l i:=fun i=>by unfold Ck.aF;rw[p']
  have Z3:(nth t.nodes a.toNat).kind=1\/(nth t.nodes a.toNat).kind=2\/(nth t.nodes a.toNat).kind=3\/(nth t.nodes a.toNat).kind=4\/(nth t.nodes a.toNat).kind=5\/(nth t.nodes a.toNat).kind=6\/(nth t.nodes a.toNat).kind=7\/(nth t.nodes a.toNat).kind=8\/(nth t.nodes a.toNat).kind=9\/(nth t.nodes a.toNat).kind=19\/(nth t.nodes a.toNat).kind=20\/(nth t.nodes a.toNat).kind=21:=by have:fv (nth t.nodes a.toNat).kind:=hr;unfold fv cR at this;omega
  rcases Z3 with k|k|k|k|k|k|k|k|k|k|k|k
  ·have e:cw (az n) c a=(c,1):=by unfold cw;simp only;rw[p',k];rfl
   rw[e]at Um ⊢;refine⟨leaf (sh.zero jB) _ rfl,?_,jE,jE⟩;constructor<;>intro k'<;>first|omega|exact Um _
  ·have e:cw (az n) c a=(c,2):=by unfold cw;simp only;rw[p',k];rfl
   rw[e]at Um ⊢;refine⟨leaf (sh.zero jB) _ rfl,?_,jE,jE⟩;constructor<;>intro k'<;>first|omega|exact Um _
  ·have e:cw (az n) c a=(c,3):=by unfold cw;simp only;rw[p',k];rfl
   rw[e]at Um ⊢;refine⟨leaf (sh.zero jB) _ rfl,?_,jE,jE⟩;constructor<;>intro k'<;>first|omega|exact Um _
  ·have e:cw (az n) c a=c.named a:=by unfold cw;simp only;rw[p',k];rfl
   rw[e]at Um he ⊢;have Xi:=LQ hv he;refine⟨leaf (sh.zero jB) _ (yN c a),?_,jB,jB⟩;constructor<;>intro k'<;>first|omega|(rw[Um];exact Xi)
  ·have e:cw (az n) c a=((az n (c.named a).1 (c.aF a 0)).1.ap (decide ((c.named a).2=4) && decide ((az n (c.named a).1 (c.aF a 0)).2=1)) a,1):=by unfold cw;simp only;rw[p',k];rfl
   obtain⟨x,hl,U4⟩:=sh.one jB;have UW:c.aF a 0=x:=by rw[kd,hl];rfl
   rw[e]at Um VA he ⊢;rw[UW]at Um VA he ⊢;obtain⟨b1,b2⟩:=jr he;simp only[Bool.and_eq_true,decide_eq_true_eq]at b1;have ev:=nS c a;obtain⟨r1,r2,r3⟩:=kid1 (c.named a).1 x (h.ev ev) (ev.aa.trans hc) (hv.ev ev) (yN c a) hl (.inl U4) b2;refine⟨r1.post (lR _ _ _),?_,jE,jE⟩;constructor<;>intro k'<;>first|omega|skip
   refine⟨Um _,?_⟩;rw[hl];show nth (List.set _ _ _) x.toNat=1;rw[VA _ _ r3];show nth (Ck.ap _ _ _).types x.toNat=1;rw[lR,r2];exact b1.2
  ·have e:cw (az n) c a=((az n c (c.aF a 0)).1.ap (decide ((az n c (c.aF a 0)).2=3) || decide ((az n c (c.aF a 0)).2=4)) a,1):=by unfold cw;simp only;rw[p',k];rfl
   obtain⟨x,hl,U4⟩:=sh.one jB;have UW:c.aF a 0=x:=by rw[kd,hl];rfl
   rw[e]at Um VA he ⊢;rw[UW]at Um VA he ⊢;obtain⟨b1,b2⟩:=jr he;simp only[Bool.or_eq_true,decide_eq_true_eq]at b1;obtain⟨r1,r2,r3⟩:=kid1 c x h hc hv rfl hl (.inl U4) b2;refine⟨r1.post (lR _ _ _),?_,jE,jE⟩;constructor<;>intro k'<;>first|omega|skip
   refine⟨Um _,?_⟩;rw[hl];show nth (List.set _ _ _) x.toNat=3\/nth (List.set _ _ _) x.toNat=4;rw[VA _ _ r3];show nth (Ck.ap _ _ _).types x.toNat=3\/nth (Ck.ap _ _ _).types x.toNat=4;rw[lR,r2];exact b1
  ·have e:cw (az n) c a=((az n c (c.aF a 0)).1.ap (decide ((az n c (c.aF a 0)).2=1)) a,1):=by unfold cw;simp only;rw[p',k];rfl
   obtain⟨x,hl,U4⟩:=sh.one jB;have UW:c.aF a 0=x:=by rw[kd,hl];rfl
   rw[e]at Um VA he ⊢;rw[UW]at Um VA he ⊢;obtain⟨b1,b2⟩:=jr he;simp only[decide_eq_true_eq]at b1;obtain⟨r1,r2,r3⟩:=kid1 c x h hc hv rfl hl (.inl U4) b2;refine⟨r1.post (lR _ _ _),?_,jE,jE⟩;constructor<;>intro k'<;>first|omega|skip
   refine⟨Um _,?_⟩;rw[hl];show nth (List.set _ _ _) x.toNat=1;rw[VA _ _ r3];show nth (Ck.ap _ _ _).types x.toNat=1;rw[lR,r2];exact b1
  ·have e:cw (az n) c a=((az n c (c.aF a 0)).1.ap (decide ((az n c (c.aF a 0)).2=2)) a,2):=by unfold cw;simp only;rw[p',k];rfl
   obtain⟨x,hl,U4⟩:=sh.one jB;have UW:c.aF a 0=x:=by rw[kd,hl];rfl
   rw[e]at Um VA he ⊢;rw[UW]at Um VA he ⊢;obtain⟨b1,b2⟩:=jr he;simp only[decide_eq_true_eq]at b1;obtain⟨r1,r2,r3⟩:=kid1 c x h hc hv rfl hl (.inl U4) b2;refine⟨r1.post (lR _ _ _),?_,jE,jE⟩;constructor<;>intro k'<;>first|omega|skip
   refine⟨Um _,?_⟩;rw[hl];show nth (List.set _ _ _) x.toNat=2;rw[VA _ _ r3];show nth (Ck.ap _ _ _).types x.toNat=2;rw[lR,r2];exact b1
  ·have e:cw (az n) c a=((az n (az n c (c.aF a 0)).1 (c.aF a 1)).1.ap (!decide (lT (c.node a).name (az n c (c.aF a 0)).2 (az n (az n c (c.aF a 0)).1 (c.aF a 1)).2=0)) a,lT (c.node a).name (az n c (c.aF a 0)).2 (az n (az n c (c.aF a 0)).1 (c.aF a 1)).2):=by unfold cw;simp only;rw[p',k];rfl
   obtain⟨x,y,hl,U4,XS⟩:=sh.two jB;have UW:c.aF a 0=x:=by rw[kd,hl];rfl
   have U8:c.aF a 1=y:=by rw[kd,hl];rfl
   rw[e]at Um VA he ⊢;rw[UW,U8]at Um VA he ⊢;obtain⟨b1,b2⟩:=jr he;simp only[Bool.not_eq_true',decide_eq_false_iff_not]at b1;have ev:=fk n c x;have b0:(az n c x).1.e=0:=(fk n _ y).e0 b2;rw[hl]at Un;obtain⟨c1,c2,c3,c4,c5,c6⟩:=kI Un;obtain⟨d1,d2,d3,d4,d5⟩:=kK c6;obtain⟨r1,r2,_⟩:=hx c x lo h hc hv c1 c2 jB (.inl U4) c5 b0;obtain⟨q1,q2,_⟩:=hx (az n c x).1 y (x.toNat+1) (h.ev ev) (ev.aa.trans hc) (hv.ev ev) d1 d2 jB (.inl XS) d5 b2;have rr:=r1.seq ht (aL.og c1 c2 c5) jB jB q1;rw[d4];refine⟨rr.post (lR _ _ _),?_,Rs _ _ _⟩;rw[d4]at Um VA;rw[<-d4];rw[<-d4]at Um VA;have ex:nth ((az n (az n c x).1 y).1.types) x.toNat=(az n c x).2:=by rw[q1.tw _ jB,r2]
   constructor<;>intro k'<;>first|omega|skip
   have g0:=Um (lT (c.node a).name (az n c x).2 (az n (az n c x).1 y).2);have g1:=VA (lT (c.node a).name (az n c x).2 (az n (az n c x).1 y).2) x.toNat jB;have g2:=VA (lT (c.node a).name (az n c x).2 (az n (az n c x).1 y).2) y.toNat jB;simp only[lR]at g0 g1 g2 ⊢;rw[hl];show _=lT _ (nth _ x.toNat) (nth _ y.toNat)/\_;rw[g0,g1,g2,ex,q2,<-p'];exact⟨rfl,b1⟩
  ·have e:cw (az n) c a=(c,1):=by unfold cw;simp only;rw[p',k];rfl
   rw[e]at Um ⊢;refine⟨leaf (sh.zero jB) _ rfl,?_,jE,jE⟩;constructor<;>intro k'<;>first|omega|exact Um _
  ·have e:cw (az n) c a=((az n c (c.aF a 0)).1.ap (decide ((az n c (c.aF a 0)).2=1)) a,4):=by unfold cw;simp only;rw[p',k];rfl
   obtain⟨x,hl,U4⟩:=sh.one jB;have UW:c.aF a 0=x:=by rw[kd,hl];rfl
   rw[e]at Um he ⊢;rw[UW]at Um he ⊢;obtain⟨b1,b2⟩:=jr he;obtain⟨r1,r2,r3⟩:=kid1 c x h hc hv rfl hl (.inl U4) b2;refine⟨r1.post (lR _ _ _),?_,jE,jE⟩;constructor<;>intro k'<;>first|omega|exact Um _
  ·have e:cw (az n) c a=iX (az n) c a:=by unfold cw;simp only;rw[p',k];rfl
   rw[e]at he ⊢;obtain⟨r1,r2,r3⟩:=R8 ht hx h hc hv h0 h1 jB k Un he;refine⟨r1,?_,r2⟩;constructor<;>intro k'<;>first|omega|exact r3
def gv.skip{c:Ck}(hk:fC (bX t.nodes a)\/bX t.nodes a=18)(hcd:(nth t.nodes a.toNat).kind=15\/(nth t.nodes a.toNat).kind=16\/(nth t.nodes a.toNat).kind=10->((nth t.nodes a.toNat).kind=10\/nth c'.types (nth (nth t.nodes a.toNat).l 0).toNat=2)/\1<=nth c'.types (nth (nth t.nodes a.toNat).l 0).toNat/\nth c'.types (nth (nth t.nodes a.toNat).l 0).toNat<=4)(r:gv t lo a.toNat c c'):gv t lo (a.toNat+1) c c':=by
 refine⟨r.tw.mono jl jB,fun k h1 h2=>?_⟩;by_cases h:k<a.toNat
 ·exact r.all k h1 h
 ·have:k=a.toNat:=jB;subst this;have hk:fC (nth t.nodes a.toNat).kind\/(nth t.nodes a.toNat).kind=18:=hk;unfold fC at hk;constructor<;>intro k'<;>first|omega|exact(hcd jB).1.resolve_left jB|exact(hcd jB).2
def Je(t:aH)(n:Nat):Prop:=∀(c:Ck) (a:Int) (lo:Nat),bG c->c.aa=t->cX c->c.e=0->0<=a->a<t.nodes.length->a.toNat<n->fC (bX t.nodes a)->aL t.nodes lo (nth t.nodes a.toNat).l a.toNat->(bT n c a).e=0->
 gv t lo (a.toNat+1) c (bT n c a)/\cX (bT n c a)
def Sv.e0{c:Ck}(s:Sv c c')(h:c'.e=0):c.e=0:=Classical.byContradiction fun e=>s.err e h
theorem BT{t:aH}(ht:aR t){st:Ck->Int->Ck}{C:Int->Prop}{n:Nat}(hs:∀c a,bG c->c.e=0->Sv c (st c a))
  (P':∀(c:Ck) (a:Int) (lo:Nat),bG c->c.aa=t->cX c->c.e=0->0<=a->a<t.nodes.length->a.toNat<n->C (bX t.nodes a)->aL t.nodes lo (nth t.nodes a.toNat).l a.toNat->(st c a).e=0->gv t lo (a.toNat+1) c (st c a)/\cX (st c a)) :
  ∀(L:UG) (c:Ck) (lo hi:Nat),bG c->c.aa=t->cX c->hi<=n->hi<=t.nodes.length->(∀x∈L,C (bX t.nodes x))->aL t.nodes lo L hi->(dP st c L).e=0->gv t lo hi c (dP st c L)/\cX (dP st c L)
 |[],c,lo,hi,h,hc,hv,hn,hl,hr,Un,he=>by cases Un;unfold dP;exact⟨⟨.refl _ _ _,.none⟩,hv⟩
 |a::L,c,lo,hi,h,hc,hv,hn,hl,hr,Un,he=>by have e0:=(qO hs (a::L) c h).e0 he;unfold dP at he ⊢;rw[if_pos e0]at he ⊢;obtain⟨c1,c2,c3,c4,c5,c6⟩:=kI Un;have s:=hs c a h e0;have e1:=(qO hs L _ s.inv).e0 he;obtain⟨r1,v1⟩:=P' c a lo h hc hv e0 c1 c2 jB (hr a jE) c5 e1;obtain⟨r2,v2⟩:=BT ht hs P' L _ _ hi s.inv (s.aa.trans hc) v1 hn hl (fun x hx=>hr x (by simp[hx])) c6 he;exact⟨r1.seq ht (aL.og c1 c2 c5) jB jB r2,v2⟩
def Js(ht:aR t)(P':Je t n)(c:Ck)(a:Int)(lo:Nat)(h:bG c)(hc:c.aa=t)(hv:cX c)(h0:0<=a)(h1:a<t.nodes.length)(hn:a.toNat<=n)(hk:bX t.nodes a=18)(Un:aL t.nodes lo (nth t.nodes a.toNat).l a.toNat)(he:(fl (bT n) c a).e=0) :
  gv t lo (a.toNat+1) c (fl (bT n) c a)/\cX (fl (bT n) c a):=by
 have sv:=qd (oS n) h a;have p':c.node a=nth t.nodes a.toNat:=by unfold Ck.node;rw[hc]
 have hb:=(ht.shape a.toNat jB).1.block hk;have ev:=rA c a;obtain⟨r,_⟩:=BT ht (oS n) (C:=fC) P' (c.node a).l (c.ai a) lo a.toNat (h.ev ev) (ev.aa.trans hc) (hv.ev ev) hn jB (fun x hx=>hb x (by rw[<-p'];exact hx)) (by rw[p'];exact Un) he;have r:gv t lo a.toNat c (fl (bT n) c a):=gv.post (b:=dP (bT n) (c.ai a) (c.node a).l) (gv.pre (a:=c) (b:=c.ai a) rfl r) rfl;have X9:(nth t.nodes a.toNat).kind=18:=hk;refine⟨r.skip (.inr hk) (fun h=>jB),?_⟩;unfold cX;rw[sv.2];exact hv
variable{c0:Ck}{x:Int}
def wD(ht:aR t){c:Ck}(h:bG c0)(hc:c0.aa=t)(hv:cX c0)(Xi:c0.types=c.types)(hn:a.toNat<=n)(hl:(nth t.nodes a.toNat).l=[x])(hx:fv (bX t.nodes x))(Un:aL t.nodes lo (nth t.nodes a.toNat).l a.toNat)(he:(az n c0 x).1.e=0) :
  gv t lo a.toNat c (az n c0 x).1/\0<=(az n c0 x).2/\(az n c0 x).2<=4/\nth (az n c0 x).1.types x.toNat=(az n c0 x).2:=by
 rw[hl]at Un;obtain⟨c1,c2,c3,c4,c5⟩:=kK Un;obtain⟨r1,r2,r3⟩:=xJ ht n c0 x lo h hc hv c1 c2 jB hx c5 he;rw[c4];exact⟨r1.pre Xi,r3.1,r3.2,r2⟩
def KH(ht:aR t){c:Ck}{y:Int}(h:bG c0)(hc:c0.aa=t)(hv:cX c0)(Xi:c0.types=c.types)(hn:a.toNat<=n)(hl:(nth t.nodes a.toNat).l=[x,y])(hx:cR (bX t.nodes x))(hy:cR (bX t.nodes y))(Un:aL t.nodes lo (nth t.nodes a.toNat).l a.toNat)(Uq:a.toNat<=t.nodes.length)(he:(az n (az n c0 x).1 y).1.e=0) :
  gv t lo a.toNat c (az n (az n c0 x).1 y).1:=by
 rw[hl]at Un;obtain⟨c1,c2,c3,c4,c5,c6⟩:=kI Un;obtain⟨d1,d2,d3,d4,d5⟩:=kK c6;have ev:=fk n c0 x;obtain⟨r1,_⟩:=xJ ht n c0 x lo h hc hv c1 c2 jB (.inl hx) c5 ((fk n _ y).e0 he);obtain⟨q1,_⟩:=xJ ht n (az n c0 x).1 y (x.toNat+1) (h.ev ev) (ev.aa.trans hc) (hv.ev ev) d1 d2 jB (.inl hy) d5 he;rw[d4];exact(r1.seq ht (aL.og c1 c2 c5) jB jB q1).pre Xi
def xj{c:Ck}{p:Prop}[Decidable p]{e:Int}(he:e≠0)(h:(if p then c.aE e a else c).e=0):¬p/\(if p then c.aE e a else c)=c:=by
 split at h
 ·exact(qs he h).elim
 ·rename_i hp;exact⟨hp,if_neg hp⟩
theorem JL{t:aH}(ht:aR t):∀n,Je t n
 |0=>fun c a lo h hc hv e0 h0 h1 hn=>by omega
 |n+1=>fun c a lo h hc hv e0 h0 h1 hn hr Un he=>by
  have hs:=JL ht n;have p':(c.ai a).node a=nth t.nodes a.toNat:=by unfold Ck.node;show nth c.aa.nodes _=_;rw[hc]
  have sh:=(ht.shape a.toNat jB).1;have kd:∀i,(c.ai a).aF a i=nth (nth t.nodes a.toNat).l i:=fun i=>by unfold Ck.aF;rw[p']
  have ev:=rA c a;have h':=h.ev ev;have VM:=ev.aa.trans hc;have U3:=hv.ev ev;suffices hsf:gv t lo a.toNat c (bT (n+1) c a)/\cX (bT (n+1) c a)/\((nth t.nodes a.toNat).kind=15\/(nth t.nodes a.toNat).kind=16\/(nth t.nodes a.toNat).kind=10->((nth t.nodes a.toNat).kind=10\/nth (bT (n+1) c a).types (nth (nth t.nodes a.toNat).l 0).toNat=2)/\1<=nth (bT (n+1) c a).types (nth (nth t.nodes a.toNat).l 0).toNat/\nth (bT (n+1) c a).types (nth (nth t.nodes a.toNat).l 0).toNat<=4) from⟨hsf.1.skip (.inl hr) hsf.2.2,hsf.2.1⟩
  have Z3:(nth t.nodes a.toNat).kind=10\/(nth t.nodes a.toNat).kind=11\/(nth t.nodes a.toNat).kind=12\/(nth t.nodes a.toNat).kind=13\/(nth t.nodes a.toNat).kind=14\/(nth t.nodes a.toNat).kind=17\/(nth t.nodes a.toNat).kind=15\/(nth t.nodes a.toNat).kind=16:=by have:fC (nth t.nodes a.toNat).kind:=hr;unfold fC at this;omega
  rcases Z3 with k|k|k|k|k|k|k
  ·have e:bT (n+1) c a=o3 (az n) (c.ai a) a:=by unfold bT;simp only;rw[p',k];rfl
   obtain⟨x,hl,X8⟩:=sh.right jB;have UW:(c.ai a).aF a 0=x:=by rw[kd,hl];rfl
   rw[e]at he ⊢;rw[ub]at he ⊢;have he:(eJ (az n) (c.ai a) a).e=0:=he;obtain⟨_,q1⟩:=xj jC he;have q1:eJ (az n) (c.ai a) a=jO (az n) (c.ai a) a:=q1;rw[q1]at he;obtain⟨_,q2⟩:=xj jC he;have q2:jO (az n) (c.ai a) a=iN (az n) (c.ai a) a:=q2;rw[q2]at he;unfold iN at he;rw[UW]at he;obtain⟨b1,b2⟩:=jr he;simp only[Bool.not_eq_true',decide_eq_false_iff_not]at b1;obtain⟨r1,r2,r3,r4⟩:=wD (c:=c) ht h' VM U3 rfl jB hl X8 Un b2;have Xi:(eJ (az n) (c.ai a) a).types=(az n (c.ai a) x).1.types:=by rw[q1,q2];unfold iN;rw[UW,lR]
   refine⟨r1.post Xi,fun v Yx=>?_,fun _=>⟨.inl k,by rw[hl];show 1<=nth (eJ (az n) (c.ai a) a).types x.toNat/\nth (eJ (az n) (c.ai a) a).types x.toNat<=4;rw[Xi,r4];omega⟩⟩
   have Yx:v∈(eJ (az n) (c.ai a) a).vars++[(⟨((c.ai a).node a).name,(az n (c.ai a) ((c.ai a).aF a 0)).2,(eJ (az n) (c.ai a) a).size⟩:bE)]:=Yx;rcases List.mem_append.1 Yx with hm|hm
   ·rw[(zN (fk n) (c.ai a) a).vars]at hm;exact U3 v hm
   ·rw[List.mem_singleton.1 hm];show 1<=(az n (c.ai a) ((c.ai a).aF a 0)).2/\(az n (c.ai a) ((c.ai a).aF a 0)).2<=4;rw[UW];omega
  ·have e:bT (n+1) c a=(az n ((c.ai a).named a).1 ((c.ai a).aF a 0)).1.ap (decide (((c.ai a).named a).2=(az n ((c.ai a).named a).1 ((c.ai a).aF a 0)).2)) a:=by unfold bT;simp only;rw[p',k];rfl
   obtain⟨x,hl,X8⟩:=sh.right jB;have UW:(c.ai a).aF a 0=x:=by rw[kd,hl];rfl
   rw[e]at he ⊢;rw[UW]at he ⊢;obtain⟨b1,b2⟩:=jr he;have en:=nS (c.ai a) a;obtain⟨r1,_⟩:=wD (c:=c) ht (h'.ev en) (en.aa.trans VM) (U3.ev en) (yN _ _) jB hl X8 Un b2;exact⟨r1.post (lR _ _ _),(U3.ev en).ev ((fk n _ _).trans (kN _ _ _)),fun h=>jB⟩
  ·have e:bT (n+1) c a=(az n (az n ((c.ai a).named a).1 ((c.ai a).aF a 0)).1 ((c.ai a).aF a 1)).1.ap (decide (((c.ai a).named a).2=4) && decide ((az n ((c.ai a).named a).1 ((c.ai a).aF a 0)).2=1) && decide ((az n (az n ((c.ai a).named a).1 ((c.ai a).aF a 0)).1 ((c.ai a).aF a 1)).2=1)) a:=by unfold bT;simp only;rw[p',k];rfl
   obtain⟨x,y,hl,U4,XS⟩:=sh.two jB;have UW:(c.ai a).aF a 0=x:=by rw[kd,hl];rfl
   have U8:(c.ai a).aF a 1=y:=by rw[kd,hl];rfl
   rw[e]at he ⊢;rw[UW,U8]at he ⊢;obtain⟨b1,b2⟩:=jr he;have en:=nS (c.ai a) a;have r1:=KH (c:=c) ht (h'.ev en) (en.aa.trans VM) (U3.ev en) (yN _ _) jB hl U4 XS Un jB b2;exact⟨r1.post (lR _ _ _),(U3.ev en).ev (((fk n _ _).trans (fk n _ _)).trans (kN _ _ _)),fun h=>jB⟩
  ·have e:bT (n+1) c a=(az n (c.ai a) ((c.ai a).aF a 0)).1:=by unfold bT;simp only;rw[p',k];rfl
   obtain⟨x,hl,hxk⟩:=sh.tx k;have UW:(c.ai a).aF a 0=x:=by rw[kd,hl];rfl
   rw[e]at he ⊢;rw[UW]at he ⊢;obtain⟨r1,_⟩:=wD (c:=c) ht h' VM U3 rfl jB hl (by rw[hxk];unfold fv;omega) Un he;exact⟨r1,U3.ev (fk n _ _),fun h=>jB⟩
  ·have e:bT (n+1) c a=(az n (c.ai a) ((c.ai a).aF a 0)).1.ap (!decide ((az n (c.ai a) ((c.ai a).aF a 0)).2=4)) a:=by unfold bT;simp only;rw[p',k];rfl
   obtain⟨x,hl,U4⟩:=sh.one jB;have UW:(c.ai a).aF a 0=x:=by rw[kd,hl];rfl
   rw[e]at he ⊢;rw[UW]at he ⊢;obtain⟨b1,b2⟩:=jr he;obtain⟨r1,_⟩:=wD (c:=c) ht h' VM U3 rfl jB hl (.inl U4) Un b2;exact⟨r1.post (lR _ _ _),U3.ev ((fk n _ _).trans (kN _ _ _)),fun h=>jB⟩
  ·have e:bT (n+1) c a=kH (az n) (c.ai a) a:=by unfold bT;simp only;rw[p',k];rfl
   rw[e]at he ⊢;unfold kH at he ⊢;rw[p']at he ⊢;simp only at he ⊢;split at he
   ·exact(qs jC he).elim
   rename_i hf;rw[if_neg hf];rcases sh.ret k with hl|⟨x,hl,U4⟩
   ·rw[hl];rw[if_neg jC];rw[hl]at Un;have:lo=a.toNat:=by cases Un;rfl
    subst this;exact⟨⟨.same rfl,.none⟩,U3,fun h=>jB⟩
   ·have UW:(c.ai a).aF a 0=x:=by rw[kd,hl];rfl
    have V0:(nth t.nodes a.toNat).l.length=1:=by rw[hl];rfl
    rw[if_pos V0]at he ⊢;rw[UW]at he ⊢;obtain⟨b1,b2⟩:=jr he;obtain⟨r1,_⟩:=wD (c:=c) ht h' VM U3 rfl jB hl (.inl U4) Un b2;exact⟨r1.post (lR _ _ _),U3.ev ((fk n _ _).trans (kN _ _ _)),fun h=>jB⟩
  ·have e:bT (n+1) c a=dP (fl (bT n)) ((az n (c.ai a) ((c.ai a).aF a 0)).1.ap (decide ((az n (c.ai a) ((c.ai a).aF a 0)).2=2)) a) (((c.ai a).node a).l.drop 1):=by
    unfold bT;simp only;rw[p'];rcases k with k|k<;>rw[k]<;>rfl
   have YG:∃x L,(nth t.nodes a.toNat).l=x::L/\cR (bX t.nodes x)/\∀y∈L,bX t.nodes y=18:=by
    rcases k with k|k
    ·obtain⟨x,y,hx,hy,hl|⟨z,hl,hz⟩⟩:=sh.lE k
     ·exact⟨x,[y],hl,hx,fun u hu=>by rw[List.mem_singleton.1 hu];exact hy⟩
     ·exact⟨x,[y,z],hl,hx,fun u hu=>by
       rcases List.mem_cons.1 hu with rfl|hu
       ·exact hy
       ·rw[List.mem_singleton.1 hu];exact hz⟩
    ·obtain⟨x,y,hl,hx,hy⟩:=sh.eG k;exact⟨x,[y],hl,hx,fun u hu=>by rw[List.mem_singleton.1 hu];exact hy⟩
   obtain⟨x,L,hl,U4,hL⟩:=YG;have UW:(c.ai a).aF a 0=x:=by rw[kd,hl];rfl
   rw[e]at he ⊢;rw[p',hl,UW]at he ⊢;have he:(dP (fl (bT n)) ((az n (c.ai a) x).1.ap (decide ((az n (c.ai a) x).2=2)) a) L).e=0:=he;show gv t lo a.toNat c (dP (fl (bT n)) ((az n (c.ai a) x).1.ap (decide ((az n (c.ai a) x).2=2)) a) L)/\cX (dP (fl (bT n)) ((az n (c.ai a) x).1.ap (decide ((az n (c.ai a) x).2=2)) a) L)/\((nth t.nodes a.toNat).kind=15\/(nth t.nodes a.toNat).kind=16\/(nth t.nodes a.toNat).kind=10->((nth t.nodes a.toNat).kind=10\/nth (dP (fl (bT n)) ((az n (c.ai a) x).1.ap (decide ((az n (c.ai a) x).2=2)) a) L).types (nth (x::L) 0).toNat=2)/\1<=nth (dP (fl (bT n)) ((az n (c.ai a) x).1.ap (decide ((az n (c.ai a) x).2=2)) a) L).types (nth (x::L) 0).toNat/\nth (dP (fl (bT n)) ((az n (c.ai a) x).1.ap (decide ((az n (c.ai a) x).2=2)) a) L).types (nth (x::L) 0).toNat<=4);have ex:=(fk n (c.ai a) x).trans (kN _ (decide ((az n (c.ai a) x).2=2)) a);have Vo:=h'.ev ex;have hsb:∀(q:Ck) b,bG q->q.e=0->Sv q (fl (bT n) q b):=fun q b hq _=>(qd (oS n) hq b).1
   have e1:=(qO hsb L _ Vo).e0 he;obtain⟨b1,b2⟩:=jr e1;rw[hl]at Un;obtain⟨c1,c2,c3,c4,c5,c6⟩:=kI Un;obtain⟨r1,r1b,_⟩:=xJ ht n (c.ai a) x lo h' VM U3 c1 c2 jB (.inl U4) c5 b2;obtain⟨r2,v2⟩:=BT ht hsb (C:=fun k=>k=18) (n:=n) (fun q b l g1 g2 g3 _ g5 g6 g7 g8 g9 g10=>Js ht hs q b l g1 g2 g3 g5 g6 jB g8 g9 g10) L _ (x.toNat+1) a.toNat Vo (ex.aa.trans VM) (U3.ev ex) jB jB hL c6 he;exact⟨((gv.pre (a:=c) (b:=c.ai a) rfl r1).post (lR _ _ _)).seq ht (aL.og c1 c2 c5) jB jB r2,v2,fun _=>by show(_\/nth _ x.toNat=2)/\1<=nth _ x.toNat/\nth _ x.toNat<=4;rw[r2.tw x.toNat (.inl jB),lR,r1b];have:=of_decide_eq_true b1;omega⟩
theorem EJ{t:aH}(body:Int):∀(ps:List bI) (c:Ck) (i:Int),cX c->(∀p∈ps,1<=p.ty/\p.ty<=4)->cX (fB body c ps i)/\(fB body c ps i).types=c.types/\((fB body c ps i).e=0->c.e=0)
 |[],c,i,h,hp=>by unfold fB;exact⟨h,rfl,id⟩
 |p::ps,c,i,h,hp=>by
  have fin:∀c1:Ck,Ev c c1->c1.types=c.types->cX (fB body (mK c1 ⟨p.name,p.ty,i⟩) ps (i+1))/\(fB body (mK c1 ⟨p.name,p.ty,i⟩) ps (i+1)).types=c.types/\((fB body (mK c1 ⟨p.name,p.ty,i⟩) ps (i+1)).e=0->c.e=0):=fun c1 s e=>by
   obtain⟨a,b,d⟩:=EJ (t:=t) body ps (mK c1 ⟨p.name,p.ty,i⟩) (i+1) (fun v hv=>by
    have hv:v∈c1.vars++[(⟨p.name,p.ty,i⟩:bE)]:=hv;rcases List.mem_append.1 hv with hv|hv
    ·exact h.ev s v hv
    ·rw[List.mem_singleton.1 hv];exact hp p jE) (fun q hq=>hp q (by simp[hq]))
   exact⟨a,b.trans e,fun hh=>s.e0 (d hh)⟩
  unfold fB;simp only;split
  ·exact fin _ (nL c jC body) (Bw _ _ _)
  ·exact fin _ (.refl c) rfl
def Oj(ht:aR t){c:Ck}(h:gx c)(hc:c.aa=t)(hk:k<t.aw.length)(Uu:c.aO.length<6)(Un:aL t.nodes lo (nth t.nodes (nth t.aw k).body.toNat).l (nth t.aw k).body.toNat)(he:(gQ c k).e=0) :
  gv t lo ((nth t.aw k).body.toNat+1) c (gQ c k)/\c.e=0:=by
 have UY:k<c.aa.aw.length:=by rw[hc];exact hk
 have hp3:=h.aa.fn _ (ff UY);have WU:bG { c with fn:=(k:Int),vars:=[],more:=[],size:=0 }:=⟨h.aa,h.types,h.slots,h.aw,by show c.aO.length<=6;omega,by show(0:Int)<=k;omega,by show(k:Int)<(c.aa.aw.length:Int);omega,by show((0:Nat):Int)<=0;omega,by show(0:Int)<=25;omega,fun _=>by show(0:Int)<=24;omega⟩;obtain⟨a,b,d⟩:=y7 (nth c.aa.aw k).body (nth c.aa.aw k).params _ 0 WU (by show(0:Int)+_<=20;omega);obtain⟨a',b',d'⟩:=EJ (t:=t) (nth c.aa.aw k).body (nth c.aa.aw k).params { c with fn:=(k:Int),vars:=[],more:=[],size:=0 } 0 (fun v hv=>by simp at hv) hp3.1.ps;have VW:=o8 ht hk;have XF:=ht.body _ (ff hk);unfold gQ at he ⊢;simp only at he ⊢;rw[hc]at he ⊢;rw[hc]at a b d a' b' d';split at he
 ·rename_i e1;rw[if_pos e1];obtain⟨r,_⟩:=Js ht (JL ht t.nodes.length) _ (nth t.aw k).body lo a (b.trans (by rfl)) a' VW.1 VW.2 (by have:=VW.2;have:=VW.1;omega) XF Un he;have q:=gv.pre (a:=c) b' r;exact⟨⟨fun k hk=>q.tw k hk,q.all⟩,d' e1⟩
 ·rename_i e1;exact(e1 he).elim
theorem Ds{t:aH}(ht:aR t):∀(n i lo:Nat) (c:Ck),gx c->c.aa=t->c.aO.length=i->i+n=t.aw.length->aL t.nodes lo ((t.aw.drop i).map (·.body)) t.nodes.length->(gz c i n).e=0->
  gv t lo t.nodes.length c (gz c i n)/\(gz c i n).aa=t/\gx (gz c i n)/\(gz c i n).aO.length=t.aw.length
 |0,i,lo,c,h,hc,hs,hi,Un,he=>by
  unfold gz;rw[List.drop_eq_nil_of_le jB]at Un;have:lo=t.nodes.length:=by cases Un;rfl
  subst this;exact⟨⟨.refl _ _ _,.none⟩,hc,h,jB⟩
 |n+1,i,lo,c,h,hc,hs,hi,Un,he=>by
  have h6:=ht.aw;unfold gz at he ⊢;by_cases e0:c.e=0
  ·rw[if_pos e0]at he ⊢;have hk:i<t.aw.length:=jB;rw[kV hk]at Un;obtain⟨c1,c2,c3,c4,c5,c6⟩:=kI (a:=(nth t.aw i).body) Un;obtain⟨f1,f2,f3⟩:=Aw h (by rw[hc];exact hk) (by omega:c.aO.length<6);have e1:(gQ c i).e=0:=by
    cases n with
    |zero=>unfold gz at he;exact he
    |succ m=>
     unfold gz at he;split at he
     ·assumption
     ·exact he
   obtain⟨r1,_⟩:=Oj ht h hc hk jB c5 e1;obtain⟨r2,q1,q2,q3⟩:=Ds ht n (i+1) ((nth t.aw i).body.toNat+1) (gQ c i) f1 (f2.trans hc) jB jB c6 he;exact⟨r1.seq ht (aL.og c1 c2 c5) jB jB r2,q1,q2,q3⟩
  ·rw[if_neg e0]at he;exact(e0 he).elim
structure pJ(p:af):Prop where
 aa:aR p.aa
 types:p.types.length=p.aa.nodes.length
 slots:p.slots.length=p.aa.nodes.length
 fn:p.fn.length=p.aa.nodes.length
 size:p.size.length=p.aa.aw.length
 ty:gg p.aa p.types 0 p.aa.nodes.length
def G6(ht:aR t):gx (jd (js t))/\(jd (js t)).aa=t/\(jd (js t)).aO=[]:=by
 have ev:=GG (js t);refine⟨⟨by rw[ev.aa];exact ht,?_,?_,?_⟩,ev.aa,ev.aO⟩
 ·rw[ev.types,ev.aa];show(t.nodes.map _).length=t.nodes.length;simp
 ·rw[ev.slots,ev.aa];show(t.nodes.map _).length=t.nodes.length;simp
 ·rw[ev.aw,ev.aa];show(t.nodes.map _).length=t.nodes.length;simp
def Ad(ht:aR t)(he:(iy t).2.2=0):pJ (iy t).1/\(iy t).1.aa=t:=by
 unfold iy at he ⊢;split at he
 ·rename_i h;exact(h he).elim
 rename_i h;rw[if_neg h];have h:(jc t).e=0:=jB;obtain⟨i1,i2,i3⟩:=G6 ht;obtain⟨r,q1,q2,q3⟩:=Ds ht t.aw.length 0 0 (jd (js t)) i1 i2 (by rw[i3];rfl) jB (by rw[List.drop_zero];exact ht.chain) h;refine⟨⟨q2.aa,q2.types,q2.slots,q2.aw,?_,?_⟩,q1⟩
 ·show(jc t).aO.length=(jc t).aa.aw.length;have e:(jc t).aa=t:=q1;rw[e];exact q3
 ·show gg (jc t).aa (jc t).types 0 (jc t).aa.nodes.length;have e:(jc t).aa=t:=q1;rw[e];exact r.all
def Jc{s:UI}(he:(gh s).2.2=0):pJ (gh s).1:=by
 unfold gh at he ⊢;split at he
 ·rename_i h;exact(h he).elim
 rename_i h;rw[if_neg h];have h:(gV s).2.2=0:=jB;simp only at he ⊢;split at he
 ·cases he
 rename_i h2;split at he
 ·rename_i h3;exact(h3 he).elim
 rename_i h3;rw[if_neg h2,if_neg h3];exact(Ad (vD h) jB).1
def ju(k:Int):Prop:=k=4\/k=5\/k=10\/k=11\/k=12
def dz(c:Ck):Prop:=0<=c.size/\∀v∈c.vars,0<=v.slot/\v.slot<c.size
structure fK(t:aH)(lo hi:Nat)(c c':Ck):Prop where
 sw:∀k,(k<lo\/hi<=k)->nth c'.slots k=nth c.slots k
 all:∀k,lo<=k->k<hi->ju (nth t.nodes k).kind->0<=nth c'.slots k/\nth c'.slots k<c'.size
 size:c.size<=c'.size
def fK.post{a c:Ck}(h:fK t lo hi a b)(e:c.slots=b.slots)(z:c.size=b.size):fK t lo hi a c:=⟨fun k hk=>by rw[e];exact h.sw k hk,fun k h1 h2 h3=>by rw[e,z];exact h.all k h1 h2 h3,by rw[z];exact h.size⟩
def fK.pre{a c:Ck}(e:b.slots=a.slots)(z:b.size=a.size)(h:fK t lo hi b c):fK t lo hi a c:=⟨fun k hk=>by rw[<-e];exact h.sw k hk,h.all,by rw[<-z];exact h.size⟩
def fK.refl(t:aH)(lo:Nat)(c:Ck):fK t lo lo c c:=⟨fun _ _=>rfl,fun k h1 h2=>jB,Int.le_refl _⟩
def fK.seq{a c:Ck}(h0:lo<=mid)(h1:mid<=hi)(h:fK t lo mid a b)(k:fK t mid hi b c):fK t lo hi a c:=by
 have:=k.size;refine⟨fun i Vi=>(k.sw i jB).trans (h.sw i jB),fun i g1 g2 g3=>?_,by have:=h.size;omega⟩;by_cases e:i<mid
 ·rw[k.sw i (.inl e)];have:=h.all i g1 e g3;omega
 ·exact k.all i jB g2 g3
def fK.node{c:Ck}(h:fK t lo n c c')(hn:ju (nth t.nodes n).kind->0<=nth c'.slots n/\nth c'.slots n<c'.size):fK t lo (n+1) c c':=
 ⟨fun k hk=>h.sw k jB,fun k h1 h2 h3=>by
  by_cases e:k<n
  ·exact h.all k h1 e h3
  ·have:k=n:=jB;subst this;exact hn h3,h.size⟩
def Hl(c:Ck)(e a:Int):(c.aE e a).slots=c.slots/\(c.aE e a).size=c.size:=by unfold Ck.aE;split<;>exact⟨rfl,rfl⟩
def wk(c:Ck)(b:Bool)(a:Int):(c.ap b a).slots=c.slots/\(c.ap b a).size=c.size:=by unfold Ck.ap;split;exact⟨rfl,rfl⟩;exact Hl _ _ _
theorem fK.ap{t:aH}{lo hi:Nat}{a c:Ck}{b:Bool}{x:Int}(h:fK t lo hi a c):fK t lo hi a (c.ap b x):=h.post (wk c b x).1 (wk c b x).2
def dz.ev{c:Ck}(h:dz c)(s:Ev c c'):dz c':=by unfold dz;rw[s.vars,s.size];exact h
def Dh{c:Ck}(h:dz c)(hn:a.toNat=n)(hl:n<c.slots.length)(he:(c.named a).1.e=0):(∀k,k≠n->nth (c.named a).1.slots k=nth c.slots k)/\0<=nth (c.named a).1.slots n/\nth (c.named a).1.slots n<c.size:=by
 unfold Ck.named at he ⊢;split
 ·rename_i hf;rw[if_pos hf]at he;exact(qs jC he).elim
 ·rename_i hf;have hv:nth c.vars (c.find (c.node a).name).toNat∈c.vars:=by
   rcases zd bE.name (c.node a).name c.vars 0 jB with⟨h1,_⟩|h1
   ·exact(hf (by show ji bE.name (c.node a).name c.vars 0<0;rw[h1];decide)).elim
   ·exact ff (by show(ji bE.name (c.node a).name c.vars 0).toNat<_;omega)
  have hs:∀k,nth (c.slot a (nth c.vars (c.find (c.node a).name).toNat).slot).slots k=if n=k/\k<c.slots.length then(nth c.vars (c.find (c.node a).name).toNat).slot else nth c.slots k:=fun k=>by show nth (c.slots.set a.toNat _) k=_;rw[xv,hn]
  refine⟨fun k hk=>by show nth (c.slot a _).slots k=_;rw[hs,jN],?_⟩;show 0<=nth (c.slot a _).slots n/\nth (c.slot a _).slots n<_;rw[hs,if_pos ⟨rfl,hl⟩];exact h.2 _ hv
def Ir(t:aH)(n:Nat):Prop:=∀(c:Ck) (a:Int) (lo:Nat),bG c->c.aa=t->dz c->0<=a->a<t.nodes.length->a.toNat<n->fv (bX t.nodes a)->aL t.nodes lo (nth t.nodes a.toNat).l a.toNat->(az n c a).1.e=0->fK t lo (a.toNat+1) c (az n c a).1
theorem HK{t:aH}{n:Nat}(hx:Ir t n):∀(L:UG) (c:Ck) (ts:UG) (lo hi:Nat),bG c->c.aa=t->dz c->hi<=n->(∀x∈L,fv (bX t.nodes x))->aL t.nodes lo L hi->(gD (az n) c L ts).1.e=0->fK t lo hi c (gD (az n) c L ts).1
 |[],c,ts,lo,hi,h,hc,hv,hn,hr,Un,he=>by cases Un;unfold gD;exact .refl _ _ _
 |a::L,c,ts,lo,hi,h,hc,hv,hn,hr,Un,he=>by have e0:=(uD (fk n) (a::L) c ts).e0 he;unfold gD at he ⊢;rw[if_pos e0]at he ⊢;obtain⟨c1,c2,c3,c4,c5,c6⟩:=kI Un;have ev:=fk n c a;have e1:=(uD (fk n) L _ _).e0 he;have r1:=hx c a lo h hc hv c1 c2 jB (hr a jE) c5 e1;exact r1.seq jB jB (HK hx L _ _ _ hi (h.ev ev) (ev.aa.trans hc) (hv.ev ev) hn (fun x hx=>hr x (by simp[hx])) c6 he)
theorem I1(a:Int):∀(ts:UG) (ps:List bI) (c:Ck),(iG a c ts ps).slots=c.slots/\(iG a c ts ps).size=c.size
 |[],ps,c=>by rw[uv];exact⟨rfl,rfl⟩
 |_::_,[],c=>by rw[tY];exact⟨rfl,rfl⟩
 |x::ts,p::ps,c=>by
  unfold iG;split
  ·have:=I1 a ts ps (c.ap (decide (x=p.ty)) a);exact⟨this.1.trans (wk _ _ _).1,this.2.trans (wk _ _ _).2⟩
  ·exact⟨rfl,rfl⟩
theorem wY{t:aH}(ht:aR t):∀n,Ir t n
 |0=>fun c a lo h hc hv h0 h1 hn=>by omega
 |n+1=>fun c a lo h hc hv h0 h1 hn hr Un he=>by
  have hx:=wY ht n;have e0:=(fk (n+1) c a).e0 he;unfold az at he ⊢;rw[jN]at he ⊢;simp only at he ⊢;have he:(cw (az n) c a).1.e=0:=he;have p':c.node a=nth t.nodes a.toNat:=by unfold Ck.node;rw[hc]
  have sh:=(ht.shape a.toNat jB).1;suffices hs:fK t lo (a.toNat+1) c (cw (az n) c a).1 from hs.post rfl rfl
  have Ul:=Un.le;have leaf:(nth t.nodes a.toNat).l=[]->fK t lo a.toNat c c:=fun hl=>by
   rw[hl]at Un;have:lo=a.toNat:=by cases Un;rfl
   subst this;exact .refl _ _ _
  have kid1:∀x,(nth t.nodes a.toNat).l=[x]->fv (bX t.nodes x)->(az n c x).1.e=0->fK t lo a.toNat c (az n c x).1:=fun x hl X8 U4=>by rw[hl]at Un;obtain⟨c1,c2,c3,c4,c5⟩:=kK Un;rw[c4];exact hx c x lo h hc hv c1 c2 jB X8 c5 U4
  have kd:∀i,c.aF a i=nth (nth t.nodes a.toNat).l i:=fun i=>by unfold Ck.aF;rw[p']
  have Z3:(nth t.nodes a.toNat).kind=1\/(nth t.nodes a.toNat).kind=2\/(nth t.nodes a.toNat).kind=3\/(nth t.nodes a.toNat).kind=4\/(nth t.nodes a.toNat).kind=5\/(nth t.nodes a.toNat).kind=6\/(nth t.nodes a.toNat).kind=7\/(nth t.nodes a.toNat).kind=8\/(nth t.nodes a.toNat).kind=9\/(nth t.nodes a.toNat).kind=19\/(nth t.nodes a.toNat).kind=20\/(nth t.nodes a.toNat).kind=21:=by have:fv (nth t.nodes a.toNat).kind:=hr;unfold fv cR at this;omega
  have Ur:∀{q:Prop},¬((nth t.nodes a.toNat).kind=4\/(nth t.nodes a.toNat).kind=5)->ju (nth t.nodes a.toNat).kind->q:=fun h1 h2=>by unfold ju at h2;have:fv (nth t.nodes a.toNat).kind:=hr;unfold fv cR at this;omega
  have VH:a.toNat<c.slots.length:=by rw[h.slots,hc];omega
  rcases Z3 with k|k|k|k|k|k|k|k|k|k|k|k
  ·have e:cw (az n) c a=(c,1):=by unfold cw;simp only;rw[p',k];rfl
   rw[e];exact(leaf (sh.zero jB)).node (Ur jB)
  ·have e:cw (az n) c a=(c,2):=by unfold cw;simp only;rw[p',k];rfl
   rw[e];exact(leaf (sh.zero jB)).node (Ur jB)
  ·have e:cw (az n) c a=(c,3):=by unfold cw;simp only;rw[p',k];rfl
   rw[e];exact(leaf (sh.zero jB)).node (Ur jB)
  ·have e:cw (az n) c a=c.named a:=by unfold cw;simp only;rw[p',k];rfl
   rw[e]at he ⊢;obtain⟨g1,g2⟩:=Dh hv rfl VH he;have hz:=(nS c a).size;have hl:=sh.zero jB;rw[hl]at Un;have:lo=a.toNat:=by cases Un;rfl
   subst this;exact⟨fun k hk=>g1 k jB,fun k h1 h2 _=>by have:k=a.toNat:=jB;subst this;rw[hz];exact g2,by rw[hz];exact Int.le_refl _⟩
  ·have e:cw (az n) c a=((az n (c.named a).1 (c.aF a 0)).1.ap (decide ((c.named a).2=4) && decide ((az n (c.named a).1 (c.aF a 0)).2=1)) a,1):=by unfold cw;simp only;rw[p',k];rfl
   obtain⟨x,hl,U4⟩:=sh.one jB;have UW:c.aF a 0=x:=by rw[kd,hl];rfl
   rw[e]at he ⊢;rw[UW]at he ⊢;obtain⟨b1,b2⟩:=jr he;have en:=nS c a;obtain⟨g1,g2⟩:=Dh hv rfl VH ((fk n _ x).e0 b2);rw[hl]at Un;obtain⟨c1,c2,c3,c4,c5⟩:=kK Un;have r:=hx (c.named a).1 x lo (h.ev en) (en.aa.trans hc) (hv.ev en) c1 c2 jB (.inl U4) c5 b2;have hz:=en.size;have hrz:=r.size;rw[<-c4]at r;refine fK.ap ⟨fun k hk=>(r.sw k jB).trans (g1 k jB),fun k h1 h2 h3=>?_,jB⟩;by_cases hka:k<a.toNat
   ·exact r.all k h1 hka h3
   ·have:k=a.toNat:=jB;subst this;rw[r.sw _ (.inr jB)];omega
  ·have e:cw (az n) c a=((az n c (c.aF a 0)).1.ap (decide ((az n c (c.aF a 0)).2=3) || decide ((az n c (c.aF a 0)).2=4)) a,1):=by unfold cw;simp only;rw[p',k];rfl
   obtain⟨x,hl,U4⟩:=sh.one jB;have UW:c.aF a 0=x:=by rw[kd,hl];rfl
   rw[e]at he ⊢;rw[UW]at he ⊢;exact((kid1 x hl (.inl U4) (jr he).2).ap).node (Ur jB)
  ·have e:cw (az n) c a=((az n c (c.aF a 0)).1.ap (decide ((az n c (c.aF a 0)).2=1)) a,1):=by unfold cw;simp only;rw[p',k];rfl
   obtain⟨x,hl,U4⟩:=sh.one jB;have UW:c.aF a 0=x:=by rw[kd,hl];rfl
   rw[e]at he ⊢;rw[UW]at he ⊢;exact((kid1 x hl (.inl U4) (jr he).2).ap).node (Ur jB)
  ·have e:cw (az n) c a=((az n c (c.aF a 0)).1.ap (decide ((az n c (c.aF a 0)).2=2)) a,2):=by unfold cw;simp only;rw[p',k];rfl
   obtain⟨x,hl,U4⟩:=sh.one jB;have UW:c.aF a 0=x:=by rw[kd,hl];rfl
   rw[e]at he ⊢;rw[UW]at he ⊢;exact((kid1 x hl (.inl U4) (jr he).2).ap).node (Ur jB)
  ·have e:cw (az n) c a=((az n (az n c (c.aF a 0)).1 (c.aF a 1)).1.ap (!decide (lT (c.node a).name (az n c (c.aF a 0)).2 (az n (az n c (c.aF a 0)).1 (c.aF a 1)).2=0)) a,lT (c.node a).name (az n c (c.aF a 0)).2 (az n (az n c (c.aF a 0)).1 (c.aF a 1)).2):=by unfold cw;simp only;rw[p',k];rfl
   obtain⟨x,y,hl,U4,XS⟩:=sh.two jB;have UW:c.aF a 0=x:=by rw[kd,hl];rfl
   have U8:c.aF a 1=y:=by rw[kd,hl];rfl
   rw[e]at he ⊢;rw[UW,U8]at he ⊢;obtain⟨b1,b2⟩:=jr he;have ev:=fk n c x;rw[hl]at Un;obtain⟨c1,c2,c3,c4,c5,c6⟩:=kI Un;obtain⟨d1,d2,d3,d4,d5⟩:=kK c6;have r1:=hx c x lo h hc hv c1 c2 jB (.inl U4) c5 ((fk n _ y).e0 b2);have r2:=hx (az n c x).1 y (x.toNat+1) (h.ev ev) (ev.aa.trans hc) (hv.ev ev) d1 d2 jB (.inl XS) d5 b2;rw[<-d4]at r2;exact((r1.seq jB jB r2).ap).node (Ur jB)
  ·have e:cw (az n) c a=(c,1):=by unfold cw;simp only;rw[p',k];rfl
   rw[e];exact(leaf (sh.zero jB)).node (Ur jB)
  ·have e:cw (az n) c a=((az n c (c.aF a 0)).1.ap (decide ((az n c (c.aF a 0)).2=1)) a,4):=by unfold cw;simp only;rw[p',k];rfl
   obtain⟨x,hl,U4⟩:=sh.one jB;have UW:c.aF a 0=x:=by rw[kd,hl];rfl
   rw[e]at he ⊢;rw[UW]at he ⊢;exact((kid1 x hl (.inl U4) (jr he).2).ap).node (Ur jB)
  ·have e:cw (az n) c a=iX (az n) c a:=by unfold cw;simp only;rw[p',k];rfl
   rw[e]at he ⊢;have Vc:=sh.call k;unfold iX at he ⊢;split at he
   ·exact(qs jC he).elim
   rename_i hf;rw[if_neg hf];simp only at he ⊢;have e1:=(yJ a _ _ _).e0 he;split at e1
   ·exact(qs jC e1).elim
   rename_i hl;rw[if_neg hl];have r:=HK hx (c.node a).l c [] lo a.toNat h hc hv jB (fun x Va=>.inl (Vc x (by rw[<-p'];exact Va))) (by rw[p'];exact Un) e1;have q:=I1 a (gD (az n) c (c.node a).l []).2 (nth c.aa.aw (fL c a).toNat).params (gD (az n) c (c.node a).l []).1;exact(r.post q.1 q.2).node (Ur jB)
def D1(t:aH)(n:Nat):Prop:=∀(c:Ck) (a:Int) (lo:Nat),bG c->c.aa=t->dz c->c.e=0->0<=a->a<t.nodes.length->a.toNat<n->fC (bX t.nodes a)->aL t.nodes lo (nth t.nodes a.toNat).l a.toNat->(bT n c a).e=0->
 fK t lo (a.toNat+1) c (bT n c a)/\dz (bT n c a)
theorem Dz{t:aH}{st:Ck->Int->Ck}{C:Int->Prop}{n:Nat}(hs:∀c a,bG c->c.e=0->Sv c (st c a))
  (P':∀(c:Ck) (a:Int) (lo:Nat),bG c->c.aa=t->dz c->c.e=0->0<=a->a<t.nodes.length->a.toNat<n->C (bX t.nodes a)->aL t.nodes lo (nth t.nodes a.toNat).l a.toNat->(st c a).e=0->fK t lo (a.toNat+1) c (st c a)/\dz (st c a)) :
  ∀(L:UG) (c:Ck) (lo hi:Nat),bG c->c.aa=t->dz c->hi<=n->(∀x∈L,C (bX t.nodes x))->aL t.nodes lo L hi->(dP st c L).e=0->fK t lo hi c (dP st c L)/\dz (dP st c L)
 |[],c,lo,hi,h,hc,hv,hn,hr,Un,he=>by cases Un;unfold dP;exact⟨.refl _ _ _,hv⟩
 |a::L,c,lo,hi,h,hc,hv,hn,hr,Un,he=>by have e0:=(qO hs (a::L) c h).e0 he;unfold dP at he ⊢;rw[if_pos e0]at he ⊢;obtain⟨c1,c2,c3,c4,c5,c6⟩:=kI Un;have s:=hs c a h e0;have e1:=(qO hs L _ s.inv).e0 he;obtain⟨r1,v1⟩:=P' c a lo h hc hv e0 c1 c2 jB (hr a jE) c5 e1;obtain⟨r2,v2⟩:=Dz hs P' L _ _ hi s.inv (s.aa.trans hc) v1 hn (fun x hx=>hr x (by simp[hx])) c6 he;exact⟨r1.seq jB jB r2,v2⟩
def HZ(ht:aR t)(P':D1 t n)(c:Ck)(a:Int)(lo:Nat)(h:bG c)(hc:c.aa=t)(hv:dz c)(h0:0<=a)(h1:a<t.nodes.length)(hn:a.toNat<=n)(hk:bX t.nodes a=18)(Un:aL t.nodes lo (nth t.nodes a.toNat).l a.toNat)(he:(fl (bT n) c a).e=0) :
  fK t lo (a.toNat+1) c (fl (bT n) c a)/\dz (fl (bT n) c a):=by
 have sv:=qd (oS n) h a;have p':c.node a=nth t.nodes a.toNat:=by unfold Ck.node;rw[hc]
 have hb:=(ht.shape a.toNat jB).1.block hk;have ev:=rA c a;obtain⟨r,_⟩:=Dz (oS n) (C:=fC) P' (c.node a).l (c.ai a) lo a.toNat (h.ev ev) (ev.aa.trans hc) (hv.ev ev) hn (fun x hx=>hb x (by rw[<-p'];exact hx)) (by rw[p'];exact Un) he;have r:fK t lo a.toNat c (fl (bT n) c a):=fK.post (b:=dP (bT n) (c.ai a) (c.node a).l) (fK.pre (a:=c) (b:=c.ai a) rfl rfl r) rfl rfl;have X9:(nth t.nodes a.toNat).kind=18:=hk;refine⟨r.node (fun h=>by unfold ju at h;omega),?_⟩;have hz:=r.size;refine⟨by have:=hv.1;omega,fun v U3=>?_⟩;rw[sv.2]at U3;have:=hv.2 v U3;omega
def xT(ht:aR t)(h:bG c0)(hc:c0.aa=t)(hv:dz c0)(hn:a.toNat<=n)(hl:(nth t.nodes a.toNat).l=[x])(hx:fv (bX t.nodes x))(Un:aL t.nodes lo (nth t.nodes a.toNat).l a.toNat)(he:(az n c0 x).1.e=0) :
  fK t lo a.toNat c0 (az n c0 x).1:=by
 rw[hl]at Un;obtain⟨c1,c2,c3,c4,c5⟩:=kK Un;rw[c4];exact wY ht n c0 x lo h hc hv c1 c2 jB hx c5 he
def QM(ht:aR t){y:Int}(h:bG c0)(hc:c0.aa=t)(hv:dz c0)(hn:a.toNat<=n)(hl:(nth t.nodes a.toNat).l=[x,y])(hx:cR (bX t.nodes x))(hy:cR (bX t.nodes y))(Un:aL t.nodes lo (nth t.nodes a.toNat).l a.toNat)(he:(az n (az n c0 x).1 y).1.e=0) :
  fK t lo a.toNat c0 (az n (az n c0 x).1 y).1:=by
 rw[hl]at Un;obtain⟨c1,c2,c3,c4,c5,c6⟩:=kI Un;obtain⟨d1,d2,d3,d4,d5⟩:=kK c6;have ev:=fk n c0 x;have r1:=wY ht n c0 x lo h hc hv c1 c2 jB (.inl hx) c5 ((fk n _ y).e0 he);have q1:=wY ht n (az n c0 x).1 y (x.toNat+1) (h.ev ev) (ev.aa.trans hc) (hv.ev ev) d1 d2 jB (.inl hy) d5 he;rw[d4];exact r1.seq jB jB q1
def JO{c:Ck}(h:bG c)(hc:c.aa=t)(hv:dz c)(h1:a<t.nodes.length)(h0:0<=a)(Ul:lo<=a.toNat)(he:(c.named a).1.e=0)(r:fK t lo a.toNat (c.named a).1 c'):fK t lo (a.toNat+1) c c':=by
 have VH:a.toNat<c.slots.length:=by rw[h.slots,hc];omega
 obtain⟨g1,g2⟩:=Dh hv rfl VH he;have hz:=(nS c a).size;have hrz:=r.size;refine⟨fun k hk=>(r.sw k jB).trans (g1 k jB),fun k h1 h2 h3=>?_,jB⟩;by_cases hka:k<a.toNat
 ·exact r.all k h1 hka h3
 ·have:k=a.toNat:=jB;subst this;rw[r.sw _ (.inr jB)];omega
theorem E5{t:aH}(ht:aR t):∀n,D1 t n
 |0=>fun c a lo h hc hv e0 h0 h1 hn=>by omega
 |n+1=>fun c a lo h hc hv e0 h0 h1 hn hr Un he=>by
  have hs:=E5 ht n;have p':(c.ai a).node a=nth t.nodes a.toNat:=by unfold Ck.node;show nth c.aa.nodes _=_;rw[hc]
  have sh:=(ht.shape a.toNat jB).1;have kd:∀i,(c.ai a).aF a i=nth (nth t.nodes a.toNat).l i:=fun i=>by unfold Ck.aF;rw[p']
  have ev:=rA c a;have h':=h.ev ev;have VM:=ev.aa.trans hc;have U3:=hv.ev ev;have Ul:=Un.le;have kr:∀{hi:Nat} {c':Ck},fK t lo hi (c.ai a) c'->fK t lo hi c c':=fun r=>fK.pre (a:=c) (b:=c.ai a) rfl rfl r
  have Ur:∀{q:Prop},¬((nth t.nodes a.toNat).kind=10\/(nth t.nodes a.toNat).kind=11\/(nth t.nodes a.toNat).kind=12)->ju (nth t.nodes a.toNat).kind->q:=fun h1 h2=>by unfold ju at h2;have:fC (nth t.nodes a.toNat).kind:=hr;unfold fC at this;omega
  have Z3:(nth t.nodes a.toNat).kind=10\/(nth t.nodes a.toNat).kind=11\/(nth t.nodes a.toNat).kind=12\/(nth t.nodes a.toNat).kind=13\/(nth t.nodes a.toNat).kind=14\/(nth t.nodes a.toNat).kind=17\/(nth t.nodes a.toNat).kind=15\/(nth t.nodes a.toNat).kind=16:=by have:fC (nth t.nodes a.toNat).kind:=hr;unfold fC at this;omega
  rcases Z3 with k|k|k|k|k|k|k
  ·have e:bT (n+1) c a=o3 (az n) (c.ai a) a:=by unfold bT;simp only;rw[p',k];rfl
   obtain⟨x,hl,X8⟩:=sh.right jB;have UW:(c.ai a).aF a 0=x:=by rw[kd,hl];rfl
   rw[e]at he ⊢;rw[ub]at he ⊢;have he:(eJ (az n) (c.ai a) a).e=0:=he;have Wu:=zN (fk n) (c.ai a) a;have Vo:=h'.ev Wu;have YZ:=U3.ev Wu;obtain⟨_,q1⟩:=xj jC he;have q1:eJ (az n) (c.ai a) a=jO (az n) (c.ai a) a:=q1;rw[q1]at he;obtain⟨_,q2⟩:=xj jC he;have q2:jO (az n) (c.ai a) a=iN (az n) (c.ai a) a:=q2;rw[q2]at he;unfold iN at he;rw[UW]at he;obtain⟨b1,b2⟩:=jr he;have r1:=(xT ht h' VM U3 jB hl X8 Un b2);have Xi:(eJ (az n) (c.ai a) a).slots=(az n (c.ai a) x).1.slots:=by rw[q1,q2];unfold iN;rw[UW];exact(wk _ _ _).1
   have Uu:(eJ (az n) (c.ai a) a).size=(az n (c.ai a) x).1.size:=by rw[q1,q2];unfold iN;rw[UW];exact(wk _ _ _).2
   have r2:=kr (r1.post Xi Uu);have VH:a.toNat<(eJ (az n) (c.ai a) a).slots.length:=by rw[Vo.slots,Wu.aa,VM];omega
   have h0z:=YZ.1;have XZ:∀i,nth ((eJ (az n) (c.ai a) a).slots.set a.toNat (eJ (az n) (c.ai a) a).size) i=if a.toNat=i/\i<(eJ (az n) (c.ai a) a).slots.length then(eJ (az n) (c.ai a) a).size else nth (eJ (az n) (c.ai a) a).slots i:=fun i=>xv _ _ _ _
   refine⟨⟨fun i hi=>?_,fun i h1 h2 h3=>?_,?_⟩,?_,fun v Yx=>?_⟩
   ·show nth ((eJ (az n) (c.ai a) a).slots.set a.toNat _) i=_;rw[XZ,jN];exact r2.sw i jB
   ·show 0<=nth ((eJ (az n) (c.ai a) a).slots.set a.toNat _) i/\nth ((eJ (az n) (c.ai a) a).slots.set a.toNat _) i<(eJ (az n) (c.ai a) a).size+1;rw[XZ];by_cases hia:i<a.toNat
    ·rw[jN];have:=r2.all i h1 hia h3;omega
    ·rw[if_pos ⟨jB,jB⟩];omega
   ·show _<=(eJ (az n) (c.ai a) a).size+1;have:=r2.size;omega
   ·show 0<=(eJ (az n) (c.ai a) a).size+1;omega
   ·show 0<=v.slot/\v.slot<(eJ (az n) (c.ai a) a).size+1;have Yx:v∈(eJ (az n) (c.ai a) a).vars++[(⟨((c.ai a).node a).name,(az n (c.ai a) ((c.ai a).aF a 0)).2,(eJ (az n) (c.ai a) a).size⟩:bE)]:=Yx;rcases List.mem_append.1 Yx with hm|hm
    ·have:=YZ.2 v hm;omega
    ·rw[List.mem_singleton.1 hm];show 0<=(eJ (az n) (c.ai a) a).size/\(eJ (az n) (c.ai a) a).size<_;omega
  ·have e:bT (n+1) c a=(az n ((c.ai a).named a).1 ((c.ai a).aF a 0)).1.ap (decide (((c.ai a).named a).2=(az n ((c.ai a).named a).1 ((c.ai a).aF a 0)).2)) a:=by unfold bT;simp only;rw[p',k];rfl
   obtain⟨x,hl,X8⟩:=sh.right jB;have UW:(c.ai a).aF a 0=x:=by rw[kd,hl];rfl
   rw[e]at he ⊢;rw[UW]at he ⊢;obtain⟨b1,b2⟩:=jr he;have en:=nS (c.ai a) a;have r1:=xT ht (h'.ev en) (en.aa.trans VM) (U3.ev en) jB hl X8 Un b2;exact⟨kr ((JO h' VM U3 h1 h0 Ul ((fk n _ x).e0 b2) r1).ap),(U3.ev en).ev ((fk n _ _).trans (kN _ _ _))⟩
  ·have e:bT (n+1) c a=(az n (az n ((c.ai a).named a).1 ((c.ai a).aF a 0)).1 ((c.ai a).aF a 1)).1.ap (decide (((c.ai a).named a).2=4) && decide ((az n ((c.ai a).named a).1 ((c.ai a).aF a 0)).2=1) && decide ((az n (az n ((c.ai a).named a).1 ((c.ai a).aF a 0)).1 ((c.ai a).aF a 1)).2=1)) a:=by unfold bT;simp only;rw[p',k];rfl
   obtain⟨x,y,hl,U4,XS⟩:=sh.two jB;have UW:(c.ai a).aF a 0=x:=by rw[kd,hl];rfl
   have U8:(c.ai a).aF a 1=y:=by rw[kd,hl];rfl
   rw[e]at he ⊢;rw[UW,U8]at he ⊢;obtain⟨b1,b2⟩:=jr he;have en:=nS (c.ai a) a;have r1:=QM ht (h'.ev en) (en.aa.trans VM) (U3.ev en) jB hl U4 XS Un b2;exact⟨kr ((JO h' VM U3 h1 h0 Ul ((fk n _ x).e0 ((fk n _ y).e0 b2)) r1).ap),(U3.ev en).ev (((fk n _ _).trans (fk n _ _)).trans (kN _ _ _))⟩
  ·have e:bT (n+1) c a=(az n (c.ai a) ((c.ai a).aF a 0)).1:=by unfold bT;simp only;rw[p',k];rfl
   obtain⟨x,hl,hxk⟩:=sh.tx k;have UW:(c.ai a).aF a 0=x:=by rw[kd,hl];rfl
   rw[e]at he ⊢;rw[UW]at he ⊢;have r1:=xT ht h' VM U3 jB hl (by rw[hxk];unfold fv;omega) Un he;exact⟨(kr r1).node (Ur jB),U3.ev (fk n _ _)⟩
  ·have e:bT (n+1) c a=(az n (c.ai a) ((c.ai a).aF a 0)).1.ap (!decide ((az n (c.ai a) ((c.ai a).aF a 0)).2=4)) a:=by unfold bT;simp only;rw[p',k];rfl
   obtain⟨x,hl,U4⟩:=sh.one jB;have UW:(c.ai a).aF a 0=x:=by rw[kd,hl];rfl
   rw[e]at he ⊢;rw[UW]at he ⊢;obtain⟨b1,b2⟩:=jr he;have r1:=xT ht h' VM U3 jB hl (.inl U4) Un b2;exact⟨((kr r1).ap).node (Ur jB),U3.ev ((fk n _ _).trans (kN _ _ _))⟩
  ·have e:bT (n+1) c a=kH (az n) (c.ai a) a:=by unfold bT;simp only;rw[p',k];rfl
   rw[e]at he ⊢;unfold kH at he ⊢;rw[p']at he ⊢;simp only at he ⊢;split at he
   ·exact(qs jC he).elim
   rename_i hf;rw[if_neg hf];rcases sh.ret k with hl|⟨x,hl,U4⟩
   ·rw[hl];rw[if_neg jC];rw[hl]at Un;have:lo=a.toNat:=by cases Un;rfl
    subst this;exact⟨(kr (fK.refl t a.toNat (c.ai a))).node (Ur jB),U3⟩
   ·have UW:(c.ai a).aF a 0=x:=by rw[kd,hl];rfl
    have V0:(nth t.nodes a.toNat).l.length=1:=by rw[hl];rfl
    rw[if_pos V0]at he ⊢;rw[UW]at he ⊢;obtain⟨b1,b2⟩:=jr he;have r1:=xT ht h' VM U3 jB hl (.inl U4) Un b2;exact⟨((kr r1).ap).node (Ur jB),U3.ev ((fk n _ _).trans (kN _ _ _))⟩
  ·have e:bT (n+1) c a=dP (fl (bT n)) ((az n (c.ai a) ((c.ai a).aF a 0)).1.ap (decide ((az n (c.ai a) ((c.ai a).aF a 0)).2=2)) a) (((c.ai a).node a).l.drop 1):=by
    unfold bT;simp only;rw[p'];rcases k with k|k<;>rw[k]<;>rfl
   have YG:∃x L,(nth t.nodes a.toNat).l=x::L/\cR (bX t.nodes x)/\∀y∈L,bX t.nodes y=18:=by
    rcases k with k|k
    ·obtain⟨x,y,hx,hy,hl|⟨z,hl,hz⟩⟩:=sh.lE k
     ·exact⟨x,[y],hl,hx,fun u hu=>by rw[List.mem_singleton.1 hu];exact hy⟩
     ·exact⟨x,[y,z],hl,hx,fun u hu=>by
       rcases List.mem_cons.1 hu with rfl|hu
       ·exact hy
       ·rw[List.mem_singleton.1 hu];exact hz⟩
    ·obtain⟨x,y,hl,hx,hy⟩:=sh.eG k;exact⟨x,[y],hl,hx,fun u hu=>by rw[List.mem_singleton.1 hu];exact hy⟩
   obtain⟨x,L,hl,U4,hL⟩:=YG;have UW:(c.ai a).aF a 0=x:=by rw[kd,hl];rfl
   rw[e]at he ⊢;rw[p',hl,UW]at he ⊢;have he:(dP (fl (bT n)) ((az n (c.ai a) x).1.ap (decide ((az n (c.ai a) x).2=2)) a) L).e=0:=he;show fK t lo (a.toNat+1) c (dP (fl (bT n)) ((az n (c.ai a) x).1.ap (decide ((az n (c.ai a) x).2=2)) a) L)/\dz (dP (fl (bT n)) ((az n (c.ai a) x).1.ap (decide ((az n (c.ai a) x).2=2)) a) L);have ex:=(fk n (c.ai a) x).trans (kN _ (decide ((az n (c.ai a) x).2=2)) a);have Vo:=h'.ev ex;have hsb:∀(q:Ck) b,bG q->q.e=0->Sv q (fl (bT n) q b):=fun q b hq _=>(qd (oS n) hq b).1
   have e1:=(qO hsb L _ Vo).e0 he;obtain⟨b1,b2⟩:=jr e1;rw[hl]at Un;obtain⟨c1,c2,c3,c4,c5,c6⟩:=kI Un;have r1:=wY ht n (c.ai a) x lo h' VM U3 c1 c2 jB (.inl U4) c5 b2;obtain⟨r2,v2⟩:=Dz hsb (C:=fun k=>k=18) (n:=n) (fun q b l g1 g2 g3 _ g5 g6 g7 g8 g9 g10=>HZ ht hs q b l g1 g2 g3 g5 g6 jB g8 g9 g10) L _ (x.toNat+1) a.toNat Vo (ex.aa.trans VM) (U3.ev ex) jB hL c6 he;exact⟨((kr r1.ap).seq jB jB r2).node (Ur jB),v2⟩
theorem J6(body:Int):∀(ps:List bI) (c:Ck) (i:Int),dz c->c.size=i->dz (fB body c ps i)/\(fB body c ps i).slots=c.slots/\(fB body c ps i).size=i+ps.length
 |[],c,i,h,hi=>by unfold fB;exact⟨h,rfl,by simp;exact hi⟩
 |p::ps,c,i,h,hi=>by
  have fin:∀c1:Ck,Ev c c1->c1.slots=c.slots->dz (fB body (mK c1 ⟨p.name,p.ty,i⟩) ps (i+1))/\(fB body (mK c1 ⟨p.name,p.ty,i⟩) ps (i+1)).slots=c.slots/\(fB body (mK c1 ⟨p.name,p.ty,i⟩) ps (i+1)).size=i+(p::ps).length:=fun c1 s e=>by
   have hz:=s.size;have h1:=h.ev s;have h0:=h.1;obtain⟨a,b,d⟩:=J6 body ps (mK c1 ⟨p.name,p.ty,i⟩) (i+1) ⟨by show 0<=c1.size+1;omega,fun v hv=>by
    have hv:v∈c1.vars++[(⟨p.name,p.ty,i⟩:bE)]:=hv;show 0<=v.slot/\v.slot<c1.size+1;rcases List.mem_append.1 hv with hv|hv
    ·have:=h1.2 v hv;omega
    ·rw[List.mem_singleton.1 hv];show 0<=i/\i<_;omega⟩ (by show c1.size+1=i+1;omega)
   exact⟨a,b.trans e,by rw[d,List.length_cons];omega⟩
  unfold fB;simp only;split
  ·exact fin _ (nL c jC body) (Hl _ _ _).1
  ·exact fin _ (.refl c) rfl
structure ta(t:aH)(sl:List Int)(k lo:Nat)(z:Int):Prop where
 wl:((nth t.aw k).params.length:Int)<=z
 hi:z<=24
 all:∀i,lo<=i->i<(nth t.aw k).body.toNat+1->ju (nth t.nodes i).kind->0<=nth sl i/\nth sl i<z
 chain:aL t.nodes lo (nth t.nodes (nth t.aw k).body.toNat).l (nth t.aw k).body.toNat
def ta.aX{sl sl':UG}{z:Int}(h:ta t sl k lo z)(e:∀i,i<(nth t.aw k).body.toNat+1->nth sl' i=nth sl i):ta t sl' k lo z:=⟨h.wl,h.hi,fun i h1 h2 h3=>by rw[e i h2];exact h.all i h1 h2 h3,h.chain⟩
def Sm(ht:aR t){c:Ck}(h:gx c)(hc:c.aa=t)(hk:k<t.aw.length)(Uu:c.aO.length<6)(Un:aL t.nodes lo (nth t.nodes (nth t.aw k).body.toNat).l (nth t.aw k).body.toNat)(he:(gQ c k).e=0) :
  (∀i,(i<lo\/(nth t.aw k).body.toNat+1<=i)->nth (gQ c k).slots i=nth c.slots i)/\ta t (gQ c k).slots k lo (gQ c k).size/\(gQ c k).aO=c.aO++[(gQ c k).size]:=by
 have UY:k<c.aa.aw.length:=by rw[hc];exact hk
 have hp3:=h.aa.fn _ (ff UY);have WU:bG { c with fn:=(k:Int),vars:=[],more:=[],size:=0 }:=⟨h.aa,h.types,h.slots,h.aw,by show c.aO.length<=6;omega,by show(0:Int)<=k;omega,by show(k:Int)<(c.aa.aw.length:Int);omega,by show((0:Nat):Int)<=0;omega,by show(0:Int)<=25;omega,fun _=>by show(0:Int)<=24;omega⟩;obtain⟨a,b,d⟩:=y7 (nth c.aa.aw k).body (nth c.aa.aw k).params _ 0 WU (by show(0:Int)+_<=20;omega);obtain⟨a',b',d'⟩:=J6 (nth c.aa.aw k).body (nth c.aa.aw k).params { c with fn:=(k:Int),vars:=[],more:=[],size:=0 } 0 ⟨by show(0:Int)<=0;omega,fun v hv=>by simp at hv⟩ rfl;have VW:=o8 ht hk;have XF:=ht.body _ (ff hk);unfold gQ at he ⊢;simp only at he ⊢;rw[hc]at he ⊢;rw[hc]at a b d a' b' d';split at he
 ·rename_i e1;rw[if_pos e1];have sv:=(qd (oS t.nodes.length) a (nth t.aw k).body).1;obtain⟨r,_⟩:=HZ ht (E5 ht t.nodes.length) _ (nth t.aw k).body lo a (b.trans (by rfl)) a' VW.1 VW.2 (by have:=VW.2;have:=VW.1;omega) XF Un he;have q:=fK.size r;have VK:=sv.inv.room he;refine⟨fun i hi=>(r.sw i hi).trans (by rw[b']),⟨?_,VK,r.all,Un⟩,?_⟩
  ·show _<=(fl _ _ _).size;rw[d']at q;omega
  ·show(fl _ _ _).aO++[_]=_;rw[sv.aO,d]
 ·rename_i e1;exact(e1 he).elim
def kS(t:aH)(k:Nat):Nat:=if k=0 then 0 else(nth t.aw (k-1)).body.toNat+1
theorem FY{t:aH}(ht:aR t):∀(n i lo:Nat) (c:Ck),gx c->c.aa=t->c.aO.length=i->i+n=t.aw.length->lo=kS t i->aL t.nodes lo ((t.aw.drop i).map (·.body)) t.nodes.length->(∀j,j<i->ta t c.slots j (kS t j) (nth c.aO j)/\(nth t.aw j).body.toNat<lo)->(gz c i n).e=0->
  ∀j,j<t.aw.length->ta t (gz c i n).slots j (kS t j) (nth (gz c i n).aO j)
 |0,i,lo,c,h,hc,hs,hi,Ul,Un,hA,he=>by unfold gz;exact fun j hj=>(hA j jB).1
 |n+1,i,lo,c,h,hc,hs,hi,Ul,Un,hA,he=>by
  have h6:=ht.aw;unfold gz at he ⊢;by_cases e0:c.e=0
  ·rw[if_pos e0]at he ⊢;have hk:i<t.aw.length:=jB;rw[kV hk]at Un;obtain⟨c1,c2,c3,c4,c5,c6⟩:=kI (a:=(nth t.aw i).body) Un;obtain⟨f1,f2,f3⟩:=Aw h (by rw[hc];exact hk) (by omega:c.aO.length<6);have e1:(gQ c i).e=0:=by
    cases n with
    |zero=>unfold gz at he;exact he
    |succ m=>
     unfold gz at he;split at he
     ·assumption
     ·exact he
   obtain⟨r1,r2,r3⟩:=Sm ht h hc hk jB c5 e1;refine FY ht n (i+1) ((nth t.aw i).body.toNat+1) (gQ c i) f1 (f2.trans hc) jB jB (by unfold kS;rw[jN];rfl) c6 (fun j hj=>?_) he;by_cases Wt:j<i
   ·obtain⟨g1,g2⟩:=hA j Wt;have hz:nth (gQ c i).aO j=nth c.aO j:=by rw[r3,pZ jB]
    rw[hz];exact⟨g1.aX fun q hq=>r1 q (.inl jB),jB⟩
   ·have:j=i:=jB;subst this;have hz:nth (gQ c j).aO j=(gQ c j).size:=by rw[r3,<-hs];exact qc _ _
    rw[hz,<-Ul];exact⟨r2,jB⟩
  ·rw[if_neg e0]at he;exact(e0 he).elim
theorem GU{x:bh}:∀(l:List bh) (c:Ck),(kU x c l).e=0->c.e=0/\∀f∈l,f.name≠x.name
 |[],c,h=>⟨by unfold kU at h;exact h,fun f hf=>by simp at hf⟩
 |f::l,c,h=>by
  unfold kU at h;obtain⟨h1,h2⟩:=GU l _ h;obtain⟨h3,h4⟩:=xj jC h1;rw[h4]at h1;exact⟨h1,fun g hg=>by
   rcases List.mem_cons.1 hg with rfl|hg
   ·exact h3
   ·exact h2 g hg⟩
theorem Gg(aw:List bh):∀(n i:Nat) (c:Ck) (m:Bool),i+n=aw.length->(jX aw c m i n).1.e=0->c.e=0/\(∀j,i<=j->j<aw.length->∀f∈aw.take j,f.name≠(nth aw j).name)/\((jX aw c m i n).2=true->m=true\/∃j,j<aw.length/\vj (nth aw j)=true)
 |0,i,c,m,hi,h=>by unfold jX at h ⊢;exact⟨h,fun j h1 h2=>jB,fun h=>.inl h⟩
 |n+1,i,c,m,hi,h=>by
  unfold jX at h ⊢;obtain⟨h1,h2,h3⟩:=Gg aw n (i+1) _ _ jB h;obtain⟨h4,h5⟩:=GU _ _ h1;refine⟨h4,fun j g1 g2=>?_,fun hm=>?_⟩
  ·by_cases e:j=i
   ·subst e;exact h5
   ·exact h2 j jB g2
  ·rcases h3 hm with h|h
   ·rcases Bool.or_eq_true _ _ |>.mp h with h|h
    ·exact .inl h
    ·exact .inr ⟨i,jB,h⟩
   ·exact .inr h
structure BQ(t:aH):Prop where
 one:∀i j,i<j->j<t.aw.length->(nth t.aw i).name≠(nth t.aw j).name
 main:∃j,j<t.aw.length/\vj (nth t.aw j)=true
def Nl{c:Ck}(h:(jd c).e=0):c.e=0/\BQ c.aa:=by
 unfold jd at h;simp only at h;split at h
 ·rename_i hm;obtain⟨h1,h2,h3⟩:=Gg c.aa.aw c.aa.aw.length 0 c false jB h;refine⟨h1,⟨fun i j hi hj=>h2 j jB hj _ ?_,?_⟩⟩
  ·rw[fO jB];exact List.mem_take_iff_getElem.2 ⟨i,jB,rfl⟩
  ·rcases h3 hm with h|h
   ·cases h
   ·exact h
 ·exact(qs jC h).elim
theorem JZ(f:bh->UI)(nm:UI):∀(l:List bh) (i k:Int),(∀a b,a<b->b<l.length->f (nth l a)≠f (nth l b))->(∃v∈l,f v=nm)->jy f nm l i k=ji f nm l i
 |[],i,k,h,hx=>by obtain⟨v,hv,_⟩:=hx;simp at hv
 |v::l,i,k,h,hx=>by
  unfold jy ji;have hl:∀a b,a<b->b<l.length->f (nth l a)≠f (nth l b):=fun a b h1 h2=>h (a+1) (b+1) jB (by rw[List.length_cons];omega)
  by_cases hv:f v=nm
  ·rw[if_pos hv,if_pos hv];have hn:∀u∈l,f u≠nm:=fun u hu hh=>by
    obtain⟨q,hq,rfl⟩:=List.mem_iff_getElem.1 hu;exact h 0 (q+1) jB (by rw[List.length_cons];omega) (by rw[show nth (v::l) 0=v from rfl,show nth (v::l) (q+1)=l[q] from by rw[fO (by rw[List.length_cons];omega)];rfl,hv,hh])
   have:∀(l:List bh) (i k:Int),(∀u∈l,f u≠nm)->jy f nm l i k=k:=fun l=>by
    induction l with
    |nil=>intro i k _;rfl
    |cons u l ih=> intro i k hu;unfold jy;rw[if_neg (hu u jE),ih (i+1) k fun w hw=>hu w (by simp[hw])]
   exact this l _ _ hn
  ·rw[if_neg hv,if_neg hv];exact JZ f nm l (i+1) k hl (by
    obtain⟨u,hu,hh⟩:=hx;rcases List.mem_cons.1 hu with rfl|hu
    ·exact(hv hh).elim
    ·exact⟨u,hu,hh⟩)
structure fX(p:af):Prop where
 ok:pJ p
 aw:∀j,j<p.aa.aw.length->ta p.aa p.slots j (kS p.aa j) (nth p.size j)
 names:BQ p.aa
def Og(ht:aR t)(he:(iy t).2.2=0):fX (iy t).1:=by
 have hp:=(Ad ht he).1;unfold iy at he hp ⊢;split at he
 ·rename_i h;exact(h he).elim
 rename_i h;rw[if_neg h]at hp ⊢;have h:(jc t).e=0:=jB;obtain⟨i1,i2,i3⟩:=G6 ht;have q:=FY ht t.aw.length 0 0 (jd (js t)) i1 i2 (by rw[i3];rfl) jB rfl (by rw[List.drop_zero];exact ht.chain) (fun j hj=>jB) h;obtain⟨_,q1,_⟩:=Ds ht t.aw.length 0 0 (jd (js t)) i1 i2 (by rw[i3];rfl) jB (by rw[List.drop_zero];exact ht.chain) h;have he:(jc t).aa=t:=q1;have h0:(jd (js t)).e=0:=by
  have VU:=h;unfold jc at VU;cases hn:t.aw.length with
  |zero=>rw[hn]at VU;unfold gz at VU;exact VU
  |succ m=>
   rw[hn]at VU;unfold gz at VU;split at VU
   ·assumption
   ·exact VU
 refine⟨hp,?_,?_⟩
 ·show∀j,j<(jc t).aa.aw.length->ta (jc t).aa (jc t).slots j (kS (jc t).aa j) (nth (jc t).aO j);rw[he];exact q
 ·show BQ (jc t).aa;rw[he];exact(Nl h0).2
def zi{s:UI}(he:(gh s).2.2=0):fX (gh s).1:=by
 unfold gh at he ⊢;split at he
 ·rename_i h;exact(h he).elim
 rename_i h;rw[if_neg h];have h:(gV s).2.2=0:=jB;simp only at he ⊢;split at he
 ·cases he
 rename_i h2;split at he
 ·rename_i h3;exact(h3 he).elim
 rename_i h3;rw[if_neg h2,if_neg h3];exact Og (vD h) jB
def Ci{t:List bq}(h:aL t lo L hi):lo+L.length<=hi:=by
 induction h with
 |nil=>simp
 |@cons lo c hi L hc h1 h2 i1 i2=> have:=h1.le;simp only[List.length_cons];omega
def Mo{l:List α}{i:Nat}{x y:α}(h:x∈l.set i y):x=y\/x∈l:=by
 rcases List.mem_or_eq_of_mem_set h with h|h
 ·exact .inr h
 ·exact .inl h
theorem CY{α:Type}[Inhabited α](f:α->UI)(nm:UI):∀(l:List α) (i:Int),(∃v∈l,f v=nm)->i<=ji f nm l i/\ji f nm l i<i+l.length/\f (nth l (ji f nm l i-i).toNat)=nm
 |[],_,h=>by obtain⟨v,hv,_⟩:=h;simp at hv
 |v::l,i,h=>by
  unfold ji;by_cases hv:f v=nm
  ·rw[if_pos hv];refine⟨Int.le_refl _,by simp;omega,?_⟩;rw[show(i-i).toNat=0 from jB];exact hv
  ·rw[if_neg hv];obtain⟨u,hu,hh⟩:=h;have hu:u∈l:=by
    rcases List.mem_cons.1 hu with rfl|hu
    ·exact(hv hh).elim
    ·exact hu
   obtain⟨a,b,c⟩:=CY f nm l (i+1) ⟨u,hu,hh⟩;refine⟨jB,by simp;omega,?_⟩;rw[show(ji f nm l (i+1)-i).toNat=(ji f nm l (i+1)-(i+1)).toNat+1 from jB];exact c
theorem EN{α:Type}(f:α->UI)(nm:UI):∀(l:List α) (i k:Int),jy f nm l i k≠k->∃v∈l,f v=nm
 |[],_,_,h=>(h rfl).elim
 |v::l,i,k,h=>by
  unfold jy at h;by_cases hv:f v=nm
  ·exact⟨v,jE,hv⟩
  ·rw[if_neg hv]at h;obtain⟨u,hu,hh⟩:=EN f nm l _ _ h;exact⟨u,by simp[hu],hh⟩
structure Callee(p:af)(a:Int)(k:Nat):Prop where
 lt:k<p.aa.aw.length
 at_:ji bh.name (ao p a).name p.aa.aw 0=k
 last:jy bh.name (ao p a).name p.aa.aw 0 (-1)=k
 name:(nth p.aa.aw k).name=(ao p a).name
 args:(ao p a).l.length=(nth p.aa.aw k).params.length
 Bi:(ao p a).l.length<=3
variable{p:af}
def callee(h:fX p)(h0:a.toNat<p.aa.nodes.length)(hk:(ao p a).kind=21):∃k,Callee p a k:=by
 obtain⟨h1,h2⟩:=(h.ok.ty a.toNat jB h0).call hk;have hx:=EN bh.name (ao p a).name p.aa.aw 0 (-1) (by show jy bh.name (nth p.aa.nodes a.toNat).name p.aa.aw 0 (-1)≠-1;omega);have e:=JZ bh.name (ao p a).name p.aa.aw 0 (-1) (fun a b=>h.names.one a b) hx;obtain⟨f1,f2,f3⟩:=CY bh.name (ao p a).name p.aa.aw 0 hx;refine⟨(ji bh.name (ao p a).name p.aa.aw 0).toNat,jB,jB,jB,?_,?_,?_⟩
 ·rwa [Int.sub_zero]at f3
 ·unfold ao at e ⊢;rw[<-e];exact h2
 ·have hm:=(h.ok.aa.fn _ (ff (l:=p.aa.aw) (k:=(ji bh.name (ao p a).name p.aa.aw 0).toNat) jB)).2;unfold ao at e hm ⊢;rw[<-e]at hm;rw[h2];exact hm
def CM(l:UG):lC 0 l=l.length:=by simp[lC]
theorem nC:∀(h:UF) (n:Int),h.foldl lC n=n+h.foldl lC (0:Int)
 |[],n=>by simp[List.foldl]
 |x::h,n=>by simp only[List.foldl_cons];rw[nC h (lC n x),nC h (lC 0 x)];unfold lC;omega
def Hd(h:UF)(x:UG):gr (h++[x])=gr h+x.length+1:=by unfold gr;rw[List.foldl_append,List.foldl_cons,List.foldl_nil,List.length_append,nC h _,nC h (h.length:Int)];unfold lC;simp;omega
theorem CZ:∀(h:UF),0<=h.foldl lC (0:Int)
 |[]=>by simp
 |x::h=>by simp only[List.foldl_cons];rw[nC,CM];have:=CZ h;omega
def Uc(h:UF):(h.length:Int)<=gr h:=by unfold gr;rw[nC];have:=CZ h;omega
theorem Kg:∀(h:UF) (i:Nat) (x:UG),i<h.length->x.length=(nth h i).length->(h.set i x).foldl lC (0:Int)=h.foldl lC 0
 |[],i,x,hi,_=>by simp at hi
 |y::h,0,x,_,e=>by have e:x.length=y.length:=e;simp only[List.set_cons_zero,List.foldl_cons,lC,e]
 |y::h,i+1,x,hi,e=>by simp only[List.set_cons_succ,List.foldl_cons];rw[nC (h.set i x) (lC 0 y),nC h (lC 0 y),Kg h i x (by simpa using hi) e]
def DV(h:UF)(i:Nat)(x:UG)(hi:i<h.length)(e:x.length=(nth h i).length):gr (h.set i x)=gr h:=by unfold gr;rw[List.length_set,nC (h.set i x) (h.length:Int),nC h (h.length:Int),Kg h i x hi e]
theorem EK:∀(h:UF) (i:Nat),i<h.length->((nth h i).length:Int)<=h.foldl lC 0
 |[],i,hi=>by simp at hi
 |y::h,0,_=>by simp only[List.foldl_cons];rw[nC,CM];have:=CZ h;show(y.length:Int)<=_;omega
 |y::h,i+1,hi=>by simp only[List.foldl_cons];rw[nC,CM];have:=EK h i (by simpa using hi);show((nth h i).length:Int)<=_;omega
def OC(h:UF)(i:Nat)(hi:i<h.length):((nth h i).length:Int)+h.length<=gr h:=by unfold gr;rw[nC];have:=EK h i hi;omega
def gO[Inhabited α](l:List α)(n k:Nat)(h:k<n):nth (l.take n) k=nth l k:=by unfold nth;rw[List.getD_eq_getElem?_getD,List.getElem?_take,if_pos h,List.getD_eq_getElem?_getD]
def Kn{v:aj}(hm:lW v=true):v.s.size<=40:=by
 unfold lW at hm;split at hm
 ·have:v.s=sE:=by simpa using hm
  rw[this];decide
 split at hm
 ·simp only[Bool.and_eq_true,decide_eq_true_eq]at hm;rw[hm.1];decide
 split at hm
 ·simp only[Bool.and_eq_true,decide_eq_true_eq]at hm;omega
 split at hm
 ·simp only[Bool.and_eq_true,decide_eq_true_eq]at hm;rw[hm.1];decide
 ·cases hm
def wP(n:Int):bD (IntKind.i64.wrap n):=by unfold bD;rw[IntKind.wrap_i64];omega
def rP:bD 0:=by unfold bD;omega
def D0(b:Bool):bD (vB b).n:=by cases b<;>(show bD _;unfold vB bD;simp)
def O9{b:Int}(h:bD a):bD (a.tmod b):=by
 unfold bD at*;by_cases h0:0<=a
 ·have h1:0<=a.tmod b:=Int.tmod_nonneg b h0;have h2:a.tmod b<=a:=by
   have:=Int.mul_tdiv_add_tmod a b;by_cases hb:b=0
   ·subst hb;simp
   ·have hn:=Int.natAbs_tmod a b;have:(a.tmod b).natAbs<=a.natAbs:=by rw[hn];exact Nat.mod_le _ _
    omega
  omega
 ·have hn:=Int.natAbs_tmod a b;have:(a.tmod b).natAbs<=a.natAbs:=by rw[hn];exact Nat.mod_le _ _
  have h3:a.tmod b<=0:=by have:=Int.tmod_nonneg b (a:=-a) jB;rw[Int.neg_tmod]at this;omega
  omega
def Mh(s:UI)(a:aj):bD (mG s a).n:=by
 unfold mG
 (repeat' split)<;>first|exact wP _|exact rP|exact D0 _
def qX(l:List aj):Prop:=∀v∈l,bD v.n
def tK(h:UF):Prop:=∀l∈h,∀x∈l,bD x
def T9(p:af):Prop:=∀k,k<p.aa.nodes.length->(nth p.aa.nodes k).kind=1->bD (nth p.aa.nodes k).n
theorem pJ.bD{p:af}(h:pJ p):T9 p:=fun k hk h1=>by
 obtain⟨s,hs,e⟩:=(h.aa.shape k hk).1.num h1;have Uq:=GR hs;have Y6:pA s=(ky s.data.toList 0:Nat):=by unfold pA;rw[By s hs.2.2 _ jl,List.take_of_length_le jE]
 rw[e,Y6];unfold Go.Gd.bD;omega
def KZ{l:List aj}(h:qX l)(k t:Int):bD (fc l k t).n:=by
 unfold fc
 (repeat' split)<;>first|exact rP|exact h _ (ff jB)
def Fm[Inhabited α](l:List α)(k:Nat):nth l k∈l\/nth l k=default:=by
 by_cases h:k<l.length
 ·exact .inl (ff h)
 ·right;unfold nth;rw[List.getD_eq_getElem?_getD,List.getElem?_eq_none jB];rfl
def Jv{l:List aj}(h:qX l)(k:Nat){v:aj}(hv:bD v.n):qX (l.set k v):=fun x hx=>by
 rcases Mo hx with rfl|hx
 ·exact hv
 ·exact h x hx
def AL(hs:fX p):∃m:Nat,m<p.aa.aw.length/\ii p=(m:Int)/\(nth p.aa.aw m).name=(⟨#[109,97,105,110]⟩:UI)/\(nth p.aa.aw m).params.length=0:=by
 obtain⟨j,hj,YH⟩:=hs.names.main;unfold vj at YH;simp only[Bool.and_eq_true,decide_eq_true_eq]at YH;obtain⟨⟨g1,g2⟩,_⟩:=YH;obtain⟨f1,f2,f3⟩:=CY bh.name (⟨#[109,97,105,110]⟩:UI) p.aa.aw 0 ⟨_,ff hj,g1⟩;have e:(ji bh.name (⟨#[109,97,105,110]⟩:UI) p.aa.aw 0-0).toNat=(ii p).toNat:=by unfold ii;simp
 rw[e]at f3;have Ul:0<=ii p:=f1;have XH:ii p<0+p.aa.aw.length:=f2;have hm:(ii p).toNat<p.aa.aw.length:=jB;have hjm:j=(ii p).toNat:=by
  rcases Nat.lt_trichotomy j (ii p).toNat with h|h|h
  ·exact(hs.names.one _ _ h hm (by rw[g1,f3])).elim
  ·exact h
  ·exact(hs.names.one _ _ h hj (by rw[g1,f3])).elim
 exact⟨(ii p).toNat,hm,jB,f3,by rw[<-hjm];omega⟩
structure nw(p:af)(fn:Int)(x:gb):Prop where
 b0:0<=x.block
 lo:kS p.aa fn.toNat<=x.block.toNat
 hi:x.block.toNat<=(nth p.aa.aw fn.toNat).body.toNat
 kind:bX p.aa.nodes x.block=18
 a0:0<=x.at_
 a1:x.at_<=(xh p x.block).length
structure BX(p:af)(f:fD):Prop where
 f0:0<=f.fn
 f1:f.fn<p.aa.aw.length
 sl:(f.slots.length:Int)=nth p.size f.fn.toNat
 pl:∀x∈f.path,nw p f.fn x
 dec:(f.path.map (·.block)).Pairwise fun a b=>b<a
def Jb(p:af)(f:fD):Prop:=f.path≠[]/\f.pl.at_<(xh p f.pl.block).length
def nw.in_(h:fX p){fn:Int}(f0:0<=fn)(f1:fn<p.aa.aw.length){x:gb}(hx:nw p fn x):x.block.toNat<p.aa.nodes.length:=by have:=o8 h.ok.aa (k:=fn.toNat) jB;have h1:=this.1;have h2:=this.2;have h3:=hx.hi;omega
def nw.aF(h:fX p){fn:Int}(f0:0<=fn)(f1:fn<p.aa.aw.length){x:gb}(hx:nw p fn x)(ha:a∈xh p x.block):0<=a/\a.toNat<x.block.toNat/\kS p.aa fn.toNat<=a.toNat/\fC (bX p.aa.nodes a):=by
 have hi:=hx.in_ h f0 f1;have sh:=h.ok.aa.shape x.block.toNat hi;have h1:=sh.2.1 a ha;refine⟨h1.1,h1.2,?_,sh.1.block hx.kind a ha⟩;have hc:=(h.aw fn.toNat jB).chain;by_cases e:x.block.toNat<(nth p.aa.aw fn.toNat).body.toNat
 ·exact hc.closed _ hx.lo e a ha
 ·have e:x.block.toNat=(nth p.aa.aw fn.toNat).body.toNat:=by have:=hx.hi;omega
  have ha:a∈(nth p.aa.nodes x.block.toNat).l:=ha;rw[e]at ha;exact(hc.mem a ha).2.1
structure BE(p:af)(R:RS):Prop where
 ok:R.Ok
 gm:R.gm.length<=8
 fr:∀k,k<R.nf->BX p (nth R.gm k)
 busy:∀k,k+1<R.nf->Jb p (nth R.gm k)
 go:R.status≠2->1<=R.nf
end Go.Proofs.YtijdhbokcdpklaaGreatDoor
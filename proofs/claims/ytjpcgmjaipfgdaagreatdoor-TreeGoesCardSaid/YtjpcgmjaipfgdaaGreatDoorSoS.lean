/- Lemmas. No conditions. -/
import Derived.Test.YtjpcgmjaipfgdaaGreatDoorCk8
set_option linter.all false
set_option maxHeartbeats 4000000
set_option maxRecDepth 10000
namespace Go.Gd
open Go
variable{α:Type}
def dv[Inhabited α](l:List α)(i k:Nat)(v:α)(h:i<l.length):nth (l.set i v) k=if k=i then v else nth l k:=by
 unfold nth;rw[List.getD_eq_getElem?_getD,List.getElem?_set,List.getD_eq_getElem?_getD];by_cases e:i=k
 ·subst e;simp[h]
 ·rw[if_neg e,if_neg (fun h=>e h.symm)]
theorem uT:∀(l m:TA) (i:Nat),aA (l++m) i=(aA l i).or (aA m i)
 |[],m,i=>by simp[aA]
 |(j,r)::l,m,i=>by
  show(if i=j then some r else aA (l++m) i)=((if i=j then some r else aA l i):Option Row).or _;split
  ·rfl
  ·exact uT l m i
theorem lA:∀(l:TA) (i:Nat),i∈ids l<->aA l i≠none
 |[],i=>by simp[ids,aA]
 |(j,r)::l,i=>by
  have:=lA l i;simp only[ids,List.map_cons,List.mem_cons,aA]at this ⊢;by_cases e:i=j
  ·simp[e]
  ·rw[if_neg e];simp only[e,false_or];exact this
variable{l:TA}
def fV{i:Nat}{r:Row}(h:aA l i=some r):(ids l).contains i=true:=List.contains_iff_mem.2 ((lA l i).2 (by rw[h];simp))
theorem sn(q:TK):∀(l m:TB),aW q (l++m)=(aW q l && aW q m)
 |[],m=>by simp[aW]
 |a::l,m=>by simp only[List.cons_append,aW,sn q l m,Bool.and_assoc]
def oQ{q:TK}{l:S9}(h:QL q l):aW q l.flatten=true:=by
 induction l with
 |nil=>rfl
 |cons x l ih=>rw[List.flatten_cons,sn,h x jE,ih fun y hy=>h y (by simp[hy])];rfl
theorem FU(D:TK):∀(l m:TA),fz D (l++m)=fz D l++fz D m
 |[],m=>rfl
 |(j,r)::l,m=>by show(bif D j then fz D (l++m)else(j,r)::fz D (l++m))=(bif D j then fz D l else(j,r)::fz D l)++_;rw[FU D l m];cases D j<;>rfl
theorem Fo(D:TK):∀(l:TA),(∀i∈ids l,D i=false)->fz D l=l
 |[],_=>rfl
 |(j,r)::l,h=>by show(bif D j then fz D l else(j,r)::fz D l)=_;rw[h j (by simp[ids]),Fo D l fun i hi=>h i (by simp[ids]at hi ⊢;exact .inr hi)];rfl
theorem D5(D:TK):∀(l:TA),(∀i∈ids l,D i=true)->fz D l=[]
 |[],_=>rfl
 |(j,r)::l,h=>by show(bif D j then fz D l else(j,r)::fz D l)=_;rw[h j (by simp[ids]),D5 D l fun i hi=>h i (by simp[ids]at hi ⊢;exact .inr hi)];rfl
theorem El(D:TK):∀(l m:TA),iH D l->iH D m->iH D (l++m)
 |[],m,_,h=>h
 |(j,r)::l,m,h,k=>⟨h.1,El D l m h.2 k⟩
theorem GG(D:TK):∀(l:TA),(∀i∈ids l,D i=true)->iH D l
 |[],_=>trivial
 |(j,r)::l,h=>⟨.inl (h j (by simp[ids])),GG D l fun i hi=>h i (by simp[ids]at hi ⊢;exact .inr hi)⟩
theorem C3{q:TK}:∀{l:S9},aW q l.flatten=true->QL q l
 |[],_,x,hx=>by simp at hx
 |a::l,h,x,hx=>by
  rw[List.flatten_cons,uD,Bool.and_eq_true]at h;rcases List.mem_cons.1 hx with rfl|hx
  ·exact h.1
  ·exact C3 h.2 x hx
def NG{q:TK}:∀{r:Row},aW q r.cells=true->wX q r
 |.var _ _,h=>h
 |.aF _ _ _,h=>C3 h
 |.mp _ _,h=>h
theorem E2(D:TK):∀(l:TA),(ids l).Nodup->(∀i r,aA l i=some r->aW (gU D) r.cells=true)->iH D l
 |[],_,_=>trivial
 |(j,r)::l,hn,h=>by
  have Y5:=List.nodup_cons.1 hn;refine⟨.inr (NG (h j r (by simp[aA]))),E2 D l Y5.2 fun i r' hi=>h i r' ?_⟩;have:i≠j:=fun e=>by subst e;exact Y5.1 ((lA l i).2 (by rw[hi];simp))
  simp only[aA,if_neg this];exact hi
def wq(p:af)(b:Int):TD:=(nth p.aa.nodes b.toNat).l
def gQ(p:af):Int:=ja bh.name (⟨#[109,97,105,110]⟩:TF) p.aa.av 0
def lD(n:Int)(l:TD):Int:=n+l.length
def gi(h:TC):Int:=h.foldl lD (h.length:Int)
def ak(p:af)(a:Int):br:=nth p.aa.nodes a.toNat
def Bx(n:Int):TF:=⟨(Lib.itoa n).toArray⟩
def mC(v:aj):TF:=
 if v.ty=1 then Bx v.n
 else if v.ty=2 then(if v.n=1 then(⟨#[116,114,117,101]⟩:TF)else(⟨#[102,97,108,115,101]⟩:TF))
 else if v.ty=3 then v.s
 else if v.ty=4 then(⟨#[108,105,115,116]⟩:TF)
 else sE
def cn(n:Int):Prop:=-9223372036854775808<=n/\n<=9223372036854775807
def Pg[Inhabited α](l:List α)(i:Nat)(h:i<l.length):l.take (i+1)=l.take i++[nth l i]:=by rw[List.take_succ,List.getElem?_eq_getElem h,fJ h];rfl
structure RS where
 gm:List fD
 nf:Nat
 jp:List (List fW)
 heap:List (List Int)
 in_:Int
 bz:List ByteArray
 status:Int
 cY:Int
 time:Int
namespace RS
structure Ok(R:RS):Prop where
 nf:R.nf<=R.gm.length
 jp:R.jp.length=R.gm.length
def fr(R:RS)(k:Nat):TB:=[.raw (.int .i64 (nth R.gm k).fn),.rs (gB 0 k) (nth R.gm k).slots.length 3 (nth R.gm k).slots.length,.rs (gB 1 k) ((nth R.gm k).path.length+(nth R.jp k).length) 2 (nth R.gm k).path.length]
def sl(R:RS)(k:Nat):Row:=.aF 54 3 ((nth R.gm k).slots.map bS)
def pt(R:RS)(k:Nat):Row:=.aF 393 2 (((nth R.gm k).path++nth R.jp k).map tj)
def hp(R:RS)(k:Nat):Row:=.aF 3 1 ((nth R.heap k).map eI)
def c(R:RS):TB:=[.rs 1 R.gm.length 3 R.nf,.rs 2 R.heap.length 1 R.heap.length,.raw (.int .i64 R.in_),.rs 3 R.bz.length 1 R.bz.length,.raw (.int .i64 R.status),.raw (.int .i64 R.cY),.raw (.int .i64 R.time)]
def e(t:TG)(pre post:TB)(R:RS)(tl:TA):TA:=
 (0,.var t (pre++R.c++post))::(1,.aF 396 3 (xu R.gm.length R.fr))::(2,.aF 22 1 (xu R.heap.length fun k=>[.rs (gB 2 k) (nth R.heap k).length 1 (nth R.heap k).length]))::(3,.aF 9 1 (R.bz.map eS)) ::
  iN 0 R.gm.length R.sl (iN 1 R.gm.length R.pt (iN 2 R.heap.length R.hp tl))
end RS
attribute [go_sem] RS.fr RS.sl RS.pt RS.hp RS.c RS.e
def cW.pk{D:TK}{H:Hp}{dd:TB}{i sz m n:Nat}{e:TG}{enc:α->TB}[he:bC enc sz](l more:List α)(hD:D i=true)(hi:H.get i=some (.aF e sz ((l++more).map enc)))(hm:m=l.length+more.length)(hn:n=l.length):cW D H (.rs i m sz n) (.sl false sz (l.map enc) dd):=
 .yY dd i sz m n e _ _ hD hi jF jB jF (fun ds V9=>by obtain⟨x,_,rfl⟩:=List.mem_map.1 V9;exact he.len x) (nt l) fun k j c d hk h1 h2=>by
  have Tv:k<l.length:=jB;have e1:((l++more).map enc).getD k []=enc l[k]:=by rw[List.map_append,List.getD_eq_getElem?_getD,List.getElem?_append_left (by simpa using Tv)];simp[Tv]
  have e2:(l.map enc).getD k []=enc l[k]:=by simp[Tv]
  rw[e1]at h1;rw[e2,h1]at h2;cases h2;exact .same c (pY (fun _ h=>by cases h) _ (k8 (he.free _) h1))
variable{t:TG}{R:RS}{tl:TA}
def RS.tN{pre post:TB}:aA (R.e t pre post tl) 0=some (.var t (pre++R.c++post)):=rfl
def RS.tJ{pre post:TB}:aA (R.e t pre post tl) 1=some (.aF 396 3 (xu R.gm.length R.fr)):=rfl
def RS.tK{pre post:TB}:aA (R.e t pre post tl) 2=some (.aF 22 1 (xu R.heap.length fun k=>[.rs (gB 2 k) (nth R.heap k).length 1 (nth R.heap k).length])):=rfl
def RS.tV{pre post:TB}:aA (R.e t pre post tl) 3=some (.aF 9 1 (R.bz.map eS)):=rfl
def RS.pv{pre post:TB}(i:Nat)(h:1000<=i):aA (R.e t pre post tl) i=aA (iN 0 R.gm.length R.sl (iN 1 R.gm.length R.pt (iN 2 R.heap.length R.hp tl))) i:=by unfold RS.e;simp only[aA];rw[jN,jN,jN,jN]
def RS.pQ{pre post:TB}{k:Nat}(h:k<R.gm.length):aA (R.e t pre post tl) (gB 0 k)=some (R.sl k):=by rw[RS.pv _ (yQ _ _),tP _ _ _ _ _ jB h]
def RS.C0{pre post:TB}{k:Nat}(h:k<R.gm.length):aA (R.e t pre post tl) (gB 1 k)=some (R.pt k):=by rw[RS.pv _ (yQ _ _),qW _ _ _ _ _ _ jB jB jB,tP _ _ _ _ _ jB h]
def RS.BN{pre post:TB}{k:Nat}(h:k<R.heap.length):aA (R.e t pre post tl) (gB 2 k)=some (R.hp k):=by rw[RS.pv _ (yQ _ _),qW _ _ _ _ _ _ jB jB jB,qW _ _ _ _ _ _ jB jB jB,tP _ _ _ _ _ jB h]
theorem IB(a:Nat)(f:TM)(l m:TA):∀(n k:Nat),oB a f k n (l++m)=oB a f k n l++m
 |0,k=>rfl
 |n+1,k=>by unfold oB;rw[IB a f l m n (k+1)];rfl
def BL(a n:Nat)(f:TM)(l m:TA):iN a n f (l++m)=iN a n f l++m:=IB a f l m n 0
def RS.xi{pre post:TB}(tl:TA):R.e t pre post tl=R.e t pre post []++tl:=by unfold RS.e;rw[show tl=[]++tl from rfl,BL,BL,BL];rfl
def RS.no{pre post:TB}(i:Nat)(h:4<=i)(h':i<1000):aA (R.e t pre post []) i=none:=by unfold RS.e;simp only[aA];rw[jN,jN,jN,jN,vk _ _ _ _ _ h',vk _ _ _ _ _ h',vk _ _ _ _ _ h'];rfl
def low(tl:TA):Prop:=∀i r,aA tl i=some r->4<=i/\i<1000
def RS.bv{pre post:TB}(h:low tl):Lays (fun tl=>R.e t pre post tl) tl:=⟨fun i=>by rw[RS.xi,uT],fun i r hi=>RS.no i (h i r hi).1 (h i r hi).2⟩
variable{pre' post':TB}
def RS.size{pre post:TB}{R':RS}(h1:R.gm.length<=R'.gm.length)(h2:R.heap.length<=R'.heap.length)(i:Nat)(h:aA (R.e t pre post []) i≠none):aA (R'.e t pre' post' []) i≠none:=by
 by_cases h0:i=0
 ·subst h0;rw[RS.tN];simp
 by_cases XO:i=1
 ·subst XO;rw[RS.tJ];simp
 by_cases X1:i=2
 ·subst X1;rw[RS.tK];simp
 by_cases h3':i=3
 ·subst h3';rw[RS.tV];simp
 by_cases h4:i<1000
 ·exact(h (RS.no i jB h4)).elim
 rw[RS.pv i jB]at h ⊢;rcases uV 0 R.gm.length jB R.sl (iN 1 R.gm.length R.pt (iN 2 R.heap.length R.hp [])) i with⟨k,hk,rfl,e⟩|⟨_,e⟩
 ·rw[tP _ _ _ _ _ jB jB];simp
 rw[e]at h;rcases uV 1 R.gm.length jB R.pt (iN 2 R.heap.length R.hp []) i with⟨k,hk,rfl,e⟩|⟨_,e⟩
 ·rw[qW _ _ _ _ _ _ jB jB jB,tP _ _ _ _ _ jB jB];simp
 rw[e]at h;rcases uV 2 R.heap.length jB R.hp [] i with⟨k,hk,rfl,e⟩|⟨_,e⟩
 ·rw[qW _ _ _ _ _ _ jB jB jB,qW _ _ _ _ _ _ jB jB jB,tP _ _ _ _ _ jB jB];simp
 rw[e]at h;exact(h rfl).elim
theorem Gv(a:Nat)(f:TM)(l:TA):∀(n k:Nat),ids (oB a f k n l)=(List.range' k n).map (gB a)++ids l
 |0,k=>rfl
 |n+1,k=>by unfold oB;rw[List.range'_succ];show gB a k::ids (oB a f (k+1) n l)=_;rw[Gv a f l n (k+1)];rfl
def Bc{a n:Nat}{f:TM}(ha:a<8)(h:(ids l).Nodup)(hl:∀k,k<n->aA l (gB a k)=Option.none):(ids (iN a n f l)).Nodup:=by
 unfold iN;rw[Gv,List.nodup_append];refine⟨?_,h,fun x hx y hy e=>?_⟩
 ·refine List.Pairwise.map _ (fun x y hxy e=>?_) (List.nodup_range' (step:=1) (s:=0) (n:=n) jB);exact hxy (xW ha ha e).2
 ·obtain⟨k,hk,rfl⟩:=List.mem_map.1 hx;subst e;exact(lA _ _).1 hy (hl k (by simp at hk;omega))
theorem nodup_cons{l:TA}{i:Nat}{r:Row}(h:(ids l).Nodup)(hl:aA l i=Option.none):(ids ((i,r)::l)).Nodup:=List.nodup_cons.2 ⟨fun hm=>(lA _ _).1 hm hl,h⟩
def RS.nodup{pre post:TB}:(ids (R.e t pre post [])).Nodup:=by
 have f2:∀i,i<1000->aA (iN 0 R.gm.length R.sl (iN 1 R.gm.length R.pt (iN 2 R.heap.length R.hp []))) i=Option.none:=fun i h=>by rw[vk _ _ _ _ _ h,vk _ _ _ _ _ h,vk _ _ _ _ _ h];rfl
 unfold RS.e;refine nodup_cons (nodup_cons (nodup_cons (nodup_cons (Bc jB (Bc jB (Bc jB List.nodup_nil (fun k _=>rfl)) fun k _=>?_) fun k _=>?_) ?_) ?_) ?_) ?_
 ·rw[qW _ _ _ _ _ _ jB jB jB];rfl
 ·rw[qW _ _ _ _ _ _ jB jB jB,qW _ _ _ _ _ _ jB jB jB];rfl
 ·exact f2 3 jB
 ·show(if(2:Nat)=3 then _ else _)=_;rw[jN];exact f2 2 jB
 ·show(if(1:Nat)=2 then _ else if(1:Nat)=3 then _ else _)=_;rw[jN,jN];exact f2 1 jB
 ·show(if(0:Nat)=1 then _ else if(0:Nat)=2 then _ else if(0:Nat)=3 then _ else _)=_;rw[jN,jN,jN];exact f2 0 jB
def RS.closed{pre post:TB}(h1:aW dU pre=true)(h2:aW dU post=true):∀i r,aA (R.e t pre post []) i=some r->aW (fun i=>(ids (R.e t pre post [])).contains i) r.cells=true:=fun i r h=>by
 have up:∀{l},aW dU l=true->aW (fun i=>(ids (R.e t pre post [])).contains i) l=true:=fun h=>fT (fun _ h=>by cases h) _ h
 have c1:=fV (RS.tJ (t:=t) (pre:=pre) (post:=post) (R:=R) (tl:=[]));have c2:=fV (RS.tK (t:=t) (pre:=pre) (post:=post) (R:=R) (tl:=[]));have c3:=fV (RS.tV (t:=t) (pre:=pre) (post:=post) (R:=R) (tl:=[]));by_cases h0:i=0
 ·subst h0;rw[RS.tN]at h;cases h;show aW _ (pre++R.c++post)=true;rw[sn,sn,up h1,up h2];simp only[RS.c,aW,AV.all,c1,c2,c3,Bool.and_self]
 by_cases XO:i=1
 ·subst XO;rw[RS.tJ]at h;cases h;exact oQ (G5 fun k hk=>by have a:=fV (RS.pQ (t:=t) (pre:=pre) (post:=post) (R:=R) (tl:=[]) hk);have b:=fV (RS.C0 (t:=t) (pre:=pre) (post:=post) (R:=R) (tl:=[]) hk);simp only[RS.fr,aW,AV.all,a,b,Bool.and_self])
 by_cases X1:i=2
 ·subst X1;rw[RS.tK]at h;cases h;exact oQ (G5 fun k hk=>by have a:=fV (RS.BN (t:=t) (pre:=pre) (post:=post) (R:=R) (tl:=[]) hk);simp only[aW,AV.all,a,Bool.and_self])
 by_cases h3':i=3
 ·subst h3';rw[RS.tV]at h;cases h;exact up (oQ (nt (enc:=eS) (sz:=1) _))
 by_cases h4:i<1000
 ·rw[RS.no i jB h4]at h;cases h
 rw[RS.pv i jB]at h;rcases uV 0 R.gm.length jB R.sl (iN 1 R.gm.length R.pt (iN 2 R.heap.length R.hp [])) i with⟨k,hk,rfl,e⟩|⟨_,e⟩
 ·rw[e]at h;cases h;exact up (oQ (nt (enc:=bS) (sz:=3) _))
 rw[e]at h;rcases uV 1 R.gm.length jB R.pt (iN 2 R.heap.length R.hp []) i with⟨k,hk,rfl,e⟩|⟨_,e⟩
 ·rw[e]at h;cases h;exact up (oQ (nt (enc:=tj) (sz:=2) _))
 rw[e]at h;rcases uV 2 R.heap.length jB R.hp [] i with⟨k,hk,rfl,e⟩|⟨_,e⟩
 ·rw[e]at h;cases h;exact up (oQ (nt (enc:=eI) (sz:=1) _))
 rw[e]at h;cases h
def cE{P:TL}{f:FuncId}{args:TB}{H:Hp}{K:S8}{pre post:TB}{R':RS}{r0:AV}{B:TE}(hc:ab P f args (R.e t pre post []) fun r l'=>r=r0/\l'=R'.e t pre' post' [])(hH:H=⟨B,R.e t pre post tl⟩)
  (h1:R.gm.length<=R'.gm.length) (h2:R.heap.length<=R'.heap.length) (hp:aW dU pre=true) (hq:aW dU post=true) (hl:low tl) (ha:aW (fun i=>decide (i=0)) args=true) (h0:aT P f=true) (k:K r0 ⟨B,R'.e t pre' post' tl⟩):ff P (.raw (.func (.func f) #[] #[])) args H K:=by
 subst hH;refine nG h0 (Bg (E:=fun tl=>R.e t pre post tl) (E':=fun tl=>R'.e t pre' post' tl) hc (RS.bv hl) (RS.bv hl) RS.nodup (fT (fun i hi=>?_) _ ha) (RS.closed hp hq) k (RS.size h1 h2));have:i=0:=of_decide_eq_true hi;subst this;exact fV RS.tN
def yG:TK:=fun i=>decide (4<=i/\i<1000)
def fD.pl(f:fD):fW:=nth f.path (f.path.length-1)
def CA(p:af)(node:Int):Prop:=(nth p.aa.nodes node.toNat).kind=10\/(nth p.aa.nodes node.toNat).kind=11
instance (p:af)(node:Int):Decidable (CA p node):=by unfold CA;infer_instance
def RS.CI(R:RS):fD:=nth R.gm (R.nf-1)
def RS.of(s:gw):RS:=⟨s.j7,s.j7.length,s.j7.map fun _=>[],s.heap,s.in_,s.bz,s.status,s.cY,s.time⟩
def CF(p:af)(fn:Int)(args:List aj):fD:=⟨fn,args++List.replicate ((nth p.size fn.toNat)-args.length).toNat v0,[⟨(nth p.aa.av fn.toNat).body,0⟩]⟩
def Dd(p:af)(s:gw)(node:Int)(inp:TD):Prop:=CA p node/\(ak p (nth (ak p node).l 0)).kind=19/\(inp.length:Int)<=s.in_
instance (p:af)(s:gw)(node:Int)(inp:List Int):Decidable (Dd p s node inp):=by unfold Dd;infer_instance
end Go.Gd
namespace Go.Proofs.YtjpcgmjaipfgdaaGreatDoor
open Go Go.Gd Tryz
def gy(t:aG)(a:Int):Prop:=0<=a/\a<t.nodes.length
def yq(c:Ck):Prop:=c.e=0\/c.e=44\/gy c.aa c.at_
def Kp(t:aG)(c c':Ck):Prop:=c.aa=t->c'.aa=t/\(yq c->yq c')
def Kp.refl(t:aG)(c:Ck):Kp t c c:=fun h=>⟨h,id⟩
variable{t:aG}{b:Ck}
def Kp.trans{a c:Ck}(h:Kp t a b)(k:Kp t b c):Kp t a c:=fun e=>⟨(k (h e).1).1,fun x=>(k (h e).1).2 ((h e).2 x)⟩
variable{c':Ck}
def pi{c:Ck}(h1:c'.aa=c.aa)(h2:c'.e=c.e)(h3:c'.at_=c.at_):Kp t c c':=fun e=>⟨h1.trans e,fun h=>by unfold yq at*;rw[h1,h2,h3];exact h⟩
variable{a:Int}
def qH(c:Ck)(e:Int)(ha:gy t a):Kp t c (c.aC e a):=fun ht=>by
 unfold Ck.aC;split
 ·refine⟨ht,fun _=>.inr (.inr ?_)⟩;show gy c.aa a;rw[ht];exact ha
 ·exact⟨ht,id⟩
def qn(c:Ck)(b:Bool)(ha:gy t a):Kp t c (c.ao b a):=by
 unfold Ck.ao;split
 ·exact .refl t c
 ·exact qH c 42 ha
def zm(c:Ck)(ha:gy t a):Kp t c (c.named a).1:=by
 unfold Ck.named;split
 ·exact qH c 40 ha
 ·exact pi rfl rfl rfl
variable{α:Type}
def D6[Inhabited α]{l:List α}{i:Nat}(h:l.length<=i):nth l i=default:=by simp[nth,List.getD_eq_getElem?_getD,List.getElem?_eq_none h]
def uK(h:aQ t){c:Ck}(hc:c.aa=t)(ha:gy t a)(i:Nat):gy t (c.aE a i):=by
 obtain⟨h0,h1⟩:=ha;unfold Ck.aE Ck.node;rw[hc];by_cases hi:i<(nth t.nodes a.toNat).l.length
 ·have:=(h.shape a.toNat jB).2.1 _ (fh hi);unfold gy;omega
 ·have:nth (nth t.nodes a.toNat).l i=0:=D6 (Nat.le_of_not_lt hi);rw[this];unfold gy;omega
def xK(h:aQ t){c:Ck}(hc:c.aa=t)(ha:gy t a):∀x∈(c.node a).l,gy t x:=fun x hx=>by obtain⟨h0,h1⟩:=ha;unfold Ck.node at hx;rw[hc]at hx;have:=(h.shape a.toNat jB).2.1 _ hx;unfold gy;omega
theorem CK{t:aG}{ex:Ck->Int->Ck×Int}(hex:∀c a,gy t a->Kp t c (ex c a).1):∀(l:TD) (c:Ck) (ts:TD),(∀x∈l,gy t x)->Kp t c (gC ex c l ts).1
 |[],c,ts,_=>by unfold gC;exact .refl t c
 |a::l,c,ts,hl=>by
  unfold gC;split
  ·exact(hex c a (hl a jE)).trans (CK hex l _ _ fun x hx=>hl x (by simp[hx]))
  ·exact .refl t c
theorem GP{t:aG}{a:Int}(ha:gy t a):∀(ts:TD) (ps:List bK) (c:Ck),Kp t c (iC a c ts ps)
 |[],ps,c=>by rw[tI];exact .refl t c
 |_::_,[],c=>by rw[ug];exact .refl t c
 |x::ts,p::ps,c=>by
  unfold iC;split
  ·exact(qn c _ ha).trans (GP ha ts ps _)
  ·exact .refl t c
variable{ex:Ck->Int->Ck×Int}
def Ny(h:aQ t)(hex:∀c a,gy t a->Kp t c (ex c a).1)(c:Ck)(ha:gy t a):Kp t c (iX ex c a).1:=fun hc=>by
 refine(show Kp t c (iX ex c a).1 from ?_) hc;unfold iX;split
 ·exact qH c 40 ha
 ·refine Kp.trans ?_ (GP ha _ _ _);split
  ·exact(CK hex _ _ _ (xK h hc ha)).trans (qH _ 43 ha)
  ·exact CK hex _ _ _ (xK h hc ha)
def Lk(h:aQ t)(hex:∀c a,gy t a->Kp t c (ex c a).1)(c:Ck)(ha:gy t a):Kp t c (cv ex c a).1:=fun hc=>by
 have k0:=uK h hc ha 0;have k1:=uK h hc ha 1;refine(show Kp t c (cv ex c a).1 from ?_) hc;unfold cv;simp only;repeat' split
 all_goals first
  |exact .refl t c
  |exact zm c ha
  |exact Ny h hex c ha
  |exact((zm c ha).trans (hex _ _ k0)).trans (qn _ _ ha)
  |exact((hex c _ k0).trans (hex _ _ k1)).trans (qn _ _ ha)
  |exact(hex c _ k0).trans (qn _ _ ha)
theorem Gb{t:aG}(h:aQ t):∀(n:Nat) (c:Ck) (a:Int),gy t a->Kp t c (az n c a).1
 |0,c,a,ha=>by unfold az;exact .refl t c
 |n+1,c,a,ha=>by
  unfold az;split
  ·exact .refl t c
  ·exact(Lk h (Gb h n) c ha).trans (pi rfl rfl rfl)
def QD(h:aQ t)(hex:∀c a,gy t a->Kp t c (ex c a).1)(c:Ck)(ha:gy t a):Kp t c (oW ex c a):=fun hc=>by
 have k0:=uK h hc ha 0;refine(show Kp t c (oW ex c a) from ?_) hc;rw[uq];have kA:Kp t c (iF ex c a):=(hex c _ k0).trans (qn _ _ ha);have kB:Kp t c (jr ex c a):=by
  unfold jr;split
  ·exact kA.trans (qH _ 41 ha)
  ·exact kA
 have kC:Kp t c (ee ex c a):=by
  unfold ee;split
  ·exact kB.trans (qH _ 4 ha)
  ·exact kB
 exact kC.trans (pi rfl rfl rfl)
def Lb(h:aQ t)(hex:∀c a,gy t a->Kp t c (ex c a).1)(c:Ck)(ha:gy t a):Kp t c (kH ex c a):=fun hc=>by
 have k0:=uK h hc ha 0;refine(show Kp t c (kH ex c a) from ?_) hc;unfold kH;simp only;split
 ·exact qH c 43 ha
 split
 ·exact(hex c _ k0).trans (qn _ _ ha)
 ·exact .refl t c
theorem Bz{t:aG}{st:Ck->Int->Ck}(P':∀c a,gy t a->Kp t c (st c a)):∀(l:TD) (c:Ck),(∀x∈l,gy t x)->Kp t c (dK st c l)
 |[],c,_=>by unfold dK;exact .refl t c
 |a::l,c,hl=>by
  unfold dK;split
  ·exact(P' c a (hl a jE)).trans (Bz P' l _ fun x hx=>hl x (by simp[hx]))
  ·exact .refl t c
def IC(h:aQ t){st:Ck->Int->Ck}(P':∀c a,gy t a->Kp t c (st c a))(c:Ck)(ha:gy t a):Kp t c (fi st c a):=fun hc=>by refine(show Kp t c (fi st c a) from ?_) hc;have h1:Kp t c (c.ai a):=pi rfl rfl rfl;exact(h1.trans (Bz P' _ _ (xK h hc ha))).trans (pi rfl rfl rfl)
theorem FA{t:aG}(h:aQ t):∀(n:Nat) (c:Ck) (a:Int),gy t a->Kp t c (bP n c a)
 |0,c,a,ha=>by unfold bP;exact .refl t c
 |n+1,c,a,ha=>fun hc=>by
  have k0:=uK h hc ha 0;have k1:=uK h hc ha 1;have kl:=xK h hc ha;refine(show Kp t c (bP (n+1) c a) from ?_) hc;have e0:Kp t c (c.ai a):=pi rfl rfl rfl;have hx:=Gb h n;unfold bP;simp only;refine e0.trans ?_;repeat' split
  ·exact QD h hx _ ha
  ·exact((zm _ ha).trans (hx _ _ k0)).trans (qn _ _ ha)
  ·exact(((zm _ ha).trans (hx _ _ k0)).trans (hx _ _ k1)).trans (qn _ _ ha)
  ·exact hx _ _ k0
  ·exact(hx _ _ k0).trans (qn _ _ ha)
  ·exact Lb h hx _ ha
  ·exact((hx _ _ k0).trans (qn _ _ ha)).trans (Bz (fun c a ha=>IC h (FA h n) c ha) _ _ fun x TW=>kl x (List.mem_of_mem_drop TW))
theorem IY{t:aG}{body:Int}(hb:gy t body):∀(ps:List bK) (c:Ck) (i:Int),Kp t c (fw body c ps i)
 |[],c,i=>by unfold fw;exact .refl t c
 |p::ps,c,i=>by
  unfold fw;simp only;refine Kp.trans ?_ (IY hb ps _ _);split
  ·exact(qH c 41 hb).trans (pi rfl rfl rfl)
  ·exact pi rfl rfl rfl
def oV(h:aQ t){k:Nat}(hk:k<t.av.length):gy t (nth t.av k).body:=by have:=h.chain.mem (nth t.av k).body (List.mem_map.2 ⟨_,fh hk,rfl⟩);unfold gy;omega
def Qr(h:aQ t)(c:Ck){k:Nat}(hk:k<t.av.length):Kp t c (gH c k):=fun hc=>by
 refine(show Kp t c (gH c k) from ?_) hc;have hb:gy t (nth c.aa.av k).body:=by rw[hc];exact oV h hk
 have h1:Kp t c (fw (nth c.aa.av k).body { c with fn:=(k:Int),vars:=[],more:=[],size:=0 } (nth c.aa.av k).params 0):=Kp.trans (b:={ c with fn:=(k:Int),vars:=[],more:=[],size:=0 }) (pi rfl rfl rfl) (IY hb _ _ _);unfold gH;simp only;split
 ·exact(h1.trans (IC h (FA h _) _ hb)).trans (pi rfl rfl rfl)
 ·exact h1.trans (pi rfl rfl rfl)
theorem I0{t:aG}(h:aQ t):∀(n:Nat) (c:Ck) (i:Nat),i+n<=t.av.length->Kp t c (gv c i n)
 |0,c,i,_=>by unfold gv;exact .refl t c
 |n+1,c,i,hi=>by
  unfold gv;split
  ·exact(Qr h c jB).trans (I0 h n _ _ jB)
  ·exact .refl t c
theorem IU{t:aG}{x:bh}(hx:gy t x.body):∀(l:List bh) (c:Ck),Kp t c (kM x c l)
 |[],c=>by unfold kM;exact .refl t c
 |f::l,c=>by
  unfold kM;refine Kp.trans ?_ (IU hx l _);split
  ·exact qH c 41 hx
  ·exact .refl t c
theorem DV{t:aG}(h:aQ t):∀(n:Nat) (c:Ck) (m:Bool) (i:Nat),i+n<=t.av.length->Kp t c (jZ t.av c m i n).1
 |0,c,m,i,_=>by unfold jZ;exact .refl t c
 |n+1,c,m,i,hi=>by unfold jZ;exact(IU (oV h jB) _ _).trans (DV h n _ _ _ jB)
def Lt(h:aQ t)(c:Ck):Kp t c (iW c):=fun hc=>by
 have h1:Kp t c (jZ c.aa.av c false 0 c.aa.av.length).1:=by rw[hc];exact DV h _ _ _ _ jB
 refine(show Kp t c (iW c) from ?_) hc;unfold iW;simp only;split
 ·exact h1
 ·refine h1.trans fun hq=>?_
  unfold Ck.aC;split
  ·exact⟨hq,fun _=>.inr (.inl rfl)⟩
  ·exact⟨hq,id⟩
def Lz(h:aQ t):yq (iV t)/\(iV t).aa=t:=by have k:Kp t (jw t) (iV t):=(Lt h (jw t)).trans (I0 h _ _ _ jB);exact⟨(k rfl).2 (.inl rfl),(k rfl).1⟩
def Jx(h:aQ t):(ir t).2.2=0\/(ir t).2.2=44\/gy t (ir t).2.1:=by
 obtain⟨a,b⟩:=Lz h;unfold ir;split
 ·rcases a with a|a|a
  ·exact .inl a
  ·exact .inr (.inl a)
  ·rw[b]at a;exact .inr (.inr a)
 ·exact .inl rfl
def Eu(s:TF)(hs:s.size<=1000000):aB prog 13 [rS s] (.aP [.agg (ci (fY s).1),rI (fY s).2.1,rI (fY s).2.2]):=by
 have hp:=JS s hs;by_cases h1:(gP s).2.2=0
 ·have ht:=uY h1;have hk:=Ow (gP s).1 ht;have T8:=Jx ht;by_cases h2:(ir (gP s).1).2.2=44
  ·have e:fY s=(ld,0,44):=by unfold fY;rw[if_neg (fun h=>h h1)];simp only;rw[if_pos h2]
   rw[e];refine bM func13 ntmps13 ?_
   (have W:=jA h1 h2;repeat' (first|refine aq fun K hK=>?_|refine au ?_|(refine hK _ _ ?_;clear hK K)|(refine ap ?_ ?_<;>intro hc<;>try exact jz)|refine cp (hp) ?_|refine cp (hk) ?_|refine ar ?_|exact jI|(clear hK K)))
   refine fC [.cell 2 32,.tmp 3,.tmp 4] ?_;refine bt.aP (ds:=[.agg (ci ld),rI _,rI _]) ?_;refine jA (bt.agg (ds:=ci ld) ?_) (jA (.same _ rfl) (jA (.same _ rfl) trivial));simp only[ci,ld];exact jh
  ·by_cases h3:(ir (gP s).1).2.2=0
   ·have e:fY s=((ir (gP s).1).1,0,0):=by unfold fY;rw[if_neg (fun h=>h h1)];simp only;rw[if_neg h2,if_neg (fun h=>h h3)]
    rw[e];refine bM func13 ntmps13 ?_
    (have W:=jA h1 h3;repeat' (first|refine aq fun K hK=>?_|refine au ?_|(refine hK _ _ ?_;clear hK K)|(refine ap ?_ ?_<;>intro hc<;>try exact jz)|refine cp (hp) ?_|refine cp (hk) ?_|refine ar ?_|exact jI|(clear hK K)))
    (refine aZ [.cell 2 32,.tmp 3,.tmp 4] ?_;try simp only[go_sem])
   ·have e:fY s=(ld,(nth (gP s).1.nodes (ir (gP s).1).2.1.toNat).cO,(ir (gP s).1).2.2):=by unfold fY;rw[if_neg (fun h=>h h1)];simp only;rw[if_neg h2,if_pos h3]
    obtain⟨Uf,Vs⟩:=(T8.resolve_left h3).resolve_left h2;rw[e];refine bM func13 ntmps13 ?_
    (have W:=jA h1 (jA h2 (h3));repeat' (first|refine aq fun K hK=>?_|refine au ?_|(with_reducible refine gR 8 ?_);refine dA 8 [0] (bc 0 11) mixed ?_|(refine hK _ _ ?_;clear hK K)|(refine ap ?_ ?_<;>intro hc<;>try exact jz)|refine cp (hp) ?_|refine cp (hk) ?_|refine ar ?_|exact jI|(clear hK K)))
    refine fC [.cell 2 32,.tmp 3,.tmp 4] ?_;refine bt.aP (ds:=[.agg (ci ld),rI _,rI _]) ?_;refine jA (bt.agg (ds:=ci ld) ?_) (jA (.same _ rfl) (jA (.same _ rfl) trivial));simp only[ci,ld];exact jh
 ·have e:fY s=(ld,(gP s).2.1,(gP s).2.2):=by unfold fY;rw[if_pos h1]
  rw[e];refine bM func13 ntmps13 ?_
  (have W:=h1;repeat' (first|refine aq fun K hK=>?_|refine au ?_|(refine hK _ _ ?_;clear hK K)|(refine ap ?_ ?_<;>intro hc<;>try exact jz)|refine cp (hp) ?_|refine ar ?_|exact jI|(clear hK K)))
  refine fC [.cell 2 32,.tmp 3,.tmp 4] ?_;refine bt.aP (ds:=[.agg (ci ld),rI _,rI _]) ?_;refine jA (bt.agg (ds:=ci ld) ?_) (jA (.same _ rfl) (jA (.same _ rfl) trivial));simp only[ci,ld];exact jh
def xk[Inhabited α](l:List α)(i k:Nat)(v:α):nth (l.set i v) k=if i=k/\k<l.length then v else nth l k:=by
 unfold nth;rw[List.getD_eq_getElem?_getD,List.getElem?_set,List.getD_eq_getElem?_getD];by_cases h:i=k
 ·subst h;by_cases hi:i<l.length
  ·simp[hi]
  ·simp[hi]
 ·simp[h]
structure uz(t:aG)(ty:List Int)(k:Nat):Prop where
 int:(nth t.nodes k).kind=1->nth ty k=1
 bool:(nth t.nodes k).kind=2->nth ty k=2
 text:(nth t.nodes k).kind=3->nth ty k=3
 var:(nth t.nodes k).kind=4->1<=nth ty k/\nth ty k<=4
 index:(nth t.nodes k).kind=5->nth ty k=1/\nth ty (nth (nth t.nodes k).l 0).toNat=1
 len:(nth t.nodes k).kind=6->nth ty k=1/\(nth ty (nth (nth t.nodes k).l 0).toNat=3\/nth ty (nth (nth t.nodes k).l 0).toNat=4)
 neg:(nth t.nodes k).kind=7->nth ty k=1/\nth ty (nth (nth t.nodes k).l 0).toNat=1
 not:(nth t.nodes k).kind=8->nth ty k=2/\nth ty (nth (nth t.nodes k).l 0).toNat=2
 Ku:(nth t.nodes k).kind=9->nth ty k=lV (nth t.nodes k).name (nth ty (nth (nth t.nodes k).l 0).toNat) (nth ty (nth (nth t.nodes k).l 1).toNat)/\nth ty k≠0
 cond:(nth t.nodes k).kind=15\/(nth t.nodes k).kind=16->nth ty (nth (nth t.nodes k).l 0).toNat=2
 call:(nth t.nodes k).kind=21->0<=js bh.name (nth t.nodes k).name t.av 0 (-1)/\(nth t.nodes k).l.length=(nth t.av (js bh.name (nth t.nodes k).name t.av 0 (-1)).toNat).params.length
 in_:(nth t.nodes k).kind=19->nth ty k=1
 new:(nth t.nodes k).kind=20->nth ty k=4
 CT:(nth t.nodes k).kind=10->1<=nth ty (nth (nth t.nodes k).l 0).toNat/\nth ty (nth (nth t.nodes k).l 0).toNat<=4
def fZ(t:aG)(ty:TD)(lo hi:Nat):Prop:=∀k,lo<=k->k<hi->uz t ty k
def Tw(lo hi:Nat)(c c':Ck):Prop:=∀k,(k<lo\/hi<=k)->nth c'.types k=nth c.types k
variable{lo hi:Nat}{L:TD}
def _root_.Go.Gd.aK.closed{t:List br}(h:aK t lo L hi):∀k,lo<=k->k<hi->∀a∈(nth t k).l,lo<=a.toNat:=by
 induction h with
 |nil=>intro k h1 h2;omega
 |@cons lo c hi L hc h1 h2 i1 i2=>
  intro k TQ Tl a ha;have l1:=h1.le;by_cases h:k<c
  ·exact i1 k TQ h a ha
  by_cases h':k=c
  ·subst h';exact(h1.mem a ha).2.1
  ·have:=i2 k jB Tl a ha;omega
variable{ty:TD}
def uz.aU(h:aQ t){ty':TD}{k:Nat}(hk:k<t.nodes.length)(Ta:lo<=k)(hc:∀a∈(nth t.nodes k).l,lo<=a.toNat)(he:∀i,lo<=i->i<=k->nth ty' i=nth ty i)(x:uz t ty k):uz t ty' k:=by
 have hm:=(h.shape k hk).2.1;have sh:=(h.shape k hk).1;have e0:=he k Ta jl;have ea:∀i,i<(nth t.nodes k).l.length->nth ty' (nth (nth t.nodes k).l i).toNat=nth ty (nth (nth t.nodes k).l i).toNat:=fun i hi=>by have Ub:=fh hi;have:=hm _ Ub;exact he _ (hc _ Ub) jB
 refine⟨fun e=>by rw[e0];exact x.int e,fun e=>by rw[e0];exact x.bool e,fun e=>by rw[e0];exact x.text e,fun e=>by rw[e0];exact x.var e,fun e=>?_,fun e=>?_,fun e=>?_,fun e=>?_,fun e=>?_,fun e=>?_,x.call,fun e=>by rw[e0];exact x.in_ e,fun e=>by rw[e0];exact x.new e,fun e=>?_⟩
 ·obtain⟨a,hl,_⟩:=sh.one jB;rw[e0,ea 0 (by rw[hl];simp)];exact x.index e
 ·obtain⟨a,hl,_⟩:=sh.one jB;rw[e0,ea 0 (by rw[hl];simp)];exact x.len e
 ·obtain⟨a,hl,_⟩:=sh.one jB;rw[e0,ea 0 (by rw[hl];simp)];exact x.neg e
 ·obtain⟨a,hl,_⟩:=sh.one jB;rw[e0,ea 0 (by rw[hl];simp)];exact x.not e
 ·obtain⟨a,b,hl,_⟩:=sh.two jB;rw[e0,ea 0 (by rw[hl];simp),ea 1 (by rw[hl];simp)];exact x.Ku e
 ·have hl:0<(nth t.nodes k).l.length:=by
   rcases e with e|e
   ·obtain⟨a,b,_,_,hl|⟨d,hl,_⟩⟩:=sh.lC e<;>rw[hl]<;>simp
   ·obtain⟨a,b,hl,_⟩:=sh.dX e;rw[hl];simp
  rw[ea 0 hl];exact x.cond e
 ·obtain⟨a,hl,_⟩:=sh.right jB;rw[ea 0 (by rw[hl];simp)];exact x.CT e
theorem fZ.aU{t:aG}(h:aQ t){ty ty':TD}{lo hi:Nat}{L:TD}(hc:aK t.nodes lo L hi)(hl:hi<=t.nodes.length)(he:∀i,lo<=i->i<hi->nth ty' i=nth ty i)(x:fZ t ty lo hi):fZ t ty' lo hi:=fun k h1 h2=> (x k h1 h2).aU h jB h1 (hc.closed k h1 h2) fun i g1 g2=>he i g1 jB
variable{mid:Nat}
def fZ.join(x:fZ t ty lo mid)(y:fZ t ty mid hi):fZ t ty lo hi:=fun k h1 h2=>by
 by_cases h:k<mid
 ·exact x k h1 h
 ·exact y k jB h2
def fZ.none:fZ t ty lo lo:=fun k h1 h2=>jB
def Tw.refl(lo hi:Nat)(c:Ck):Tw lo hi c c:=fun _ _=>rfl
def Tw.same{c:Ck}(h:c'.types=c.types):Tw lo hi c c':=fun _ _=>by rw[h]
theorem Tw.trans{lo hi:Nat}{a b c:Ck}(h:Tw lo hi a b)(k:Tw lo hi b c):Tw lo hi a c:=fun i hi=>(k i hi).trans (h i hi)
def Tw.mono{lo' U7:Nat}{a:Ck}(h:Tw lo hi a b)(h1:lo'<=lo)(h2:hi<=U7):Tw lo' U7 a b:=fun i hi=>h i jB
def Br(c:Ck)(e a:Int):(c.aC e a).types=c.types:=by unfold Ck.aC;split<;>rfl
def lG(c:Ck)(b:Bool)(a:Int):(c.ao b a).types=c.types:=by unfold Ck.ao;split;rfl;exact Br _ _ _
def jn{c:Ck}{b:Bool}(h:(c.ao b a).e=0):b=true/\c.e=0:=by
 unfold Ck.ao at h;split at h
 ·exact⟨by assumption,h⟩
 ·exfalso;unfold Ck.aC at h;split at h
  ·cases h
  ·contradiction
def pS{c:Ck}{e:Int}(he:e≠0)(h:(c.aC e a).e=0):False:=by
 unfold Ck.aC at h;split at h
 ·exact he h
 ·contradiction
def yc(c:Ck)(a:Int):(c.named a).1.types=c.types:=by unfold Ck.named;split;exact Br _ _ _;rfl
def cX(c:Ck):Prop:=∀v∈c.vars,1<=v.ty/\v.ty<=4
def cX.ev{c:Ck}(h:cX c)(s:Ev c c'):cX c':=by unfold cX;rw[s.vars];exact h
def SH{c:Ck}(h:cX c)(he:(c.named a).1.e=0):1<=(c.named a).2/\(c.named a).2<=4:=by
 unfold Ck.named at he ⊢;split
 ·rename_i hf;rw[if_pos hf]at he;exact(pS jC he).elim
 ·rename_i hf;rcases zk bD.name (c.node a).name c.vars 0 jB with⟨h1,_⟩|h1
  ·exact(hf (by show ja bD.name (c.node a).name c.vars 0<0;rw[h1];decide)).elim
  ·exact h _ (fh (by show(ja bD.name (c.node a).name c.vars 0).toNat<_;omega))
def Ev.e0{c:Ck}(s:Ev c c')(h:c'.e=0):c.e=0:=Classical.byContradiction fun e=>s.err e h
structure gj(t:aG)(lo hi:Nat)(c c':Ck):Prop where
 tw:Tw lo hi c c'
 all:fZ t c'.types lo hi
def gj.post{a c:Ck}(h:gj t lo hi a b)(e:c.types=b.types):gj t lo hi a c:=⟨h.tw.trans (.same e),by rw[e];exact h.all⟩
def gj.pre{a c:Ck}(e:b.types=a.types)(h:gj t lo hi b c):gj t lo hi a c:=⟨(Tw.same e).trans h.tw,h.all⟩
def gj.seq(ht:aQ t){a c:Ck}(hc:aK t.nodes lo L mid)(hl:mid<=t.nodes.length)(h1:mid<=hi)(h:gj t lo mid a b)(k:gj t mid hi b c):gj t lo hi a c:=
 ⟨(h.tw.mono jl h1).trans (k.tw.mono hc.le jl),(h.all.aU ht hc hl fun i _ h2=>k.tw i (.inl h2)).join k.all⟩
def Am(t:aG)(n:Nat):Prop:=∀(c:Ck) (a:Int) (lo:Nat),bE c->c.aa=t->cX c->0<=a->a<t.nodes.length->a.toNat<n->fm (bX t.nodes a)->aK t.nodes lo (nth t.nodes a.toNat).l a.toNat->(az n c a).1.e=0->
 gj t lo (a.toNat+1) c (az n c a).1/\nth (az n c a).1.types a.toNat=(az n c a).2/\0<=(az n c a).2/\(az n c a).2<=4
variable{t:List br}
def kn(h:aK t lo [a] hi):0<=a/\a<t.length/\lo<=a.toNat/\hi=a.toNat+1/\aK t lo (nth t a.toNat).l a.toNat:=by
 cases h with
 |cons hc h1 h2=> cases h2;exact⟨jB,jB,by have:=h1.le;simpa using this,jE,by simpa using h1⟩
def kD(h:aK t lo (a::L) hi):0<=a/\a<t.length/\lo<=a.toNat/\a.toNat+1<=hi/\aK t lo (nth t a.toNat).l a.toNat/\aK t (a.toNat+1) L hi:=by
 cases h with
 |cons hc h1 h2=>exact⟨jB,jB,by have:=h1.le;simpa using this,by have:=h2.le;simpa using this,by simpa using h1,by simpa using h2⟩
def aK.oK(h0:0<=a)(h1:a<t.length)(h:aK t lo (nth t a.toNat).l a.toNat):aK t lo [a] (a.toNat+1):=by have e:a=((a.toNat:Nat):Int):=jB;rw[e];exact aK.one jB (by simpa using h)
theorem Iy{t:aG}(ht:aQ t){n:Nat}(hx:Am t n):∀(L:TD) (c:Ck) (ts:TD) (lo hi:Nat),bE c->c.aa=t->cX c->hi<=n->hi<=t.nodes.length->(∀x∈L,fm (bX t.nodes x))->aK t.nodes lo L hi->(gC (az n) c L ts).1.e=0->gj t lo hi c (gC (az n) c L ts).1
 |[],c,ts,lo,hi,h,hc,hv,hn,hl,hr,Tb,he=>by cases Tb;unfold gC;exact⟨.refl _ _ _,.none⟩
 |a::L,c,ts,lo,hi,h,hc,hv,hn,hl,hr,Tb,he=>by have e0:=(tQ (fg n) (a::L) c ts).e0 he;unfold gC at he ⊢;rw[if_pos e0]at he ⊢;obtain⟨c1,c2,c3,c4,c5,c6⟩:=kD Tb;have ev:=fg n c a;have e1:=(tQ (fg n) L _ _).e0 he;have r1:=(hx c a lo h hc hv c1 c2 jB (hr a jE) c5 e1).1;exact r1.seq ht (aK.oK c1 c2 c5) jB jB (Iy ht hx L _ _ _ hi (h.ev ev) (ev.aa.trans hc) (hv.ev ev) hn hl (fun x hx=>hr x (by simp[hx])) c6 he)
theorem IL(a:Int):∀(ts:TD) (ps:List bK) (c:Ck),(iC a c ts ps).types=c.types
 |[],ps,c=>by rw[tI]
 |_::_,[],c=>by rw[ug]
 |x::ts,p::ps,c=>by
  unfold iC;split
  ·rw[IL a ts ps _];exact lG _ _ _
  ·rfl
variable{t:aG}{n:Nat}
def JA(ht:aQ t)(hx:Am t n){c:Ck}(h:bE c)(hc:c.aa=t)(hv:cX c)(h0:0<=a)(h1:a<t.nodes.length)(hn:a.toNat<=n)(hk:(nth t.nodes a.toNat).kind=21)(Tb:aK t.nodes lo (nth t.nodes a.toNat).l a.toNat)(he:(iX (az n) c a).1.e=0) :
  gj t lo a.toNat c (iX (az n) c a).1/\(0<=(iX (az n) c a).2/\(iX (az n) c a).2<=4)/\0<=js bh.name (nth t.nodes a.toNat).name t.av 0 (-1)/\(nth t.nodes a.toNat).l.length=(nth t.av (js bh.name (nth t.nodes a.toNat).name t.av 0 (-1)).toNat).params.length:=by
 have p':c.node a=nth t.nodes a.toNat:=by unfold Ck.node;rw[hc]
 have TY:=(ht.shape a.toNat jB).1.call hk;unfold iX at he ⊢;split at he
 ·exact(pS jC he).elim
 rename_i hf;rw[if_neg hf];simp only at he ⊢;have e1:=(yU a _ _ _).e0 he;split at e1
 ·exact(pS jC e1).elim
 rename_i hl;rw[if_neg hl];have r:=Iy ht hx (c.node a).l c [] lo a.toNat h hc hv hn jB (fun x TW=>.inl (TY x (by rw[<-p'];exact TW))) (by rw[p'];exact Tb) e1;have X2:fR c a=js bh.name (nth t.nodes a.toNat).name t.av 0 (-1):=by unfold fR;rw[p',hc]
 refine⟨r.post (IL _ _ _ _),?_,by rw[<-X2];omega,by rw[<-X2,<-p',<-hc];omega⟩;have UA:(nth c.aa.av (fR c a).toNat)∈c.aa.av\/(nth c.aa.av (fR c a).toNat)=default:=by
  by_cases hi:(fR c a).toNat<c.aa.av.length
  ·exact .inl (fh hi)
  ·exact .inr (D6 (Nat.le_of_not_lt hi))
 rcases UA with UA|UA
 ·exact(ht.fn _ (by rw[<-hc];exact UA)).1.ret
 ·rw[UA];decide
def Ni(s:TF)(a b:Int):0<=lV s a b/\lV s a b<=4:=by
 unfold lV;repeat' split
 all_goals omega
def JF(ht:aQ t){c:Ck}{T:Int}(hl:c'.types.length=t.nodes.length)(h0:0<=a)(h1:a<t.nodes.length)(Tb:aK t.nodes lo (nth t.nodes a.toNat).l a.toNat)(r:gj t lo a.toNat c c')(hT:uz t (c'.types.set a.toNat T) a.toNat) :
  gj t lo (a.toNat+1) c (c'.note a T)/\nth (c'.note a T).types a.toNat=T:=by
 have hs:∀k,nth (c'.note a T).types k=if a.toNat=k/\k<c'.types.length then T else nth c'.types k:=fun k=>xk _ _ _ _
 refine⟨⟨fun k hk=>?_,?_⟩,by rw[hs,if_pos ⟨rfl,jB⟩]⟩
 ·have Ta:=Tb.le;rw[hs,jN];exact r.tw k jB
 ·refine(r.all.aU ht Tb jB fun i _ h2=>by rw[hs,jN]).join fun k g1 g2=>?_
  have:k=a.toNat:=jB;subst this;exact hT
theorem wa{t:aG}(ht:aQ t):∀n,Am t n
 |0=>fun c a lo h hc hv h0 h1 hn=>by omega
 |n+1=>fun c a lo h hc hv h0 h1 hn hr Tb he=>by
  have hx:=wa ht n;have e0:=(fg (n+1) c a).e0 he;unfold az at he ⊢;rw[jN]at he ⊢;simp only at he ⊢;have he:(cv (az n) c a).1.e=0:=he;have p':c.node a=nth t.nodes a.toNat:=by unfold Ck.node;rw[hc]
  have sh:=(ht.shape a.toNat jB).1;have I':(cv (az n) c a).1.types.length=t.nodes.length:=by rw[(Cj (fg n) c a).types,h.types,hc]
  -- what is to be shown of the node itself
  suffices hs:gj t lo a.toNat c (cv (az n) c a).1/\uz t ((cv (az n) c a).1.types.set a.toNat (cv (az n) c a).2) a.toNat/\0<=(cv (az n) c a).2/\(cv (az n) c a).2<=4 by obtain⟨s1,s2,s3⟩:=hs;obtain⟨g1,g2⟩:=JF ht I' h0 h1 Tb s1 s2;exact⟨g1,g2,s3⟩
  have Td:∀T,nth ((cv (az n) c a).1.types.set a.toNat T) a.toNat=T:=fun T=>by rw[xk,if_pos ⟨rfl,jB⟩]
  have Uj:∀T k,k≠a.toNat->nth ((cv (az n) c a).1.types.set a.toNat T) k=nth (cv (az n) c a).1.types k:=fun T k hk=>by rw[xk,jN]
  have leaf:(nth t.nodes a.toNat).l=[]->∀c',c'.types=c.types->gj t lo a.toNat c c':=fun hl c' e=>by
   rw[hl]at Tb;have:lo=a.toNat:=by cases Tb;rfl
   subst this;exact⟨.same e,.none⟩
  have kid1:∀c0 x,bE c0->c0.aa=t->cX c0->c0.types=c.types->(nth t.nodes a.toNat).l=[x]->fm (bX t.nodes x)->(az n c0 x).1.e=0->gj t lo a.toNat c (az n c0 x).1/\nth (az n c0 x).1.types x.toNat=(az n c0 x).2/\x.toNat≠a.toNat:=fun c0 x g1 g2 g3 g4 hl WS TR=>by rw[hl]at Tb;obtain⟨c1,c2,c3,c4,c5⟩:=kn Tb;obtain⟨r1,r2,_⟩:=hx c0 x lo g1 g2 g3 c1 c2 jB WS c5 TR;rw[c4];exact⟨r1.pre g4,r2,jB⟩
  have kd:∀i,c.aE a i=nth (nth t.nodes a.toNat).l i:=fun i=>by unfold Ck.aE;rw[p']
  have YQ:(nth t.nodes a.toNat).kind=1\/(nth t.nodes a.toNat).kind=2\/(nth t.nodes a.toNat).kind=3\/(nth t.nodes a.toNat).kind=4\/(nth t.nodes a.toNat).kind=5\/(nth t.nodes a.toNat).kind=6\/(nth t.nodes a.toNat).kind=7\/(nth t.nodes a.toNat).kind=8\/(nth t.nodes a.toNat).kind=9\/(nth t.nodes a.toNat).kind=19\/(nth t.nodes a.toNat).kind=20\/(nth t.nodes a.toNat).kind=21:=by have:fm (nth t.nodes a.toNat).kind:=hr;unfold fm cQ at this;omega
  rcases YQ with k|k|k|k|k|k|k|k|k|k|k|k
  ·have e:cv (az n) c a=(c,1):=by unfold cv;simp only;rw[p',k];rfl
   rw[e]at Td ⊢;refine⟨leaf (sh.zero jB) _ rfl,?_,jE,jE⟩;constructor<;>intro k'<;>first|omega|exact Td _
  ·have e:cv (az n) c a=(c,2):=by unfold cv;simp only;rw[p',k];rfl
   rw[e]at Td ⊢;refine⟨leaf (sh.zero jB) _ rfl,?_,jE,jE⟩;constructor<;>intro k'<;>first|omega|exact Td _
  ·have e:cv (az n) c a=(c,3):=by unfold cv;simp only;rw[p',k];rfl
   rw[e]at Td ⊢;refine⟨leaf (sh.zero jB) _ rfl,?_,jE,jE⟩;constructor<;>intro k'<;>first|omega|exact Td _
  ·have e:cv (az n) c a=c.named a:=by unfold cv;simp only;rw[p',k];rfl
   rw[e]at Td he ⊢;have VX:=SH hv he;refine⟨leaf (sh.zero jB) _ (yc c a),?_,jB,jB⟩;constructor<;>intro k'<;>first|omega|(rw[Td];exact VX)
  ·have e:cv (az n) c a=((az n (c.named a).1 (c.aE a 0)).1.ao (decide ((c.named a).2=4) && decide ((az n (c.named a).1 (c.aE a 0)).2=1)) a,1):=by unfold cv;simp only;rw[p',k];rfl
   obtain⟨x,hl,TR⟩:=sh.one jB;have Tt:c.aE a 0=x:=by rw[kd,hl];rfl
   rw[e]at Td Uj he ⊢;rw[Tt]at Td Uj he ⊢;obtain⟨b1,b2⟩:=jn he;simp only[Bool.and_eq_true,decide_eq_true_eq]at b1;have ev:=nE c a;obtain⟨r1,r2,r3⟩:=kid1 (c.named a).1 x (h.ev ev) (ev.aa.trans hc) (hv.ev ev) (yc c a) hl (.inl TR) b2;refine⟨r1.post (lG _ _ _),?_,jE,jE⟩;constructor<;>intro k'<;>first|omega|skip
   refine⟨Td _,?_⟩;rw[hl];show nth (List.set _ _ _) x.toNat=1;rw[Uj _ _ r3];show nth (Ck.ao _ _ _).types x.toNat=1;rw[lG,r2];exact b1.2
  ·have e:cv (az n) c a=((az n c (c.aE a 0)).1.ao (decide ((az n c (c.aE a 0)).2=3) || decide ((az n c (c.aE a 0)).2=4)) a,1):=by unfold cv;simp only;rw[p',k];rfl
   obtain⟨x,hl,TR⟩:=sh.one jB;have Tt:c.aE a 0=x:=by rw[kd,hl];rfl
   rw[e]at Td Uj he ⊢;rw[Tt]at Td Uj he ⊢;obtain⟨b1,b2⟩:=jn he;simp only[Bool.or_eq_true,decide_eq_true_eq]at b1;obtain⟨r1,r2,r3⟩:=kid1 c x h hc hv rfl hl (.inl TR) b2;refine⟨r1.post (lG _ _ _),?_,jE,jE⟩;constructor<;>intro k'<;>first|omega|skip
   refine⟨Td _,?_⟩;rw[hl];show nth (List.set _ _ _) x.toNat=3\/nth (List.set _ _ _) x.toNat=4;rw[Uj _ _ r3];show nth (Ck.ao _ _ _).types x.toNat=3\/nth (Ck.ao _ _ _).types x.toNat=4;rw[lG,r2];exact b1
  ·have e:cv (az n) c a=((az n c (c.aE a 0)).1.ao (decide ((az n c (c.aE a 0)).2=1)) a,1):=by unfold cv;simp only;rw[p',k];rfl
   obtain⟨x,hl,TR⟩:=sh.one jB;have Tt:c.aE a 0=x:=by rw[kd,hl];rfl
   rw[e]at Td Uj he ⊢;rw[Tt]at Td Uj he ⊢;obtain⟨b1,b2⟩:=jn he;simp only[decide_eq_true_eq]at b1;obtain⟨r1,r2,r3⟩:=kid1 c x h hc hv rfl hl (.inl TR) b2;refine⟨r1.post (lG _ _ _),?_,jE,jE⟩;constructor<;>intro k'<;>first|omega|skip
   refine⟨Td _,?_⟩;rw[hl];show nth (List.set _ _ _) x.toNat=1;rw[Uj _ _ r3];show nth (Ck.ao _ _ _).types x.toNat=1;rw[lG,r2];exact b1
  ·have e:cv (az n) c a=((az n c (c.aE a 0)).1.ao (decide ((az n c (c.aE a 0)).2=2)) a,2):=by unfold cv;simp only;rw[p',k];rfl
   obtain⟨x,hl,TR⟩:=sh.one jB;have Tt:c.aE a 0=x:=by rw[kd,hl];rfl
   rw[e]at Td Uj he ⊢;rw[Tt]at Td Uj he ⊢;obtain⟨b1,b2⟩:=jn he;simp only[decide_eq_true_eq]at b1;obtain⟨r1,r2,r3⟩:=kid1 c x h hc hv rfl hl (.inl TR) b2;refine⟨r1.post (lG _ _ _),?_,jE,jE⟩;constructor<;>intro k'<;>first|omega|skip
   refine⟨Td _,?_⟩;rw[hl];show nth (List.set _ _ _) x.toNat=2;rw[Uj _ _ r3];show nth (Ck.ao _ _ _).types x.toNat=2;rw[lG,r2];exact b1
  ·have e:cv (az n) c a=((az n (az n c (c.aE a 0)).1 (c.aE a 1)).1.ao (!decide (lV (c.node a).name (az n c (c.aE a 0)).2 (az n (az n c (c.aE a 0)).1 (c.aE a 1)).2=0)) a,lV (c.node a).name (az n c (c.aE a 0)).2 (az n (az n c (c.aE a 0)).1 (c.aE a 1)).2):=by unfold cv;simp only;rw[p',k];rfl
   obtain⟨x,y,hl,TR,Wx⟩:=sh.two jB;have Tt:c.aE a 0=x:=by rw[kd,hl];rfl
   have TQ:c.aE a 1=y:=by rw[kd,hl];rfl
   rw[e]at Td Uj he ⊢;rw[Tt,TQ]at Td Uj he ⊢;obtain⟨b1,b2⟩:=jn he;simp only[Bool.not_eq_true',decide_eq_false_iff_not]at b1;have ev:=fg n c x;have b0:(az n c x).1.e=0:=(fg n _ y).e0 b2;rw[hl]at Tb;obtain⟨c1,c2,c3,c4,c5,c6⟩:=kD Tb;obtain⟨d1,d2,d3,d4,d5⟩:=kn c6;obtain⟨r1,r2,_⟩:=hx c x lo h hc hv c1 c2 jB (.inl TR) c5 b0;obtain⟨q1,q2,_⟩:=hx (az n c x).1 y (x.toNat+1) (h.ev ev) (ev.aa.trans hc) (hv.ev ev) d1 d2 jB (.inl Wx) d5 b2;have rr:=r1.seq ht (aK.oK c1 c2 c5) jB jB q1;rw[d4];refine⟨rr.post (lG _ _ _),?_,Ni _ _ _⟩;rw[d4]at Td Uj;rw[<-d4];rw[<-d4]at Td Uj;have ex:nth ((az n (az n c x).1 y).1.types) x.toNat=(az n c x).2:=by rw[q1.tw _ jB,r2]
   constructor<;>intro k'<;>first|omega|skip
   have g0:=Td (lV (c.node a).name (az n c x).2 (az n (az n c x).1 y).2);have g1:=Uj (lV (c.node a).name (az n c x).2 (az n (az n c x).1 y).2) x.toNat jB;have g2:=Uj (lV (c.node a).name (az n c x).2 (az n (az n c x).1 y).2) y.toNat jB;simp only[lG]at g0 g1 g2 ⊢;rw[hl];show _=lV _ (nth _ x.toNat) (nth _ y.toNat)/\_;rw[g0,g1,g2,ex,q2,<-p'];exact⟨rfl,b1⟩
  ·have e:cv (az n) c a=(c,1):=by unfold cv;simp only;rw[p',k];rfl
   rw[e]at Td ⊢;refine⟨leaf (sh.zero jB) _ rfl,?_,jE,jE⟩;constructor<;>intro k'<;>first|omega|exact Td _
  ·have e:cv (az n) c a=((az n c (c.aE a 0)).1.ao (decide ((az n c (c.aE a 0)).2=1)) a,4):=by unfold cv;simp only;rw[p',k];rfl
   obtain⟨x,hl,TR⟩:=sh.one jB;have Tt:c.aE a 0=x:=by rw[kd,hl];rfl
   rw[e]at Td he ⊢;rw[Tt]at Td he ⊢;obtain⟨b1,b2⟩:=jn he;obtain⟨r1,r2,r3⟩:=kid1 c x h hc hv rfl hl (.inl TR) b2;refine⟨r1.post (lG _ _ _),?_,jE,jE⟩;constructor<;>intro k'<;>first|omega|exact Td _
  ·have e:cv (az n) c a=iX (az n) c a:=by unfold cv;simp only;rw[p',k];rfl
   rw[e]at he ⊢;obtain⟨r1,r2,r3⟩:=JA ht hx h hc hv h0 h1 jB k Tb he;refine⟨r1,?_,r2⟩;constructor<;>intro k'<;>first|omega|exact r3
def gj.skip{c:Ck}(hk:fu (bX t.nodes a)\/bX t.nodes a=18)(hcd:(nth t.nodes a.toNat).kind=15\/(nth t.nodes a.toNat).kind=16\/(nth t.nodes a.toNat).kind=10->((nth t.nodes a.toNat).kind=10\/nth c'.types (nth (nth t.nodes a.toNat).l 0).toNat=2)/\1<=nth c'.types (nth (nth t.nodes a.toNat).l 0).toNat/\nth c'.types (nth (nth t.nodes a.toNat).l 0).toNat<=4)(r:gj t lo a.toNat c c'):gj t lo (a.toNat+1) c c':=by
 refine⟨r.tw.mono jl jB,fun k h1 h2=>?_⟩;by_cases h:k<a.toNat
 ·exact r.all k h1 h
 ·have:k=a.toNat:=jB;subst this;have hk:fu (nth t.nodes a.toNat).kind\/(nth t.nodes a.toNat).kind=18:=hk;unfold fu at hk;constructor<;>intro k'<;>first|omega|exact(hcd jB).1.resolve_left jB|exact(hcd jB).2
def HN(t:aG)(n:Nat):Prop:=∀(c:Ck) (a:Int) (lo:Nat),bE c->c.aa=t->cX c->c.e=0->0<=a->a<t.nodes.length->a.toNat<n->fu (bX t.nodes a)->aK t.nodes lo (nth t.nodes a.toNat).l a.toNat->(bP n c a).e=0->
 gj t lo (a.toNat+1) c (bP n c a)/\cX (bP n c a)
def Sv.e0{c:Ck}(s:Sv c c')(h:c'.e=0):c.e=0:=Classical.byContradiction fun e=>s.err e h
theorem Ap{t:aG}(ht:aQ t){st:Ck->Int->Ck}{C:Int->Prop}{n:Nat}(hs:∀c a,bE c->c.e=0->Sv c (st c a))
  (P':∀(c:Ck) (a:Int) (lo:Nat),bE c->c.aa=t->cX c->c.e=0->0<=a->a<t.nodes.length->a.toNat<n->C (bX t.nodes a)->aK t.nodes lo (nth t.nodes a.toNat).l a.toNat->(st c a).e=0->gj t lo (a.toNat+1) c (st c a)/\cX (st c a)) :
  ∀(L:TD) (c:Ck) (lo hi:Nat),bE c->c.aa=t->cX c->hi<=n->hi<=t.nodes.length->(∀x∈L,C (bX t.nodes x))->aK t.nodes lo L hi->(dK st c L).e=0->gj t lo hi c (dK st c L)/\cX (dK st c L)
 |[],c,lo,hi,h,hc,hv,hn,hl,hr,Tb,he=>by cases Tb;unfold dK;exact⟨⟨.refl _ _ _,.none⟩,hv⟩
 |a::L,c,lo,hi,h,hc,hv,hn,hl,hr,Tb,he=>by have e0:=(q5 hs (a::L) c h).e0 he;unfold dK at he ⊢;rw[if_pos e0]at he ⊢;obtain⟨c1,c2,c3,c4,c5,c6⟩:=kD Tb;have s:=hs c a h e0;have e1:=(q5 hs L _ s.inv).e0 he;obtain⟨r1,v1⟩:=P' c a lo h hc hv e0 c1 c2 jB (hr a jE) c5 e1;obtain⟨r2,v2⟩:=Ap ht hs P' L _ _ hi s.inv (s.aa.trans hc) v1 hn hl (fun x hx=>hr x (by simp[hx])) c6 he;exact⟨r1.seq ht (aK.oK c1 c2 c5) jB jB r2,v2⟩
def Fb(ht:aQ t)(P':HN t n)(c:Ck)(a:Int)(lo:Nat)(h:bE c)(hc:c.aa=t)(hv:cX c)(h0:0<=a)(h1:a<t.nodes.length)(hn:a.toNat<=n)(hk:bX t.nodes a=18)(Tb:aK t.nodes lo (nth t.nodes a.toNat).l a.toNat)(he:(fi (bP n) c a).e=0) :
  gj t lo (a.toNat+1) c (fi (bP n) c a)/\cX (fi (bP n) c a):=by
 have sv:=qf (oC n) h a;have p':c.node a=nth t.nodes a.toNat:=by unfold Ck.node;rw[hc]
 have hb:=(ht.shape a.toNat jB).1.block hk;have ev:=qL c a;obtain⟨r,_⟩:=Ap ht (oC n) (C:=fu) P' (c.node a).l (c.ai a) lo a.toNat (h.ev ev) (ev.aa.trans hc) (hv.ev ev) hn jB (fun x hx=>hb x (by rw[<-p'];exact hx)) (by rw[p'];exact Tb) he;have r:gj t lo a.toNat c (fi (bP n) c a):=gj.post (b:=dK (bP n) (c.ai a) (c.node a).l) (gj.pre (a:=c) (b:=c.ai a) rfl r) rfl;have WT:(nth t.nodes a.toNat).kind=18:=hk;refine⟨r.skip (.inr hk) (fun h=>jB),?_⟩;unfold cX;rw[sv.2];exact hv
variable{c0:Ck}{x:Int}
def wJ(ht:aQ t){c:Ck}(h:bE c0)(hc:c0.aa=t)(hv:cX c0)(VX:c0.types=c.types)(hn:a.toNat<=n)(hl:(nth t.nodes a.toNat).l=[x])(hx:fm (bX t.nodes x))(Tb:aK t.nodes lo (nth t.nodes a.toNat).l a.toNat)(he:(az n c0 x).1.e=0) :
  gj t lo a.toNat c (az n c0 x).1/\0<=(az n c0 x).2/\(az n c0 x).2<=4/\nth (az n c0 x).1.types x.toNat=(az n c0 x).2:=by
 rw[hl]at Tb;obtain⟨c1,c2,c3,c4,c5⟩:=kn Tb;obtain⟨r1,r2,r3⟩:=wa ht n c0 x lo h hc hv c1 c2 jB hx c5 he;rw[c4];exact⟨r1.pre VX,r3.1,r3.2,r2⟩
def LG(ht:aQ t){c:Ck}{y:Int}(h:bE c0)(hc:c0.aa=t)(hv:cX c0)(VX:c0.types=c.types)(hn:a.toNat<=n)(hl:(nth t.nodes a.toNat).l=[x,y])(hx:cQ (bX t.nodes x))(hy:cQ (bX t.nodes y))(Tb:aK t.nodes lo (nth t.nodes a.toNat).l a.toNat)(Ts:a.toNat<=t.nodes.length)(he:(az n (az n c0 x).1 y).1.e=0) :
  gj t lo a.toNat c (az n (az n c0 x).1 y).1:=by
 rw[hl]at Tb;obtain⟨c1,c2,c3,c4,c5,c6⟩:=kD Tb;obtain⟨d1,d2,d3,d4,d5⟩:=kn c6;have ev:=fg n c0 x;obtain⟨r1,_⟩:=wa ht n c0 x lo h hc hv c1 c2 jB (.inl hx) c5 ((fg n _ y).e0 he);obtain⟨q1,_⟩:=wa ht n (az n c0 x).1 y (x.toNat+1) (h.ev ev) (ev.aa.trans hc) (hv.ev ev) d1 d2 jB (.inl hy) d5 he;rw[d4];exact(r1.seq ht (aK.oK c1 c2 c5) jB jB q1).pre VX
def xp{c:Ck}{p:Prop}[Decidable p]{e:Int}(he:e≠0)(h:(if p then c.aC e a else c).e=0):¬p/\(if p then c.aC e a else c)=c:=by
 split at h
 ·exact(pS he h).elim
 ·rename_i hp;exact⟨hp,if_neg hp⟩
theorem Jg{t:aG}(ht:aQ t):∀n,HN t n
 |0=>fun c a lo h hc hv e0 h0 h1 hn=>by omega
 |n+1=>fun c a lo h hc hv e0 h0 h1 hn hr Tb he=>by
  have hs:=Jg ht n;have p':(c.ai a).node a=nth t.nodes a.toNat:=by unfold Ck.node;show nth c.aa.nodes _=_;rw[hc]
  have sh:=(ht.shape a.toNat jB).1;have kd:∀i,(c.ai a).aE a i=nth (nth t.nodes a.toNat).l i:=fun i=>by unfold Ck.aE;rw[p']
  have ev:=qL c a;have h':=h.ev ev;have Uw:=ev.aa.trans hc;have TO:=hv.ev ev;suffices hsf:gj t lo a.toNat c (bP (n+1) c a)/\cX (bP (n+1) c a)/\((nth t.nodes a.toNat).kind=15\/(nth t.nodes a.toNat).kind=16\/(nth t.nodes a.toNat).kind=10->((nth t.nodes a.toNat).kind=10\/nth (bP (n+1) c a).types (nth (nth t.nodes a.toNat).l 0).toNat=2)/\1<=nth (bP (n+1) c a).types (nth (nth t.nodes a.toNat).l 0).toNat/\nth (bP (n+1) c a).types (nth (nth t.nodes a.toNat).l 0).toNat<=4) from⟨hsf.1.skip (.inl hr) hsf.2.2,hsf.2.1⟩
  have YQ:(nth t.nodes a.toNat).kind=10\/(nth t.nodes a.toNat).kind=11\/(nth t.nodes a.toNat).kind=12\/(nth t.nodes a.toNat).kind=13\/(nth t.nodes a.toNat).kind=14\/(nth t.nodes a.toNat).kind=17\/(nth t.nodes a.toNat).kind=15\/(nth t.nodes a.toNat).kind=16:=by have:fu (nth t.nodes a.toNat).kind:=hr;unfold fu at this;omega
  rcases YQ with k|k|k|k|k|k|k
  ·have e:bP (n+1) c a=oW (az n) (c.ai a) a:=by unfold bP;simp only;rw[p',k];rfl
   obtain⟨x,hl,WS⟩:=sh.right jB;have Tt:(c.ai a).aE a 0=x:=by rw[kd,hl];rfl
   rw[e]at he ⊢;rw[uq]at he ⊢;have he:(ee (az n) (c.ai a) a).e=0:=he;obtain⟨_,q1⟩:=xp jC he;have q1:ee (az n) (c.ai a) a=jr (az n) (c.ai a) a:=q1;rw[q1]at he;obtain⟨_,q2⟩:=xp jC he;have q2:jr (az n) (c.ai a) a=iF (az n) (c.ai a) a:=q2;rw[q2]at he;unfold iF at he;rw[Tt]at he;obtain⟨b1,b2⟩:=jn he;simp only[Bool.not_eq_true',decide_eq_false_iff_not]at b1;obtain⟨r1,r2,r3,r4⟩:=wJ (c:=c) ht h' Uw TO rfl jB hl WS Tb b2;have VX:(ee (az n) (c.ai a) a).types=(az n (c.ai a) x).1.types:=by rw[q1,q2];unfold iF;rw[Tt,lG]
   refine⟨r1.post VX,fun v Xk=>?_,fun _=>⟨.inl k,by rw[hl];show 1<=nth (ee (az n) (c.ai a) a).types x.toNat/\nth (ee (az n) (c.ai a) a).types x.toNat<=4;rw[VX,r4];omega⟩⟩
   have Xk:v∈(ee (az n) (c.ai a) a).vars++[(⟨((c.ai a).node a).name,(az n (c.ai a) ((c.ai a).aE a 0)).2,(ee (az n) (c.ai a) a).size⟩:bD)]:=Xk;rcases List.mem_append.1 Xk with hm|hm
   ·rw[(yZ (fg n) (c.ai a) a).vars]at hm;exact TO v hm
   ·rw[List.mem_singleton.1 hm];show 1<=(az n (c.ai a) ((c.ai a).aE a 0)).2/\(az n (c.ai a) ((c.ai a).aE a 0)).2<=4;rw[Tt];omega
  ·have e:bP (n+1) c a=(az n ((c.ai a).named a).1 ((c.ai a).aE a 0)).1.ao (decide (((c.ai a).named a).2=(az n ((c.ai a).named a).1 ((c.ai a).aE a 0)).2)) a:=by unfold bP;simp only;rw[p',k];rfl
   obtain⟨x,hl,WS⟩:=sh.right jB;have Tt:(c.ai a).aE a 0=x:=by rw[kd,hl];rfl
   rw[e]at he ⊢;rw[Tt]at he ⊢;obtain⟨b1,b2⟩:=jn he;have en:=nE (c.ai a) a;obtain⟨r1,_⟩:=wJ (c:=c) ht (h'.ev en) (en.aa.trans Uw) (TO.ev en) (yc _ _) jB hl WS Tb b2;exact⟨r1.post (lG _ _ _),(TO.ev en).ev ((fg n _ _).trans (kv _ _ _)),fun h=>jB⟩
  ·have e:bP (n+1) c a=(az n (az n ((c.ai a).named a).1 ((c.ai a).aE a 0)).1 ((c.ai a).aE a 1)).1.ao (decide (((c.ai a).named a).2=4) && decide ((az n ((c.ai a).named a).1 ((c.ai a).aE a 0)).2=1) && decide ((az n (az n ((c.ai a).named a).1 ((c.ai a).aE a 0)).1 ((c.ai a).aE a 1)).2=1)) a:=by unfold bP;simp only;rw[p',k];rfl
   obtain⟨x,y,hl,TR,Wx⟩:=sh.two jB;have Tt:(c.ai a).aE a 0=x:=by rw[kd,hl];rfl
   have TQ:(c.ai a).aE a 1=y:=by rw[kd,hl];rfl
   rw[e]at he ⊢;rw[Tt,TQ]at he ⊢;obtain⟨b1,b2⟩:=jn he;have en:=nE (c.ai a) a;have r1:=LG (c:=c) ht (h'.ev en) (en.aa.trans Uw) (TO.ev en) (yc _ _) jB hl TR Wx Tb jB b2;exact⟨r1.post (lG _ _ _),(TO.ev en).ev (((fg n _ _).trans (fg n _ _)).trans (kv _ _ _)),fun h=>jB⟩
  ·have e:bP (n+1) c a=(az n (c.ai a) ((c.ai a).aE a 0)).1:=by unfold bP;simp only;rw[p',k];rfl
   obtain⟨x,hl,hxk⟩:=sh.sX k;have Tt:(c.ai a).aE a 0=x:=by rw[kd,hl];rfl
   rw[e]at he ⊢;rw[Tt]at he ⊢;obtain⟨r1,_⟩:=wJ (c:=c) ht h' Uw TO rfl jB hl (by rw[hxk];unfold fm;omega) Tb he;exact⟨r1,TO.ev (fg n _ _),fun h=>jB⟩
  ·have e:bP (n+1) c a=(az n (c.ai a) ((c.ai a).aE a 0)).1.ao (!decide ((az n (c.ai a) ((c.ai a).aE a 0)).2=4)) a:=by unfold bP;simp only;rw[p',k];rfl
   obtain⟨x,hl,TR⟩:=sh.one jB;have Tt:(c.ai a).aE a 0=x:=by rw[kd,hl];rfl
   rw[e]at he ⊢;rw[Tt]at he ⊢;obtain⟨b1,b2⟩:=jn he;obtain⟨r1,_⟩:=wJ (c:=c) ht h' Uw TO rfl jB hl (.inl TR) Tb b2;exact⟨r1.post (lG _ _ _),TO.ev ((fg n _ _).trans (kv _ _ _)),fun h=>jB⟩
  ·have e:bP (n+1) c a=kH (az n) (c.ai a) a:=by unfold bP;simp only;rw[p',k];rfl
   rw[e]at he ⊢;unfold kH at he ⊢;rw[p']at he ⊢;simp only at he ⊢;split at he
   ·exact(pS jC he).elim
   rename_i hf;rw[if_neg hf];rcases sh.ret k with hl|⟨x,hl,TR⟩
   ·rw[hl];rw[if_neg jC];rw[hl]at Tb;have:lo=a.toNat:=by cases Tb;rfl
    subst this;exact⟨⟨.same rfl,.none⟩,TO,fun h=>jB⟩
   ·have Tt:(c.ai a).aE a 0=x:=by rw[kd,hl];rfl
    have U8:(nth t.nodes a.toNat).l.length=1:=by rw[hl];rfl
    rw[if_pos U8]at he ⊢;rw[Tt]at he ⊢;obtain⟨b1,b2⟩:=jn he;obtain⟨r1,_⟩:=wJ (c:=c) ht h' Uw TO rfl jB hl (.inl TR) Tb b2;exact⟨r1.post (lG _ _ _),TO.ev ((fg n _ _).trans (kv _ _ _)),fun h=>jB⟩
  ·have e:bP (n+1) c a=dK (fi (bP n)) ((az n (c.ai a) ((c.ai a).aE a 0)).1.ao (decide ((az n (c.ai a) ((c.ai a).aE a 0)).2=2)) a) (((c.ai a).node a).l.drop 1):=by
    unfold bP;simp only;rw[p'];rcases k with k|k<;>rw[k]<;>rfl
   have Xu:∃x L,(nth t.nodes a.toNat).l=x::L/\cQ (bX t.nodes x)/\∀y∈L,bX t.nodes y=18:=by
    rcases k with k|k
    ·obtain⟨x,y,hx,hy,hl|⟨z,hl,hz⟩⟩:=sh.lC k
     ·exact⟨x,[y],hl,hx,fun u hu=>by rw[List.mem_singleton.1 hu];exact hy⟩
     ·exact⟨x,[y,z],hl,hx,fun u hu=>by
       rcases List.mem_cons.1 hu with rfl|hu
       ·exact hy
       ·rw[List.mem_singleton.1 hu];exact hz⟩
    ·obtain⟨x,y,hl,hx,hy⟩:=sh.dX k;exact⟨x,[y],hl,hx,fun u hu=>by rw[List.mem_singleton.1 hu];exact hy⟩
   obtain⟨x,L,hl,TR,hL⟩:=Xu;have Tt:(c.ai a).aE a 0=x:=by rw[kd,hl];rfl
   rw[e]at he ⊢;rw[p',hl,Tt]at he ⊢;have he:(dK (fi (bP n)) ((az n (c.ai a) x).1.ao (decide ((az n (c.ai a) x).2=2)) a) L).e=0:=he;show gj t lo a.toNat c (dK (fi (bP n)) ((az n (c.ai a) x).1.ao (decide ((az n (c.ai a) x).2=2)) a) L)/\cX (dK (fi (bP n)) ((az n (c.ai a) x).1.ao (decide ((az n (c.ai a) x).2=2)) a) L)/\((nth t.nodes a.toNat).kind=15\/(nth t.nodes a.toNat).kind=16\/(nth t.nodes a.toNat).kind=10->((nth t.nodes a.toNat).kind=10\/nth (dK (fi (bP n)) ((az n (c.ai a) x).1.ao (decide ((az n (c.ai a) x).2=2)) a) L).types (nth (x::L) 0).toNat=2)/\1<=nth (dK (fi (bP n)) ((az n (c.ai a) x).1.ao (decide ((az n (c.ai a) x).2=2)) a) L).types (nth (x::L) 0).toNat/\nth (dK (fi (bP n)) ((az n (c.ai a) x).1.ao (decide ((az n (c.ai a) x).2=2)) a) L).types (nth (x::L) 0).toNat<=4);have ex:=(fg n (c.ai a) x).trans (kv _ (decide ((az n (c.ai a) x).2=2)) a);have Uy:=h'.ev ex;have ZK:∀(q:Ck) b,bE q->q.e=0->Sv q (fi (bP n) q b):=fun q b hq _=>(qf (oC n) hq b).1
   have e1:=(q5 ZK L _ Uy).e0 he;obtain⟨b1,b2⟩:=jn e1;rw[hl]at Tb;obtain⟨c1,c2,c3,c4,c5,c6⟩:=kD Tb;obtain⟨r1,r1b,_⟩:=wa ht n (c.ai a) x lo h' Uw TO c1 c2 jB (.inl TR) c5 b2;obtain⟨r2,v2⟩:=Ap ht ZK (C:=fun k=>k=18) (n:=n) (fun q b l g1 g2 g3 _ g5 g6 g7 g8 g9 g10=>Fb ht hs q b l g1 g2 g3 g5 g6 jB g8 g9 g10) L _ (x.toNat+1) a.toNat Uy (ex.aa.trans Uw) (TO.ev ex) jB jB hL c6 he;exact⟨((gj.pre (a:=c) (b:=c.ai a) rfl r1).post (lG _ _ _)).seq ht (aK.oK c1 c2 c5) jB jB r2,v2,fun _=>by show(_\/nth _ x.toNat=2)/\1<=nth _ x.toNat/\nth _ x.toNat<=4;rw[r2.tw x.toNat (.inl jB),lG,r1b];have:=of_decide_eq_true b1;omega⟩
theorem DY{t:aG}(body:Int):∀(ps:List bK) (c:Ck) (i:Int),cX c->(∀p∈ps,1<=p.ty/\p.ty<=4)->cX (fw body c ps i)/\(fw body c ps i).types=c.types/\((fw body c ps i).e=0->c.e=0)
 |[],c,i,h,hp=>by unfold fw;exact⟨h,rfl,id⟩
 |p::ps,c,i,h,hp=>by
  have fin:∀c1:Ck,Ev c c1->c1.types=c.types->cX (fw body (mK c1 ⟨p.name,p.ty,i⟩) ps (i+1))/\(fw body (mK c1 ⟨p.name,p.ty,i⟩) ps (i+1)).types=c.types/\((fw body (mK c1 ⟨p.name,p.ty,i⟩) ps (i+1)).e=0->c.e=0):=fun c1 s e=>by
   obtain⟨a,b,d⟩:=DY (t:=t) body ps (mK c1 ⟨p.name,p.ty,i⟩) (i+1) (fun v hv=>by
    have hv:v∈c1.vars++[(⟨p.name,p.ty,i⟩:bD)]:=hv;rcases List.mem_append.1 hv with hv|hv
    ·exact h.ev s v hv
    ·rw[List.mem_singleton.1 hv];exact hp p jE) (fun q hq=>hp q (by simp[hq]))
   exact⟨a,b.trans e,fun hh=>s.e0 (d hh)⟩
  unfold fw;simp only;split
  ·exact fin _ (nD c jC body) (Br _ _ _)
  ·exact fin _ (.refl c) rfl
def Kw(ht:aQ t){c:Ck}(h:gr c)(hc:c.aa=t){k:Nat}(hk:k<t.av.length)(Ti:c.aO.length<6)(Tb:aK t.nodes lo (nth t.nodes (nth t.av k).body.toNat).l (nth t.av k).body.toNat)(he:(gH c k).e=0) :
  gj t lo ((nth t.av k).body.toNat+1) c (gH c k)/\c.e=0:=by
 have Tv:k<c.aa.av.length:=by rw[hc];exact hk
 have Y9:=h.aa.fn _ (fh Tv);have VD:bE { c with fn:=(k:Int),vars:=[],more:=[],size:=0 }:=⟨h.aa,h.types,h.slots,h.av,by show c.aO.length<=6;omega,by show(0:Int)<=k;omega,by show(k:Int)<(c.aa.av.length:Int);omega,by show((0:Nat):Int)<=0;omega,by show(0:Int)<=25;omega,fun _=>by show(0:Int)<=24;omega⟩;obtain⟨a,b,d⟩:=yh (nth c.aa.av k).body (nth c.aa.av k).params _ 0 VD (by show(0:Int)+_<=20;omega);obtain⟨a',b',d'⟩:=DY (t:=t) (nth c.aa.av k).body (nth c.aa.av k).params { c with fn:=(k:Int),vars:=[],more:=[],size:=0 } 0 (fun v hv=>by simp at hv) Y9.1.ps;have UI:=oV ht hk;have Wl:=ht.body _ (fh hk);unfold gH at he ⊢;simp only at he ⊢;rw[hc]at he ⊢;rw[hc]at a b d a' b' d';split at he
 ·rename_i e1;rw[if_pos e1];obtain⟨r,_⟩:=Fb ht (Jg ht t.nodes.length) _ (nth t.av k).body lo a (b.trans (by rfl)) a' UI.1 UI.2 (by have:=UI.2;have:=UI.1;omega) Wl Tb he;have q:=gj.pre (a:=c) b' r;exact⟨⟨fun k hk=>q.tw k hk,q.all⟩,d' e1⟩
 ·rename_i e1;exact(e1 he).elim
theorem AG{t:aG}(ht:aQ t):∀(n i lo:Nat) (c:Ck),gr c->c.aa=t->c.aO.length=i->i+n=t.av.length->aK t.nodes lo ((t.av.drop i).map (·.body)) t.nodes.length->(gv c i n).e=0->
  gj t lo t.nodes.length c (gv c i n)/\(gv c i n).aa=t/\gr (gv c i n)/\(gv c i n).aO.length=t.av.length
 |0,i,lo,c,h,hc,hs,hi,Tb,he=>by
  unfold gv;rw[List.drop_eq_nil_of_le jB]at Tb;have:lo=t.nodes.length:=by cases Tb;rfl
  subst this;exact⟨⟨.refl _ _ _,.none⟩,hc,h,jB⟩
 |n+1,i,lo,c,h,hc,hs,hi,Tb,he=>by
  have h6:=ht.av;unfold gv at he ⊢;by_cases e0:c.e=0
  ·rw[if_pos e0]at he ⊢;have hk:i<t.av.length:=jB;rw[kQ hk]at Tb;obtain⟨c1,c2,c3,c4,c5,c6⟩:=kD (a:=(nth t.av i).body) Tb;obtain⟨f1,f2,f3⟩:=BA h (by rw[hc];exact hk) (by omega:c.aO.length<6);have e1:(gH c i).e=0:=by
    cases n with
    |zero=>unfold gv at he;exact he
    |succ m=>
     unfold gv at he;split at he
     ·assumption
     ·exact he
   obtain⟨r1,_⟩:=Kw ht h hc hk jB c5 e1;obtain⟨r2,q1,q2,q3⟩:=AG ht n (i+1) ((nth t.av i).body.toNat+1) (gH c i) f1 (f2.trans hc) jB jB c6 he;exact⟨r1.seq ht (aK.oK c1 c2 c5) jB jB r2,q1,q2,q3⟩
  ·rw[if_neg e0]at he;exact(e0 he).elim
structure py(p:af):Prop where
 aa:aQ p.aa
 types:p.types.length=p.aa.nodes.length
 slots:p.slots.length=p.aa.nodes.length
 fn:p.fn.length=p.aa.nodes.length
 size:p.size.length=p.aa.av.length
 ty:fZ p.aa p.types 0 p.aa.nodes.length
def DZ(ht:aQ t):gr (iW (jw t))/\(iW (jw t)).aa=t/\(iW (jw t)).aO=[]:=by
 have ev:=GM (jw t);refine⟨⟨by rw[ev.aa];exact ht,?_,?_,?_⟩,ev.aa,ev.aO⟩
 ·rw[ev.types,ev.aa];show(t.nodes.map _).length=t.nodes.length;simp
 ·rw[ev.slots,ev.aa];show(t.nodes.map _).length=t.nodes.length;simp
 ·rw[ev.av,ev.aa];show(t.nodes.map _).length=t.nodes.length;simp
def zS(ht:aQ t)(he:(ir t).2.2=0):py (ir t).1/\(ir t).1.aa=t:=by
 unfold ir at he ⊢;split at he
 ·rename_i h;exact(h he).elim
 rename_i h;rw[if_neg h];have h:(iV t).e=0:=jB;obtain⟨i1,i2,i3⟩:=DZ ht;obtain⟨r,q1,q2,q3⟩:=AG ht t.av.length 0 0 (iW (jw t)) i1 i2 (by rw[i3];rfl) jB (by rw[List.drop_zero];exact ht.chain) h;refine⟨⟨q2.aa,q2.types,q2.slots,q2.av,?_,?_⟩,q1⟩
 ·show(iV t).aO.length=(iV t).aa.av.length;have e:(iV t).aa=t:=q1;rw[e];exact q3
 ·show fZ (iV t).aa (iV t).types 0 (iV t).aa.nodes.length;have e:(iV t).aa=t:=q1;rw[e];exact r.all
def HQ{s:TF}(he:(fY s).2.2=0):py (fY s).1:=by
 unfold fY at he ⊢;split at he
 ·rename_i h;exact(h he).elim
 rename_i h;rw[if_neg h];have h:(gP s).2.2=0:=jB;simp only at he ⊢;split at he
 ·cases he
 rename_i h2;split at he
 ·rename_i h3;exact(h3 he).elim
 rename_i h3;rw[if_neg h2,if_neg h3];exact(zS (uY h) jB).1
def jL(k:Int):Prop:=k=4\/k=5\/k=10\/k=11\/k=12
def dt(c:Ck):Prop:=0<=c.size/\∀v∈c.vars,0<=v.slot/\v.slot<c.size
structure fL(t:aG)(lo hi:Nat)(c c':Ck):Prop where
 sw:∀k,(k<lo\/hi<=k)->nth c'.slots k=nth c.slots k
 all:∀k,lo<=k->k<hi->jL (nth t.nodes k).kind->0<=nth c'.slots k/\nth c'.slots k<c'.size
 size:c.size<=c'.size
def fL.post{a c:Ck}(h:fL t lo hi a b)(e:c.slots=b.slots)(z:c.size=b.size):fL t lo hi a c:=⟨fun k hk=>by rw[e];exact h.sw k hk,fun k h1 h2 h3=>by rw[e,z];exact h.all k h1 h2 h3,by rw[z];exact h.size⟩
def fL.pre{a c:Ck}(e:b.slots=a.slots)(z:b.size=a.size)(h:fL t lo hi b c):fL t lo hi a c:=⟨fun k hk=>by rw[<-e];exact h.sw k hk,h.all,by rw[<-z];exact h.size⟩
def fL.refl(t:aG)(lo:Nat)(c:Ck):fL t lo lo c c:=⟨fun _ _=>rfl,fun k h1 h2=>jB,Int.le_refl _⟩
def fL.seq{a c:Ck}(h0:lo<=mid)(h1:mid<=hi)(h:fL t lo mid a b)(k:fL t mid hi b c):fL t lo hi a c:=by
 have:=k.size;refine⟨fun i U7=>(k.sw i jB).trans (h.sw i jB),fun i g1 g2 g3=>?_,by have:=h.size;omega⟩;by_cases e:i<mid
 ·rw[k.sw i (.inl e)];have:=h.all i g1 e g3;omega
 ·exact k.all i jB g2 g3
def fL.node{c:Ck}(h:fL t lo n c c')(hn:jL (nth t.nodes n).kind->0<=nth c'.slots n/\nth c'.slots n<c'.size):fL t lo (n+1) c c':=
 ⟨fun k hk=>h.sw k jB,fun k h1 h2 h3=>by
  by_cases e:k<n
  ·exact h.all k h1 e h3
  ·have:k=n:=jB;subst this;exact hn h3,h.size⟩
def EF(c:Ck)(e a:Int):(c.aC e a).slots=c.slots/\(c.aC e a).size=c.size:=by unfold Ck.aC;split<;>exact⟨rfl,rfl⟩
def vG(c:Ck)(b:Bool)(a:Int):(c.ao b a).slots=c.slots/\(c.ao b a).size=c.size:=by unfold Ck.ao;split;exact⟨rfl,rfl⟩;exact EF _ _ _
theorem fL.ao{t:aG}{lo hi:Nat}{a c:Ck}{b:Bool}{x:Int}(h:fL t lo hi a c):fL t lo hi a (c.ao b x):=h.post (vG c b x).1 (vG c b x).2
def dt.ev{c:Ck}(h:dt c)(s:Ev c c'):dt c':=by unfold dt;rw[s.vars,s.size];exact h
def Bv{c:Ck}(h:dt c)(hn:a.toNat=n)(hl:n<c.slots.length)(he:(c.named a).1.e=0):(∀k,k≠n->nth (c.named a).1.slots k=nth c.slots k)/\0<=nth (c.named a).1.slots n/\nth (c.named a).1.slots n<c.size:=by
 unfold Ck.named at he ⊢;split
 ·rename_i hf;rw[if_pos hf]at he;exact(pS jC he).elim
 ·rename_i hf;have hv:nth c.vars (c.find (c.node a).name).toNat∈c.vars:=by
   rcases zk bD.name (c.node a).name c.vars 0 jB with⟨h1,_⟩|h1
   ·exact(hf (by show ja bD.name (c.node a).name c.vars 0<0;rw[h1];decide)).elim
   ·exact fh (by show(ja bD.name (c.node a).name c.vars 0).toNat<_;omega)
  have hs:∀k,nth (c.slot a (nth c.vars (c.find (c.node a).name).toNat).slot).slots k=if n=k/\k<c.slots.length then(nth c.vars (c.find (c.node a).name).toNat).slot else nth c.slots k:=fun k=>by show nth (c.slots.set a.toNat _) k=_;rw[xk,hn]
  refine⟨fun k hk=>by show nth (c.slot a _).slots k=_;rw[hs,jN],?_⟩;show 0<=nth (c.slot a _).slots n/\nth (c.slot a _).slots n<_;rw[hs,if_pos ⟨rfl,hl⟩];exact h.2 _ hv
def G1(t:aG)(n:Nat):Prop:=∀(c:Ck) (a:Int) (lo:Nat),bE c->c.aa=t->dt c->0<=a->a<t.nodes.length->a.toNat<n->fm (bX t.nodes a)->aK t.nodes lo (nth t.nodes a.toNat).l a.toNat->(az n c a).1.e=0->fL t lo (a.toNat+1) c (az n c a).1
theorem Dt{t:aG}{n:Nat}(hx:G1 t n):∀(L:TD) (c:Ck) (ts:TD) (lo hi:Nat),bE c->c.aa=t->dt c->hi<=n->(∀x∈L,fm (bX t.nodes x))->aK t.nodes lo L hi->(gC (az n) c L ts).1.e=0->fL t lo hi c (gC (az n) c L ts).1
 |[],c,ts,lo,hi,h,hc,hv,hn,hr,Tb,he=>by cases Tb;unfold gC;exact .refl _ _ _
 |a::L,c,ts,lo,hi,h,hc,hv,hn,hr,Tb,he=>by have e0:=(tQ (fg n) (a::L) c ts).e0 he;unfold gC at he ⊢;rw[if_pos e0]at he ⊢;obtain⟨c1,c2,c3,c4,c5,c6⟩:=kD Tb;have ev:=fg n c a;have e1:=(tQ (fg n) L _ _).e0 he;have r1:=hx c a lo h hc hv c1 c2 jB (hr a jE) c5 e1;exact r1.seq jB jB (Dt hx L _ _ _ hi (h.ev ev) (ev.aa.trans hc) (hv.ev ev) hn (fun x hx=>hr x (by simp[hx])) c6 he)
theorem H6(a:Int):∀(ts:TD) (ps:List bK) (c:Ck),(iC a c ts ps).slots=c.slots/\(iC a c ts ps).size=c.size
 |[],ps,c=>by rw[tI];exact⟨rfl,rfl⟩
 |_::_,[],c=>by rw[ug];exact⟨rfl,rfl⟩
 |x::ts,p::ps,c=>by
  unfold iC;split
  ·have:=H6 a ts ps (c.ao (decide (x=p.ty)) a);exact⟨this.1.trans (vG _ _ _).1,this.2.trans (vG _ _ _).2⟩
  ·exact⟨rfl,rfl⟩
theorem wi{t:aG}(ht:aQ t):∀n,G1 t n
 |0=>fun c a lo h hc hv h0 h1 hn=>by omega
 |n+1=>fun c a lo h hc hv h0 h1 hn hr Tb he=>by
  have hx:=wi ht n;have e0:=(fg (n+1) c a).e0 he;unfold az at he ⊢;rw[jN]at he ⊢;simp only at he ⊢;have he:(cv (az n) c a).1.e=0:=he;have p':c.node a=nth t.nodes a.toNat:=by unfold Ck.node;rw[hc]
  have sh:=(ht.shape a.toNat jB).1;suffices hs:fL t lo (a.toNat+1) c (cv (az n) c a).1 from hs.post rfl rfl
  have Ta:=Tb.le;have leaf:(nth t.nodes a.toNat).l=[]->fL t lo a.toNat c c:=fun hl=>by
   rw[hl]at Tb;have:lo=a.toNat:=by cases Tb;rfl
   subst this;exact .refl _ _ _
  have kid1:∀x,(nth t.nodes a.toNat).l=[x]->fm (bX t.nodes x)->(az n c x).1.e=0->fL t lo a.toNat c (az n c x).1:=fun x hl WS TR=>by rw[hl]at Tb;obtain⟨c1,c2,c3,c4,c5⟩:=kn Tb;rw[c4];exact hx c x lo h hc hv c1 c2 jB WS c5 TR
  have kd:∀i,c.aE a i=nth (nth t.nodes a.toNat).l i:=fun i=>by unfold Ck.aE;rw[p']
  have YQ:(nth t.nodes a.toNat).kind=1\/(nth t.nodes a.toNat).kind=2\/(nth t.nodes a.toNat).kind=3\/(nth t.nodes a.toNat).kind=4\/(nth t.nodes a.toNat).kind=5\/(nth t.nodes a.toNat).kind=6\/(nth t.nodes a.toNat).kind=7\/(nth t.nodes a.toNat).kind=8\/(nth t.nodes a.toNat).kind=9\/(nth t.nodes a.toNat).kind=19\/(nth t.nodes a.toNat).kind=20\/(nth t.nodes a.toNat).kind=21:=by have:fm (nth t.nodes a.toNat).kind:=hr;unfold fm cQ at this;omega
  have Te:∀{q:Prop},¬((nth t.nodes a.toNat).kind=4\/(nth t.nodes a.toNat).kind=5)->jL (nth t.nodes a.toNat).kind->q:=fun h1 h2=>by unfold jL at h2;have:fm (nth t.nodes a.toNat).kind:=hr;unfold fm cQ at this;omega
  have Uq:a.toNat<c.slots.length:=by rw[h.slots,hc];omega
  rcases YQ with k|k|k|k|k|k|k|k|k|k|k|k
  ·have e:cv (az n) c a=(c,1):=by unfold cv;simp only;rw[p',k];rfl
   rw[e];exact(leaf (sh.zero jB)).node (Te jB)
  ·have e:cv (az n) c a=(c,2):=by unfold cv;simp only;rw[p',k];rfl
   rw[e];exact(leaf (sh.zero jB)).node (Te jB)
  ·have e:cv (az n) c a=(c,3):=by unfold cv;simp only;rw[p',k];rfl
   rw[e];exact(leaf (sh.zero jB)).node (Te jB)
  ·have e:cv (az n) c a=c.named a:=by unfold cv;simp only;rw[p',k];rfl
   rw[e]at he ⊢;obtain⟨g1,g2⟩:=Bv hv rfl Uq he;have hz:=(nE c a).size;have hl:=sh.zero jB;rw[hl]at Tb;have:lo=a.toNat:=by cases Tb;rfl
   subst this;exact⟨fun k hk=>g1 k jB,fun k h1 h2 _=>by have:k=a.toNat:=jB;subst this;rw[hz];exact g2,by rw[hz];exact Int.le_refl _⟩
  ·have e:cv (az n) c a=((az n (c.named a).1 (c.aE a 0)).1.ao (decide ((c.named a).2=4) && decide ((az n (c.named a).1 (c.aE a 0)).2=1)) a,1):=by unfold cv;simp only;rw[p',k];rfl
   obtain⟨x,hl,TR⟩:=sh.one jB;have Tt:c.aE a 0=x:=by rw[kd,hl];rfl
   rw[e]at he ⊢;rw[Tt]at he ⊢;obtain⟨b1,b2⟩:=jn he;have en:=nE c a;obtain⟨g1,g2⟩:=Bv hv rfl Uq ((fg n _ x).e0 b2);rw[hl]at Tb;obtain⟨c1,c2,c3,c4,c5⟩:=kn Tb;have r:=hx (c.named a).1 x lo (h.ev en) (en.aa.trans hc) (hv.ev en) c1 c2 jB (.inl TR) c5 b2;have hz:=en.size;have hrz:=r.size;rw[<-c4]at r;refine fL.ao ⟨fun k hk=>(r.sw k jB).trans (g1 k jB),fun k h1 h2 h3=>?_,jB⟩;by_cases Zi:k<a.toNat
   ·exact r.all k h1 Zi h3
   ·have:k=a.toNat:=jB;subst this;rw[r.sw _ (.inr jB)];omega
  ·have e:cv (az n) c a=((az n c (c.aE a 0)).1.ao (decide ((az n c (c.aE a 0)).2=3) || decide ((az n c (c.aE a 0)).2=4)) a,1):=by unfold cv;simp only;rw[p',k];rfl
   obtain⟨x,hl,TR⟩:=sh.one jB;have Tt:c.aE a 0=x:=by rw[kd,hl];rfl
   rw[e]at he ⊢;rw[Tt]at he ⊢;exact((kid1 x hl (.inl TR) (jn he).2).ao).node (Te jB)
  ·have e:cv (az n) c a=((az n c (c.aE a 0)).1.ao (decide ((az n c (c.aE a 0)).2=1)) a,1):=by unfold cv;simp only;rw[p',k];rfl
   obtain⟨x,hl,TR⟩:=sh.one jB;have Tt:c.aE a 0=x:=by rw[kd,hl];rfl
   rw[e]at he ⊢;rw[Tt]at he ⊢;exact((kid1 x hl (.inl TR) (jn he).2).ao).node (Te jB)
  ·have e:cv (az n) c a=((az n c (c.aE a 0)).1.ao (decide ((az n c (c.aE a 0)).2=2)) a,2):=by unfold cv;simp only;rw[p',k];rfl
   obtain⟨x,hl,TR⟩:=sh.one jB;have Tt:c.aE a 0=x:=by rw[kd,hl];rfl
   rw[e]at he ⊢;rw[Tt]at he ⊢;exact((kid1 x hl (.inl TR) (jn he).2).ao).node (Te jB)
  ·have e:cv (az n) c a=((az n (az n c (c.aE a 0)).1 (c.aE a 1)).1.ao (!decide (lV (c.node a).name (az n c (c.aE a 0)).2 (az n (az n c (c.aE a 0)).1 (c.aE a 1)).2=0)) a,lV (c.node a).name (az n c (c.aE a 0)).2 (az n (az n c (c.aE a 0)).1 (c.aE a 1)).2):=by unfold cv;simp only;rw[p',k];rfl
   obtain⟨x,y,hl,TR,Wx⟩:=sh.two jB;have Tt:c.aE a 0=x:=by rw[kd,hl];rfl
   have TQ:c.aE a 1=y:=by rw[kd,hl];rfl
   rw[e]at he ⊢;rw[Tt,TQ]at he ⊢;obtain⟨b1,b2⟩:=jn he;have ev:=fg n c x;rw[hl]at Tb;obtain⟨c1,c2,c3,c4,c5,c6⟩:=kD Tb;obtain⟨d1,d2,d3,d4,d5⟩:=kn c6;have r1:=hx c x lo h hc hv c1 c2 jB (.inl TR) c5 ((fg n _ y).e0 b2);have r2:=hx (az n c x).1 y (x.toNat+1) (h.ev ev) (ev.aa.trans hc) (hv.ev ev) d1 d2 jB (.inl Wx) d5 b2;rw[<-d4]at r2;exact((r1.seq jB jB r2).ao).node (Te jB)
  ·have e:cv (az n) c a=(c,1):=by unfold cv;simp only;rw[p',k];rfl
   rw[e];exact(leaf (sh.zero jB)).node (Te jB)
  ·have e:cv (az n) c a=((az n c (c.aE a 0)).1.ao (decide ((az n c (c.aE a 0)).2=1)) a,4):=by unfold cv;simp only;rw[p',k];rfl
   obtain⟨x,hl,TR⟩:=sh.one jB;have Tt:c.aE a 0=x:=by rw[kd,hl];rfl
   rw[e]at he ⊢;rw[Tt]at he ⊢;exact((kid1 x hl (.inl TR) (jn he).2).ao).node (Te jB)
  ·have e:cv (az n) c a=iX (az n) c a:=by unfold cv;simp only;rw[p',k];rfl
   rw[e]at he ⊢;have TY:=sh.call k;unfold iX at he ⊢;split at he
   ·exact(pS jC he).elim
   rename_i hf;rw[if_neg hf];simp only at he ⊢;have e1:=(yU a _ _ _).e0 he;split at e1
   ·exact(pS jC e1).elim
   rename_i hl;rw[if_neg hl];have r:=Dt hx (c.node a).l c [] lo a.toNat h hc hv jB (fun x TW=>.inl (TY x (by rw[<-p'];exact TW))) (by rw[p'];exact Tb) e1;have q:=H6 a (gC (az n) c (c.node a).l []).2 (nth c.aa.av (fR c a).toNat).params (gC (az n) c (c.node a).l []).1;exact(r.post q.1 q.2).node (Te jB)
def Es(t:aG)(n:Nat):Prop:=∀(c:Ck) (a:Int) (lo:Nat),bE c->c.aa=t->dt c->c.e=0->0<=a->a<t.nodes.length->a.toNat<n->fu (bX t.nodes a)->aK t.nodes lo (nth t.nodes a.toNat).l a.toNat->(bP n c a).e=0->
 fL t lo (a.toNat+1) c (bP n c a)/\dt (bP n c a)
theorem B2{t:aG}{st:Ck->Int->Ck}{C:Int->Prop}{n:Nat}(hs:∀c a,bE c->c.e=0->Sv c (st c a))
  (P':∀(c:Ck) (a:Int) (lo:Nat),bE c->c.aa=t->dt c->c.e=0->0<=a->a<t.nodes.length->a.toNat<n->C (bX t.nodes a)->aK t.nodes lo (nth t.nodes a.toNat).l a.toNat->(st c a).e=0->fL t lo (a.toNat+1) c (st c a)/\dt (st c a)) :
  ∀(L:TD) (c:Ck) (lo hi:Nat),bE c->c.aa=t->dt c->hi<=n->(∀x∈L,C (bX t.nodes x))->aK t.nodes lo L hi->(dK st c L).e=0->fL t lo hi c (dK st c L)/\dt (dK st c L)
 |[],c,lo,hi,h,hc,hv,hn,hr,Tb,he=>by cases Tb;unfold dK;exact⟨.refl _ _ _,hv⟩
 |a::L,c,lo,hi,h,hc,hv,hn,hr,Tb,he=>by have e0:=(q5 hs (a::L) c h).e0 he;unfold dK at he ⊢;rw[if_pos e0]at he ⊢;obtain⟨c1,c2,c3,c4,c5,c6⟩:=kD Tb;have s:=hs c a h e0;have e1:=(q5 hs L _ s.inv).e0 he;obtain⟨r1,v1⟩:=P' c a lo h hc hv e0 c1 c2 jB (hr a jE) c5 e1;obtain⟨r2,v2⟩:=B2 hs P' L _ _ hi s.inv (s.aa.trans hc) v1 hn (fun x hx=>hr x (by simp[hx])) c6 he;exact⟨r1.seq jB jB r2,v2⟩
def HR(ht:aQ t)(P':Es t n)(c:Ck)(a:Int)(lo:Nat)(h:bE c)(hc:c.aa=t)(hv:dt c)(h0:0<=a)(h1:a<t.nodes.length)(hn:a.toNat<=n)(hk:bX t.nodes a=18)(Tb:aK t.nodes lo (nth t.nodes a.toNat).l a.toNat)(he:(fi (bP n) c a).e=0) :
  fL t lo (a.toNat+1) c (fi (bP n) c a)/\dt (fi (bP n) c a):=by
 have sv:=qf (oC n) h a;have p':c.node a=nth t.nodes a.toNat:=by unfold Ck.node;rw[hc]
 have hb:=(ht.shape a.toNat jB).1.block hk;have ev:=qL c a;obtain⟨r,_⟩:=B2 (oC n) (C:=fu) P' (c.node a).l (c.ai a) lo a.toNat (h.ev ev) (ev.aa.trans hc) (hv.ev ev) hn (fun x hx=>hb x (by rw[<-p'];exact hx)) (by rw[p'];exact Tb) he;have r:fL t lo a.toNat c (fi (bP n) c a):=fL.post (b:=dK (bP n) (c.ai a) (c.node a).l) (fL.pre (a:=c) (b:=c.ai a) rfl rfl r) rfl rfl;have WT:(nth t.nodes a.toNat).kind=18:=hk;refine⟨r.node (fun h=>by unfold jL at h;omega),?_⟩;have hz:=r.size;refine⟨by have:=hv.1;omega,fun v TO=>?_⟩;rw[sv.2]at TO;have:=hv.2 v TO;omega
def wY(ht:aQ t)(h:bE c0)(hc:c0.aa=t)(hv:dt c0)(hn:a.toNat<=n)(hl:(nth t.nodes a.toNat).l=[x])(hx:fm (bX t.nodes x))(Tb:aK t.nodes lo (nth t.nodes a.toNat).l a.toNat)(he:(az n c0 x).1.e=0) :
  fL t lo a.toNat c0 (az n c0 x).1:=by
 rw[hl]at Tb;obtain⟨c1,c2,c3,c4,c5⟩:=kn Tb;rw[c4];exact wi ht n c0 x lo h hc hv c1 c2 jB hx c5 he
def Oz(ht:aQ t){y:Int}(h:bE c0)(hc:c0.aa=t)(hv:dt c0)(hn:a.toNat<=n)(hl:(nth t.nodes a.toNat).l=[x,y])(hx:cQ (bX t.nodes x))(hy:cQ (bX t.nodes y))(Tb:aK t.nodes lo (nth t.nodes a.toNat).l a.toNat)(he:(az n (az n c0 x).1 y).1.e=0) :
  fL t lo a.toNat c0 (az n (az n c0 x).1 y).1:=by
 rw[hl]at Tb;obtain⟨c1,c2,c3,c4,c5,c6⟩:=kD Tb;obtain⟨d1,d2,d3,d4,d5⟩:=kn c6;have ev:=fg n c0 x;have r1:=wi ht n c0 x lo h hc hv c1 c2 jB (.inl hx) c5 ((fg n _ y).e0 he);have q1:=wi ht n (az n c0 x).1 y (x.toNat+1) (h.ev ev) (ev.aa.trans hc) (hv.ev ev) d1 d2 jB (.inl hy) d5 he;rw[d4];exact r1.seq jB jB q1
def Fx{c:Ck}(h:bE c)(hc:c.aa=t)(hv:dt c)(h1:a<t.nodes.length)(h0:0<=a)(Ta:lo<=a.toNat)(he:(c.named a).1.e=0)(r:fL t lo a.toNat (c.named a).1 c'):fL t lo (a.toNat+1) c c':=by
 have Uq:a.toNat<c.slots.length:=by rw[h.slots,hc];omega
 obtain⟨g1,g2⟩:=Bv hv rfl Uq he;have hz:=(nE c a).size;have hrz:=r.size;refine⟨fun k hk=>(r.sw k jB).trans (g1 k jB),fun k h1 h2 h3=>?_,jB⟩;by_cases Zi:k<a.toNat
 ·exact r.all k h1 Zi h3
 ·have:k=a.toNat:=jB;subst this;rw[r.sw _ (.inr jB)];omega
theorem Ft{t:aG}(ht:aQ t):∀n,Es t n
 |0=>fun c a lo h hc hv e0 h0 h1 hn=>by omega
 |n+1=>fun c a lo h hc hv e0 h0 h1 hn hr Tb he=>by
  have hs:=Ft ht n;have p':(c.ai a).node a=nth t.nodes a.toNat:=by unfold Ck.node;show nth c.aa.nodes _=_;rw[hc]
  have sh:=(ht.shape a.toNat jB).1;have kd:∀i,(c.ai a).aE a i=nth (nth t.nodes a.toNat).l i:=fun i=>by unfold Ck.aE;rw[p']
  have ev:=qL c a;have h':=h.ev ev;have Uw:=ev.aa.trans hc;have TO:=hv.ev ev;have Ta:=Tb.le;have kr:∀{hi:Nat} {c':Ck},fL t lo hi (c.ai a) c'->fL t lo hi c c':=fun r=>fL.pre (a:=c) (b:=c.ai a) rfl rfl r
  have Te:∀{q:Prop},¬((nth t.nodes a.toNat).kind=10\/(nth t.nodes a.toNat).kind=11\/(nth t.nodes a.toNat).kind=12)->jL (nth t.nodes a.toNat).kind->q:=fun h1 h2=>by unfold jL at h2;have:fu (nth t.nodes a.toNat).kind:=hr;unfold fu at this;omega
  have YQ:(nth t.nodes a.toNat).kind=10\/(nth t.nodes a.toNat).kind=11\/(nth t.nodes a.toNat).kind=12\/(nth t.nodes a.toNat).kind=13\/(nth t.nodes a.toNat).kind=14\/(nth t.nodes a.toNat).kind=17\/(nth t.nodes a.toNat).kind=15\/(nth t.nodes a.toNat).kind=16:=by have:fu (nth t.nodes a.toNat).kind:=hr;unfold fu at this;omega
  rcases YQ with k|k|k|k|k|k|k
  ·have e:bP (n+1) c a=oW (az n) (c.ai a) a:=by unfold bP;simp only;rw[p',k];rfl
   obtain⟨x,hl,WS⟩:=sh.right jB;have Tt:(c.ai a).aE a 0=x:=by rw[kd,hl];rfl
   rw[e]at he ⊢;rw[uq]at he ⊢;have he:(ee (az n) (c.ai a) a).e=0:=he;have Vk:=yZ (fg n) (c.ai a) a;have Uy:=h'.ev Vk;have XP:=TO.ev Vk;obtain⟨_,q1⟩:=xp jC he;have q1:ee (az n) (c.ai a) a=jr (az n) (c.ai a) a:=q1;rw[q1]at he;obtain⟨_,q2⟩:=xp jC he;have q2:jr (az n) (c.ai a) a=iF (az n) (c.ai a) a:=q2;rw[q2]at he;unfold iF at he;rw[Tt]at he;obtain⟨b1,b2⟩:=jn he;have r1:=(wY ht h' Uw TO jB hl WS Tb b2);have VX:(ee (az n) (c.ai a) a).slots=(az n (c.ai a) x).1.slots:=by rw[q1,q2];unfold iF;rw[Tt];exact(vG _ _ _).1
   have Ti:(ee (az n) (c.ai a) a).size=(az n (c.ai a) x).1.size:=by rw[q1,q2];unfold iF;rw[Tt];exact(vG _ _ _).2
   have r2:=kr (r1.post VX Ti);have Uq:a.toNat<(ee (az n) (c.ai a) a).slots.length:=by rw[Uy.slots,Vk.aa,Uw];omega
   have h0z:=XP.1;have WG:∀i,nth ((ee (az n) (c.ai a) a).slots.set a.toNat (ee (az n) (c.ai a) a).size) i=if a.toNat=i/\i<(ee (az n) (c.ai a) a).slots.length then(ee (az n) (c.ai a) a).size else nth (ee (az n) (c.ai a) a).slots i:=fun i=>xk _ _ _ _
   refine⟨⟨fun i hi=>?_,fun i h1 h2 h3=>?_,?_⟩,?_,fun v Xk=>?_⟩
   ·show nth ((ee (az n) (c.ai a) a).slots.set a.toNat _) i=_;rw[WG,jN];exact r2.sw i jB
   ·show 0<=nth ((ee (az n) (c.ai a) a).slots.set a.toNat _) i/\nth ((ee (az n) (c.ai a) a).slots.set a.toNat _) i<(ee (az n) (c.ai a) a).size+1;rw[WG];by_cases hia:i<a.toNat
    ·rw[jN];have:=r2.all i h1 hia h3;omega
    ·rw[if_pos ⟨jB,jB⟩];omega
   ·show _<=(ee (az n) (c.ai a) a).size+1;have:=r2.size;omega
   ·show 0<=(ee (az n) (c.ai a) a).size+1;omega
   ·show 0<=v.slot/\v.slot<(ee (az n) (c.ai a) a).size+1;have Xk:v∈(ee (az n) (c.ai a) a).vars++[(⟨((c.ai a).node a).name,(az n (c.ai a) ((c.ai a).aE a 0)).2,(ee (az n) (c.ai a) a).size⟩:bD)]:=Xk;rcases List.mem_append.1 Xk with hm|hm
    ·have:=XP.2 v hm;omega
    ·rw[List.mem_singleton.1 hm];show 0<=(ee (az n) (c.ai a) a).size/\(ee (az n) (c.ai a) a).size<_;omega
  ·have e:bP (n+1) c a=(az n ((c.ai a).named a).1 ((c.ai a).aE a 0)).1.ao (decide (((c.ai a).named a).2=(az n ((c.ai a).named a).1 ((c.ai a).aE a 0)).2)) a:=by unfold bP;simp only;rw[p',k];rfl
   obtain⟨x,hl,WS⟩:=sh.right jB;have Tt:(c.ai a).aE a 0=x:=by rw[kd,hl];rfl
   rw[e]at he ⊢;rw[Tt]at he ⊢;obtain⟨b1,b2⟩:=jn he;have en:=nE (c.ai a) a;have r1:=wY ht (h'.ev en) (en.aa.trans Uw) (TO.ev en) jB hl WS Tb b2;exact⟨kr ((Fx h' Uw TO h1 h0 Ta ((fg n _ x).e0 b2) r1).ao),(TO.ev en).ev ((fg n _ _).trans (kv _ _ _))⟩
  ·have e:bP (n+1) c a=(az n (az n ((c.ai a).named a).1 ((c.ai a).aE a 0)).1 ((c.ai a).aE a 1)).1.ao (decide (((c.ai a).named a).2=4) && decide ((az n ((c.ai a).named a).1 ((c.ai a).aE a 0)).2=1) && decide ((az n (az n ((c.ai a).named a).1 ((c.ai a).aE a 0)).1 ((c.ai a).aE a 1)).2=1)) a:=by unfold bP;simp only;rw[p',k];rfl
   obtain⟨x,y,hl,TR,Wx⟩:=sh.two jB;have Tt:(c.ai a).aE a 0=x:=by rw[kd,hl];rfl
   have TQ:(c.ai a).aE a 1=y:=by rw[kd,hl];rfl
   rw[e]at he ⊢;rw[Tt,TQ]at he ⊢;obtain⟨b1,b2⟩:=jn he;have en:=nE (c.ai a) a;have r1:=Oz ht (h'.ev en) (en.aa.trans Uw) (TO.ev en) jB hl TR Wx Tb b2;exact⟨kr ((Fx h' Uw TO h1 h0 Ta ((fg n _ x).e0 ((fg n _ y).e0 b2)) r1).ao),(TO.ev en).ev (((fg n _ _).trans (fg n _ _)).trans (kv _ _ _))⟩
  ·have e:bP (n+1) c a=(az n (c.ai a) ((c.ai a).aE a 0)).1:=by unfold bP;simp only;rw[p',k];rfl
   obtain⟨x,hl,hxk⟩:=sh.sX k;have Tt:(c.ai a).aE a 0=x:=by rw[kd,hl];rfl
   rw[e]at he ⊢;rw[Tt]at he ⊢;have r1:=wY ht h' Uw TO jB hl (by rw[hxk];unfold fm;omega) Tb he;exact⟨(kr r1).node (Te jB),TO.ev (fg n _ _)⟩
  ·have e:bP (n+1) c a=(az n (c.ai a) ((c.ai a).aE a 0)).1.ao (!decide ((az n (c.ai a) ((c.ai a).aE a 0)).2=4)) a:=by unfold bP;simp only;rw[p',k];rfl
   obtain⟨x,hl,TR⟩:=sh.one jB;have Tt:(c.ai a).aE a 0=x:=by rw[kd,hl];rfl
   rw[e]at he ⊢;rw[Tt]at he ⊢;obtain⟨b1,b2⟩:=jn he;have r1:=wY ht h' Uw TO jB hl (.inl TR) Tb b2;exact⟨((kr r1).ao).node (Te jB),TO.ev ((fg n _ _).trans (kv _ _ _))⟩
  ·have e:bP (n+1) c a=kH (az n) (c.ai a) a:=by unfold bP;simp only;rw[p',k];rfl
   rw[e]at he ⊢;unfold kH at he ⊢;rw[p']at he ⊢;simp only at he ⊢;split at he
   ·exact(pS jC he).elim
   rename_i hf;rw[if_neg hf];rcases sh.ret k with hl|⟨x,hl,TR⟩
   ·rw[hl];rw[if_neg jC];rw[hl]at Tb;have:lo=a.toNat:=by cases Tb;rfl
    subst this;exact⟨(kr (fL.refl t a.toNat (c.ai a))).node (Te jB),TO⟩
   ·have Tt:(c.ai a).aE a 0=x:=by rw[kd,hl];rfl
    have U8:(nth t.nodes a.toNat).l.length=1:=by rw[hl];rfl
    rw[if_pos U8]at he ⊢;rw[Tt]at he ⊢;obtain⟨b1,b2⟩:=jn he;have r1:=wY ht h' Uw TO jB hl (.inl TR) Tb b2;exact⟨((kr r1).ao).node (Te jB),TO.ev ((fg n _ _).trans (kv _ _ _))⟩
  ·have e:bP (n+1) c a=dK (fi (bP n)) ((az n (c.ai a) ((c.ai a).aE a 0)).1.ao (decide ((az n (c.ai a) ((c.ai a).aE a 0)).2=2)) a) (((c.ai a).node a).l.drop 1):=by
    unfold bP;simp only;rw[p'];rcases k with k|k<;>rw[k]<;>rfl
   have Xu:∃x L,(nth t.nodes a.toNat).l=x::L/\cQ (bX t.nodes x)/\∀y∈L,bX t.nodes y=18:=by
    rcases k with k|k
    ·obtain⟨x,y,hx,hy,hl|⟨z,hl,hz⟩⟩:=sh.lC k
     ·exact⟨x,[y],hl,hx,fun u hu=>by rw[List.mem_singleton.1 hu];exact hy⟩
     ·exact⟨x,[y,z],hl,hx,fun u hu=>by
       rcases List.mem_cons.1 hu with rfl|hu
       ·exact hy
       ·rw[List.mem_singleton.1 hu];exact hz⟩
    ·obtain⟨x,y,hl,hx,hy⟩:=sh.dX k;exact⟨x,[y],hl,hx,fun u hu=>by rw[List.mem_singleton.1 hu];exact hy⟩
   obtain⟨x,L,hl,TR,hL⟩:=Xu;have Tt:(c.ai a).aE a 0=x:=by rw[kd,hl];rfl
   rw[e]at he ⊢;rw[p',hl,Tt]at he ⊢;have he:(dK (fi (bP n)) ((az n (c.ai a) x).1.ao (decide ((az n (c.ai a) x).2=2)) a) L).e=0:=he;show fL t lo (a.toNat+1) c (dK (fi (bP n)) ((az n (c.ai a) x).1.ao (decide ((az n (c.ai a) x).2=2)) a) L)/\dt (dK (fi (bP n)) ((az n (c.ai a) x).1.ao (decide ((az n (c.ai a) x).2=2)) a) L);have ex:=(fg n (c.ai a) x).trans (kv _ (decide ((az n (c.ai a) x).2=2)) a);have Uy:=h'.ev ex;have ZK:∀(q:Ck) b,bE q->q.e=0->Sv q (fi (bP n) q b):=fun q b hq _=>(qf (oC n) hq b).1
   have e1:=(q5 ZK L _ Uy).e0 he;obtain⟨b1,b2⟩:=jn e1;rw[hl]at Tb;obtain⟨c1,c2,c3,c4,c5,c6⟩:=kD Tb;have r1:=wi ht n (c.ai a) x lo h' Uw TO c1 c2 jB (.inl TR) c5 b2;obtain⟨r2,v2⟩:=B2 ZK (C:=fun k=>k=18) (n:=n) (fun q b l g1 g2 g3 _ g5 g6 g7 g8 g9 g10=>HR ht hs q b l g1 g2 g3 g5 g6 jB g8 g9 g10) L _ (x.toNat+1) a.toNat Uy (ex.aa.trans Uw) (TO.ev ex) jB hL c6 he;exact⟨((kr r1.ao).seq jB jB r2).node (Te jB),v2⟩
theorem IX(body:Int):∀(ps:List bK) (c:Ck) (i:Int),dt c->c.size=i->dt (fw body c ps i)/\(fw body c ps i).slots=c.slots/\(fw body c ps i).size=i+ps.length
 |[],c,i,h,hi=>by unfold fw;exact⟨h,rfl,by simp;exact hi⟩
 |p::ps,c,i,h,hi=>by
  have fin:∀c1:Ck,Ev c c1->c1.slots=c.slots->dt (fw body (mK c1 ⟨p.name,p.ty,i⟩) ps (i+1))/\(fw body (mK c1 ⟨p.name,p.ty,i⟩) ps (i+1)).slots=c.slots/\(fw body (mK c1 ⟨p.name,p.ty,i⟩) ps (i+1)).size=i+(p::ps).length:=fun c1 s e=>by
   have hz:=s.size;have h1:=h.ev s;have h0:=h.1;obtain⟨a,b,d⟩:=IX body ps (mK c1 ⟨p.name,p.ty,i⟩) (i+1) ⟨by show 0<=c1.size+1;omega,fun v hv=>by
    have hv:v∈c1.vars++[(⟨p.name,p.ty,i⟩:bD)]:=hv;show 0<=v.slot/\v.slot<c1.size+1;rcases List.mem_append.1 hv with hv|hv
    ·have:=h1.2 v hv;omega
    ·rw[List.mem_singleton.1 hv];show 0<=i/\i<_;omega⟩ (by show c1.size+1=i+1;omega)
   exact⟨a,b.trans e,by rw[d,List.length_cons];omega⟩
  unfold fw;simp only;split
  ·exact fin _ (nD c jC body) (EF _ _ _).1
  ·exact fin _ (.refl c) rfl
structure rW(t:aG)(sl:List Int)(k lo:Nat)(z:Int):Prop where
 vV:((nth t.av k).params.length:Int)<=z
 hi:z<=24
 all:∀i,lo<=i->i<(nth t.av k).body.toNat+1->jL (nth t.nodes i).kind->0<=nth sl i/\nth sl i<z
 chain:aK t.nodes lo (nth t.nodes (nth t.av k).body.toNat).l (nth t.av k).body.toNat
def rW.aU{sl sl':TD}{k:Nat}{z:Int}(h:rW t sl k lo z)(e:∀i,i<(nth t.av k).body.toNat+1->nth sl' i=nth sl i):rW t sl' k lo z:=⟨h.vV,h.hi,fun i h1 h2 h3=>by rw[e i h2];exact h.all i h1 h2 h3,h.chain⟩
def MQ(ht:aQ t){c:Ck}(h:gr c)(hc:c.aa=t){k:Nat}(hk:k<t.av.length)(Ti:c.aO.length<6)(Tb:aK t.nodes lo (nth t.nodes (nth t.av k).body.toNat).l (nth t.av k).body.toNat)(he:(gH c k).e=0) :
  (∀i,(i<lo\/(nth t.av k).body.toNat+1<=i)->nth (gH c k).slots i=nth c.slots i)/\rW t (gH c k).slots k lo (gH c k).size/\(gH c k).aO=c.aO++[(gH c k).size]:=by
 have Tv:k<c.aa.av.length:=by rw[hc];exact hk
 have Y9:=h.aa.fn _ (fh Tv);have VD:bE { c with fn:=(k:Int),vars:=[],more:=[],size:=0 }:=⟨h.aa,h.types,h.slots,h.av,by show c.aO.length<=6;omega,by show(0:Int)<=k;omega,by show(k:Int)<(c.aa.av.length:Int);omega,by show((0:Nat):Int)<=0;omega,by show(0:Int)<=25;omega,fun _=>by show(0:Int)<=24;omega⟩;obtain⟨a,b,d⟩:=yh (nth c.aa.av k).body (nth c.aa.av k).params _ 0 VD (by show(0:Int)+_<=20;omega);obtain⟨a',b',d'⟩:=IX (nth c.aa.av k).body (nth c.aa.av k).params { c with fn:=(k:Int),vars:=[],more:=[],size:=0 } 0 ⟨by show(0:Int)<=0;omega,fun v hv=>by simp at hv⟩ rfl;have UI:=oV ht hk;have Wl:=ht.body _ (fh hk);unfold gH at he ⊢;simp only at he ⊢;rw[hc]at he ⊢;rw[hc]at a b d a' b' d';split at he
 ·rename_i e1;rw[if_pos e1];have sv:=(qf (oC t.nodes.length) a (nth t.av k).body).1;obtain⟨r,_⟩:=HR ht (Ft ht t.nodes.length) _ (nth t.av k).body lo a (b.trans (by rfl)) a' UI.1 UI.2 (by have:=UI.2;have:=UI.1;omega) Wl Tb he;have q:=fL.size r;have Ut:=sv.inv.room he;refine⟨fun i hi=>(r.sw i hi).trans (by rw[b']),⟨?_,Ut,r.all,Tb⟩,?_⟩
  ·show _<=(fi _ _ _).size;rw[d']at q;omega
  ·show(fi _ _ _).aO++[_]=_;rw[sv.aO,d]
 ·rename_i e1;exact(e1 he).elim
def kS(t:aG)(k:Nat):Nat:=if k=0 then 0 else(nth t.av (k-1)).body.toNat+1
theorem DW{t:aG}(ht:aQ t):∀(n i lo:Nat) (c:Ck),gr c->c.aa=t->c.aO.length=i->i+n=t.av.length->lo=kS t i->aK t.nodes lo ((t.av.drop i).map (·.body)) t.nodes.length->(∀j,j<i->rW t c.slots j (kS t j) (nth c.aO j)/\(nth t.av j).body.toNat<lo)->(gv c i n).e=0->
  ∀j,j<t.av.length->rW t (gv c i n).slots j (kS t j) (nth (gv c i n).aO j)
 |0,i,lo,c,h,hc,hs,hi,Ta,Tb,hA,he=>by unfold gv;exact fun j hj=>(hA j jB).1
 |n+1,i,lo,c,h,hc,hs,hi,Ta,Tb,hA,he=>by
  have h6:=ht.av;unfold gv at he ⊢;by_cases e0:c.e=0
  ·rw[if_pos e0]at he ⊢;have hk:i<t.av.length:=jB;rw[kQ hk]at Tb;obtain⟨c1,c2,c3,c4,c5,c6⟩:=kD (a:=(nth t.av i).body) Tb;obtain⟨f1,f2,f3⟩:=BA h (by rw[hc];exact hk) (by omega:c.aO.length<6);have e1:(gH c i).e=0:=by
    cases n with
    |zero=>unfold gv at he;exact he
    |succ m=>
     unfold gv at he;split at he
     ·assumption
     ·exact he
   obtain⟨r1,r2,r3⟩:=MQ ht h hc hk jB c5 e1;refine DW ht n (i+1) ((nth t.av i).body.toNat+1) (gH c i) f1 (f2.trans hc) jB jB (by unfold kS;rw[jN];rfl) c6 (fun j hj=>?_) he;by_cases Vd:j<i
   ·obtain⟨g1,g2⟩:=hA j Vd;have hz:nth (gH c i).aO j=nth c.aO j:=by rw[r3,pJ jB]
    rw[hz];exact⟨g1.aU fun q hq=>r1 q (.inl jB),jB⟩
   ·have:j=i:=jB;subst this;have hz:nth (gH c j).aO j=(gH c j).size:=by rw[r3,<-hs];exact qh _ _
    rw[hz,<-Ta];exact⟨r2,jB⟩
  ·rw[if_neg e0]at he;exact(e0 he).elim
theorem EW{x:bh}:∀(l:List bh) (c:Ck),(kM x c l).e=0->c.e=0/\∀f∈l,f.name≠x.name
 |[],c,h=>⟨by unfold kM at h;exact h,fun f hf=>by simp at hf⟩
 |f::l,c,h=>by
  unfold kM at h;obtain⟨h1,h2⟩:=EW l _ h;obtain⟨h3,h4⟩:=xp jC h1;rw[h4]at h1;exact⟨h1,fun g hg=>by
   rcases List.mem_cons.1 hg with rfl|hg
   ·exact h3
   ·exact h2 g hg⟩
theorem EB(av:List bh):∀(n i:Nat) (c:Ck) (m:Bool),i+n=av.length->(jZ av c m i n).1.e=0->c.e=0/\(∀j,i<=j->j<av.length->∀f∈av.take j,f.name≠(nth av j).name)/\((jZ av c m i n).2=true->m=true\/∃j,j<av.length/\uR (nth av j)=true)
 |0,i,c,m,hi,h=>by unfold jZ at h ⊢;exact⟨h,fun j h1 h2=>jB,fun h=>.inl h⟩
 |n+1,i,c,m,hi,h=>by
  unfold jZ at h ⊢;obtain⟨h1,h2,h3⟩:=EB av n (i+1) _ _ jB h;obtain⟨h4,h5⟩:=EW _ _ h1;refine⟨h4,fun j g1 g2=>?_,fun hm=>?_⟩
  ·by_cases e:j=i
   ·subst e;exact h5
   ·exact h2 j jB g2
  ·rcases h3 hm with h|h
   ·rcases Bool.or_eq_true _ _ |>.mp h with h|h
    ·exact .inl h
    ·exact .inr ⟨i,jB,h⟩
   ·exact .inr h
structure BV(t:aG):Prop where
 one:∀i j,i<j->j<t.av.length->(nth t.av i).name≠(nth t.av j).name
 main:∃j,j<t.av.length/\uR (nth t.av j)=true
def RC{c:Ck}(h:(iW c).e=0):c.e=0/\BV c.aa:=by
 unfold iW at h;simp only at h;split at h
 ·rename_i hm;obtain⟨h1,h2,h3⟩:=EB c.aa.av c.aa.av.length 0 c false jB h;refine⟨h1,⟨fun i j hi hj=>h2 j jB hj _ ?_,?_⟩⟩
  ·rw[fJ jB];exact List.mem_take_iff_getElem.2 ⟨i,jB,rfl⟩
  ·rcases h3 hm with h|h
   ·cases h
   ·exact h
 ·exact(pS jC h).elim
theorem FQ(f:bh->TF)(nm:TF):∀(l:List bh) (i k:Int),(∀a b,a<b->b<l.length->f (nth l a)≠f (nth l b))->(∃v∈l,f v=nm)->js f nm l i k=ja f nm l i
 |[],i,k,h,hx=>by obtain⟨v,hv,_⟩:=hx;simp at hv
 |v::l,i,k,h,hx=>by
  unfold js ja;have hl:∀a b,a<b->b<l.length->f (nth l a)≠f (nth l b):=fun a b h1 h2=>h (a+1) (b+1) jB (by rw[List.length_cons];omega)
  by_cases hv:f v=nm
  ·rw[if_pos hv,if_pos hv];have hn:∀u∈l,f u≠nm:=fun u hu hh=>by
    obtain⟨q,hq,rfl⟩:=List.mem_iff_getElem.1 hu;exact h 0 (q+1) jB (by rw[List.length_cons];omega) (by rw[show nth (v::l) 0=v from rfl,show nth (v::l) (q+1)=l[q] from by rw[fJ (by rw[List.length_cons];omega)];rfl,hv,hh])
   have:∀(l:List bh) (i k:Int),(∀u∈l,f u≠nm)->js f nm l i k=k:=fun l=>by
    induction l with
    |nil=>intro i k _;rfl
    |cons u l ih=> intro i k hu;unfold js;rw[if_neg (hu u jE),ih (i+1) k fun w hw=>hu w (by simp[hw])]
   exact this l _ _ hn
  ·rw[if_neg hv,if_neg hv];exact FQ f nm l (i+1) k hl (by
    obtain⟨u,hu,hh⟩:=hx;rcases List.mem_cons.1 hu with rfl|hu
    ·exact(hv hh).elim
    ·exact⟨u,hu,hh⟩)
structure gk(p:af):Prop where
 ok:py p
 av:∀j,j<p.aa.av.length->rW p.aa p.slots j (kS p.aa j) (nth p.size j)
 names:BV p.aa
def LN(ht:aQ t)(he:(ir t).2.2=0):gk (ir t).1:=by
 have hp:=(zS ht he).1;unfold ir at he hp ⊢;split at he
 ·rename_i h;exact(h he).elim
 rename_i h;rw[if_neg h]at hp ⊢;have h:(iV t).e=0:=jB;obtain⟨i1,i2,i3⟩:=DZ ht;have q:=DW ht t.av.length 0 0 (iW (jw t)) i1 i2 (by rw[i3];rfl) jB rfl (by rw[List.drop_zero];exact ht.chain) (fun j hj=>jB) h;obtain⟨_,q1,_⟩:=AG ht t.av.length 0 0 (iW (jw t)) i1 i2 (by rw[i3];rfl) jB (by rw[List.drop_zero];exact ht.chain) h;have he:(iV t).aa=t:=q1;have h0:(iW (jw t)).e=0:=by
  have UG:=h;unfold iV at UG;cases hn:t.av.length with
  |zero=>rw[hn]at UG;unfold gv at UG;exact UG
  |succ m=>
   rw[hn]at UG;unfold gv at UG;split at UG
   ·assumption
   ·exact UG
 refine⟨hp,?_,?_⟩
 ·show∀j,j<(iV t).aa.av.length->rW (iV t).aa (iV t).slots j (kS (iV t).aa j) (nth (iV t).aO j);rw[he];exact q
 ·show BV (iV t).aa;rw[he];exact(RC h0).2
def y0{s:TF}(he:(fY s).2.2=0):gk (fY s).1:=by
 unfold fY at he ⊢;split at he
 ·rename_i h;exact(h he).elim
 rename_i h;rw[if_neg h];have h:(gP s).2.2=0:=jB;simp only at he ⊢;split at he
 ·cases he
 rename_i h2;split at he
 ·rename_i h3;exact(h3 he).elim
 rename_i h3;rw[if_neg h2,if_neg h3];exact LN (uY h) jB
def CW{t:List br}(h:aK t lo L hi):lo+L.length<=hi:=by
 induction h with
 |nil=>simp
 |@cons lo c hi L hc h1 h2 i1 i2=> have:=h1.le;simp only[List.length_cons];omega
def OM{l:List α}{i:Nat}{x y:α}(h:x∈l.set i y):x=y\/x∈l:=by
 rcases List.mem_or_eq_of_mem_set h with h|h
 ·exact .inr h
 ·exact .inl h
theorem Ag{α:Type}[Inhabited α](f:α->TF)(nm:TF):∀(l:List α) (i:Int),(∃v∈l,f v=nm)->i<=ja f nm l i/\ja f nm l i<i+l.length/\f (nth l (ja f nm l i-i).toNat)=nm
 |[],_,h=>by obtain⟨v,hv,_⟩:=h;simp at hv
 |v::l,i,h=>by
  unfold ja;by_cases hv:f v=nm
  ·rw[if_pos hv];refine⟨Int.le_refl _,by simp;omega,?_⟩;rw[show(i-i).toNat=0 from jB];exact hv
  ·rw[if_neg hv];obtain⟨u,hu,hh⟩:=h;have hu:u∈l:=by
    rcases List.mem_cons.1 hu with rfl|hu
    ·exact(hv hh).elim
    ·exact hu
   obtain⟨a,b,c⟩:=Ag f nm l (i+1) ⟨u,hu,hh⟩;refine⟨jB,by simp;omega,?_⟩;rw[show(ja f nm l (i+1)-i).toNat=(ja f nm l (i+1)-(i+1)).toNat+1 from jB];exact c
theorem Hf{α:Type}(f:α->TF)(nm:TF):∀(l:List α) (i k:Int),js f nm l i k≠k->∃v∈l,f v=nm
 |[],_,_,h=>(h rfl).elim
 |v::l,i,k,h=>by
  unfold js at h;by_cases hv:f v=nm
  ·exact⟨v,jE,hv⟩
  ·rw[if_neg hv]at h;obtain⟨u,hu,hh⟩:=Hf f nm l _ _ h;exact⟨u,by simp[hu],hh⟩
structure Callee(p:af)(a:Int)(k:Nat):Prop where
 lt:k<p.aa.av.length
 at_:ja bh.name (ak p a).name p.aa.av 0=k
 last:js bh.name (ak p a).name p.aa.av 0 (-1)=k
 name:(nth p.aa.av k).name=(ak p a).name
 args:(ak p a).l.length=(nth p.aa.av k).params.length
 AK:(ak p a).l.length<=3
variable{p:af}
def callee(h:gk p)(h0:a.toNat<p.aa.nodes.length)(hk:(ak p a).kind=21):∃k,Callee p a k:=by
 obtain⟨h1,h2⟩:=(h.ok.ty a.toNat jB h0).call hk;have hx:=Hf bh.name (ak p a).name p.aa.av 0 (-1) (by show js bh.name (nth p.aa.nodes a.toNat).name p.aa.av 0 (-1)≠-1;omega);have e:=FQ bh.name (ak p a).name p.aa.av 0 (-1) (fun a b=>h.names.one a b) hx;obtain⟨f1,f2,f3⟩:=Ag bh.name (ak p a).name p.aa.av 0 hx;refine⟨(ja bh.name (ak p a).name p.aa.av 0).toNat,jB,jB,jB,?_,?_,?_⟩
 ·rwa [Int.sub_zero]at f3
 ·unfold ak at e ⊢;rw[<-e];exact h2
 ·have hm:=(h.ok.aa.fn _ (fh (l:=p.aa.av) (k:=(ja bh.name (ak p a).name p.aa.av 0).toNat) jB)).2;unfold ak at e hm ⊢;rw[<-e]at hm;rw[h2];exact hm
def AN(l:TD):lD 0 l=l.length:=by simp[lD]
theorem mR:∀(h:TC) (n:Int),h.foldl lD n=n+h.foldl lD (0:Int)
 |[],n=>by simp[List.foldl]
 |x::h,n=>by simp only[List.foldl_cons];rw[mR h (lD n x),mR h (lD 0 x)];unfold lD;omega
def C8(h:TC)(x:TD):gi (h++[x])=gi h+x.length+1:=by unfold gi;rw[List.foldl_append,List.foldl_cons,List.foldl_nil,List.length_append,mR h _,mR h (h.length:Int)];unfold lD;simp;omega
theorem A5:∀(h:TC),0<=h.foldl lD (0:Int)
 |[]=>by simp
 |x::h=>by simp only[List.foldl_cons];rw[mR,AN];have:=A5 h;omega
def Ls(h:TC):(h.length:Int)<=gi h:=by unfold gi;rw[mR];have:=A5 h;omega
theorem Hc:∀(h:TC) (i:Nat) (x:TD),i<h.length->x.length=(nth h i).length->(h.set i x).foldl lD (0:Int)=h.foldl lD 0
 |[],i,x,hi,_=>by simp at hi
 |y::h,0,x,_,e=>by have e:x.length=y.length:=e;simp only[List.set_cons_zero,List.foldl_cons,lD,e]
 |y::h,i+1,x,hi,e=>by simp only[List.set_cons_succ,List.foldl_cons];rw[mR (h.set i x) (lD 0 y),mR h (lD 0 y),Hc h i x (by simpa using hi) e]
def Ig(h:TC)(i:Nat)(x:TD)(hi:i<h.length)(e:x.length=(nth h i).length):gi (h.set i x)=gi h:=by unfold gi;rw[List.length_set,mR (h.set i x) (h.length:Int),mR h (h.length:Int),Hc h i x hi e]
theorem Hl:∀(h:TC) (i:Nat),i<h.length->((nth h i).length:Int)<=h.foldl lD 0
 |[],i,hi=>by simp at hi
 |y::h,0,_=>by simp only[List.foldl_cons];rw[mR,AN];have:=A5 h;show(y.length:Int)<=_;omega
 |y::h,i+1,hi=>by simp only[List.foldl_cons];rw[mR,AN];have:=Hl h i (by simpa using hi);show((nth h i).length:Int)<=_;omega
def QX(h:TC)(i:Nat)(hi:i<h.length):((nth h i).length:Int)+h.length<=gi h:=by unfold gi;rw[mR];have:=Hl h i hi;omega
def gI[Inhabited α](l:List α)(n k:Nat)(h:k<n):nth (l.take n) k=nth l k:=by unfold nth;rw[List.getD_eq_getElem?_getD,List.getElem?_take,if_pos h,List.getD_eq_getElem?_getD]
def SD{v:aj}(hm:lU v=true):v.s.size<=40:=by
 unfold lU at hm;split at hm
 ·have:v.s=sE:=by simpa using hm
  rw[this];decide
 split at hm
 ·simp only[Bool.and_eq_true,decide_eq_true_eq]at hm;rw[hm.1];decide
 split at hm
 ·simp only[Bool.and_eq_true,decide_eq_true_eq]at hm;omega
 split at hm
 ·simp only[Bool.and_eq_true,decide_eq_true_eq]at hm;rw[hm.1];decide
 ·cases hm
def wE(n:Int):cn (IntKind.i64.wrap n):=by unfold cn;rw[IntKind.wrap_i64];omega
def qZ:cn 0:=by unfold cn;omega
def Da(b:Bool):cn (vB b).n:=by cases b<;>(show cn _;unfold vB cn;simp)
def PE{b:Int}(h:cn a):cn (a.tmod b):=by
 unfold cn at*;by_cases h0:0<=a
 ·have h1:0<=a.tmod b:=Int.tmod_nonneg b h0;have h2:a.tmod b<=a:=by
   have:=Int.mul_tdiv_add_tmod a b;by_cases hb:b=0
   ·subst hb;simp
   ·have hn:=Int.natAbs_tmod a b;have:(a.tmod b).natAbs<=a.natAbs:=by rw[hn];exact Nat.mod_le _ _
    omega
  omega
 ·have hn:=Int.natAbs_tmod a b;have:(a.tmod b).natAbs<=a.natAbs:=by rw[hn];exact Nat.mod_le _ _
  have h3:a.tmod b<=0:=by have:=Int.tmod_nonneg b (a:=-a) jB;rw[Int.neg_tmod]at this;omega
  omega
def OQ(s:TF)(a:aj):cn (mL s a).n:=by
 unfold mL
 (repeat' split)<;>first|exact wE _|exact qZ|exact Da _
def rK(l:List aj):Prop:=∀v∈l,cn v.n
def tx(h:TC):Prop:=∀l∈h,∀x∈l,cn x
def Pj(p:af):Prop:=∀k,k<p.aa.nodes.length->(nth p.aa.nodes k).kind=1->cn (nth p.aa.nodes k).n
theorem py.cn{p:af}(h:py p):Pj p:=fun k hk h1=>by
 obtain⟨s,hs,e⟩:=(h.aa.shape k hk).1.num h1;have Ts:=Ix hs;have XW:pq s=(km s.data.toList 0:Nat):=by unfold pq;rw[AH s hs.2.2 _ jl,List.take_of_length_le jE]
 rw[e,XW];unfold Go.Gd.cn;omega
def PD{l:List aj}(h:rK l)(k t:Int):cn (eR l k t).n:=by
 unfold eR
 (repeat' split)<;>first|exact qZ|exact h _ (fh jB)
def Hb[Inhabited α](l:List α)(k:Nat):nth l k∈l\/nth l k=default:=by
 by_cases h:k<l.length
 ·exact .inl (fh h)
 ·right;unfold nth;rw[List.getD_eq_getElem?_getD,List.getElem?_eq_none jB];rfl
def FX{l:List aj}(h:rK l)(k:Nat){v:aj}(hv:cn v.n):rK (l.set k v):=fun x hx=>by
 rcases OM hx with rfl|hx
 ·exact hv
 ·exact h x hx
def AE(hs:gk p):∃m:Nat,m<p.aa.av.length/\gQ p=(m:Int)/\(nth p.aa.av m).name=(⟨#[109,97,105,110]⟩:TF)/\(nth p.aa.av m).params.length=0:=by
 obtain⟨j,hj,Xv⟩:=hs.names.main;unfold uR at Xv;simp only[Bool.and_eq_true,decide_eq_true_eq]at Xv;obtain⟨⟨g1,g2⟩,_⟩:=Xv;obtain⟨f1,f2,f3⟩:=Ag bh.name (⟨#[109,97,105,110]⟩:TF) p.aa.av 0 ⟨_,fh hj,g1⟩;have e:(ja bh.name (⟨#[109,97,105,110]⟩:TF) p.aa.av 0-0).toNat=(gQ p).toNat:=by unfold gQ;simp
 rw[e]at f3;have Ta:0<=gQ p:=f1;have Wm:gQ p<0+p.aa.av.length:=f2;have hm:(gQ p).toNat<p.aa.av.length:=jB;have hjm:j=(gQ p).toNat:=by
  rcases Nat.lt_trichotomy j (gQ p).toNat with h|h|h
  ·exact(hs.names.one _ _ h hm (by rw[g1,f3])).elim
  ·exact h
  ·exact(hs.names.one _ _ h hj (by rw[g1,f3])).elim
 exact⟨(gQ p).toNat,hm,jB,f3,by rw[<-hjm];omega⟩
structure mV(p:af)(fn:Int)(x:fW):Prop where
 b0:0<=x.block
 lo:kS p.aa fn.toNat<=x.block.toNat
 hi:x.block.toNat<=(nth p.aa.av fn.toNat).body.toNat
 kind:bX p.aa.nodes x.block=18
 a0:0<=x.at_
 a1:x.at_<=(wq p x.block).length
structure AW(p:af)(f:fD):Prop where
 f0:0<=f.fn
 f1:f.fn<p.aa.av.length
 sl:(f.slots.length:Int)=nth p.size f.fn.toNat
 pl:∀x∈f.path,mV p f.fn x
 dec:(f.path.map (·.block)).Pairwise fun a b=>b<a
def HM(p:af)(f:fD):Prop:=f.path≠[]/\f.pl.at_<(wq p f.pl.block).length
def mV.in_(h:gk p){fn:Int}(f0:0<=fn)(f1:fn<p.aa.av.length){x:fW}(hx:mV p fn x):x.block.toNat<p.aa.nodes.length:=by have:=oV h.ok.aa (k:=fn.toNat) jB;have h1:=this.1;have h2:=this.2;have h3:=hx.hi;omega
def mV.aE(h:gk p){fn:Int}(f0:0<=fn)(f1:fn<p.aa.av.length){x:fW}(hx:mV p fn x)(ha:a∈wq p x.block):0<=a/\a.toNat<x.block.toNat/\kS p.aa fn.toNat<=a.toNat/\fu (bX p.aa.nodes a):=by
 have hi:=hx.in_ h f0 f1;have sh:=h.ok.aa.shape x.block.toNat hi;have h1:=sh.2.1 a ha;refine⟨h1.1,h1.2,?_,sh.1.block hx.kind a ha⟩;have hc:=(h.av fn.toNat jB).chain;by_cases e:x.block.toNat<(nth p.aa.av fn.toNat).body.toNat
 ·exact hc.closed _ hx.lo e a ha
 ·have e:x.block.toNat=(nth p.aa.av fn.toNat).body.toNat:=by have:=hx.hi;omega
  have ha:a∈(nth p.aa.nodes x.block.toNat).l:=ha;rw[e]at ha;exact(hc.mem a ha).2.1
structure Cm(p:af)(R:RS):Prop where
 ok:R.Ok
 gm:R.gm.length<=8
 fr:∀k,k<R.nf->AW p (nth R.gm k)
 busy:∀k,k+1<R.nf->HM p (nth R.gm k)
 go:R.status≠2->1<=R.nf
end Go.Proofs.YtjpcgmjaipfgdaaGreatDoor
/- Lemmas. No conditions. -/
import Derived.Test.YtjpcgmjaipfgdaaGreatDoorCk8
set_option linter.all false
set_option maxHeartbeats 4000000
set_option maxRecDepth 10000
namespace Go.Gd
open Go
variable{α:Type}
def dx[Inhabited α](l:List α)(i k:Nat)(v:α)(h:i<l.length):nth (l.set i v) k=if k=i then v else nth l k:=by
 unfold nth;rw[List.getD_eq_getElem?_getD,List.getElem?_set,List.getD_eq_getElem?_getD];by_cases e:i=k
 ·subst e;simp[h]
 ·rw[if_neg e,if_neg (fun h=>e h.symm)]
theorem v7:∀(l m:TD) (i:Nat),aA (l++m) i=(aA l i).or (aA m i)
 |[],m,i=>by simp[aA]
 |(j,r)::l,m,i=>by
  show(if i=j then some r else aA (l++m) i)=((if i=j then some r else aA l i):Option Row).or _;split
  ·rfl
  ·exact v7 l m i
theorem lr:∀(l:TD) (i:Nat),i∈ids l<->aA l i≠none
 |[],i=>by simp[ids,aA]
 |(j,r)::l,i=>by
  have:=lr l i;simp only[ids,List.map_cons,List.mem_cons,aA]at this ⊢;by_cases e:i=j
  ·simp[e]
  ·rw[if_neg e];simp only[e,false_or];exact this
variable{l:TD}
def fW{i:Nat}{r:Row}(h:aA l i=some r):(ids l).contains i=true:=List.contains_iff_mem.2 ((lr l i).2 (by rw[h];simp))
theorem sx(q:TN):∀(l m:TE),aX q (l++m)=(aX q l && aX q m)
 |[],m=>by simp[aX]
 |a::l,m=>by simp only[List.cons_append,aX,sx q l m,Bool.and_assoc]
def ph{q:TN}{l:TC}(h:QL q l):aX q l.flatten=true:=by
 induction l with
 |nil=>rfl
 |cons x l ih=>rw[List.flatten_cons,sx,h x jE,ih fun y hy=>h y (by simp[hy])];rfl
theorem I1(D:TN):∀(l m:TD),fv D (l++m)=fv D l++fv D m
 |[],m=>rfl
 |(j,r)::l,m=>by show(bif D j then fv D (l++m)else(j,r)::fv D (l++m))=(bif D j then fv D l else(j,r)::fv D l)++_;rw[I1 D l m];cases D j<;>rfl
theorem EZ(D:TN):∀(l:TD),(∀i∈ids l,D i=false)->fv D l=l
 |[],_=>rfl
 |(j,r)::l,h=>by show(bif D j then fv D l else(j,r)::fv D l)=_;rw[h j (by simp[ids]),EZ D l fun i hi=>h i (by simp[ids]at hi ⊢;exact .inr hi)];rfl
theorem E1(D:TN):∀(l:TD),(∀i∈ids l,D i=true)->fv D l=[]
 |[],_=>rfl
 |(j,r)::l,h=>by show(bif D j then fv D l else(j,r)::fv D l)=_;rw[h j (by simp[ids]),E1 D l fun i hi=>h i (by simp[ids]at hi ⊢;exact .inr hi)];rfl
theorem HB(D:TN):∀(l m:TD),stay D l->stay D m->stay D (l++m)
 |[],m,_,h=>h
 |(j,r)::l,m,h,k=>⟨h.1,HB D l m h.2 k⟩
theorem FR(D:TN):∀(l:TD),(∀i∈ids l,D i=true)->stay D l
 |[],_=>trivial
 |(j,r)::l,h=>⟨.inl (h j (by simp[ids])),FR D l fun i hi=>h i (by simp[ids]at hi ⊢;exact .inr hi)⟩
theorem AX{q:TN}:∀{l:TC},aX q l.flatten=true->QL q l
 |[],_,x,hx=>by simp at hx
 |a::l,h,x,hx=>by
  rw[List.flatten_cons,uV,Bool.and_eq_true]at h;rcases List.mem_cons.1 hx with rfl|hx
  ·exact h.1
  ·exact AX h.2 x hx
def K0{q:TN}:∀{r:Row},aX q r.cells=true->wL q r
 |.var _ _,h=>h
 |.aG _ _ _,h=>AX h
 |.mp _ _,h=>h
theorem GJ(D:TN):∀(l:TD),(ids l).Nodup->(∀i r,aA l i=some r->aX (gV D) r.cells=true)->stay D l
 |[],_,_=>trivial
 |(j,r)::l,hn,h=>by
  have hn':=List.nodup_cons.1 hn;refine⟨.inr (K0 (h j r (by simp[aA]))),GJ D l hn'.2 fun i r' hi=>h i r' ?_⟩;have:i≠j:=fun e=>by subst e;exact hn'.1 ((lr l i).2 (by rw[hi];simp))
  simp only[aA,if_neg this];exact hi
def xd(p:af)(b:Int):TG:=(nth p.aa.nodes b.toNat).l
def gU(p:af):Int:=je bg.name (⟨#[109,97,105,110]⟩:TI) p.aa.aw 0
def lq(n:Int)(l:TG):Int:=n+l.length
def gi(h:TF):Int:=h.foldl lq (h.length:Int)
def au(p:af)(a:Int):br:=nth p.aa.nodes a.toNat
def CW(n:Int):TI:=⟨(Lib.itoa n).toArray⟩
def mN(v:aj):TI:=
 if v.ty=1 then CW v.n
 else if v.ty=2 then(if v.n=1 then(⟨#[116,114,117,101]⟩:TI)else(⟨#[102,97,108,115,101]⟩:TI))
 else if v.ty=3 then v.s
 else if v.ty=4 then(⟨#[108,105,115,116]⟩:TI)
 else sE
def cf(n:Int):Prop:=-9223372036854775808<=n/\n<=9223372036854775807
def PO[Inhabited α](l:List α)(i:Nat)(h:i<l.length):l.take (i+1)=l.take i++[nth l i]:=by rw[List.take_succ,List.getElem?_eq_getElem h,fP h];rfl
structure RS where
 gm:List fB
 nf:Nat
 jp:List (List fT)
 heap:List (List Int)
 in_:Int
 bA:List ByteArray
 status:Int
 cX:Int
 time:Int
namespace RS
structure Ok(R:RS):Prop where
 nf:R.nf<=R.gm.length
 jp:R.jp.length=R.gm.length
def fr(R:RS)(k:Nat):TE:=[.raw (.int .i64 (nth R.gm k).fn),.rs (gC 0 k) (nth R.gm k).slots.length 3 (nth R.gm k).slots.length,.rs (gC 1 k) ((nth R.gm k).path.length+(nth R.jp k).length) 2 (nth R.gm k).path.length]
def sl(R:RS)(k:Nat):Row:=.aG 54 3 ((nth R.gm k).slots.map bS)
def pt(R:RS)(k:Nat):Row:=.aG 393 2 (((nth R.gm k).path++nth R.jp k).map uB)
def hp(R:RS)(k:Nat):Row:=.aG 3 1 ((nth R.heap k).map eI)
def c(R:RS):TE:=[.rs 1 R.gm.length 3 R.nf,.rs 2 R.heap.length 1 R.heap.length,.raw (.int .i64 R.in_),.rs 3 R.bA.length 1 R.bA.length,.raw (.int .i64 R.status),.raw (.int .i64 R.cX),.raw (.int .i64 R.time)]
def e(t:TJ)(pre post:TE)(R:RS)(tl:TD):TD:=
 (0,.var t (pre++R.c++post))::(1,.aG 396 3 (wj R.gm.length R.fr))::(2,.aG 22 1 (wj R.heap.length fun k=>[.rs (gC 2 k) (nth R.heap k).length 1 (nth R.heap k).length]))::(3,.aG 9 1 (R.bA.map eS)) ::
  iN 0 R.gm.length R.sl (iN 1 R.gm.length R.pt (iN 2 R.heap.length R.hp tl))
end RS
attribute [go_sem] RS.fr RS.sl RS.pt RS.hp RS.c RS.e
def cW.pN{D:TN}{H:Hp}{dd:TE}{i sz m n:Nat}{e:TJ}{enc:α->TE}[he:bC enc sz](l more:List α)(hD:D i=true)(hi:H.get i=some (.aG e sz ((l++more).map enc)))(hm:m=l.length+more.length)(hn:n=l.length):cW D H (.rs i m sz n) (.sl false sz (l.map enc) dd):=
 .yU dd i sz m n e _ _ hD hi jF jB jF (fun ds Wt=>by obtain⟨x,_,rfl⟩:=List.mem_map.1 Wt;exact he.len x) (mY l) fun k j c d hk h1 h2=>by
  have T4:k<l.length:=jB;have e1:((l++more).map enc).getD k []=enc l[k]:=by rw[List.map_append,List.getD_eq_getElem?_getD,List.getElem?_append_left (by simpa using T4)];simp[T4]
  have e2:(l.map enc).getD k []=enc l[k]:=by simp[T4]
  rw[e1]at h1;rw[e2,h1]at h2;cases h2;exact .same c (qu (fun _ h=>by cases h) _ (lm (he.free _) h1))
variable{t:TJ}{R:RS}{tl:TD}
def RS.ui{pre post:TE}:aA (R.e t pre post tl) 0=some (.var t (pre++R.c++post)):=rfl
def RS.tH{pre post:TE}:aA (R.e t pre post tl) 1=some (.aG 396 3 (wj R.gm.length R.fr)):=rfl
def RS.tM{pre post:TE}:aA (R.e t pre post tl) 2=some (.aG 22 1 (wj R.heap.length fun k=>[.rs (gC 2 k) (nth R.heap k).length 1 (nth R.heap k).length])):=rfl
def RS.uw{pre post:TE}:aA (R.e t pre post tl) 3=some (.aG 9 1 (R.bA.map eS)):=rfl
def RS.pq{pre post:TE}(i:Nat)(h:1000<=i):aA (R.e t pre post tl) i=aA (iN 0 R.gm.length R.sl (iN 1 R.gm.length R.pt (iN 2 R.heap.length R.hp tl))) i:=by unfold RS.e;simp only[aA];rw[jN,jN,jN,jN]
def RS.py{pre post:TE}{k:Nat}(h:k<R.gm.length):aA (R.e t pre post tl) (gC 0 k)=some (R.sl k):=by rw[RS.pq _ (y6 _ _),tF _ _ _ _ _ jB h]
def RS.A5{pre post:TE}{k:Nat}(h:k<R.gm.length):aA (R.e t pre post tl) (gC 1 k)=some (R.pt k):=by rw[RS.pq _ (y6 _ _),rE _ _ _ _ _ _ jB jB jB,tF _ _ _ _ _ jB h]
def RS.BF{pre post:TE}{k:Nat}(h:k<R.heap.length):aA (R.e t pre post tl) (gC 2 k)=some (R.hp k):=by rw[RS.pq _ (y6 _ _),rE _ _ _ _ _ _ jB jB jB,rE _ _ _ _ _ _ jB jB jB,tF _ _ _ _ _ jB h]
theorem Ht(a:Nat)(f:TP)(l m:TD):∀(n k:Nat),ob a f k n (l++m)=ob a f k n l++m
 |0,k=>rfl
 |n+1,k=>by unfold ob;rw[Ht a f l m n (k+1)];rfl
def BN(a n:Nat)(f:TP)(l m:TD):iN a n f (l++m)=iN a n f l++m:=Ht a f l m n 0
def RS.wT{pre post:TE}(tl:TD):R.e t pre post tl=R.e t pre post []++tl:=by unfold RS.e;rw[show tl=[]++tl from rfl,BN,BN,BN];rfl
def RS.no{pre post:TE}(i:Nat)(h:4<=i)(h':i<1000):aA (R.e t pre post []) i=none:=by unfold RS.e;simp only[aA];rw[jN,jN,jN,jN,vo _ _ _ _ _ h',vo _ _ _ _ _ h',vo _ _ _ _ _ h'];rfl
def low(tl:TD):Prop:=∀i r,aA tl i=some r->4<=i/\i<1000
def RS.bv{pre post:TE}(h:low tl):Lays (fun tl=>R.e t pre post tl) tl:=⟨fun i=>by rw[RS.wT,v7],fun i r hi=>RS.no i (h i r hi).1 (h i r hi).2⟩
variable{pre' post':TE}
def RS.size{pre post:TE}{R':RS}(h1:R.gm.length<=R'.gm.length)(h2:R.heap.length<=R'.heap.length)(i:Nat)(h:aA (R.e t pre post []) i≠none):aA (R'.e t pre' post' []) i≠none:=by
 by_cases h0:i=0
 ·subst h0;rw[RS.ui];simp
 by_cases X6:i=1
 ·subst X6;rw[RS.tH];simp
 by_cases Yi:i=2
 ·subst Yi;rw[RS.tM];simp
 by_cases h3':i=3
 ·subst h3';rw[RS.uw];simp
 by_cases h4:i<1000
 ·exact(h (RS.no i jB h4)).elim
 rw[RS.pq i jB]at h ⊢;rcases vn 0 R.gm.length jB R.sl (iN 1 R.gm.length R.pt (iN 2 R.heap.length R.hp [])) i with⟨k,hk,rfl,e⟩|⟨_,e⟩
 ·rw[tF _ _ _ _ _ jB jB];simp
 rw[e]at h;rcases vn 1 R.gm.length jB R.pt (iN 2 R.heap.length R.hp []) i with⟨k,hk,rfl,e⟩|⟨_,e⟩
 ·rw[rE _ _ _ _ _ _ jB jB jB,tF _ _ _ _ _ jB jB];simp
 rw[e]at h;rcases vn 2 R.heap.length jB R.hp [] i with⟨k,hk,rfl,e⟩|⟨_,e⟩
 ·rw[rE _ _ _ _ _ _ jB jB jB,rE _ _ _ _ _ _ jB jB jB,tF _ _ _ _ _ jB jB];simp
 rw[e]at h;exact(h rfl).elim
theorem H8(a:Nat)(f:TP)(l:TD):∀(n k:Nat),ids (ob a f k n l)=(List.range' k n).map (gC a)++ids l
 |0,k=>rfl
 |n+1,k=>by unfold ob;rw[List.range'_succ];show gC a k::ids (ob a f (k+1) n l)=_;rw[H8 a f l n (k+1)];rfl
def BG{a n:Nat}{f:TP}(ha:a<8)(h:(ids l).Nodup)(hl:∀k,k<n->aA l (gC a k)=Option.none):(ids (iN a n f l)).Nodup:=by
 unfold iN;rw[H8,List.nodup_append];refine⟨?_,h,fun x hx y hy e=>?_⟩
 ·refine List.Pairwise.map _ (fun x y hxy e=>?_) (List.nodup_range' (step:=1) (s:=0) (n:=n) jB);exact hxy (yM ha ha e).2
 ·obtain⟨k,hk,rfl⟩:=List.mem_map.1 hx;subst e;exact(lr _ _).1 hy (hl k (by simp at hk;omega))
theorem nodup_cons{l:TD}{i:Nat}{r:Row}(h:(ids l).Nodup)(hl:aA l i=Option.none):(ids ((i,r)::l)).Nodup:=List.nodup_cons.2 ⟨fun hm=>(lr _ _).1 hm hl,h⟩
def RS.nodup{pre post:TE}:(ids (R.e t pre post [])).Nodup:=by
 have f2:∀i,i<1000->aA (iN 0 R.gm.length R.sl (iN 1 R.gm.length R.pt (iN 2 R.heap.length R.hp []))) i=Option.none:=fun i h=>by rw[vo _ _ _ _ _ h,vo _ _ _ _ _ h,vo _ _ _ _ _ h];rfl
 unfold RS.e;refine nodup_cons (nodup_cons (nodup_cons (nodup_cons (BG jB (BG jB (BG jB List.nodup_nil (fun k _=>rfl)) fun k _=>?_) fun k _=>?_) ?_) ?_) ?_) ?_
 ·rw[rE _ _ _ _ _ _ jB jB jB];rfl
 ·rw[rE _ _ _ _ _ _ jB jB jB,rE _ _ _ _ _ _ jB jB jB];rfl
 ·exact f2 3 jB
 ·show(if(2:Nat)=3 then _ else _)=_;rw[jN];exact f2 2 jB
 ·show(if(1:Nat)=2 then _ else if(1:Nat)=3 then _ else _)=_;rw[jN,jN];exact f2 1 jB
 ·show(if(0:Nat)=1 then _ else if(0:Nat)=2 then _ else if(0:Nat)=3 then _ else _)=_;rw[jN,jN,jN];exact f2 0 jB
def RS.closed{pre post:TE}(h1:aX eo pre=true)(h2:aX eo post=true):∀i r,aA (R.e t pre post []) i=some r->aX (fun i=>(ids (R.e t pre post [])).contains i) r.cells=true:=fun i r h=>by
 have up:∀{l},aX eo l=true->aX (fun i=>(ids (R.e t pre post [])).contains i) l=true:=fun h=>fS (fun _ h=>by cases h) _ h
 have c1:=fW (RS.tH (t:=t) (pre:=pre) (post:=post) (R:=R) (tl:=[]));have c2:=fW (RS.tM (t:=t) (pre:=pre) (post:=post) (R:=R) (tl:=[]));have c3:=fW (RS.uw (t:=t) (pre:=pre) (post:=post) (R:=R) (tl:=[]));by_cases h0:i=0
 ·subst h0;rw[RS.ui]at h;cases h;show aX _ (pre++R.c++post)=true;rw[sx,sx,up h1,up h2];simp only[RS.c,aX,AV.all,c1,c2,c3,Bool.and_self]
 by_cases X6:i=1
 ·subst X6;rw[RS.tH]at h;cases h;exact ph (G2 fun k hk=>by have a:=fW (RS.py (t:=t) (pre:=pre) (post:=post) (R:=R) (tl:=[]) hk);have b:=fW (RS.A5 (t:=t) (pre:=pre) (post:=post) (R:=R) (tl:=[]) hk);simp only[RS.fr,aX,AV.all,a,b,Bool.and_self])
 by_cases Yi:i=2
 ·subst Yi;rw[RS.tM]at h;cases h;exact ph (G2 fun k hk=>by have a:=fW (RS.BF (t:=t) (pre:=pre) (post:=post) (R:=R) (tl:=[]) hk);simp only[aX,AV.all,a,Bool.and_self])
 by_cases h3':i=3
 ·subst h3';rw[RS.uw]at h;cases h;exact up (ph (mY (enc:=eS) (sz:=1) _))
 by_cases h4:i<1000
 ·rw[RS.no i jB h4]at h;cases h
 rw[RS.pq i jB]at h;rcases vn 0 R.gm.length jB R.sl (iN 1 R.gm.length R.pt (iN 2 R.heap.length R.hp [])) i with⟨k,hk,rfl,e⟩|⟨_,e⟩
 ·rw[e]at h;cases h;exact up (ph (mY (enc:=bS) (sz:=3) _))
 rw[e]at h;rcases vn 1 R.gm.length jB R.pt (iN 2 R.heap.length R.hp []) i with⟨k,hk,rfl,e⟩|⟨_,e⟩
 ·rw[e]at h;cases h;exact up (ph (mY (enc:=uB) (sz:=2) _))
 rw[e]at h;rcases vn 2 R.heap.length jB R.hp [] i with⟨k,hk,rfl,e⟩|⟨_,e⟩
 ·rw[e]at h;cases h;exact up (ph (mY (enc:=eI) (sz:=1) _))
 rw[e]at h;cases h
def cE{P:TO}{f:FuncId}{args:TE}{H:Hp}{K:TB}{pre post:TE}{R':RS}{r0:AV}{B:TH}(hc:ab P f args (R.e t pre post []) fun r l'=>r=r0/\l'=R'.e t pre' post' [])(hH:H=⟨B,R.e t pre post tl⟩)
  (h1:R.gm.length<=R'.gm.length) (h2:R.heap.length<=R'.heap.length) (hp:aX eo pre=true) (hq:aX eo post=true) (hl:low tl) (ha:aX (fun i=>decide (i=0)) args=true) (h0:aU P f=true) (k:K r0 ⟨B,R'.e t pre' post' tl⟩):fa P (.raw (.func (.func f) #[] #[])) args H K:=by
 subst hH;refine nQ h0 (zZ (E:=fun tl=>R.e t pre post tl) (E':=fun tl=>R'.e t pre' post' tl) hc (RS.bv hl) (RS.bv hl) RS.nodup (fS (fun i hi=>?_) _ ha) (RS.closed hp hq) k (RS.size h1 h2));have:i=0:=of_decide_eq_true hi;subst this;exact fW RS.ui
def yt:TN:=fun i=>decide (4<=i/\i<1000)
def fB.pl(f:fB):fT:=nth f.path (f.path.length-1)
def CK(p:af)(node:Int):Prop:=(nth p.aa.nodes node.toNat).kind=10\/(nth p.aa.nodes node.toNat).kind=11
instance (p:af)(node:Int):Decidable (CK p node):=by unfold CK;infer_instance
def RS.BC(R:RS):fB:=nth R.gm (R.nf-1)
def RS.of(s:gr):RS:=⟨s.ka,s.ka.length,s.ka.map fun _=>[],s.heap,s.in_,s.bA,s.status,s.cX,s.time⟩
def B2(p:af)(fn:Int)(args:List aj):fB:=⟨fn,args++List.replicate ((nth p.size fn.toNat)-args.length).toNat v0,[⟨(nth p.aa.aw fn.toNat).body,0⟩]⟩
def Hs(p:af)(s:gr)(node:Int)(inp:TG):Prop:=CK p node/\(au p (nth (au p node).l 0)).kind=19/\(inp.length:Int)<=s.in_
instance (p:af)(s:gr)(node:Int)(inp:List Int):Decidable (Hs p s node inp):=by unfold Hs;infer_instance
end Go.Gd
namespace Go.Proofs.YtjpcgmjaipfgdaaGreatDoor
open Go Go.Gd Tryz
def gw(t:aH)(a:Int):Prop:=0<=a/\a<t.nodes.length
def yF(c:Ck):Prop:=c.e=0\/c.e=44\/gw c.aa c.at_
def Kp(t:aH)(c c':Ck):Prop:=c.aa=t->c'.aa=t/\(yF c->yF c')
def Kp.refl(t:aH)(c:Ck):Kp t c c:=fun h=>⟨h,id⟩
variable{t:aH}{b:Ck}
def Kp.trans{a c:Ck}(h:Kp t a b)(k:Kp t b c):Kp t a c:=fun e=>⟨(k (h e).1).1,fun x=>(k (h e).1).2 ((h e).2 x)⟩
variable{c':Ck}
def po{c:Ck}(h1:c'.aa=c.aa)(h2:c'.e=c.e)(h3:c'.at_=c.at_):Kp t c c':=fun e=>⟨h1.trans e,fun h=>by unfold yF at*;rw[h1,h2,h3];exact h⟩
variable{a:Int}
def rL(c:Ck)(e:Int)(ha:gw t a):Kp t c (c.aE e a):=fun ht=>by
 unfold Ck.aE;split
 ·refine⟨ht,fun _=>.inr (.inr ?_)⟩;show gw c.aa a;rw[ht];exact ha
 ·exact⟨ht,id⟩
def qt(c:Ck)(b:Bool)(ha:gw t a):Kp t c (c.av b a):=by
 unfold Ck.av;split
 ·exact .refl t c
 ·exact rL c 42 ha
def zu(c:Ck)(ha:gw t a):Kp t c (c.named a).1:=by
 unfold Ck.named;split
 ·exact rL c 40 ha
 ·exact po rfl rfl rfl
variable{α:Type}
def HI[Inhabited α]{l:List α}{i:Nat}(h:l.length<=i):nth l i=default:=by simp[nth,List.getD_eq_getElem?_getD,List.getElem?_eq_none h]
def uK(h:aR t){c:Ck}(hc:c.aa=t)(ha:gw t a)(i:Nat):gw t (c.aF a i):=by
 obtain⟨h0,h1⟩:=ha;unfold Ck.aF Ck.node;rw[hc];by_cases hi:i<(nth t.nodes a.toNat).l.length
 ·have:=(h.shape a.toNat jB).2.1 _ (fg hi);unfold gw;omega
 ·have:nth (nth t.nodes a.toNat).l i=0:=HI (Nat.le_of_not_lt hi);rw[this];unfold gw;omega
def yG(h:aR t){c:Ck}(hc:c.aa=t)(ha:gw t a):∀x∈(c.node a).l,gw t x:=fun x hx=>by obtain⟨h0,h1⟩:=ha;unfold Ck.node at hx;rw[hc]at hx;have:=(h.shape a.toNat jB).2.1 _ hx;unfold gw;omega
theorem AF{t:aH}{ex:Ck->Int->Ck×Int}(hex:∀c a,gw t a->Kp t c (ex c a).1):∀(l:TG) (c:Ck) (ts:TG),(∀x∈l,gw t x)->Kp t c (gv ex c l ts).1
 |[],c,ts,_=>by unfold gv;exact .refl t c
 |a::l,c,ts,hl=>by
  unfold gv;split
  ·exact(hex c a (hl a jE)).trans (AF hex l _ _ fun x hx=>hl x (by simp[hx]))
  ·exact .refl t c
theorem Fa{t:aH}{a:Int}(ha:gw t a):∀(ts:TG) (ps:List bK) (c:Ck),Kp t c (iv a c ts ps)
 |[],ps,c=>by rw[ub];exact .refl t c
 |_::_,[],c=>by rw[tJ];exact .refl t c
 |x::ts,p::ps,c=>by
  unfold iv;split
  ·exact(qt c _ ha).trans (Fa ha ts ps _)
  ·exact .refl t c
variable{ex:Ck->Int->Ck×Int}
def ND(h:aR t)(hex:∀c a,gw t a->Kp t c (ex c a).1)(c:Ck)(ha:gw t a):Kp t c (iS ex c a).1:=fun hc=>by
 refine(show Kp t c (iS ex c a).1 from ?_) hc;unfold iS;split
 ·exact rL c 40 ha
 ·refine Kp.trans ?_ (Fa ha _ _ _);split
  ·exact(AF hex _ _ _ (yG h hc ha)).trans (rL _ 43 ha)
  ·exact AF hex _ _ _ (yG h hc ha)
def N6(h:aR t)(hex:∀c a,gw t a->Kp t c (ex c a).1)(c:Ck)(ha:gw t a):Kp t c (cr ex c a).1:=fun hc=>by
 have k0:=uK h hc ha 0;have k1:=uK h hc ha 1;refine(show Kp t c (cr ex c a).1 from ?_) hc;unfold cr;simp only;repeat' split
 all_goals first
  |exact .refl t c
  |exact zu c ha
  |exact ND h hex c ha
  |exact((zu c ha).trans (hex _ _ k0)).trans (qt _ _ ha)
  |exact((hex c _ k0).trans (hex _ _ k1)).trans (qt _ _ ha)
  |exact(hex c _ k0).trans (qt _ _ ha)
theorem Iz{t:aH}(h:aR t):∀(n:Nat) (c:Ck) (a:Int),gw t a->Kp t c (az n c a).1
 |0,c,a,ha=>by unfold az;exact .refl t c
 |n+1,c,a,ha=>by
  unfold az;split
  ·exact .refl t c
  ·exact(N6 h (Iz h n) c ha).trans (po rfl rfl rfl)
def QX(h:aR t)(hex:∀c a,gw t a->Kp t c (ex c a).1)(c:Ck)(ha:gw t a):Kp t c (o5 ex c a):=fun hc=>by
 have k0:=uK h hc ha 0;refine(show Kp t c (o5 ex c a) from ?_) hc;rw[tT];have kA:Kp t c (iD ex c a):=(hex c _ k0).trans (qt _ _ ha);have kB:Kp t c (js ex c a):=by
  unfold js;split
  ·exact kA.trans (rL _ 41 ha)
  ·exact kA
 have kC:Kp t c (eH ex c a):=by
  unfold eH;split
  ·exact kB.trans (rL _ 4 ha)
  ·exact kB
 exact kC.trans (po rfl rfl rfl)
def OD(h:aR t)(hex:∀c a,gw t a->Kp t c (ex c a).1)(c:Ck)(ha:gw t a):Kp t c (kH ex c a):=fun hc=>by
 have k0:=uK h hc ha 0;refine(show Kp t c (kH ex c a) from ?_) hc;unfold kH;simp only;split
 ·exact rL c 43 ha
 split
 ·exact(hex c _ k0).trans (qt _ _ ha)
 ·exact .refl t c
theorem Ce{t:aH}{st:Ck->Int->Ck}(P':∀c a,gw t a->Kp t c (st c a)):∀(l:TG) (c:Ck),(∀x∈l,gw t x)->Kp t c (dK st c l)
 |[],c,_=>by unfold dK;exact .refl t c
 |a::l,c,hl=>by
  unfold dK;split
  ·exact(P' c a (hl a jE)).trans (Ce P' l _ fun x hx=>hl x (by simp[hx]))
  ·exact .refl t c
def D0(h:aR t){st:Ck->Int->Ck}(P':∀c a,gw t a->Kp t c (st c a))(c:Ck)(ha:gw t a):Kp t c (fl st c a):=fun hc=>by refine(show Kp t c (fl st c a) from ?_) hc;have h1:Kp t c (c.ai a):=po rfl rfl rfl;exact(h1.trans (Ce P' _ _ (yG h hc ha))).trans (po rfl rfl rfl)
theorem Hf{t:aH}(h:aR t):∀(n:Nat) (c:Ck) (a:Int),gw t a->Kp t c (bP n c a)
 |0,c,a,ha=>by unfold bP;exact .refl t c
 |n+1,c,a,ha=>fun hc=>by
  have k0:=uK h hc ha 0;have k1:=uK h hc ha 1;have kl:=yG h hc ha;refine(show Kp t c (bP (n+1) c a) from ?_) hc;have e0:Kp t c (c.ai a):=po rfl rfl rfl;have hx:=Iz h n;unfold bP;simp only;refine e0.trans ?_;repeat' split
  ·exact QX h hx _ ha
  ·exact((zu _ ha).trans (hx _ _ k0)).trans (qt _ _ ha)
  ·exact(((zu _ ha).trans (hx _ _ k0)).trans (hx _ _ k1)).trans (qt _ _ ha)
  ·exact hx _ _ k0
  ·exact(hx _ _ k0).trans (qt _ _ ha)
  ·exact OD h hx _ ha
  ·exact((hx _ _ k0).trans (qt _ _ ha)).trans (Ce (fun c a ha=>D0 h (Hf h n) c ha) _ _ fun x Ug=>kl x (List.mem_of_mem_drop Ug))
theorem Fj{t:aH}{body:Int}(hb:gw t body):∀(ps:List bK) (c:Ck) (i:Int),Kp t c (fy body c ps i)
 |[],c,i=>by unfold fy;exact .refl t c
 |p::ps,c,i=>by
  unfold fy;simp only;refine Kp.trans ?_ (Fj hb ps _ _);split
  ·exact(rL c 41 hb).trans (po rfl rfl rfl)
  ·exact po rfl rfl rfl
def o7(h:aR t){k:Nat}(hk:k<t.aw.length):gw t (nth t.aw k).body:=by have:=h.chain.mem (nth t.aw k).body (List.mem_map.2 ⟨_,fg hk,rfl⟩);unfold gw;omega
def L7(h:aR t)(c:Ck){k:Nat}(hk:k<t.aw.length):Kp t c (gM c k):=fun hc=>by
 refine(show Kp t c (gM c k) from ?_) hc;have hb:gw t (nth c.aa.aw k).body:=by rw[hc];exact o7 h hk
 have h1:Kp t c (fy (nth c.aa.aw k).body { c with fn:=(k:Int),vars:=[],more:=[],size:=0 } (nth c.aa.aw k).params 0):=Kp.trans (b:={ c with fn:=(k:Int),vars:=[],more:=[],size:=0 }) (po rfl rfl rfl) (Fj hb _ _ _);unfold gM;simp only;split
 ·exact(h1.trans (D0 h (Hf h _) _ hb)).trans (po rfl rfl rfl)
 ·exact h1.trans (po rfl rfl rfl)
theorem HK{t:aH}(h:aR t):∀(n:Nat) (c:Ck) (i:Nat),i+n<=t.aw.length->Kp t c (gB c i n)
 |0,c,i,_=>by unfold gB;exact .refl t c
 |n+1,c,i,hi=>by
  unfold gB;split
  ·exact(L7 h c jB).trans (HK h n _ _ jB)
  ·exact .refl t c
theorem D5{t:aH}{x:bg}(hx:gw t x.body):∀(l:List bg) (c:Ck),Kp t c (kN x c l)
 |[],c=>by unfold kN;exact .refl t c
 |f::l,c=>by
  unfold kN;refine Kp.trans ?_ (D5 hx l _);split
  ·exact rL c 41 hx
  ·exact .refl t c
theorem Gx{t:aH}(h:aR t):∀(n:Nat) (c:Ck) (m:Bool) (i:Nat),i+n<=t.aw.length->Kp t c (j8 t.aw c m i n).1
 |0,c,m,i,_=>by unfold j8;exact .refl t c
 |n+1,c,m,i,hi=>by unfold j8;exact(D5 (o7 h jB) _ _).trans (Gx h n _ _ _ jB)
def Sr(h:aR t)(c:Ck):Kp t c (iZ c):=fun hc=>by
 have h1:Kp t c (j8 c.aa.aw c false 0 c.aa.aw.length).1:=by rw[hc];exact Gx h _ _ _ _ jB
 refine(show Kp t c (iZ c) from ?_) hc;unfold iZ;simp only;split
 ·exact h1
 ·refine h1.trans fun hq=>?_
  unfold Ck.aE;split
  ·exact⟨hq,fun _=>.inr (.inl rfl)⟩
  ·exact⟨hq,id⟩
def Pk(h:aR t):yF (ja t)/\(ja t).aa=t:=by have k:Kp t (jr t) (ja t):=(Sr h (jr t)).trans (HK h _ _ _ jB);exact⟨(k rfl).2 (.inl rfl),(k rfl).1⟩
def S5(h:aR t):(iq t).2.2=0\/(iq t).2.2=44\/gw t (iq t).2.1:=by
 obtain⟨a,b⟩:=Pk h;unfold iq;split
 ·rcases a with a|a|a
  ·exact .inl a
  ·exact .inr (.inl a)
  ·rw[b]at a;exact .inr (.inr a)
 ·exact .inl rfl
def H6(s:TI)(hs:s.size<=1000000):aB prog 13 [rS s] (.aQ [.agg (cd (fX s).1),rI (fX s).2.1,rI (fX s).2.2]):=by
 have hp:=RJ s hs;by_cases h1:(gQ s).2.2=0
 ·have ht:=uL h1;have hk:=RN (gQ s).1 ht;have Ut:=S5 ht;by_cases h2:(iq (gQ s).1).2.2=44
  ·have e:fX s=(lc,0,44):=by unfold fX;rw[if_neg (fun h=>h h1)];simp only;rw[if_pos h2]
   rw[e];refine bG func13 ntmps13 ?_
   (have W:=jA h1 h2;repeat' (first|refine aq fun K hK=>?_|refine ap ?_|(refine hK _ _ ?_;clear hK K)|(refine ao ?_ ?_<;>intro hc<;>try exact jz)|refine cp (hp) ?_|refine cp (hk) ?_|refine ar ?_|exact jI|(clear hK K)))
   refine fA [.cell 2 32,.tmp 3,.tmp 4] ?_;refine bu.aQ (ds:=[.agg (cd lc),rI _,rI _]) ?_;refine jA (bu.agg (ds:=cd lc) ?_) (jA (.same _ rfl) (jA (.same _ rfl) trivial));simp only[cd,lc];exact iF
  ·by_cases h3:(iq (gQ s).1).2.2=0
   ·have e:fX s=((iq (gQ s).1).1,0,0):=by unfold fX;rw[if_neg (fun h=>h h1)];simp only;rw[if_neg h2,if_neg (fun h=>h h3)]
    rw[e];refine bG func13 ntmps13 ?_
    (have W:=jA h1 h3;repeat' (first|refine aq fun K hK=>?_|refine ap ?_|(refine hK _ _ ?_;clear hK K)|(refine ao ?_ ?_<;>intro hc<;>try exact jz)|refine cp (hp) ?_|refine cp (hk) ?_|refine ar ?_|exact jI|(clear hK K)))
    (refine aY [.cell 2 32,.tmp 3,.tmp 4] ?_;try simp only[go_sem])
   ·have e:fX s=(lc,(nth (gQ s).1.nodes (iq (gQ s).1).2.1.toNat).cM,(iq (gQ s).1).2.2):=by unfold fX;rw[if_neg (fun h=>h h1)];simp only;rw[if_neg h2,if_pos h3]
    obtain⟨UB,VM⟩:=(Ut.resolve_left h3).resolve_left h2;rw[e];refine bG func13 ntmps13 ?_
    (have W:=jA h1 (jA h2 (h3));repeat' (first|refine aq fun K hK=>?_|refine ap ?_|(with_reducible refine gR 8 ?_);refine dA 8 [0] (aW 0 11) mixed ?_|(refine hK _ _ ?_;clear hK K)|(refine ao ?_ ?_<;>intro hc<;>try exact jz)|refine cp (hp) ?_|refine cp (hk) ?_|refine ar ?_|exact jI|(clear hK K)))
    refine fA [.cell 2 32,.tmp 3,.tmp 4] ?_;refine bu.aQ (ds:=[.agg (cd lc),rI _,rI _]) ?_;refine jA (bu.agg (ds:=cd lc) ?_) (jA (.same _ rfl) (jA (.same _ rfl) trivial));simp only[cd,lc];exact iF
 ·have e:fX s=(lc,(gQ s).2.1,(gQ s).2.2):=by unfold fX;rw[if_pos h1]
  rw[e];refine bG func13 ntmps13 ?_
  (have W:=h1;repeat' (first|refine aq fun K hK=>?_|refine ap ?_|(refine hK _ _ ?_;clear hK K)|(refine ao ?_ ?_<;>intro hc<;>try exact jz)|refine cp (hp) ?_|refine ar ?_|exact jI|(clear hK K)))
  refine fA [.cell 2 32,.tmp 3,.tmp 4] ?_;refine bu.aQ (ds:=[.agg (cd lc),rI _,rI _]) ?_;refine jA (bu.agg (ds:=cd lc) ?_) (jA (.same _ rfl) (jA (.same _ rfl) trivial));simp only[cd,lc];exact iF
def xH[Inhabited α](l:List α)(i k:Nat)(v:α):nth (l.set i v) k=if i=k/\k<l.length then v else nth l k:=by
 unfold nth;rw[List.getD_eq_getElem?_getD,List.getElem?_set,List.getD_eq_getElem?_getD];by_cases h:i=k
 ·subst h;by_cases hi:i<l.length
  ·simp[hi]
  ·simp[hi]
 ·simp[h]
structure vD(t:aH)(ty:List Int)(k:Nat):Prop where
 int:(nth t.nodes k).kind=1->nth ty k=1
 bool:(nth t.nodes k).kind=2->nth ty k=2
 text:(nth t.nodes k).kind=3->nth ty k=3
 var:(nth t.nodes k).kind=4->1<=nth ty k/\nth ty k<=4
 index:(nth t.nodes k).kind=5->nth ty k=1/\nth ty (nth (nth t.nodes k).l 0).toNat=1
 len:(nth t.nodes k).kind=6->nth ty k=1/\(nth ty (nth (nth t.nodes k).l 0).toNat=3\/nth ty (nth (nth t.nodes k).l 0).toNat=4)
 neg:(nth t.nodes k).kind=7->nth ty k=1/\nth ty (nth (nth t.nodes k).l 0).toNat=1
 not:(nth t.nodes k).kind=8->nth ty k=2/\nth ty (nth (nth t.nodes k).l 0).toNat=2
 MA:(nth t.nodes k).kind=9->nth ty k=lO (nth t.nodes k).name (nth ty (nth (nth t.nodes k).l 0).toNat) (nth ty (nth (nth t.nodes k).l 1).toNat)/\nth ty k≠0
 cond:(nth t.nodes k).kind=15\/(nth t.nodes k).kind=16->nth ty (nth (nth t.nodes k).l 0).toNat=2
 call:(nth t.nodes k).kind=21->0<=jt bg.name (nth t.nodes k).name t.aw 0 (-1)/\(nth t.nodes k).l.length=(nth t.aw (jt bg.name (nth t.nodes k).name t.aw 0 (-1)).toNat).params.length
 in_:(nth t.nodes k).kind=19->nth ty k=1
 new:(nth t.nodes k).kind=20->nth ty k=4
 C6:(nth t.nodes k).kind=10->1<=nth ty (nth (nth t.nodes k).l 0).toNat/\nth ty (nth (nth t.nodes k).l 0).toNat<=4
def fY(t:aH)(ty:TG)(lo hi:Nat):Prop:=∀k,lo<=k->k<hi->vD t ty k
def Tw(lo hi:Nat)(c c':Ck):Prop:=∀k,(k<lo\/hi<=k)->nth c'.types k=nth c.types k
variable{lo hi:Nat}{L:TG}
def _root_.Go.Gd.aL.closed{t:List br}(h:aL t lo L hi):∀k,lo<=k->k<hi->∀a∈(nth t k).l,lo<=a.toNat:=by
 induction h with
 |nil=>intro k h1 h2;omega
 |@cons lo c hi L hc h1 h2 i1 i2=>
  intro k Ue TY a ha;have l1:=h1.le;by_cases h:k<c
  ·exact i1 k Ue h a ha
  by_cases h':k=c
  ·subst h';exact(h1.mem a ha).2.1
  ·have:=i2 k jB TY a ha;omega
variable{ty:TG}
def vD.aZ(h:aR t){ty':TG}{k:Nat}(hk:k<t.nodes.length)(Tu:lo<=k)(hc:∀a∈(nth t.nodes k).l,lo<=a.toNat)(he:∀i,lo<=i->i<=k->nth ty' i=nth ty i)(x:vD t ty k):vD t ty' k:=by
 have hm:=(h.shape k hk).2.1;have sh:=(h.shape k hk).1;have e0:=he k Tu jl;have ea:∀i,i<(nth t.nodes k).l.length->nth ty' (nth (nth t.nodes k).l i).toNat=nth ty (nth (nth t.nodes k).l i).toNat:=fun i hi=>by have Ux:=fg hi;have:=hm _ Ux;exact he _ (hc _ Ux) jB
 refine⟨fun e=>by rw[e0];exact x.int e,fun e=>by rw[e0];exact x.bool e,fun e=>by rw[e0];exact x.text e,fun e=>by rw[e0];exact x.var e,fun e=>?_,fun e=>?_,fun e=>?_,fun e=>?_,fun e=>?_,fun e=>?_,x.call,fun e=>by rw[e0];exact x.in_ e,fun e=>by rw[e0];exact x.new e,fun e=>?_⟩
 ·obtain⟨a,hl,_⟩:=sh.one jB;rw[e0,ea 0 (by rw[hl];simp)];exact x.index e
 ·obtain⟨a,hl,_⟩:=sh.one jB;rw[e0,ea 0 (by rw[hl];simp)];exact x.len e
 ·obtain⟨a,hl,_⟩:=sh.one jB;rw[e0,ea 0 (by rw[hl];simp)];exact x.neg e
 ·obtain⟨a,hl,_⟩:=sh.one jB;rw[e0,ea 0 (by rw[hl];simp)];exact x.not e
 ·obtain⟨a,b,hl,_⟩:=sh.two jB;rw[e0,ea 0 (by rw[hl];simp),ea 1 (by rw[hl];simp)];exact x.MA e
 ·have hl:0<(nth t.nodes k).l.length:=by
   rcases e with e|e
   ·obtain⟨a,b,_,_,hl|⟨d,hl,_⟩⟩:=sh.lw e<;>rw[hl]<;>simp
   ·obtain⟨a,b,hl,_⟩:=sh.dZ e;rw[hl];simp
  rw[ea 0 hl];exact x.cond e
 ·obtain⟨a,hl,_⟩:=sh.right jB;rw[ea 0 (by rw[hl];simp)];exact x.C6 e
theorem fY.aZ{t:aH}(h:aR t){ty ty':TG}{lo hi:Nat}{L:TG}(hc:aL t.nodes lo L hi)(hl:hi<=t.nodes.length)(he:∀i,lo<=i->i<hi->nth ty' i=nth ty i)(x:fY t ty lo hi):fY t ty' lo hi:=fun k h1 h2=> (x k h1 h2).aZ h jB h1 (hc.closed k h1 h2) fun i g1 g2=>he i g1 jB
variable{mid:Nat}
def fY.join(x:fY t ty lo mid)(y:fY t ty mid hi):fY t ty lo hi:=fun k h1 h2=>by
 by_cases h:k<mid
 ·exact x k h1 h
 ·exact y k jB h2
def fY.none:fY t ty lo lo:=fun k h1 h2=>jB
def Tw.refl(lo hi:Nat)(c:Ck):Tw lo hi c c:=fun _ _=>rfl
def Tw.same{c:Ck}(h:c'.types=c.types):Tw lo hi c c':=fun _ _=>by rw[h]
theorem Tw.trans{lo hi:Nat}{a b c:Ck}(h:Tw lo hi a b)(k:Tw lo hi b c):Tw lo hi a c:=fun i hi=>(k i hi).trans (h i hi)
def Tw.mono{lo' Vt:Nat}{a:Ck}(h:Tw lo hi a b)(h1:lo'<=lo)(h2:hi<=Vt):Tw lo' Vt a b:=fun i hi=>h i jB
def CX(c:Ck)(e a:Int):(c.aE e a).types=c.types:=by unfold Ck.aE;split<;>rfl
def lM(c:Ck)(b:Bool)(a:Int):(c.av b a).types=c.types:=by unfold Ck.av;split;rfl;exact CX _ _ _
def jw{c:Ck}{b:Bool}(h:(c.av b a).e=0):b=true/\c.e=0:=by
 unfold Ck.av at h;split at h
 ·exact⟨by assumption,h⟩
 ·exfalso;unfold Ck.aE at h;split at h
  ·cases h
  ·contradiction
def pX{c:Ck}{e:Int}(he:e≠0)(h:(c.aE e a).e=0):False:=by
 unfold Ck.aE at h;split at h
 ·exact he h
 ·contradiction
def zI(c:Ck)(a:Int):(c.named a).1.types=c.types:=by unfold Ck.named;split;exact CX _ _ _;rfl
def cV(c:Ck):Prop:=∀v∈c.vars,1<=v.ty/\v.ty<=4
def cV.ev{c:Ck}(h:cV c)(s:Ev c c'):cV c':=by unfold cV;rw[s.vars];exact h
def NH{c:Ck}(h:cV c)(he:(c.named a).1.e=0):1<=(c.named a).2/\(c.named a).2<=4:=by
 unfold Ck.named at he ⊢;split
 ·rename_i hf;rw[if_pos hf]at he;exact(pX jC he).elim
 ·rename_i hf;rcases zx bD.name (c.node a).name c.vars 0 jB with⟨h1,_⟩|h1
  ·exact(hf (by show je bD.name (c.node a).name c.vars 0<0;rw[h1];decide)).elim
  ·exact h _ (fg (by show(je bD.name (c.node a).name c.vars 0).toNat<_;omega))
def Ev.e0{c:Ck}(s:Ev c c')(h:c'.e=0):c.e=0:=Classical.byContradiction fun e=>s.err e h
structure gk(t:aH)(lo hi:Nat)(c c':Ck):Prop where
 tw:Tw lo hi c c'
 all:fY t c'.types lo hi
def gk.post{a c:Ck}(h:gk t lo hi a b)(e:c.types=b.types):gk t lo hi a c:=⟨h.tw.trans (.same e),by rw[e];exact h.all⟩
def gk.pre{a c:Ck}(e:b.types=a.types)(h:gk t lo hi b c):gk t lo hi a c:=⟨(Tw.same e).trans h.tw,h.all⟩
def gk.seq(ht:aR t){a c:Ck}(hc:aL t.nodes lo L mid)(hl:mid<=t.nodes.length)(h1:mid<=hi)(h:gk t lo mid a b)(k:gk t mid hi b c):gk t lo hi a c:=
 ⟨(h.tw.mono jl h1).trans (k.tw.mono hc.le jl),(h.all.aZ ht hc hl fun i _ h2=>k.tw i (.inl h2)).join k.all⟩
def A9(t:aH)(n:Nat):Prop:=∀(c:Ck) (a:Int) (lo:Nat),bE c->c.aa=t->cV c->0<=a->a<t.nodes.length->a.toNat<n->fq (bW t.nodes a)->aL t.nodes lo (nth t.nodes a.toNat).l a.toNat->(az n c a).1.e=0->
 gk t lo (a.toNat+1) c (az n c a).1/\nth (az n c a).1.types a.toNat=(az n c a).2/\0<=(az n c a).2/\(az n c a).2<=4
variable{t:List br}
def ko(h:aL t lo [a] hi):0<=a/\a<t.length/\lo<=a.toNat/\hi=a.toNat+1/\aL t lo (nth t a.toNat).l a.toNat:=by
 cases h with
 |cons hc h1 h2=> cases h2;exact⟨jB,jB,by have:=h1.le;simpa using this,jE,by simpa using h1⟩
def kF(h:aL t lo (a::L) hi):0<=a/\a<t.length/\lo<=a.toNat/\a.toNat+1<=hi/\aL t lo (nth t a.toNat).l a.toNat/\aL t (a.toNat+1) L hi:=by
 cases h with
 |cons hc h1 h2=>exact⟨jB,jB,by have:=h1.le;simpa using this,by have:=h2.le;simpa using this,by simpa using h1,by simpa using h2⟩
def aL.oJ(h0:0<=a)(h1:a<t.length)(h:aL t lo (nth t a.toNat).l a.toNat):aL t lo [a] (a.toNat+1):=by have e:a=((a.toNat:Nat):Int):=jB;rw[e];exact aL.one jB (by simpa using h)
theorem I3{t:aH}(ht:aR t){n:Nat}(hx:A9 t n):∀(L:TG) (c:Ck) (ts:TG) (lo hi:Nat),bE c->c.aa=t->cV c->hi<=n->hi<=t.nodes.length->(∀x∈L,fq (bW t.nodes x))->aL t.nodes lo L hi->(gv (az n) c L ts).1.e=0->gk t lo hi c (gv (az n) c L ts).1
 |[],c,ts,lo,hi,h,hc,hv,hn,hl,hr,Tv,he=>by cases Tv;unfold gv;exact⟨.refl _ _ _,.none⟩
 |a::L,c,ts,lo,hi,h,hc,hv,hn,hl,hr,Tv,he=>by have e0:=(tC (fk n) (a::L) c ts).e0 he;unfold gv at he ⊢;rw[if_pos e0]at he ⊢;obtain⟨c1,c2,c3,c4,c5,c6⟩:=kF Tv;have ev:=fk n c a;have e1:=(tC (fk n) L _ _).e0 he;have r1:=(hx c a lo h hc hv c1 c2 jB (hr a jE) c5 e1).1;exact r1.seq ht (aL.oJ c1 c2 c5) jB jB (I3 ht hx L _ _ _ hi (h.ev ev) (ev.aa.trans hc) (hv.ev ev) hn hl (fun x hx=>hr x (by simp[hx])) c6 he)
theorem Ec(a:Int):∀(ts:TG) (ps:List bK) (c:Ck),(iv a c ts ps).types=c.types
 |[],ps,c=>by rw[ub]
 |_::_,[],c=>by rw[tJ]
 |x::ts,p::ps,c=>by
  unfold iv;split
  ·rw[Ec a ts ps _];exact lM _ _ _
  ·rfl
variable{t:aH}{n:Nat}
def Rc(ht:aR t)(hx:A9 t n){c:Ck}(h:bE c)(hc:c.aa=t)(hv:cV c)(h0:0<=a)(h1:a<t.nodes.length)(hn:a.toNat<=n)(hk:(nth t.nodes a.toNat).kind=21)(Tv:aL t.nodes lo (nth t.nodes a.toNat).l a.toNat)(he:(iS (az n) c a).1.e=0) :
  gk t lo a.toNat c (iS (az n) c a).1/\(0<=(iS (az n) c a).2/\(iS (az n) c a).2<=4)/\0<=jt bg.name (nth t.nodes a.toNat).name t.aw 0 (-1)/\(nth t.nodes a.toNat).l.length=(nth t.aw (jt bg.name (nth t.nodes a.toNat).name t.aw 0 (-1)).toNat).params.length:=by
 have p':c.node a=nth t.nodes a.toNat:=by unfold Ck.node;rw[hc]
 have Ui:=(ht.shape a.toNat jB).1.call hk;unfold iS at he ⊢;split at he
 ·exact(pX jC he).elim
 rename_i hf;rw[if_neg hf];simp only at he ⊢;have e1:=(zm a _ _ _).e0 he;split at e1
 ·exact(pX jC e1).elim
 rename_i hl;rw[if_neg hl];have r:=I3 ht hx (c.node a).l c [] lo a.toNat h hc hv hn jB (fun x Ug=>.inl (Ui x (by rw[<-p'];exact Ug))) (by rw[p'];exact Tv) e1;have Yj:fK c a=jt bg.name (nth t.nodes a.toNat).name t.aw 0 (-1):=by unfold fK;rw[p',hc]
 refine⟨r.post (Ec _ _ _ _),?_,by rw[<-Yj];omega,by rw[<-Yj,<-p',<-hc];omega⟩;have UX:(nth c.aa.aw (fK c a).toNat)∈c.aa.aw\/(nth c.aa.aw (fK c a).toNat)=default:=by
  by_cases hi:(fK c a).toNat<c.aa.aw.length
  ·exact .inl (fg hi)
  ·exact .inr (HI (Nat.le_of_not_lt hi))
 rcases UX with UX|UX
 ·exact(ht.fn _ (by rw[<-hc];exact UX)).1.ret
 ·rw[UX];decide
def SA(s:TI)(a b:Int):0<=lO s a b/\lO s a b<=4:=by
 unfold lO;repeat' split
 all_goals omega
def Re(ht:aR t){c:Ck}{T:Int}(hl:c'.types.length=t.nodes.length)(h0:0<=a)(h1:a<t.nodes.length)(Tv:aL t.nodes lo (nth t.nodes a.toNat).l a.toNat)(r:gk t lo a.toNat c c')(hT:vD t (c'.types.set a.toNat T) a.toNat) :
  gk t lo (a.toNat+1) c (c'.note a T)/\nth (c'.note a T).types a.toNat=T:=by
 have hs:∀k,nth (c'.note a T).types k=if a.toNat=k/\k<c'.types.length then T else nth c'.types k:=fun k=>xH _ _ _ _
 refine⟨⟨fun k hk=>?_,?_⟩,by rw[hs,if_pos ⟨rfl,jB⟩]⟩
 ·have Tu:=Tv.le;rw[hs,jN];exact r.tw k jB
 ·refine(r.all.aZ ht Tv jB fun i _ h2=>by rw[hs,jN]).join fun k g1 g2=>?_
  have:k=a.toNat:=jB;subst this;exact hT
theorem xC{t:aH}(ht:aR t):∀n,A9 t n
 |0=>fun c a lo h hc hv h0 h1 hn=>by omega
 |n+1=>fun c a lo h hc hv h0 h1 hn hr Tv he=>by
  have hx:=xC ht n;have e0:=(fk (n+1) c a).e0 he;unfold az at he ⊢;rw[jN]at he ⊢;simp only at he ⊢;have he:(cr (az n) c a).1.e=0:=he;have p':c.node a=nth t.nodes a.toNat:=by unfold Ck.node;rw[hc]
  have sh:=(ht.shape a.toNat jB).1;have I':(cr (az n) c a).1.types.length=t.nodes.length:=by rw[(Br (fk n) c a).types,h.types,hc]
  -- what is to be shown of the node itself
  suffices hs:gk t lo a.toNat c (cr (az n) c a).1/\vD t ((cr (az n) c a).1.types.set a.toNat (cr (az n) c a).2) a.toNat/\0<=(cr (az n) c a).2/\(cr (az n) c a).2<=4 by obtain⟨s1,s2,s3⟩:=hs;obtain⟨g1,g2⟩:=Re ht I' h0 h1 Tv s1 s2;exact⟨g1,g2,s3⟩
  have Ty:∀T,nth ((cr (az n) c a).1.types.set a.toNat T) a.toNat=T:=fun T=>by rw[xH,if_pos ⟨rfl,jB⟩]
  have UG:∀T k,k≠a.toNat->nth ((cr (az n) c a).1.types.set a.toNat T) k=nth (cr (az n) c a).1.types k:=fun T k hk=>by rw[xH,jN]
  have leaf:(nth t.nodes a.toNat).l=[]->∀c',c'.types=c.types->gk t lo a.toNat c c':=fun hl c' e=>by
   rw[hl]at Tv;have:lo=a.toNat:=by cases Tv;rfl
   subst this;exact⟨.same e,.none⟩
  have kid1:∀c0 x,bE c0->c0.aa=t->cV c0->c0.types=c.types->(nth t.nodes a.toNat).l=[x]->fq (bW t.nodes x)->(az n c0 x).1.e=0->gk t lo a.toNat c (az n c0 x).1/\nth (az n c0 x).1.types x.toNat=(az n c0 x).2/\x.toNat≠a.toNat:=fun c0 x g1 g2 g3 g4 hl Xd Ua=>by rw[hl]at Tv;obtain⟨c1,c2,c3,c4,c5⟩:=ko Tv;obtain⟨r1,r2,_⟩:=hx c0 x lo g1 g2 g3 c1 c2 jB Xd c5 Ua;rw[c4];exact⟨r1.pre g4,r2,jB⟩
  have kd:∀i,c.aF a i=nth (nth t.nodes a.toNat).l i:=fun i=>by unfold Ck.aF;rw[p']
  have Zb:(nth t.nodes a.toNat).kind=1\/(nth t.nodes a.toNat).kind=2\/(nth t.nodes a.toNat).kind=3\/(nth t.nodes a.toNat).kind=4\/(nth t.nodes a.toNat).kind=5\/(nth t.nodes a.toNat).kind=6\/(nth t.nodes a.toNat).kind=7\/(nth t.nodes a.toNat).kind=8\/(nth t.nodes a.toNat).kind=9\/(nth t.nodes a.toNat).kind=19\/(nth t.nodes a.toNat).kind=20\/(nth t.nodes a.toNat).kind=21:=by have:fq (nth t.nodes a.toNat).kind:=hr;unfold fq cQ at this;omega
  rcases Zb with k|k|k|k|k|k|k|k|k|k|k|k
  ·have e:cr (az n) c a=(c,1):=by unfold cr;simp only;rw[p',k];rfl
   rw[e]at Ty ⊢;refine⟨leaf (sh.zero jB) _ rfl,?_,jE,jE⟩;constructor<;>intro k'<;>first|omega|exact Ty _
  ·have e:cr (az n) c a=(c,2):=by unfold cr;simp only;rw[p',k];rfl
   rw[e]at Ty ⊢;refine⟨leaf (sh.zero jB) _ rfl,?_,jE,jE⟩;constructor<;>intro k'<;>first|omega|exact Ty _
  ·have e:cr (az n) c a=(c,3):=by unfold cr;simp only;rw[p',k];rfl
   rw[e]at Ty ⊢;refine⟨leaf (sh.zero jB) _ rfl,?_,jE,jE⟩;constructor<;>intro k'<;>first|omega|exact Ty _
  ·have e:cr (az n) c a=c.named a:=by unfold cr;simp only;rw[p',k];rfl
   rw[e]at Ty he ⊢;have Wi:=NH hv he;refine⟨leaf (sh.zero jB) _ (zI c a),?_,jB,jB⟩;constructor<;>intro k'<;>first|omega|(rw[Ty];exact Wi)
  ·have e:cr (az n) c a=((az n (c.named a).1 (c.aF a 0)).1.av (decide ((c.named a).2=4) && decide ((az n (c.named a).1 (c.aF a 0)).2=1)) a,1):=by unfold cr;simp only;rw[p',k];rfl
   obtain⟨x,hl,Ua⟩:=sh.one jB;have TZ:c.aF a 0=x:=by rw[kd,hl];rfl
   rw[e]at Ty UG he ⊢;rw[TZ]at Ty UG he ⊢;obtain⟨b1,b2⟩:=jw he;simp only[Bool.and_eq_true,decide_eq_true_eq]at b1;have ev:=nE c a;obtain⟨r1,r2,r3⟩:=kid1 (c.named a).1 x (h.ev ev) (ev.aa.trans hc) (hv.ev ev) (zI c a) hl (.inl Ua) b2;refine⟨r1.post (lM _ _ _),?_,jE,jE⟩;constructor<;>intro k'<;>first|omega|skip
   refine⟨Ty _,?_⟩;rw[hl];show nth (List.set _ _ _) x.toNat=1;rw[UG _ _ r3];show nth (Ck.av _ _ _).types x.toNat=1;rw[lM,r2];exact b1.2
  ·have e:cr (az n) c a=((az n c (c.aF a 0)).1.av (decide ((az n c (c.aF a 0)).2=3) || decide ((az n c (c.aF a 0)).2=4)) a,1):=by unfold cr;simp only;rw[p',k];rfl
   obtain⟨x,hl,Ua⟩:=sh.one jB;have TZ:c.aF a 0=x:=by rw[kd,hl];rfl
   rw[e]at Ty UG he ⊢;rw[TZ]at Ty UG he ⊢;obtain⟨b1,b2⟩:=jw he;simp only[Bool.or_eq_true,decide_eq_true_eq]at b1;obtain⟨r1,r2,r3⟩:=kid1 c x h hc hv rfl hl (.inl Ua) b2;refine⟨r1.post (lM _ _ _),?_,jE,jE⟩;constructor<;>intro k'<;>first|omega|skip
   refine⟨Ty _,?_⟩;rw[hl];show nth (List.set _ _ _) x.toNat=3\/nth (List.set _ _ _) x.toNat=4;rw[UG _ _ r3];show nth (Ck.av _ _ _).types x.toNat=3\/nth (Ck.av _ _ _).types x.toNat=4;rw[lM,r2];exact b1
  ·have e:cr (az n) c a=((az n c (c.aF a 0)).1.av (decide ((az n c (c.aF a 0)).2=1)) a,1):=by unfold cr;simp only;rw[p',k];rfl
   obtain⟨x,hl,Ua⟩:=sh.one jB;have TZ:c.aF a 0=x:=by rw[kd,hl];rfl
   rw[e]at Ty UG he ⊢;rw[TZ]at Ty UG he ⊢;obtain⟨b1,b2⟩:=jw he;simp only[decide_eq_true_eq]at b1;obtain⟨r1,r2,r3⟩:=kid1 c x h hc hv rfl hl (.inl Ua) b2;refine⟨r1.post (lM _ _ _),?_,jE,jE⟩;constructor<;>intro k'<;>first|omega|skip
   refine⟨Ty _,?_⟩;rw[hl];show nth (List.set _ _ _) x.toNat=1;rw[UG _ _ r3];show nth (Ck.av _ _ _).types x.toNat=1;rw[lM,r2];exact b1
  ·have e:cr (az n) c a=((az n c (c.aF a 0)).1.av (decide ((az n c (c.aF a 0)).2=2)) a,2):=by unfold cr;simp only;rw[p',k];rfl
   obtain⟨x,hl,Ua⟩:=sh.one jB;have TZ:c.aF a 0=x:=by rw[kd,hl];rfl
   rw[e]at Ty UG he ⊢;rw[TZ]at Ty UG he ⊢;obtain⟨b1,b2⟩:=jw he;simp only[decide_eq_true_eq]at b1;obtain⟨r1,r2,r3⟩:=kid1 c x h hc hv rfl hl (.inl Ua) b2;refine⟨r1.post (lM _ _ _),?_,jE,jE⟩;constructor<;>intro k'<;>first|omega|skip
   refine⟨Ty _,?_⟩;rw[hl];show nth (List.set _ _ _) x.toNat=2;rw[UG _ _ r3];show nth (Ck.av _ _ _).types x.toNat=2;rw[lM,r2];exact b1
  ·have e:cr (az n) c a=((az n (az n c (c.aF a 0)).1 (c.aF a 1)).1.av (!decide (lO (c.node a).name (az n c (c.aF a 0)).2 (az n (az n c (c.aF a 0)).1 (c.aF a 1)).2=0)) a,lO (c.node a).name (az n c (c.aF a 0)).2 (az n (az n c (c.aF a 0)).1 (c.aF a 1)).2):=by unfold cr;simp only;rw[p',k];rfl
   obtain⟨x,y,hl,Ua,WT⟩:=sh.two jB;have TZ:c.aF a 0=x:=by rw[kd,hl];rfl
   have Ue:c.aF a 1=y:=by rw[kd,hl];rfl
   rw[e]at Ty UG he ⊢;rw[TZ,Ue]at Ty UG he ⊢;obtain⟨b1,b2⟩:=jw he;simp only[Bool.not_eq_true',decide_eq_false_iff_not]at b1;have ev:=fk n c x;have b0:(az n c x).1.e=0:=(fk n _ y).e0 b2;rw[hl]at Tv;obtain⟨c1,c2,c3,c4,c5,c6⟩:=kF Tv;obtain⟨d1,d2,d3,d4,d5⟩:=ko c6;obtain⟨r1,r2,_⟩:=hx c x lo h hc hv c1 c2 jB (.inl Ua) c5 b0;obtain⟨q1,q2,_⟩:=hx (az n c x).1 y (x.toNat+1) (h.ev ev) (ev.aa.trans hc) (hv.ev ev) d1 d2 jB (.inl WT) d5 b2;have rr:=r1.seq ht (aL.oJ c1 c2 c5) jB jB q1;rw[d4];refine⟨rr.post (lM _ _ _),?_,SA _ _ _⟩;rw[d4]at Ty UG;rw[<-d4];rw[<-d4]at Ty UG;have ex:nth ((az n (az n c x).1 y).1.types) x.toNat=(az n c x).2:=by rw[q1.tw _ jB,r2]
   constructor<;>intro k'<;>first|omega|skip
   have g0:=Ty (lO (c.node a).name (az n c x).2 (az n (az n c x).1 y).2);have g1:=UG (lO (c.node a).name (az n c x).2 (az n (az n c x).1 y).2) x.toNat jB;have g2:=UG (lO (c.node a).name (az n c x).2 (az n (az n c x).1 y).2) y.toNat jB;simp only[lM]at g0 g1 g2 ⊢;rw[hl];show _=lO _ (nth _ x.toNat) (nth _ y.toNat)/\_;rw[g0,g1,g2,ex,q2,<-p'];exact⟨rfl,b1⟩
  ·have e:cr (az n) c a=(c,1):=by unfold cr;simp only;rw[p',k];rfl
   rw[e]at Ty ⊢;refine⟨leaf (sh.zero jB) _ rfl,?_,jE,jE⟩;constructor<;>intro k'<;>first|omega|exact Ty _
  ·have e:cr (az n) c a=((az n c (c.aF a 0)).1.av (decide ((az n c (c.aF a 0)).2=1)) a,4):=by unfold cr;simp only;rw[p',k];rfl
   obtain⟨x,hl,Ua⟩:=sh.one jB;have TZ:c.aF a 0=x:=by rw[kd,hl];rfl
   rw[e]at Ty he ⊢;rw[TZ]at Ty he ⊢;obtain⟨b1,b2⟩:=jw he;obtain⟨r1,r2,r3⟩:=kid1 c x h hc hv rfl hl (.inl Ua) b2;refine⟨r1.post (lM _ _ _),?_,jE,jE⟩;constructor<;>intro k'<;>first|omega|exact Ty _
  ·have e:cr (az n) c a=iS (az n) c a:=by unfold cr;simp only;rw[p',k];rfl
   rw[e]at he ⊢;obtain⟨r1,r2,r3⟩:=Rc ht hx h hc hv h0 h1 jB k Tv he;refine⟨r1,?_,r2⟩;constructor<;>intro k'<;>first|omega|exact r3
def gk.skip{c:Ck}(hk:fw (bW t.nodes a)\/bW t.nodes a=18)(hcd:(nth t.nodes a.toNat).kind=15\/(nth t.nodes a.toNat).kind=16\/(nth t.nodes a.toNat).kind=10->((nth t.nodes a.toNat).kind=10\/nth c'.types (nth (nth t.nodes a.toNat).l 0).toNat=2)/\1<=nth c'.types (nth (nth t.nodes a.toNat).l 0).toNat/\nth c'.types (nth (nth t.nodes a.toNat).l 0).toNat<=4)(r:gk t lo a.toNat c c'):gk t lo (a.toNat+1) c c':=by
 refine⟨r.tw.mono jl jB,fun k h1 h2=>?_⟩;by_cases h:k<a.toNat
 ·exact r.all k h1 h
 ·have:k=a.toNat:=jB;subst this;have hk:fw (nth t.nodes a.toNat).kind\/(nth t.nodes a.toNat).kind=18:=hk;unfold fw at hk;constructor<;>intro k'<;>first|omega|exact(hcd jB).1.resolve_left jB|exact(hcd jB).2
def DZ(t:aH)(n:Nat):Prop:=∀(c:Ck) (a:Int) (lo:Nat),bE c->c.aa=t->cV c->c.e=0->0<=a->a<t.nodes.length->a.toNat<n->fw (bW t.nodes a)->aL t.nodes lo (nth t.nodes a.toNat).l a.toNat->(bP n c a).e=0->
 gk t lo (a.toNat+1) c (bP n c a)/\cV (bP n c a)
def Sv.e0{c:Ck}(s:Sv c c')(h:c'.e=0):c.e=0:=Classical.byContradiction fun e=>s.err e h
theorem Al{t:aH}(ht:aR t){st:Ck->Int->Ck}{C:Int->Prop}{n:Nat}(hs:∀c a,bE c->c.e=0->Sv c (st c a))
  (P':∀(c:Ck) (a:Int) (lo:Nat),bE c->c.aa=t->cV c->c.e=0->0<=a->a<t.nodes.length->a.toNat<n->C (bW t.nodes a)->aL t.nodes lo (nth t.nodes a.toNat).l a.toNat->(st c a).e=0->gk t lo (a.toNat+1) c (st c a)/\cV (st c a)) :
  ∀(L:TG) (c:Ck) (lo hi:Nat),bE c->c.aa=t->cV c->hi<=n->hi<=t.nodes.length->(∀x∈L,C (bW t.nodes x))->aL t.nodes lo L hi->(dK st c L).e=0->gk t lo hi c (dK st c L)/\cV (dK st c L)
 |[],c,lo,hi,h,hc,hv,hn,hl,hr,Tv,he=>by cases Tv;unfold dK;exact⟨⟨.refl _ _ _,.none⟩,hv⟩
 |a::L,c,lo,hi,h,hc,hv,hn,hl,hr,Tv,he=>by have e0:=(qQ hs (a::L) c h).e0 he;unfold dK at he ⊢;rw[if_pos e0]at he ⊢;obtain⟨c1,c2,c3,c4,c5,c6⟩:=kF Tv;have s:=hs c a h e0;have e1:=(qQ hs L _ s.inv).e0 he;obtain⟨r1,v1⟩:=P' c a lo h hc hv e0 c1 c2 jB (hr a jE) c5 e1;obtain⟨r2,v2⟩:=Al ht hs P' L _ _ hi s.inv (s.aa.trans hc) v1 hn hl (fun x hx=>hr x (by simp[hx])) c6 he;exact⟨r1.seq ht (aL.oJ c1 c2 c5) jB jB r2,v2⟩
def Dn(ht:aR t)(P':DZ t n)(c:Ck)(a:Int)(lo:Nat)(h:bE c)(hc:c.aa=t)(hv:cV c)(h0:0<=a)(h1:a<t.nodes.length)(hn:a.toNat<=n)(hk:bW t.nodes a=18)(Tv:aL t.nodes lo (nth t.nodes a.toNat).l a.toNat)(he:(fl (bP n) c a).e=0) :
  gk t lo (a.toNat+1) c (fl (bP n) c a)/\cV (fl (bP n) c a):=by
 have sv:=qs (ot n) h a;have p':c.node a=nth t.nodes a.toNat:=by unfold Ck.node;rw[hc]
 have hb:=(ht.shape a.toNat jB).1.block hk;have ev:=ri c a;obtain⟨r,_⟩:=Al ht (ot n) (C:=fw) P' (c.node a).l (c.ai a) lo a.toNat (h.ev ev) (ev.aa.trans hc) (hv.ev ev) hn jB (fun x hx=>hb x (by rw[<-p'];exact hx)) (by rw[p'];exact Tv) he;have r:gk t lo a.toNat c (fl (bP n) c a):=gk.post (b:=dK (bP n) (c.ai a) (c.node a).l) (gk.pre (a:=c) (b:=c.ai a) rfl r) rfl;have Xe:(nth t.nodes a.toNat).kind=18:=hk;refine⟨r.skip (.inr hk) (fun h=>jB),?_⟩;unfold cV;rw[sv.2];exact hv
variable{c0:Ck}{x:Int}
def wE(ht:aR t){c:Ck}(h:bE c0)(hc:c0.aa=t)(hv:cV c0)(Wi:c0.types=c.types)(hn:a.toNat<=n)(hl:(nth t.nodes a.toNat).l=[x])(hx:fq (bW t.nodes x))(Tv:aL t.nodes lo (nth t.nodes a.toNat).l a.toNat)(he:(az n c0 x).1.e=0) :
  gk t lo a.toNat c (az n c0 x).1/\0<=(az n c0 x).2/\(az n c0 x).2<=4/\nth (az n c0 x).1.types x.toNat=(az n c0 x).2:=by
 rw[hl]at Tv;obtain⟨c1,c2,c3,c4,c5⟩:=ko Tv;obtain⟨r1,r2,r3⟩:=xC ht n c0 x lo h hc hv c1 c2 jB hx c5 he;rw[c4];exact⟨r1.pre Wi,r3.1,r3.2,r2⟩
def Nd(ht:aR t){c:Ck}{y:Int}(h:bE c0)(hc:c0.aa=t)(hv:cV c0)(Wi:c0.types=c.types)(hn:a.toNat<=n)(hl:(nth t.nodes a.toNat).l=[x,y])(hx:cQ (bW t.nodes x))(hy:cQ (bW t.nodes y))(Tv:aL t.nodes lo (nth t.nodes a.toNat).l a.toNat)(T3:a.toNat<=t.nodes.length)(he:(az n (az n c0 x).1 y).1.e=0) :
  gk t lo a.toNat c (az n (az n c0 x).1 y).1:=by
 rw[hl]at Tv;obtain⟨c1,c2,c3,c4,c5,c6⟩:=kF Tv;obtain⟨d1,d2,d3,d4,d5⟩:=ko c6;have ev:=fk n c0 x;obtain⟨r1,_⟩:=xC ht n c0 x lo h hc hv c1 c2 jB (.inl hx) c5 ((fk n _ y).e0 he);obtain⟨q1,_⟩:=xC ht n (az n c0 x).1 y (x.toNat+1) (h.ev ev) (ev.aa.trans hc) (hv.ev ev) d1 d2 jB (.inl hy) d5 he;rw[d4];exact(r1.seq ht (aL.oJ c1 c2 c5) jB jB q1).pre Wi
def wA{c:Ck}{p:Prop}[Decidable p]{e:Int}(he:e≠0)(h:(if p then c.aE e a else c).e=0):¬p/\(if p then c.aE e a else c)=c:=by
 split at h
 ·exact(pX he h).elim
 ·rename_i hp;exact⟨hp,if_neg hp⟩
theorem Gl{t:aH}(ht:aR t):∀n,DZ t n
 |0=>fun c a lo h hc hv e0 h0 h1 hn=>by omega
 |n+1=>fun c a lo h hc hv e0 h0 h1 hn hr Tv he=>by
  have hs:=Gl ht n;have p':(c.ai a).node a=nth t.nodes a.toNat:=by unfold Ck.node;show nth c.aa.nodes _=_;rw[hc]
  have sh:=(ht.shape a.toNat jB).1;have kd:∀i,(c.ai a).aF a i=nth (nth t.nodes a.toNat).l i:=fun i=>by unfold Ck.aF;rw[p']
  have ev:=ri c a;have h':=h.ev ev;have UT:=ev.aa.trans hc;have T':=hv.ev ev;suffices hsf:gk t lo a.toNat c (bP (n+1) c a)/\cV (bP (n+1) c a)/\((nth t.nodes a.toNat).kind=15\/(nth t.nodes a.toNat).kind=16\/(nth t.nodes a.toNat).kind=10->((nth t.nodes a.toNat).kind=10\/nth (bP (n+1) c a).types (nth (nth t.nodes a.toNat).l 0).toNat=2)/\1<=nth (bP (n+1) c a).types (nth (nth t.nodes a.toNat).l 0).toNat/\nth (bP (n+1) c a).types (nth (nth t.nodes a.toNat).l 0).toNat<=4) from⟨hsf.1.skip (.inl hr) hsf.2.2,hsf.2.1⟩
  have Zb:(nth t.nodes a.toNat).kind=10\/(nth t.nodes a.toNat).kind=11\/(nth t.nodes a.toNat).kind=12\/(nth t.nodes a.toNat).kind=13\/(nth t.nodes a.toNat).kind=14\/(nth t.nodes a.toNat).kind=17\/(nth t.nodes a.toNat).kind=15\/(nth t.nodes a.toNat).kind=16:=by have:fw (nth t.nodes a.toNat).kind:=hr;unfold fw at this;omega
  rcases Zb with k|k|k|k|k|k|k
  ·have e:bP (n+1) c a=o5 (az n) (c.ai a) a:=by unfold bP;simp only;rw[p',k];rfl
   obtain⟨x,hl,Xd⟩:=sh.right jB;have TZ:(c.ai a).aF a 0=x:=by rw[kd,hl];rfl
   rw[e]at he ⊢;rw[tT]at he ⊢;have he:(eH (az n) (c.ai a) a).e=0:=he;obtain⟨_,q1⟩:=wA jC he;have q1:eH (az n) (c.ai a) a=js (az n) (c.ai a) a:=q1;rw[q1]at he;obtain⟨_,q2⟩:=wA jC he;have q2:js (az n) (c.ai a) a=iD (az n) (c.ai a) a:=q2;rw[q2]at he;unfold iD at he;rw[TZ]at he;obtain⟨b1,b2⟩:=jw he;simp only[Bool.not_eq_true',decide_eq_false_iff_not]at b1;obtain⟨r1,r2,r3,r4⟩:=wE (c:=c) ht h' UT T' rfl jB hl Xd Tv b2;have Wi:(eH (az n) (c.ai a) a).types=(az n (c.ai a) x).1.types:=by rw[q1,q2];unfold iD;rw[TZ,lM]
   refine⟨r1.post Wi,fun v XD=>?_,fun _=>⟨.inl k,by rw[hl];show 1<=nth (eH (az n) (c.ai a) a).types x.toNat/\nth (eH (az n) (c.ai a) a).types x.toNat<=4;rw[Wi,r4];omega⟩⟩
   have XD:v∈(eH (az n) (c.ai a) a).vars++[(⟨((c.ai a).node a).name,(az n (c.ai a) ((c.ai a).aF a 0)).2,(eH (az n) (c.ai a) a).size⟩:bD)]:=XD;rcases List.mem_append.1 XD with hm|hm
   ·rw[(yo (fk n) (c.ai a) a).vars]at hm;exact T' v hm
   ·rw[List.mem_singleton.1 hm];show 1<=(az n (c.ai a) ((c.ai a).aF a 0)).2/\(az n (c.ai a) ((c.ai a).aF a 0)).2<=4;rw[TZ];omega
  ·have e:bP (n+1) c a=(az n ((c.ai a).named a).1 ((c.ai a).aF a 0)).1.av (decide (((c.ai a).named a).2=(az n ((c.ai a).named a).1 ((c.ai a).aF a 0)).2)) a:=by unfold bP;simp only;rw[p',k];rfl
   obtain⟨x,hl,Xd⟩:=sh.right jB;have TZ:(c.ai a).aF a 0=x:=by rw[kd,hl];rfl
   rw[e]at he ⊢;rw[TZ]at he ⊢;obtain⟨b1,b2⟩:=jw he;have en:=nE (c.ai a) a;obtain⟨r1,_⟩:=wE (c:=c) ht (h'.ev en) (en.aa.trans UT) (T'.ev en) (zI _ _) jB hl Xd Tv b2;exact⟨r1.post (lM _ _ _),(T'.ev en).ev ((fk n _ _).trans (ky _ _ _)),fun h=>jB⟩
  ·have e:bP (n+1) c a=(az n (az n ((c.ai a).named a).1 ((c.ai a).aF a 0)).1 ((c.ai a).aF a 1)).1.av (decide (((c.ai a).named a).2=4) && decide ((az n ((c.ai a).named a).1 ((c.ai a).aF a 0)).2=1) && decide ((az n (az n ((c.ai a).named a).1 ((c.ai a).aF a 0)).1 ((c.ai a).aF a 1)).2=1)) a:=by unfold bP;simp only;rw[p',k];rfl
   obtain⟨x,y,hl,Ua,WT⟩:=sh.two jB;have TZ:(c.ai a).aF a 0=x:=by rw[kd,hl];rfl
   have Ue:(c.ai a).aF a 1=y:=by rw[kd,hl];rfl
   rw[e]at he ⊢;rw[TZ,Ue]at he ⊢;obtain⟨b1,b2⟩:=jw he;have en:=nE (c.ai a) a;have r1:=Nd (c:=c) ht (h'.ev en) (en.aa.trans UT) (T'.ev en) (zI _ _) jB hl Ua WT Tv jB b2;exact⟨r1.post (lM _ _ _),(T'.ev en).ev (((fk n _ _).trans (fk n _ _)).trans (ky _ _ _)),fun h=>jB⟩
  ·have e:bP (n+1) c a=(az n (c.ai a) ((c.ai a).aF a 0)).1:=by unfold bP;simp only;rw[p',k];rfl
   obtain⟨x,hl,hxk⟩:=sh.sC k;have TZ:(c.ai a).aF a 0=x:=by rw[kd,hl];rfl
   rw[e]at he ⊢;rw[TZ]at he ⊢;obtain⟨r1,_⟩:=wE (c:=c) ht h' UT T' rfl jB hl (by rw[hxk];unfold fq;omega) Tv he;exact⟨r1,T'.ev (fk n _ _),fun h=>jB⟩
  ·have e:bP (n+1) c a=(az n (c.ai a) ((c.ai a).aF a 0)).1.av (!decide ((az n (c.ai a) ((c.ai a).aF a 0)).2=4)) a:=by unfold bP;simp only;rw[p',k];rfl
   obtain⟨x,hl,Ua⟩:=sh.one jB;have TZ:(c.ai a).aF a 0=x:=by rw[kd,hl];rfl
   rw[e]at he ⊢;rw[TZ]at he ⊢;obtain⟨b1,b2⟩:=jw he;obtain⟨r1,_⟩:=wE (c:=c) ht h' UT T' rfl jB hl (.inl Ua) Tv b2;exact⟨r1.post (lM _ _ _),T'.ev ((fk n _ _).trans (ky _ _ _)),fun h=>jB⟩
  ·have e:bP (n+1) c a=kH (az n) (c.ai a) a:=by unfold bP;simp only;rw[p',k];rfl
   rw[e]at he ⊢;unfold kH at he ⊢;rw[p']at he ⊢;simp only at he ⊢;split at he
   ·exact(pX jC he).elim
   rename_i hf;rw[if_neg hf];rcases sh.ret k with hl|⟨x,hl,Ua⟩
   ·rw[hl];rw[if_neg jC];rw[hl]at Tv;have:lo=a.toNat:=by cases Tv;rfl
    subst this;exact⟨⟨.same rfl,.none⟩,T',fun h=>jB⟩
   ·have TZ:(c.ai a).aF a 0=x:=by rw[kd,hl];rfl
    have Vp:(nth t.nodes a.toNat).l.length=1:=by rw[hl];rfl
    rw[if_pos Vp]at he ⊢;rw[TZ]at he ⊢;obtain⟨b1,b2⟩:=jw he;obtain⟨r1,_⟩:=wE (c:=c) ht h' UT T' rfl jB hl (.inl Ua) Tv b2;exact⟨r1.post (lM _ _ _),T'.ev ((fk n _ _).trans (ky _ _ _)),fun h=>jB⟩
  ·have e:bP (n+1) c a=dK (fl (bP n)) ((az n (c.ai a) ((c.ai a).aF a 0)).1.av (decide ((az n (c.ai a) ((c.ai a).aF a 0)).2=2)) a) (((c.ai a).node a).l.drop 1):=by
    unfold bP;simp only;rw[p'];rcases k with k|k<;>rw[k]<;>rfl
   have XM:∃x L,(nth t.nodes a.toNat).l=x::L/\cQ (bW t.nodes x)/\∀y∈L,bW t.nodes y=18:=by
    rcases k with k|k
    ·obtain⟨x,y,hx,hy,hl|⟨z,hl,hz⟩⟩:=sh.lw k
     ·exact⟨x,[y],hl,hx,fun u hu=>by rw[List.mem_singleton.1 hu];exact hy⟩
     ·exact⟨x,[y,z],hl,hx,fun u hu=>by
       rcases List.mem_cons.1 hu with rfl|hu
       ·exact hy
       ·rw[List.mem_singleton.1 hu];exact hz⟩
    ·obtain⟨x,y,hl,hx,hy⟩:=sh.dZ k;exact⟨x,[y],hl,hx,fun u hu=>by rw[List.mem_singleton.1 hu];exact hy⟩
   obtain⟨x,L,hl,Ua,hL⟩:=XM;have TZ:(c.ai a).aF a 0=x:=by rw[kd,hl];rfl
   rw[e]at he ⊢;rw[p',hl,TZ]at he ⊢;have he:(dK (fl (bP n)) ((az n (c.ai a) x).1.av (decide ((az n (c.ai a) x).2=2)) a) L).e=0:=he;show gk t lo a.toNat c (dK (fl (bP n)) ((az n (c.ai a) x).1.av (decide ((az n (c.ai a) x).2=2)) a) L)/\cV (dK (fl (bP n)) ((az n (c.ai a) x).1.av (decide ((az n (c.ai a) x).2=2)) a) L)/\((nth t.nodes a.toNat).kind=15\/(nth t.nodes a.toNat).kind=16\/(nth t.nodes a.toNat).kind=10->((nth t.nodes a.toNat).kind=10\/nth (dK (fl (bP n)) ((az n (c.ai a) x).1.av (decide ((az n (c.ai a) x).2=2)) a) L).types (nth (x::L) 0).toNat=2)/\1<=nth (dK (fl (bP n)) ((az n (c.ai a) x).1.av (decide ((az n (c.ai a) x).2=2)) a) L).types (nth (x::L) 0).toNat/\nth (dK (fl (bP n)) ((az n (c.ai a) x).1.av (decide ((az n (c.ai a) x).2=2)) a) L).types (nth (x::L) 0).toNat<=4);have ex:=(fk n (c.ai a) x).trans (ky _ (decide ((az n (c.ai a) x).2=2)) a);have UW:=h'.ev ex;have Z4:∀(q:Ck) b,bE q->q.e=0->Sv q (fl (bP n) q b):=fun q b hq _=>(qs (ot n) hq b).1
   have e1:=(qQ Z4 L _ UW).e0 he;obtain⟨b1,b2⟩:=jw e1;rw[hl]at Tv;obtain⟨c1,c2,c3,c4,c5,c6⟩:=kF Tv;obtain⟨r1,r1b,_⟩:=xC ht n (c.ai a) x lo h' UT T' c1 c2 jB (.inl Ua) c5 b2;obtain⟨r2,v2⟩:=Al ht Z4 (C:=fun k=>k=18) (n:=n) (fun q b l g1 g2 g3 _ g5 g6 g7 g8 g9 g10=>Dn ht hs q b l g1 g2 g3 g5 g6 jB g8 g9 g10) L _ (x.toNat+1) a.toNat UW (ex.aa.trans UT) (T'.ev ex) jB jB hL c6 he;exact⟨((gk.pre (a:=c) (b:=c.ai a) rfl r1).post (lM _ _ _)).seq ht (aL.oJ c1 c2 c5) jB jB r2,v2,fun _=>by show(_\/nth _ x.toNat=2)/\1<=nth _ x.toNat/\nth _ x.toNat<=4;rw[r2.tw x.toNat (.inl jB),lM,r1b];have:=of_decide_eq_true b1;omega⟩
theorem Ds{t:aH}(body:Int):∀(ps:List bK) (c:Ck) (i:Int),cV c->(∀p∈ps,1<=p.ty/\p.ty<=4)->cV (fy body c ps i)/\(fy body c ps i).types=c.types/\((fy body c ps i).e=0->c.e=0)
 |[],c,i,h,hp=>by unfold fy;exact⟨h,rfl,id⟩
 |p::ps,c,i,h,hp=>by
  have fin:∀c1:Ck,Ev c c1->c1.types=c.types->cV (fy body (mB c1 ⟨p.name,p.ty,i⟩) ps (i+1))/\(fy body (mB c1 ⟨p.name,p.ty,i⟩) ps (i+1)).types=c.types/\((fy body (mB c1 ⟨p.name,p.ty,i⟩) ps (i+1)).e=0->c.e=0):=fun c1 s e=>by
   obtain⟨a,b,d⟩:=Ds (t:=t) body ps (mB c1 ⟨p.name,p.ty,i⟩) (i+1) (fun v hv=>by
    have hv:v∈c1.vars++[(⟨p.name,p.ty,i⟩:bD)]:=hv;rcases List.mem_append.1 hv with hv|hv
    ·exact h.ev s v hv
    ·rw[List.mem_singleton.1 hv];exact hp p jE) (fun q hq=>hp q (by simp[hq]))
   exact⟨a,b.trans e,fun hh=>s.e0 (d hh)⟩
  unfold fy;simp only;split
  ·exact fin _ (n8 c jC body) (CX _ _ _)
  ·exact fin _ (.refl c) rfl
def SK(ht:aR t){c:Ck}(h:gy c)(hc:c.aa=t){k:Nat}(hk:k<t.aw.length)(TU:c.aP.length<6)(Tv:aL t.nodes lo (nth t.nodes (nth t.aw k).body.toNat).l (nth t.aw k).body.toNat)(he:(gM c k).e=0) :
  gk t lo ((nth t.aw k).body.toNat+1) c (gM c k)/\c.e=0:=by
 have T4:k<c.aa.aw.length:=by rw[hc];exact hk
 have Zw:=h.aa.fn _ (fg T4);have VY:bE { c with fn:=(k:Int),vars:=[],more:=[],size:=0 }:=⟨h.aa,h.types,h.slots,h.aw,by show c.aP.length<=6;omega,by show(0:Int)<=k;omega,by show(k:Int)<(c.aa.aw.length:Int);omega,by show((0:Nat):Int)<=0;omega,by show(0:Int)<=25;omega,fun _=>by show(0:Int)<=24;omega⟩;obtain⟨a,b,d⟩:=yQ (nth c.aa.aw k).body (nth c.aa.aw k).params _ 0 VY (by show(0:Int)+_<=20;omega);obtain⟨a',b',d'⟩:=Ds (t:=t) (nth c.aa.aw k).body (nth c.aa.aw k).params { c with fn:=(k:Int),vars:=[],more:=[],size:=0 } 0 (fun v hv=>by simp at hv) Zw.1.ps;have U4:=o7 ht hk;have WE:=ht.body _ (fg hk);unfold gM at he ⊢;simp only at he ⊢;rw[hc]at he ⊢;rw[hc]at a b d a' b' d';split at he
 ·rename_i e1;rw[if_pos e1];obtain⟨r,_⟩:=Dn ht (Gl ht t.nodes.length) _ (nth t.aw k).body lo a (b.trans (by rfl)) a' U4.1 U4.2 (by have:=U4.2;have:=U4.1;omega) WE Tv he;have q:=gk.pre (a:=c) b' r;exact⟨⟨fun k hk=>q.tw k hk,q.all⟩,d' e1⟩
 ·rename_i e1;exact(e1 he).elim
theorem A2{t:aH}(ht:aR t):∀(n i lo:Nat) (c:Ck),gy c->c.aa=t->c.aP.length=i->i+n=t.aw.length->aL t.nodes lo ((t.aw.drop i).map (·.body)) t.nodes.length->(gB c i n).e=0->
  gk t lo t.nodes.length c (gB c i n)/\(gB c i n).aa=t/\gy (gB c i n)/\(gB c i n).aP.length=t.aw.length
 |0,i,lo,c,h,hc,hs,hi,Tv,he=>by
  unfold gB;rw[List.drop_eq_nil_of_le jB]at Tv;have:lo=t.nodes.length:=by cases Tv;rfl
  subst this;exact⟨⟨.refl _ _ _,.none⟩,hc,h,jB⟩
 |n+1,i,lo,c,h,hc,hs,hi,Tv,he=>by
  have h6:=ht.aw;unfold gB at he ⊢;by_cases e0:c.e=0
  ·rw[if_pos e0]at he ⊢;have hk:i<t.aw.length:=jB;rw[kP hk]at Tv;obtain⟨c1,c2,c3,c4,c5,c6⟩:=kF (a:=(nth t.aw i).body) Tv;obtain⟨f1,f2,f3⟩:=Bl h (by rw[hc];exact hk) (by omega:c.aP.length<6);have e1:(gM c i).e=0:=by
    cases n with
    |zero=>unfold gB at he;exact he
    |succ m=>
     unfold gB at he;split at he
     ·assumption
     ·exact he
   obtain⟨r1,_⟩:=SK ht h hc hk jB c5 e1;obtain⟨r2,q1,q2,q3⟩:=A2 ht n (i+1) ((nth t.aw i).body.toNat+1) (gM c i) f1 (f2.trans hc) jB jB c6 he;exact⟨r1.seq ht (aL.oJ c1 c2 c5) jB jB r2,q1,q2,q3⟩
  ·rw[if_neg e0]at he;exact(e0 he).elim
structure pP(p:af):Prop where
 aa:aR p.aa
 types:p.types.length=p.aa.nodes.length
 slots:p.slots.length=p.aa.nodes.length
 fn:p.fn.length=p.aa.nodes.length
 size:p.size.length=p.aa.aw.length
 ty:fY p.aa p.types 0 p.aa.nodes.length
def IK(ht:aR t):gy (iZ (jr t))/\(iZ (jr t)).aa=t/\(iZ (jr t)).aP=[]:=by
 have ev:=Fm (jr t);refine⟨⟨by rw[ev.aa];exact ht,?_,?_,?_⟩,ev.aa,ev.aP⟩
 ·rw[ev.types,ev.aa];show(t.nodes.map _).length=t.nodes.length;simp
 ·rw[ev.slots,ev.aa];show(t.nodes.map _).length=t.nodes.length;simp
 ·rw[ev.aw,ev.aa];show(t.nodes.map _).length=t.nodes.length;simp
def xV(ht:aR t)(he:(iq t).2.2=0):pP (iq t).1/\(iq t).1.aa=t:=by
 unfold iq at he ⊢;split at he
 ·rename_i h;exact(h he).elim
 rename_i h;rw[if_neg h];have h:(ja t).e=0:=jB;obtain⟨i1,i2,i3⟩:=IK ht;obtain⟨r,q1,q2,q3⟩:=A2 ht t.aw.length 0 0 (iZ (jr t)) i1 i2 (by rw[i3];rfl) jB (by rw[List.drop_zero];exact ht.chain) h;refine⟨⟨q2.aa,q2.types,q2.slots,q2.aw,?_,?_⟩,q1⟩
 ·show(ja t).aP.length=(ja t).aa.aw.length;have e:(ja t).aa=t:=q1;rw[e];exact q3
 ·show fY (ja t).aa (ja t).types 0 (ja t).aa.nodes.length;have e:(ja t).aa=t:=q1;rw[e];exact r.all
def FA{s:TI}(he:(fX s).2.2=0):pP (fX s).1:=by
 unfold fX at he ⊢;split at he
 ·rename_i h;exact(h he).elim
 rename_i h;rw[if_neg h];have h:(gQ s).2.2=0:=jB;simp only at he ⊢;split at he
 ·cases he
 rename_i h2;split at he
 ·rename_i h3;exact(h3 he).elim
 rename_i h3;rw[if_neg h2,if_neg h3];exact(xV (uL h) jB).1
def jm(k:Int):Prop:=k=4\/k=5\/k=10\/k=11\/k=12
def dt(c:Ck):Prop:=0<=c.size/\∀v∈c.vars,0<=v.slot/\v.slot<c.size
structure fH(t:aH)(lo hi:Nat)(c c':Ck):Prop where
 sw:∀k,(k<lo\/hi<=k)->nth c'.slots k=nth c.slots k
 all:∀k,lo<=k->k<hi->jm (nth t.nodes k).kind->0<=nth c'.slots k/\nth c'.slots k<c'.size
 size:c.size<=c'.size
def fH.post{a c:Ck}(h:fH t lo hi a b)(e:c.slots=b.slots)(z:c.size=b.size):fH t lo hi a c:=⟨fun k hk=>by rw[e];exact h.sw k hk,fun k h1 h2 h3=>by rw[e,z];exact h.all k h1 h2 h3,by rw[z];exact h.size⟩
def fH.pre{a c:Ck}(e:b.slots=a.slots)(z:b.size=a.size)(h:fH t lo hi b c):fH t lo hi a c:=⟨fun k hk=>by rw[<-e];exact h.sw k hk,h.all,by rw[<-z];exact h.size⟩
def fH.refl(t:aH)(lo:Nat)(c:Ck):fH t lo lo c c:=⟨fun _ _=>rfl,fun k h1 h2=>jB,Int.le_refl _⟩
def fH.seq{a c:Ck}(h0:lo<=mid)(h1:mid<=hi)(h:fH t lo mid a b)(k:fH t mid hi b c):fH t lo hi a c:=by
 have:=k.size;refine⟨fun i Vt=>(k.sw i jB).trans (h.sw i jB),fun i g1 g2 g3=>?_,by have:=h.size;omega⟩;by_cases e:i<mid
 ·rw[k.sw i (.inl e)];have:=h.all i g1 e g3;omega
 ·exact k.all i jB g2 g3
def fH.node{c:Ck}(h:fH t lo n c c')(hn:jm (nth t.nodes n).kind->0<=nth c'.slots n/\nth c'.slots n<c'.size):fH t lo (n+1) c c':=
 ⟨fun k hk=>h.sw k jB,fun k h1 h2 h3=>by
  by_cases e:k<n
  ·exact h.all k h1 e h3
  ·have:k=n:=jB;subst this;exact hn h3,h.size⟩
def F9(c:Ck)(e a:Int):(c.aE e a).slots=c.slots/\(c.aE e a).size=c.size:=by unfold Ck.aE;split<;>exact⟨rfl,rfl⟩
def vL(c:Ck)(b:Bool)(a:Int):(c.av b a).slots=c.slots/\(c.av b a).size=c.size:=by unfold Ck.av;split;exact⟨rfl,rfl⟩;exact F9 _ _ _
theorem fH.av{t:aH}{lo hi:Nat}{a c:Ck}{b:Bool}{x:Int}(h:fH t lo hi a c):fH t lo hi a (c.av b x):=h.post (vL c b x).1 (vL c b x).2
def dt.ev{c:Ck}(h:dt c)(s:Ev c c'):dt c':=by unfold dt;rw[s.vars,s.size];exact h
def Ao{c:Ck}(h:dt c)(hn:a.toNat=n)(hl:n<c.slots.length)(he:(c.named a).1.e=0):(∀k,k≠n->nth (c.named a).1.slots k=nth c.slots k)/\0<=nth (c.named a).1.slots n/\nth (c.named a).1.slots n<c.size:=by
 unfold Ck.named at he ⊢;split
 ·rename_i hf;rw[if_pos hf]at he;exact(pX jC he).elim
 ·rename_i hf;have hv:nth c.vars (c.find (c.node a).name).toNat∈c.vars:=by
   rcases zx bD.name (c.node a).name c.vars 0 jB with⟨h1,_⟩|h1
   ·exact(hf (by show je bD.name (c.node a).name c.vars 0<0;rw[h1];decide)).elim
   ·exact fg (by show(je bD.name (c.node a).name c.vars 0).toNat<_;omega)
  have hs:∀k,nth (c.slot a (nth c.vars (c.find (c.node a).name).toNat).slot).slots k=if n=k/\k<c.slots.length then(nth c.vars (c.find (c.node a).name).toNat).slot else nth c.slots k:=fun k=>by show nth (c.slots.set a.toNat _) k=_;rw[xH,hn]
  refine⟨fun k hk=>by show nth (c.slot a _).slots k=_;rw[hs,jN],?_⟩;show 0<=nth (c.slot a _).slots n/\nth (c.slot a _).slots n<_;rw[hs,if_pos ⟨rfl,hl⟩];exact h.2 _ hv
def Gq(t:aH)(n:Nat):Prop:=∀(c:Ck) (a:Int) (lo:Nat),bE c->c.aa=t->dt c->0<=a->a<t.nodes.length->a.toNat<n->fq (bW t.nodes a)->aL t.nodes lo (nth t.nodes a.toNat).l a.toNat->(az n c a).1.e=0->fH t lo (a.toNat+1) c (az n c a).1
theorem FT{t:aH}{n:Nat}(hx:Gq t n):∀(L:TG) (c:Ck) (ts:TG) (lo hi:Nat),bE c->c.aa=t->dt c->hi<=n->(∀x∈L,fq (bW t.nodes x))->aL t.nodes lo L hi->(gv (az n) c L ts).1.e=0->fH t lo hi c (gv (az n) c L ts).1
 |[],c,ts,lo,hi,h,hc,hv,hn,hr,Tv,he=>by cases Tv;unfold gv;exact .refl _ _ _
 |a::L,c,ts,lo,hi,h,hc,hv,hn,hr,Tv,he=>by have e0:=(tC (fk n) (a::L) c ts).e0 he;unfold gv at he ⊢;rw[if_pos e0]at he ⊢;obtain⟨c1,c2,c3,c4,c5,c6⟩:=kF Tv;have ev:=fk n c a;have e1:=(tC (fk n) L _ _).e0 he;have r1:=hx c a lo h hc hv c1 c2 jB (hr a jE) c5 e1;exact r1.seq jB jB (FT hx L _ _ _ hi (h.ev ev) (ev.aa.trans hc) (hv.ev ev) hn (fun x hx=>hr x (by simp[hx])) c6 he)
theorem De(a:Int):∀(ts:TG) (ps:List bK) (c:Ck),(iv a c ts ps).slots=c.slots/\(iv a c ts ps).size=c.size
 |[],ps,c=>by rw[ub];exact⟨rfl,rfl⟩
 |_::_,[],c=>by rw[tJ];exact⟨rfl,rfl⟩
 |x::ts,p::ps,c=>by
  unfold iv;split
  ·have:=De a ts ps (c.av (decide (x=p.ty)) a);exact⟨this.1.trans (vL _ _ _).1,this.2.trans (vL _ _ _).2⟩
  ·exact⟨rfl,rfl⟩
theorem xh{t:aH}(ht:aR t):∀n,Gq t n
 |0=>fun c a lo h hc hv h0 h1 hn=>by omega
 |n+1=>fun c a lo h hc hv h0 h1 hn hr Tv he=>by
  have hx:=xh ht n;have e0:=(fk (n+1) c a).e0 he;unfold az at he ⊢;rw[jN]at he ⊢;simp only at he ⊢;have he:(cr (az n) c a).1.e=0:=he;have p':c.node a=nth t.nodes a.toNat:=by unfold Ck.node;rw[hc]
  have sh:=(ht.shape a.toNat jB).1;suffices hs:fH t lo (a.toNat+1) c (cr (az n) c a).1 from hs.post rfl rfl
  have Tu:=Tv.le;have leaf:(nth t.nodes a.toNat).l=[]->fH t lo a.toNat c c:=fun hl=>by
   rw[hl]at Tv;have:lo=a.toNat:=by cases Tv;rfl
   subst this;exact .refl _ _ _
  have kid1:∀x,(nth t.nodes a.toNat).l=[x]->fq (bW t.nodes x)->(az n c x).1.e=0->fH t lo a.toNat c (az n c x).1:=fun x hl Xd Ua=>by rw[hl]at Tv;obtain⟨c1,c2,c3,c4,c5⟩:=ko Tv;rw[c4];exact hx c x lo h hc hv c1 c2 jB Xd c5 Ua
  have kd:∀i,c.aF a i=nth (nth t.nodes a.toNat).l i:=fun i=>by unfold Ck.aF;rw[p']
  have Zb:(nth t.nodes a.toNat).kind=1\/(nth t.nodes a.toNat).kind=2\/(nth t.nodes a.toNat).kind=3\/(nth t.nodes a.toNat).kind=4\/(nth t.nodes a.toNat).kind=5\/(nth t.nodes a.toNat).kind=6\/(nth t.nodes a.toNat).kind=7\/(nth t.nodes a.toNat).kind=8\/(nth t.nodes a.toNat).kind=9\/(nth t.nodes a.toNat).kind=19\/(nth t.nodes a.toNat).kind=20\/(nth t.nodes a.toNat).kind=21:=by have:fq (nth t.nodes a.toNat).kind:=hr;unfold fq cQ at this;omega
  have TS:∀{q:Prop},¬((nth t.nodes a.toNat).kind=4\/(nth t.nodes a.toNat).kind=5)->jm (nth t.nodes a.toNat).kind->q:=fun h1 h2=>by unfold jm at h2;have:fq (nth t.nodes a.toNat).kind:=hr;unfold fq cQ at this;omega
  have UM:a.toNat<c.slots.length:=by rw[h.slots,hc];omega
  rcases Zb with k|k|k|k|k|k|k|k|k|k|k|k
  ·have e:cr (az n) c a=(c,1):=by unfold cr;simp only;rw[p',k];rfl
   rw[e];exact(leaf (sh.zero jB)).node (TS jB)
  ·have e:cr (az n) c a=(c,2):=by unfold cr;simp only;rw[p',k];rfl
   rw[e];exact(leaf (sh.zero jB)).node (TS jB)
  ·have e:cr (az n) c a=(c,3):=by unfold cr;simp only;rw[p',k];rfl
   rw[e];exact(leaf (sh.zero jB)).node (TS jB)
  ·have e:cr (az n) c a=c.named a:=by unfold cr;simp only;rw[p',k];rfl
   rw[e]at he ⊢;obtain⟨g1,g2⟩:=Ao hv rfl UM he;have hz:=(nE c a).size;have hl:=sh.zero jB;rw[hl]at Tv;have:lo=a.toNat:=by cases Tv;rfl
   subst this;exact⟨fun k hk=>g1 k jB,fun k h1 h2 _=>by have:k=a.toNat:=jB;subst this;rw[hz];exact g2,by rw[hz];exact Int.le_refl _⟩
  ·have e:cr (az n) c a=((az n (c.named a).1 (c.aF a 0)).1.av (decide ((c.named a).2=4) && decide ((az n (c.named a).1 (c.aF a 0)).2=1)) a,1):=by unfold cr;simp only;rw[p',k];rfl
   obtain⟨x,hl,Ua⟩:=sh.one jB;have TZ:c.aF a 0=x:=by rw[kd,hl];rfl
   rw[e]at he ⊢;rw[TZ]at he ⊢;obtain⟨b1,b2⟩:=jw he;have en:=nE c a;obtain⟨g1,g2⟩:=Ao hv rfl UM ((fk n _ x).e0 b2);rw[hl]at Tv;obtain⟨c1,c2,c3,c4,c5⟩:=ko Tv;have r:=hx (c.named a).1 x lo (h.ev en) (en.aa.trans hc) (hv.ev en) c1 c2 jB (.inl Ua) c5 b2;have hz:=en.size;have hrz:=r.size;rw[<-c4]at r;refine fH.av ⟨fun k hk=>(r.sw k jB).trans (g1 k jB),fun k h1 h2 h3=>?_,jB⟩;by_cases ZG:k<a.toNat
   ·exact r.all k h1 ZG h3
   ·have:k=a.toNat:=jB;subst this;rw[r.sw _ (.inr jB)];omega
  ·have e:cr (az n) c a=((az n c (c.aF a 0)).1.av (decide ((az n c (c.aF a 0)).2=3) || decide ((az n c (c.aF a 0)).2=4)) a,1):=by unfold cr;simp only;rw[p',k];rfl
   obtain⟨x,hl,Ua⟩:=sh.one jB;have TZ:c.aF a 0=x:=by rw[kd,hl];rfl
   rw[e]at he ⊢;rw[TZ]at he ⊢;exact((kid1 x hl (.inl Ua) (jw he).2).av).node (TS jB)
  ·have e:cr (az n) c a=((az n c (c.aF a 0)).1.av (decide ((az n c (c.aF a 0)).2=1)) a,1):=by unfold cr;simp only;rw[p',k];rfl
   obtain⟨x,hl,Ua⟩:=sh.one jB;have TZ:c.aF a 0=x:=by rw[kd,hl];rfl
   rw[e]at he ⊢;rw[TZ]at he ⊢;exact((kid1 x hl (.inl Ua) (jw he).2).av).node (TS jB)
  ·have e:cr (az n) c a=((az n c (c.aF a 0)).1.av (decide ((az n c (c.aF a 0)).2=2)) a,2):=by unfold cr;simp only;rw[p',k];rfl
   obtain⟨x,hl,Ua⟩:=sh.one jB;have TZ:c.aF a 0=x:=by rw[kd,hl];rfl
   rw[e]at he ⊢;rw[TZ]at he ⊢;exact((kid1 x hl (.inl Ua) (jw he).2).av).node (TS jB)
  ·have e:cr (az n) c a=((az n (az n c (c.aF a 0)).1 (c.aF a 1)).1.av (!decide (lO (c.node a).name (az n c (c.aF a 0)).2 (az n (az n c (c.aF a 0)).1 (c.aF a 1)).2=0)) a,lO (c.node a).name (az n c (c.aF a 0)).2 (az n (az n c (c.aF a 0)).1 (c.aF a 1)).2):=by unfold cr;simp only;rw[p',k];rfl
   obtain⟨x,y,hl,Ua,WT⟩:=sh.two jB;have TZ:c.aF a 0=x:=by rw[kd,hl];rfl
   have Ue:c.aF a 1=y:=by rw[kd,hl];rfl
   rw[e]at he ⊢;rw[TZ,Ue]at he ⊢;obtain⟨b1,b2⟩:=jw he;have ev:=fk n c x;rw[hl]at Tv;obtain⟨c1,c2,c3,c4,c5,c6⟩:=kF Tv;obtain⟨d1,d2,d3,d4,d5⟩:=ko c6;have r1:=hx c x lo h hc hv c1 c2 jB (.inl Ua) c5 ((fk n _ y).e0 b2);have r2:=hx (az n c x).1 y (x.toNat+1) (h.ev ev) (ev.aa.trans hc) (hv.ev ev) d1 d2 jB (.inl WT) d5 b2;rw[<-d4]at r2;exact((r1.seq jB jB r2).av).node (TS jB)
  ·have e:cr (az n) c a=(c,1):=by unfold cr;simp only;rw[p',k];rfl
   rw[e];exact(leaf (sh.zero jB)).node (TS jB)
  ·have e:cr (az n) c a=((az n c (c.aF a 0)).1.av (decide ((az n c (c.aF a 0)).2=1)) a,4):=by unfold cr;simp only;rw[p',k];rfl
   obtain⟨x,hl,Ua⟩:=sh.one jB;have TZ:c.aF a 0=x:=by rw[kd,hl];rfl
   rw[e]at he ⊢;rw[TZ]at he ⊢;exact((kid1 x hl (.inl Ua) (jw he).2).av).node (TS jB)
  ·have e:cr (az n) c a=iS (az n) c a:=by unfold cr;simp only;rw[p',k];rfl
   rw[e]at he ⊢;have Ui:=sh.call k;unfold iS at he ⊢;split at he
   ·exact(pX jC he).elim
   rename_i hf;rw[if_neg hf];simp only at he ⊢;have e1:=(zm a _ _ _).e0 he;split at e1
   ·exact(pX jC e1).elim
   rename_i hl;rw[if_neg hl];have r:=FT hx (c.node a).l c [] lo a.toNat h hc hv jB (fun x Ug=>.inl (Ui x (by rw[<-p'];exact Ug))) (by rw[p'];exact Tv) e1;have q:=De a (gv (az n) c (c.node a).l []).2 (nth c.aa.aw (fK c a).toNat).params (gv (az n) c (c.node a).l []).1;exact(r.post q.1 q.2).node (TS jB)
def Dz(t:aH)(n:Nat):Prop:=∀(c:Ck) (a:Int) (lo:Nat),bE c->c.aa=t->dt c->c.e=0->0<=a->a<t.nodes.length->a.toNat<n->fw (bW t.nodes a)->aL t.nodes lo (nth t.nodes a.toNat).l a.toNat->(bP n c a).e=0->
 fH t lo (a.toNat+1) c (bP n c a)/\dt (bP n c a)
theorem A7{t:aH}{st:Ck->Int->Ck}{C:Int->Prop}{n:Nat}(hs:∀c a,bE c->c.e=0->Sv c (st c a))
  (P':∀(c:Ck) (a:Int) (lo:Nat),bE c->c.aa=t->dt c->c.e=0->0<=a->a<t.nodes.length->a.toNat<n->C (bW t.nodes a)->aL t.nodes lo (nth t.nodes a.toNat).l a.toNat->(st c a).e=0->fH t lo (a.toNat+1) c (st c a)/\dt (st c a)) :
  ∀(L:TG) (c:Ck) (lo hi:Nat),bE c->c.aa=t->dt c->hi<=n->(∀x∈L,C (bW t.nodes x))->aL t.nodes lo L hi->(dK st c L).e=0->fH t lo hi c (dK st c L)/\dt (dK st c L)
 |[],c,lo,hi,h,hc,hv,hn,hr,Tv,he=>by cases Tv;unfold dK;exact⟨.refl _ _ _,hv⟩
 |a::L,c,lo,hi,h,hc,hv,hn,hr,Tv,he=>by have e0:=(qQ hs (a::L) c h).e0 he;unfold dK at he ⊢;rw[if_pos e0]at he ⊢;obtain⟨c1,c2,c3,c4,c5,c6⟩:=kF Tv;have s:=hs c a h e0;have e1:=(qQ hs L _ s.inv).e0 he;obtain⟨r1,v1⟩:=P' c a lo h hc hv e0 c1 c2 jB (hr a jE) c5 e1;obtain⟨r2,v2⟩:=A7 hs P' L _ _ hi s.inv (s.aa.trans hc) v1 hn (fun x hx=>hr x (by simp[hx])) c6 he;exact⟨r1.seq jB jB r2,v2⟩
def Jr(ht:aR t)(P':Dz t n)(c:Ck)(a:Int)(lo:Nat)(h:bE c)(hc:c.aa=t)(hv:dt c)(h0:0<=a)(h1:a<t.nodes.length)(hn:a.toNat<=n)(hk:bW t.nodes a=18)(Tv:aL t.nodes lo (nth t.nodes a.toNat).l a.toNat)(he:(fl (bP n) c a).e=0) :
  fH t lo (a.toNat+1) c (fl (bP n) c a)/\dt (fl (bP n) c a):=by
 have sv:=qs (ot n) h a;have p':c.node a=nth t.nodes a.toNat:=by unfold Ck.node;rw[hc]
 have hb:=(ht.shape a.toNat jB).1.block hk;have ev:=ri c a;obtain⟨r,_⟩:=A7 (ot n) (C:=fw) P' (c.node a).l (c.ai a) lo a.toNat (h.ev ev) (ev.aa.trans hc) (hv.ev ev) hn (fun x hx=>hb x (by rw[<-p'];exact hx)) (by rw[p'];exact Tv) he;have r:fH t lo a.toNat c (fl (bP n) c a):=fH.post (b:=dK (bP n) (c.ai a) (c.node a).l) (fH.pre (a:=c) (b:=c.ai a) rfl rfl r) rfl rfl;have Xe:(nth t.nodes a.toNat).kind=18:=hk;refine⟨r.node (fun h=>by unfold jm at h;omega),?_⟩;have hz:=r.size;refine⟨by have:=hv.1;omega,fun v T'=>?_⟩;rw[sv.2]at T';have:=hv.2 v T';omega
def wi(ht:aR t)(h:bE c0)(hc:c0.aa=t)(hv:dt c0)(hn:a.toNat<=n)(hl:(nth t.nodes a.toNat).l=[x])(hx:fq (bW t.nodes x))(Tv:aL t.nodes lo (nth t.nodes a.toNat).l a.toNat)(he:(az n c0 x).1.e=0) :
  fH t lo a.toNat c0 (az n c0 x).1:=by
 rw[hl]at Tv;obtain⟨c1,c2,c3,c4,c5⟩:=ko Tv;rw[c4];exact xh ht n c0 x lo h hc hv c1 c2 jB hx c5 he
def M7(ht:aR t){y:Int}(h:bE c0)(hc:c0.aa=t)(hv:dt c0)(hn:a.toNat<=n)(hl:(nth t.nodes a.toNat).l=[x,y])(hx:cQ (bW t.nodes x))(hy:cQ (bW t.nodes y))(Tv:aL t.nodes lo (nth t.nodes a.toNat).l a.toNat)(he:(az n (az n c0 x).1 y).1.e=0) :
  fH t lo a.toNat c0 (az n (az n c0 x).1 y).1:=by
 rw[hl]at Tv;obtain⟨c1,c2,c3,c4,c5,c6⟩:=kF Tv;obtain⟨d1,d2,d3,d4,d5⟩:=ko c6;have ev:=fk n c0 x;have r1:=xh ht n c0 x lo h hc hv c1 c2 jB (.inl hx) c5 ((fk n _ y).e0 he);have q1:=xh ht n (az n c0 x).1 y (x.toNat+1) (h.ev ev) (ev.aa.trans hc) (hv.ev ev) d1 d2 jB (.inl hy) d5 he;rw[d4];exact r1.seq jB jB q1
def Gc{c:Ck}(h:bE c)(hc:c.aa=t)(hv:dt c)(h1:a<t.nodes.length)(h0:0<=a)(Tu:lo<=a.toNat)(he:(c.named a).1.e=0)(r:fH t lo a.toNat (c.named a).1 c'):fH t lo (a.toNat+1) c c':=by
 have UM:a.toNat<c.slots.length:=by rw[h.slots,hc];omega
 obtain⟨g1,g2⟩:=Ao hv rfl UM he;have hz:=(nE c a).size;have hrz:=r.size;refine⟨fun k hk=>(r.sw k jB).trans (g1 k jB),fun k h1 h2 h3=>?_,jB⟩;by_cases ZG:k<a.toNat
 ·exact r.all k h1 ZG h3
 ·have:k=a.toNat:=jB;subst this;rw[r.sw _ (.inr jB)];omega
theorem Ib{t:aH}(ht:aR t):∀n,Dz t n
 |0=>fun c a lo h hc hv e0 h0 h1 hn=>by omega
 |n+1=>fun c a lo h hc hv e0 h0 h1 hn hr Tv he=>by
  have hs:=Ib ht n;have p':(c.ai a).node a=nth t.nodes a.toNat:=by unfold Ck.node;show nth c.aa.nodes _=_;rw[hc]
  have sh:=(ht.shape a.toNat jB).1;have kd:∀i,(c.ai a).aF a i=nth (nth t.nodes a.toNat).l i:=fun i=>by unfold Ck.aF;rw[p']
  have ev:=ri c a;have h':=h.ev ev;have UT:=ev.aa.trans hc;have T':=hv.ev ev;have Tu:=Tv.le;have kr:∀{hi:Nat} {c':Ck},fH t lo hi (c.ai a) c'->fH t lo hi c c':=fun r=>fH.pre (a:=c) (b:=c.ai a) rfl rfl r
  have TS:∀{q:Prop},¬((nth t.nodes a.toNat).kind=10\/(nth t.nodes a.toNat).kind=11\/(nth t.nodes a.toNat).kind=12)->jm (nth t.nodes a.toNat).kind->q:=fun h1 h2=>by unfold jm at h2;have:fw (nth t.nodes a.toNat).kind:=hr;unfold fw at this;omega
  have Zb:(nth t.nodes a.toNat).kind=10\/(nth t.nodes a.toNat).kind=11\/(nth t.nodes a.toNat).kind=12\/(nth t.nodes a.toNat).kind=13\/(nth t.nodes a.toNat).kind=14\/(nth t.nodes a.toNat).kind=17\/(nth t.nodes a.toNat).kind=15\/(nth t.nodes a.toNat).kind=16:=by have:fw (nth t.nodes a.toNat).kind:=hr;unfold fw at this;omega
  rcases Zb with k|k|k|k|k|k|k
  ·have e:bP (n+1) c a=o5 (az n) (c.ai a) a:=by unfold bP;simp only;rw[p',k];rfl
   obtain⟨x,hl,Xd⟩:=sh.right jB;have TZ:(c.ai a).aF a 0=x:=by rw[kd,hl];rfl
   rw[e]at he ⊢;rw[tT]at he ⊢;have he:(eH (az n) (c.ai a) a).e=0:=he;have VF:=yo (fk n) (c.ai a) a;have UW:=h'.ev VF;have X7:=T'.ev VF;obtain⟨_,q1⟩:=wA jC he;have q1:eH (az n) (c.ai a) a=js (az n) (c.ai a) a:=q1;rw[q1]at he;obtain⟨_,q2⟩:=wA jC he;have q2:js (az n) (c.ai a) a=iD (az n) (c.ai a) a:=q2;rw[q2]at he;unfold iD at he;rw[TZ]at he;obtain⟨b1,b2⟩:=jw he;have r1:=(wi ht h' UT T' jB hl Xd Tv b2);have Wi:(eH (az n) (c.ai a) a).slots=(az n (c.ai a) x).1.slots:=by rw[q1,q2];unfold iD;rw[TZ];exact(vL _ _ _).1
   have TU:(eH (az n) (c.ai a) a).size=(az n (c.ai a) x).1.size:=by rw[q1,q2];unfold iD;rw[TZ];exact(vL _ _ _).2
   have r2:=kr (r1.post Wi TU);have UM:a.toNat<(eH (az n) (c.ai a) a).slots.length:=by rw[UW.slots,VF.aa,UT];omega
   have h0z:=X7.1;have W0:∀i,nth ((eH (az n) (c.ai a) a).slots.set a.toNat (eH (az n) (c.ai a) a).size) i=if a.toNat=i/\i<(eH (az n) (c.ai a) a).slots.length then(eH (az n) (c.ai a) a).size else nth (eH (az n) (c.ai a) a).slots i:=fun i=>xH _ _ _ _
   refine⟨⟨fun i hi=>?_,fun i h1 h2 h3=>?_,?_⟩,?_,fun v XD=>?_⟩
   ·show nth ((eH (az n) (c.ai a) a).slots.set a.toNat _) i=_;rw[W0,jN];exact r2.sw i jB
   ·show 0<=nth ((eH (az n) (c.ai a) a).slots.set a.toNat _) i/\nth ((eH (az n) (c.ai a) a).slots.set a.toNat _) i<(eH (az n) (c.ai a) a).size+1;rw[W0];by_cases hia:i<a.toNat
    ·rw[jN];have:=r2.all i h1 hia h3;omega
    ·rw[if_pos ⟨jB,jB⟩];omega
   ·show _<=(eH (az n) (c.ai a) a).size+1;have:=r2.size;omega
   ·show 0<=(eH (az n) (c.ai a) a).size+1;omega
   ·show 0<=v.slot/\v.slot<(eH (az n) (c.ai a) a).size+1;have XD:v∈(eH (az n) (c.ai a) a).vars++[(⟨((c.ai a).node a).name,(az n (c.ai a) ((c.ai a).aF a 0)).2,(eH (az n) (c.ai a) a).size⟩:bD)]:=XD;rcases List.mem_append.1 XD with hm|hm
    ·have:=X7.2 v hm;omega
    ·rw[List.mem_singleton.1 hm];show 0<=(eH (az n) (c.ai a) a).size/\(eH (az n) (c.ai a) a).size<_;omega
  ·have e:bP (n+1) c a=(az n ((c.ai a).named a).1 ((c.ai a).aF a 0)).1.av (decide (((c.ai a).named a).2=(az n ((c.ai a).named a).1 ((c.ai a).aF a 0)).2)) a:=by unfold bP;simp only;rw[p',k];rfl
   obtain⟨x,hl,Xd⟩:=sh.right jB;have TZ:(c.ai a).aF a 0=x:=by rw[kd,hl];rfl
   rw[e]at he ⊢;rw[TZ]at he ⊢;obtain⟨b1,b2⟩:=jw he;have en:=nE (c.ai a) a;have r1:=wi ht (h'.ev en) (en.aa.trans UT) (T'.ev en) jB hl Xd Tv b2;exact⟨kr ((Gc h' UT T' h1 h0 Tu ((fk n _ x).e0 b2) r1).av),(T'.ev en).ev ((fk n _ _).trans (ky _ _ _))⟩
  ·have e:bP (n+1) c a=(az n (az n ((c.ai a).named a).1 ((c.ai a).aF a 0)).1 ((c.ai a).aF a 1)).1.av (decide (((c.ai a).named a).2=4) && decide ((az n ((c.ai a).named a).1 ((c.ai a).aF a 0)).2=1) && decide ((az n (az n ((c.ai a).named a).1 ((c.ai a).aF a 0)).1 ((c.ai a).aF a 1)).2=1)) a:=by unfold bP;simp only;rw[p',k];rfl
   obtain⟨x,y,hl,Ua,WT⟩:=sh.two jB;have TZ:(c.ai a).aF a 0=x:=by rw[kd,hl];rfl
   have Ue:(c.ai a).aF a 1=y:=by rw[kd,hl];rfl
   rw[e]at he ⊢;rw[TZ,Ue]at he ⊢;obtain⟨b1,b2⟩:=jw he;have en:=nE (c.ai a) a;have r1:=M7 ht (h'.ev en) (en.aa.trans UT) (T'.ev en) jB hl Ua WT Tv b2;exact⟨kr ((Gc h' UT T' h1 h0 Tu ((fk n _ x).e0 ((fk n _ y).e0 b2)) r1).av),(T'.ev en).ev (((fk n _ _).trans (fk n _ _)).trans (ky _ _ _))⟩
  ·have e:bP (n+1) c a=(az n (c.ai a) ((c.ai a).aF a 0)).1:=by unfold bP;simp only;rw[p',k];rfl
   obtain⟨x,hl,hxk⟩:=sh.sC k;have TZ:(c.ai a).aF a 0=x:=by rw[kd,hl];rfl
   rw[e]at he ⊢;rw[TZ]at he ⊢;have r1:=wi ht h' UT T' jB hl (by rw[hxk];unfold fq;omega) Tv he;exact⟨(kr r1).node (TS jB),T'.ev (fk n _ _)⟩
  ·have e:bP (n+1) c a=(az n (c.ai a) ((c.ai a).aF a 0)).1.av (!decide ((az n (c.ai a) ((c.ai a).aF a 0)).2=4)) a:=by unfold bP;simp only;rw[p',k];rfl
   obtain⟨x,hl,Ua⟩:=sh.one jB;have TZ:(c.ai a).aF a 0=x:=by rw[kd,hl];rfl
   rw[e]at he ⊢;rw[TZ]at he ⊢;obtain⟨b1,b2⟩:=jw he;have r1:=wi ht h' UT T' jB hl (.inl Ua) Tv b2;exact⟨((kr r1).av).node (TS jB),T'.ev ((fk n _ _).trans (ky _ _ _))⟩
  ·have e:bP (n+1) c a=kH (az n) (c.ai a) a:=by unfold bP;simp only;rw[p',k];rfl
   rw[e]at he ⊢;unfold kH at he ⊢;rw[p']at he ⊢;simp only at he ⊢;split at he
   ·exact(pX jC he).elim
   rename_i hf;rw[if_neg hf];rcases sh.ret k with hl|⟨x,hl,Ua⟩
   ·rw[hl];rw[if_neg jC];rw[hl]at Tv;have:lo=a.toNat:=by cases Tv;rfl
    subst this;exact⟨(kr (fH.refl t a.toNat (c.ai a))).node (TS jB),T'⟩
   ·have TZ:(c.ai a).aF a 0=x:=by rw[kd,hl];rfl
    have Vp:(nth t.nodes a.toNat).l.length=1:=by rw[hl];rfl
    rw[if_pos Vp]at he ⊢;rw[TZ]at he ⊢;obtain⟨b1,b2⟩:=jw he;have r1:=wi ht h' UT T' jB hl (.inl Ua) Tv b2;exact⟨((kr r1).av).node (TS jB),T'.ev ((fk n _ _).trans (ky _ _ _))⟩
  ·have e:bP (n+1) c a=dK (fl (bP n)) ((az n (c.ai a) ((c.ai a).aF a 0)).1.av (decide ((az n (c.ai a) ((c.ai a).aF a 0)).2=2)) a) (((c.ai a).node a).l.drop 1):=by
    unfold bP;simp only;rw[p'];rcases k with k|k<;>rw[k]<;>rfl
   have XM:∃x L,(nth t.nodes a.toNat).l=x::L/\cQ (bW t.nodes x)/\∀y∈L,bW t.nodes y=18:=by
    rcases k with k|k
    ·obtain⟨x,y,hx,hy,hl|⟨z,hl,hz⟩⟩:=sh.lw k
     ·exact⟨x,[y],hl,hx,fun u hu=>by rw[List.mem_singleton.1 hu];exact hy⟩
     ·exact⟨x,[y,z],hl,hx,fun u hu=>by
       rcases List.mem_cons.1 hu with rfl|hu
       ·exact hy
       ·rw[List.mem_singleton.1 hu];exact hz⟩
    ·obtain⟨x,y,hl,hx,hy⟩:=sh.dZ k;exact⟨x,[y],hl,hx,fun u hu=>by rw[List.mem_singleton.1 hu];exact hy⟩
   obtain⟨x,L,hl,Ua,hL⟩:=XM;have TZ:(c.ai a).aF a 0=x:=by rw[kd,hl];rfl
   rw[e]at he ⊢;rw[p',hl,TZ]at he ⊢;have he:(dK (fl (bP n)) ((az n (c.ai a) x).1.av (decide ((az n (c.ai a) x).2=2)) a) L).e=0:=he;show fH t lo (a.toNat+1) c (dK (fl (bP n)) ((az n (c.ai a) x).1.av (decide ((az n (c.ai a) x).2=2)) a) L)/\dt (dK (fl (bP n)) ((az n (c.ai a) x).1.av (decide ((az n (c.ai a) x).2=2)) a) L);have ex:=(fk n (c.ai a) x).trans (ky _ (decide ((az n (c.ai a) x).2=2)) a);have UW:=h'.ev ex;have Z4:∀(q:Ck) b,bE q->q.e=0->Sv q (fl (bP n) q b):=fun q b hq _=>(qs (ot n) hq b).1
   have e1:=(qQ Z4 L _ UW).e0 he;obtain⟨b1,b2⟩:=jw e1;rw[hl]at Tv;obtain⟨c1,c2,c3,c4,c5,c6⟩:=kF Tv;have r1:=xh ht n (c.ai a) x lo h' UT T' c1 c2 jB (.inl Ua) c5 b2;obtain⟨r2,v2⟩:=A7 Z4 (C:=fun k=>k=18) (n:=n) (fun q b l g1 g2 g3 _ g5 g6 g7 g8 g9 g10=>Jr ht hs q b l g1 g2 g3 g5 g6 jB g8 g9 g10) L _ (x.toNat+1) a.toNat UW (ex.aa.trans UT) (T'.ev ex) jB hL c6 he;exact⟨((kr r1.av).seq jB jB r2).node (TS jB),v2⟩
theorem Gj(body:Int):∀(ps:List bK) (c:Ck) (i:Int),dt c->c.size=i->dt (fy body c ps i)/\(fy body c ps i).slots=c.slots/\(fy body c ps i).size=i+ps.length
 |[],c,i,h,hi=>by unfold fy;exact⟨h,rfl,by simp;exact hi⟩
 |p::ps,c,i,h,hi=>by
  have fin:∀c1:Ck,Ev c c1->c1.slots=c.slots->dt (fy body (mB c1 ⟨p.name,p.ty,i⟩) ps (i+1))/\(fy body (mB c1 ⟨p.name,p.ty,i⟩) ps (i+1)).slots=c.slots/\(fy body (mB c1 ⟨p.name,p.ty,i⟩) ps (i+1)).size=i+(p::ps).length:=fun c1 s e=>by
   have hz:=s.size;have h1:=h.ev s;have h0:=h.1;obtain⟨a,b,d⟩:=Gj body ps (mB c1 ⟨p.name,p.ty,i⟩) (i+1) ⟨by show 0<=c1.size+1;omega,fun v hv=>by
    have hv:v∈c1.vars++[(⟨p.name,p.ty,i⟩:bD)]:=hv;show 0<=v.slot/\v.slot<c1.size+1;rcases List.mem_append.1 hv with hv|hv
    ·have:=h1.2 v hv;omega
    ·rw[List.mem_singleton.1 hv];show 0<=i/\i<_;omega⟩ (by show c1.size+1=i+1;omega)
   exact⟨a,b.trans e,by rw[d,List.length_cons];omega⟩
  unfold fy;simp only;split
  ·exact fin _ (n8 c jC body) (F9 _ _ _).1
  ·exact fin _ (.refl c) rfl
structure tp(t:aH)(sl:List Int)(k lo:Nat)(z:Int):Prop where
 uH:((nth t.aw k).params.length:Int)<=z
 hi:z<=24
 all:∀i,lo<=i->i<(nth t.aw k).body.toNat+1->jm (nth t.nodes i).kind->0<=nth sl i/\nth sl i<z
 chain:aL t.nodes lo (nth t.nodes (nth t.aw k).body.toNat).l (nth t.aw k).body.toNat
def tp.aZ{sl sl':TG}{k:Nat}{z:Int}(h:tp t sl k lo z)(e:∀i,i<(nth t.aw k).body.toNat+1->nth sl' i=nth sl i):tp t sl' k lo z:=⟨h.uH,h.hi,fun i h1 h2 h3=>by rw[e i h2];exact h.all i h1 h2 h3,h.chain⟩
def RD(ht:aR t){c:Ck}(h:gy c)(hc:c.aa=t){k:Nat}(hk:k<t.aw.length)(TU:c.aP.length<6)(Tv:aL t.nodes lo (nth t.nodes (nth t.aw k).body.toNat).l (nth t.aw k).body.toNat)(he:(gM c k).e=0) :
  (∀i,(i<lo\/(nth t.aw k).body.toNat+1<=i)->nth (gM c k).slots i=nth c.slots i)/\tp t (gM c k).slots k lo (gM c k).size/\(gM c k).aP=c.aP++[(gM c k).size]:=by
 have T4:k<c.aa.aw.length:=by rw[hc];exact hk
 have Zw:=h.aa.fn _ (fg T4);have VY:bE { c with fn:=(k:Int),vars:=[],more:=[],size:=0 }:=⟨h.aa,h.types,h.slots,h.aw,by show c.aP.length<=6;omega,by show(0:Int)<=k;omega,by show(k:Int)<(c.aa.aw.length:Int);omega,by show((0:Nat):Int)<=0;omega,by show(0:Int)<=25;omega,fun _=>by show(0:Int)<=24;omega⟩;obtain⟨a,b,d⟩:=yQ (nth c.aa.aw k).body (nth c.aa.aw k).params _ 0 VY (by show(0:Int)+_<=20;omega);obtain⟨a',b',d'⟩:=Gj (nth c.aa.aw k).body (nth c.aa.aw k).params { c with fn:=(k:Int),vars:=[],more:=[],size:=0 } 0 ⟨by show(0:Int)<=0;omega,fun v hv=>by simp at hv⟩ rfl;have U4:=o7 ht hk;have WE:=ht.body _ (fg hk);unfold gM at he ⊢;simp only at he ⊢;rw[hc]at he ⊢;rw[hc]at a b d a' b' d';split at he
 ·rename_i e1;rw[if_pos e1];have sv:=(qs (ot t.nodes.length) a (nth t.aw k).body).1;obtain⟨r,_⟩:=Jr ht (Ib ht t.nodes.length) _ (nth t.aw k).body lo a (b.trans (by rfl)) a' U4.1 U4.2 (by have:=U4.2;have:=U4.1;omega) WE Tv he;have q:=fH.size r;have UQ:=sv.inv.room he;refine⟨fun i hi=>(r.sw i hi).trans (by rw[b']),⟨?_,UQ,r.all,Tv⟩,?_⟩
  ·show _<=(fl _ _ _).size;rw[d']at q;omega
  ·show(fl _ _ _).aP++[_]=_;rw[sv.aP,d]
 ·rename_i e1;exact(e1 he).elim
def kQ(t:aH)(k:Nat):Nat:=if k=0 then 0 else(nth t.aw (k-1)).body.toNat+1
theorem FZ{t:aH}(ht:aR t):∀(n i lo:Nat) (c:Ck),gy c->c.aa=t->c.aP.length=i->i+n=t.aw.length->lo=kQ t i->aL t.nodes lo ((t.aw.drop i).map (·.body)) t.nodes.length->(∀j,j<i->tp t c.slots j (kQ t j) (nth c.aP j)/\(nth t.aw j).body.toNat<lo)->(gB c i n).e=0->
  ∀j,j<t.aw.length->tp t (gB c i n).slots j (kQ t j) (nth (gB c i n).aP j)
 |0,i,lo,c,h,hc,hs,hi,Tu,Tv,hA,he=>by unfold gB;exact fun j hj=>(hA j jB).1
 |n+1,i,lo,c,h,hc,hs,hi,Tu,Tv,hA,he=>by
  have h6:=ht.aw;unfold gB at he ⊢;by_cases e0:c.e=0
  ·rw[if_pos e0]at he ⊢;have hk:i<t.aw.length:=jB;rw[kP hk]at Tv;obtain⟨c1,c2,c3,c4,c5,c6⟩:=kF (a:=(nth t.aw i).body) Tv;obtain⟨f1,f2,f3⟩:=Bl h (by rw[hc];exact hk) (by omega:c.aP.length<6);have e1:(gM c i).e=0:=by
    cases n with
    |zero=>unfold gB at he;exact he
    |succ m=>
     unfold gB at he;split at he
     ·assumption
     ·exact he
   obtain⟨r1,r2,r3⟩:=RD ht h hc hk jB c5 e1;refine FZ ht n (i+1) ((nth t.aw i).body.toNat+1) (gM c i) f1 (f2.trans hc) jB jB (by unfold kQ;rw[jN];rfl) c6 (fun j hj=>?_) he;by_cases Vz:j<i
   ·obtain⟨g1,g2⟩:=hA j Vz;have hz:nth (gM c i).aP j=nth c.aP j:=by rw[r3,pS jB]
    rw[hz];exact⟨g1.aZ fun q hq=>r1 q (.inl jB),jB⟩
   ·have:j=i:=jB;subst this;have hz:nth (gM c j).aP j=(gM c j).size:=by rw[r3,<-hs];exact qz _ _
    rw[hz,<-Tu];exact⟨r2,jB⟩
  ·rw[if_neg e0]at he;exact(e0 he).elim
theorem Fs{x:bg}:∀(l:List bg) (c:Ck),(kN x c l).e=0->c.e=0/\∀f∈l,f.name≠x.name
 |[],c,h=>⟨by unfold kN at h;exact h,fun f hf=>by simp at hf⟩
 |f::l,c,h=>by
  unfold kN at h;obtain⟨h1,h2⟩:=Fs l _ h;obtain⟨h3,h4⟩:=wA jC h1;rw[h4]at h1;exact⟨h1,fun g hg=>by
   rcases List.mem_cons.1 hg with rfl|hg
   ·exact h3
   ·exact h2 g hg⟩
theorem E3(aw:List bg):∀(n i:Nat) (c:Ck) (m:Bool),i+n=aw.length->(j8 aw c m i n).1.e=0->c.e=0/\(∀j,i<=j->j<aw.length->∀f∈aw.take j,f.name≠(nth aw j).name)/\((j8 aw c m i n).2=true->m=true\/∃j,j<aw.length/\wc (nth aw j)=true)
 |0,i,c,m,hi,h=>by unfold j8 at h ⊢;exact⟨h,fun j h1 h2=>jB,fun h=>.inl h⟩
 |n+1,i,c,m,hi,h=>by
  unfold j8 at h ⊢;obtain⟨h1,h2,h3⟩:=E3 aw n (i+1) _ _ jB h;obtain⟨h4,h5⟩:=Fs _ _ h1;refine⟨h4,fun j g1 g2=>?_,fun hm=>?_⟩
  ·by_cases e:j=i
   ·subst e;exact h5
   ·exact h2 j jB g2
  ·rcases h3 hm with h|h
   ·rcases Bool.or_eq_true _ _ |>.mp h with h|h
    ·exact .inl h
    ·exact .inr ⟨i,jB,h⟩
   ·exact .inr h
structure A6(t:aH):Prop where
 one:∀i j,i<j->j<t.aw.length->(nth t.aw i).name≠(nth t.aw j).name
 main:∃j,j<t.aw.length/\wc (nth t.aw j)=true
def QB{c:Ck}(h:(iZ c).e=0):c.e=0/\A6 c.aa:=by
 unfold iZ at h;simp only at h;split at h
 ·rename_i hm;obtain⟨h1,h2,h3⟩:=E3 c.aa.aw c.aa.aw.length 0 c false jB h;refine⟨h1,⟨fun i j hi hj=>h2 j jB hj _ ?_,?_⟩⟩
  ·rw[fP jB];exact List.mem_take_iff_getElem.2 ⟨i,jB,rfl⟩
  ·rcases h3 hm with h|h
   ·cases h
   ·exact h
 ·exact(pX jC h).elim
theorem GS(f:bg->TI)(nm:TI):∀(l:List bg) (i k:Int),(∀a b,a<b->b<l.length->f (nth l a)≠f (nth l b))->(∃v∈l,f v=nm)->jt f nm l i k=je f nm l i
 |[],i,k,h,hx=>by obtain⟨v,hv,_⟩:=hx;simp at hv
 |v::l,i,k,h,hx=>by
  unfold jt je;have hl:∀a b,a<b->b<l.length->f (nth l a)≠f (nth l b):=fun a b h1 h2=>h (a+1) (b+1) jB (by rw[List.length_cons];omega)
  by_cases hv:f v=nm
  ·rw[if_pos hv,if_pos hv];have hn:∀u∈l,f u≠nm:=fun u hu hh=>by
    obtain⟨q,hq,rfl⟩:=List.mem_iff_getElem.1 hu;exact h 0 (q+1) jB (by rw[List.length_cons];omega) (by rw[show nth (v::l) 0=v from rfl,show nth (v::l) (q+1)=l[q] from by rw[fP (by rw[List.length_cons];omega)];rfl,hv,hh])
   have:∀(l:List bg) (i k:Int),(∀u∈l,f u≠nm)->jt f nm l i k=k:=fun l=>by
    induction l with
    |nil=>intro i k _;rfl
    |cons u l ih=> intro i k hu;unfold jt;rw[if_neg (hu u jE),ih (i+1) k fun w hw=>hu w (by simp[hw])]
   exact this l _ _ hn
  ·rw[if_neg hv,if_neg hv];exact GS f nm l (i+1) k hl (by
    obtain⟨u,hu,hh⟩:=hx;rcases List.mem_cons.1 hu with rfl|hu
    ·exact(hv hh).elim
    ·exact⟨u,hu,hh⟩)
structure gj(p:af):Prop where
 ok:pP p
 aw:∀j,j<p.aa.aw.length->tp p.aa p.slots j (kQ p.aa j) (nth p.size j)
 names:A6 p.aa
def Mm(ht:aR t)(he:(iq t).2.2=0):gj (iq t).1:=by
 have hp:=(xV ht he).1;unfold iq at he hp ⊢;split at he
 ·rename_i h;exact(h he).elim
 rename_i h;rw[if_neg h]at hp ⊢;have h:(ja t).e=0:=jB;obtain⟨i1,i2,i3⟩:=IK ht;have q:=FZ ht t.aw.length 0 0 (iZ (jr t)) i1 i2 (by rw[i3];rfl) jB rfl (by rw[List.drop_zero];exact ht.chain) (fun j hj=>jB) h;obtain⟨_,q1,_⟩:=A2 ht t.aw.length 0 0 (iZ (jr t)) i1 i2 (by rw[i3];rfl) jB (by rw[List.drop_zero];exact ht.chain) h;have he:(ja t).aa=t:=q1;have h0:(iZ (jr t)).e=0:=by
  have U2:=h;unfold ja at U2;cases hn:t.aw.length with
  |zero=>rw[hn]at U2;unfold gB at U2;exact U2
  |succ m=>
   rw[hn]at U2;unfold gB at U2;split at U2
   ·assumption
   ·exact U2
 refine⟨hp,?_,?_⟩
 ·show∀j,j<(ja t).aa.aw.length->tp (ja t).aa (ja t).slots j (kQ (ja t).aa j) (nth (ja t).aP j);rw[he];exact q
 ·show A6 (ja t).aa;rw[he];exact(QB h0).2
def xS{s:TI}(he:(fX s).2.2=0):gj (fX s).1:=by
 unfold fX at he ⊢;split at he
 ·rename_i h;exact(h he).elim
 rename_i h;rw[if_neg h];have h:(gQ s).2.2=0:=jB;simp only at he ⊢;split at he
 ·cases he
 rename_i h2;split at he
 ·rename_i h3;exact(h3 he).elim
 rename_i h3;rw[if_neg h2,if_neg h3];exact Mm (uL h) jB
def C4{t:List br}(h:aL t lo L hi):lo+L.length<=hi:=by
 induction h with
 |nil=>simp
 |@cons lo c hi L hc h1 h2 i1 i2=> have:=h1.le;simp only[List.length_cons];omega
def KJ{l:List α}{i:Nat}{x y:α}(h:x∈l.set i y):x=y\/x∈l:=by
 rcases List.mem_or_eq_of_mem_set h with h|h
 ·exact .inr h
 ·exact .inl h
theorem Bx{α:Type}[Inhabited α](f:α->TI)(nm:TI):∀(l:List α) (i:Int),(∃v∈l,f v=nm)->i<=je f nm l i/\je f nm l i<i+l.length/\f (nth l (je f nm l i-i).toNat)=nm
 |[],_,h=>by obtain⟨v,hv,_⟩:=h;simp at hv
 |v::l,i,h=>by
  unfold je;by_cases hv:f v=nm
  ·rw[if_pos hv];refine⟨Int.le_refl _,by simp;omega,?_⟩;rw[show(i-i).toNat=0 from jB];exact hv
  ·rw[if_neg hv];obtain⟨u,hu,hh⟩:=h;have hu:u∈l:=by
    rcases List.mem_cons.1 hu with rfl|hu
    ·exact(hv hh).elim
    ·exact hu
   obtain⟨a,b,c⟩:=Bx f nm l (i+1) ⟨u,hu,hh⟩;refine⟨jB,by simp;omega,?_⟩;rw[show(je f nm l (i+1)-i).toNat=(je f nm l (i+1)-(i+1)).toNat+1 from jB];exact c
theorem ER{α:Type}(f:α->TI)(nm:TI):∀(l:List α) (i k:Int),jt f nm l i k≠k->∃v∈l,f v=nm
 |[],_,_,h=>(h rfl).elim
 |v::l,i,k,h=>by
  unfold jt at h;by_cases hv:f v=nm
  ·exact⟨v,jE,hv⟩
  ·rw[if_neg hv]at h;obtain⟨u,hu,hh⟩:=ER f nm l _ _ h;exact⟨u,by simp[hu],hh⟩
structure Callee(p:af)(a:Int)(k:Nat):Prop where
 lt:k<p.aa.aw.length
 at_:je bg.name (au p a).name p.aa.aw 0=k
 last:jt bg.name (au p a).name p.aa.aw 0 (-1)=k
 name:(nth p.aa.aw k).name=(au p a).name
 args:(au p a).l.length=(nth p.aa.aw k).params.length
 Ba:(au p a).l.length<=3
variable{p:af}
def callee(h:gj p)(h0:a.toNat<p.aa.nodes.length)(hk:(au p a).kind=21):∃k,Callee p a k:=by
 obtain⟨h1,h2⟩:=(h.ok.ty a.toNat jB h0).call hk;have hx:=ER bg.name (au p a).name p.aa.aw 0 (-1) (by show jt bg.name (nth p.aa.nodes a.toNat).name p.aa.aw 0 (-1)≠-1;omega);have e:=GS bg.name (au p a).name p.aa.aw 0 (-1) (fun a b=>h.names.one a b) hx;obtain⟨f1,f2,f3⟩:=Bx bg.name (au p a).name p.aa.aw 0 hx;refine⟨(je bg.name (au p a).name p.aa.aw 0).toNat,jB,jB,jB,?_,?_,?_⟩
 ·rwa [Int.sub_zero]at f3
 ·unfold au at e ⊢;rw[<-e];exact h2
 ·have hm:=(h.ok.aa.fn _ (fg (l:=p.aa.aw) (k:=(je bg.name (au p a).name p.aa.aw 0).toNat) jB)).2;unfold au at e hm ⊢;rw[<-e]at hm;rw[h2];exact hm
def CR(l:TG):lq 0 l=l.length:=by simp[lq]
theorem nr:∀(h:TF) (n:Int),h.foldl lq n=n+h.foldl lq (0:Int)
 |[],n=>by simp[List.foldl]
 |x::h,n=>by simp only[List.foldl_cons];rw[nr h (lq n x),nr h (lq 0 x)];unfold lq;omega
def Du(h:TF)(x:TG):gi (h++[x])=gi h+x.length+1:=by unfold gi;rw[List.foldl_append,List.foldl_cons,List.foldl_nil,List.length_append,nr h _,nr h (h.length:Int)];unfold lq;simp;omega
theorem B6:∀(h:TF),0<=h.foldl lq (0:Int)
 |[]=>by simp
 |x::h=>by simp only[List.foldl_cons];rw[nr,CR];have:=B6 h;omega
def RU(h:TF):(h.length:Int)<=gi h:=by unfold gi;rw[nr];have:=B6 h;omega
theorem Ez:∀(h:TF) (i:Nat) (x:TG),i<h.length->x.length=(nth h i).length->(h.set i x).foldl lq (0:Int)=h.foldl lq 0
 |[],i,x,hi,_=>by simp at hi
 |y::h,0,x,_,e=>by have e:x.length=y.length:=e;simp only[List.set_cons_zero,List.foldl_cons,lq,e]
 |y::h,i+1,x,hi,e=>by simp only[List.set_cons_succ,List.foldl_cons];rw[nr (h.set i x) (lq 0 y),nr h (lq 0 y),Ez h i x (by simpa using hi) e]
def GI(h:TF)(i:Nat)(x:TG)(hi:i<h.length)(e:x.length=(nth h i).length):gi (h.set i x)=gi h:=by unfold gi;rw[List.length_set,nr (h.set i x) (h.length:Int),nr h (h.length:Int),Ez h i x hi e]
theorem Ju:∀(h:TF) (i:Nat),i<h.length->((nth h i).length:Int)<=h.foldl lq 0
 |[],i,hi=>by simp at hi
 |y::h,0,_=>by simp only[List.foldl_cons];rw[nr,CR];have:=B6 h;show(y.length:Int)<=_;omega
 |y::h,i+1,hi=>by simp only[List.foldl_cons];rw[nr,CR];have:=Ju h i (by simpa using hi);show((nth h i).length:Int)<=_;omega
def PX(h:TF)(i:Nat)(hi:i<h.length):((nth h i).length:Int)+h.length<=gi h:=by unfold gi;rw[nr];have:=Ju h i hi;omega
def gD[Inhabited α](l:List α)(n k:Nat)(h:k<n):nth (l.take n) k=nth l k:=by unfold nth;rw[List.getD_eq_getElem?_getD,List.getElem?_take,if_pos h,List.getD_eq_getElem?_getD]
def Kl{v:aj}(hm:lQ v=true):v.s.size<=40:=by
 unfold lQ at hm;split at hm
 ·have:v.s=sE:=by simpa using hm
  rw[this];decide
 split at hm
 ·simp only[Bool.and_eq_true,decide_eq_true_eq]at hm;rw[hm.1];decide
 split at hm
 ·simp only[Bool.and_eq_true,decide_eq_true_eq]at hm;omega
 split at hm
 ·simp only[Bool.and_eq_true,decide_eq_true_eq]at hm;rw[hm.1];decide
 ·cases hm
def wh(n:Int):cf (IntKind.i64.wrap n):=by unfold cf;rw[IntKind.wrap_i64];omega
def qI:cf 0:=by unfold cf;omega
def Gt(b:Bool):cf (vB b).n:=by cases b<;>(show cf _;unfold vB cf;simp)
def Rq{b:Int}(h:cf a):cf (a.tmod b):=by
 unfold cf at*;by_cases h0:0<=a
 ·have h1:0<=a.tmod b:=Int.tmod_nonneg b h0;have h2:a.tmod b<=a:=by
   have:=Int.mul_tdiv_add_tmod a b;by_cases hb:b=0
   ·subst hb;simp
   ·have hn:=Int.natAbs_tmod a b;have:(a.tmod b).natAbs<=a.natAbs:=by rw[hn];exact Nat.mod_le _ _
    omega
  omega
 ·have hn:=Int.natAbs_tmod a b;have:(a.tmod b).natAbs<=a.natAbs:=by rw[hn];exact Nat.mod_le _ _
  have h3:a.tmod b<=0:=by have:=Int.tmod_nonneg b (a:=-a) jB;rw[Int.neg_tmod]at this;omega
  omega
def Mv(s:TI)(a:aj):cf (mH s a).n:=by
 unfold mH
 (repeat' split)<;>first|exact wh _|exact qI|exact Gt _
def q9(l:List aj):Prop:=∀v∈l,cf v.n
def tA(h:TF):Prop:=∀l∈h,∀x∈l,cf x
def PI(p:af):Prop:=∀k,k<p.aa.nodes.length->(nth p.aa.nodes k).kind=1->cf (nth p.aa.nodes k).n
theorem pP.cf{p:af}(h:pP p):PI p:=fun k hk h1=>by
 obtain⟨s,hs,e⟩:=(h.aa.shape k hk).1.num h1;have T3:=HV hs;have Yd:pw s=(ku s.data.toList 0:Nat):=by unfold pw;rw[AO s hs.2.2 _ jl,List.take_of_length_le jE]
 rw[e,Yd];unfold Go.Gd.cf;omega
def Tb{l:List aj}(h:q9 l)(k t:Int):cf (eR l k t).n:=by
 unfold eR
 (repeat' split)<;>first|exact qI|exact h _ (fg jB)
def Dv[Inhabited α](l:List α)(k:Nat):nth l k∈l\/nth l k=default:=by
 by_cases h:k<l.length
 ·exact .inl (fg h)
 ·right;unfold nth;rw[List.getD_eq_getElem?_getD,List.getElem?_eq_none jB];rfl
def Ji{l:List aj}(h:q9 l)(k:Nat){v:aj}(hv:cf v.n):q9 (l.set k v):=fun x hx=>by
 rcases KJ hx with rfl|hx
 ·exact hv
 ·exact h x hx
def Ai(hs:gj p):∃m:Nat,m<p.aa.aw.length/\gU p=(m:Int)/\(nth p.aa.aw m).name=(⟨#[109,97,105,110]⟩:TI)/\(nth p.aa.aw m).params.length=0:=by
 obtain⟨j,hj,XN⟩:=hs.names.main;unfold wc at XN;simp only[Bool.and_eq_true,decide_eq_true_eq]at XN;obtain⟨⟨g1,g2⟩,_⟩:=XN;obtain⟨f1,f2,f3⟩:=Bx bg.name (⟨#[109,97,105,110]⟩:TI) p.aa.aw 0 ⟨_,fg hj,g1⟩;have e:(je bg.name (⟨#[109,97,105,110]⟩:TI) p.aa.aw 0-0).toNat=(gU p).toNat:=by unfold gU;simp
 rw[e]at f3;have Tu:0<=gU p:=f1;have WI:gU p<0+p.aa.aw.length:=f2;have hm:(gU p).toNat<p.aa.aw.length:=jB;have hjm:j=(gU p).toNat:=by
  rcases Nat.lt_trichotomy j (gU p).toNat with h|h|h
  ·exact(hs.names.one _ _ h hm (by rw[g1,f3])).elim
  ·exact h
  ·exact(hs.names.one _ _ h hj (by rw[g1,f3])).elim
 exact⟨(gU p).toNat,hm,jB,f3,by rw[<-hjm];omega⟩
structure nA(p:af)(fn:Int)(x:fT):Prop where
 b0:0<=x.block
 lo:kQ p.aa fn.toNat<=x.block.toNat
 hi:x.block.toNat<=(nth p.aa.aw fn.toNat).body.toNat
 kind:bW p.aa.nodes x.block=18
 a0:0<=x.at_
 a1:x.at_<=(xd p x.block).length
structure z7(p:af)(f:fB):Prop where
 f0:0<=f.fn
 f1:f.fn<p.aa.aw.length
 sl:(f.slots.length:Int)=nth p.size f.fn.toNat
 pl:∀x∈f.path,nA p f.fn x
 dec:(f.path.map (·.block)).Pairwise fun a b=>b<a
def IA(p:af)(f:fB):Prop:=f.path≠[]/\f.pl.at_<(xd p f.pl.block).length
def nA.in_(h:gj p){fn:Int}(f0:0<=fn)(f1:fn<p.aa.aw.length){x:fT}(hx:nA p fn x):x.block.toNat<p.aa.nodes.length:=by have:=o7 h.ok.aa (k:=fn.toNat) jB;have h1:=this.1;have h2:=this.2;have h3:=hx.hi;omega
def nA.aF(h:gj p){fn:Int}(f0:0<=fn)(f1:fn<p.aa.aw.length){x:fT}(hx:nA p fn x)(ha:a∈xd p x.block):0<=a/\a.toNat<x.block.toNat/\kQ p.aa fn.toNat<=a.toNat/\fw (bW p.aa.nodes a):=by
 have hi:=hx.in_ h f0 f1;have sh:=h.ok.aa.shape x.block.toNat hi;have h1:=sh.2.1 a ha;refine⟨h1.1,h1.2,?_,sh.1.block hx.kind a ha⟩;have hc:=(h.aw fn.toNat jB).chain;by_cases e:x.block.toNat<(nth p.aa.aw fn.toNat).body.toNat
 ·exact hc.closed _ hx.lo e a ha
 ·have e:x.block.toNat=(nth p.aa.aw fn.toNat).body.toNat:=by have:=hx.hi;omega
  have ha:a∈(nth p.aa.nodes x.block.toNat).l:=ha;rw[e]at ha;exact(hc.mem a ha).2.1
structure CU(p:af)(R:RS):Prop where
 ok:R.Ok
 gm:R.gm.length<=8
 fr:∀k,k<R.nf->z7 p (nth R.gm k)
 busy:∀k,k+1<R.nf->IA p (nth R.gm k)
 go:R.status≠2->1<=R.nf
end Go.Proofs.YtjpcgmjaipfgdaaGreatDoor
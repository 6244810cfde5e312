/- Lemmas. No conditions. -/
import Derived.Test.YtijdhbokcdpklaaGreatDoorCk8
set_option linter.all false
set_option maxHeartbeats 4000000
set_option maxRecDepth 10000
namespace Go.Gd
open Go
variable{α:Type}
def dG[Inhabited α](l:List α)(i k:Nat)(v:α)(h:i<l.length):nth (l.set i v) k=if k=i then v else nth l k:=by
 unfold nth;rw[List.getD_eq_getElem?_getD,List.getElem?_set,List.getD_eq_getElem?_getD];by_cases e:i=k
 ·subst e;simp[h]
 ·rw[if_neg e,if_neg (fun h=>e h.symm)]
theorem v7:∀(l m:UL) (i:Nat),aC (l++m) i=(aC l i).or (aC m i)
 |[],m,i=>by simp[aC]
 |(j,r)::l,m,i=>by
  show(if i=j then some r else aC (l++m) i)=((if i=j then some r else aC l i):Option Row).or _;split
  ·rfl
  ·exact v7 l m i
theorem lH:∀(l:UL) (i:Nat),i∈ids l<->aC l i≠none
 |[],i=>by simp[ids,aC]
 |(j,r)::l,i=>by
  have:=lH l i;simp only[ids,List.map_cons,List.mem_cons,aC]at this ⊢;by_cases e:i=j
  ·simp[e]
  ·rw[if_neg e];simp only[e,false_or];exact this
variable{l:UL}
def gf{i:Nat}{r:Row}(h:aC l i=some r):(ids l).contains i=true:=List.contains_iff_mem.2 ((lH l i).2 (by rw[h];simp))
theorem tE(q:UX):∀(l m:UM),aZ q (l++m)=(aZ q l && aZ q m)
 |[],m=>by simp[aZ]
 |a::l,m=>by simp only[List.cons_append,aZ,tE q l m,Bool.and_assoc]
def pj{q:UX}{l:UK}(h:QL q l):aZ q l.flatten=true:=by
 induction l with
 |nil=>rfl
 |cons x l ih=>rw[List.flatten_cons,tE,h x jE,ih fun y hy=>h y (by simp[hy])];rfl
theorem Fy(D:UX):∀(l m:UL),fB D (l++m)=fB D l++fB D m
 |[],m=>rfl
 |(j,r)::l,m=>by show(bif D j then fB D (l++m)else(j,r)::fB D (l++m))=(bif D j then fB D l else(j,r)::fB D l)++_;rw[Fy D l m];cases D j<;>rfl
theorem Ix(D:UX):∀(l:UL),(∀i∈ids l,D i=false)->fB D l=l
 |[],_=>rfl
 |(j,r)::l,h=>by show(bif D j then fB D l else(j,r)::fB D l)=_;rw[h j (by simp[ids]),Ix D l fun i hi=>h i (by simp[ids]at hi ⊢;exact .inr hi)];rfl
theorem Gb(D:UX):∀(l:UL),(∀i∈ids l,D i=true)->fB D l=[]
 |[],_=>rfl
 |(j,r)::l,h=>by show(bif D j then fB D l else(j,r)::fB D l)=_;rw[h j (by simp[ids]),Gb D l fun i hi=>h i (by simp[ids]at hi ⊢;exact .inr hi)];rfl
theorem Fc(D:UX):∀(l m:UL),iO D l->iO D m->iO D (l++m)
 |[],m,_,h=>h
 |(j,r)::l,m,h,k=>⟨h.1,Fc D l m h.2 k⟩
theorem Gp(D:UX):∀(l:UL),(∀i∈ids l,D i=true)->iO D l
 |[],_=>trivial
 |(j,r)::l,h=>⟨.inl (h j (by simp[ids])),Gp D l fun i hi=>h i (by simp[ids]at hi ⊢;exact .inr hi)⟩
theorem BB{q:UX}:∀{l:UK},aZ q l.flatten=true->QL q l
 |[],_,x,hx=>by simp at hx
 |a::l,h,x,hx=>by
  rw[List.flatten_cons,vv,Bool.and_eq_true]at h;rcases List.mem_cons.1 hx with rfl|hx
  ·exact h.1
  ·exact BB h.2 x hx
def Pq{q:UX}:∀{r:Row},aZ q r.cells=true->xp q r
 |.var _ _,h=>h
 |.aG _ _ _,h=>BB h
 |.mp _ _,h=>h
theorem Jt(D:UX):∀(l:UL),(ids l).Nodup->(∀i r,aC l i=some r->aZ (im D) r.cells=true)->iO D l
 |[],_,_=>trivial
 |(j,r)::l,hn,h=>by
  have hn':=List.nodup_cons.1 hn;refine⟨.inr (Pq (h j r (by simp[aC]))),Jt D l hn'.2 fun i r' hi=>h i r' ?_⟩;have:i≠j:=fun e=>by subst e;exact hn'.1 ((lH l i).2 (by rw[hi];simp))
  simp only[aC,if_neg this];exact hi
def wN(p:af)(b:Int):UP:=(nth p.aa.nodes b.toNat).l
def ik(p:af):Int:=js bj.name (⟨#[109,97,105,110]⟩:UR) p.aa.aw 0
def lO(n:Int)(l:UP):Int:=n+l.length
def gw(h:UO):Int:=h.foldl lO (h.length:Int)
def au(p:af)(a:Int):bq:=nth p.aa.nodes a.toNat
def B1(n:Int):UR:=⟨(Lib.itoa n).toArray⟩
def na(v:aj):UR:=
 if v.ty=1 then B1 v.n
 else if v.ty=2 then(if v.n=1 then(⟨#[116,114,117,101]⟩:UR)else(⟨#[102,97,108,115,101]⟩:UR))
 else if v.ty=3 then v.s
 else if v.ty=4 then(⟨#[108,105,115,116]⟩:UR)
 else sE
def bE(n:Int):Prop:=-9223372036854775808<=n/\n<=9223372036854775807
def RU[Inhabited α](l:List α)(i:Nat)(h:i<l.length):l.take (i+1)=l.take i++[nth l i]:=by rw[List.take_succ,List.getElem?_eq_getElem h,fM h];rfl
structure RS where
 gr:List fG
 nf:Nat
 jp:List (List ga)
 heap:List (List Int)
 in_:Int
 bC:List ByteArray
 status:Int
 dn:Int
 time:Int
namespace RS
structure Ok(R:RS):Prop where
 nf:R.nf<=R.gr.length
 jp:R.jp.length=R.gr.length
def fr(R:RS)(k:Nat):UM:=[.raw (.int .i64 (nth R.gr k).fn),.rs (gy 0 k) (nth R.gr k).slots.length 3 (nth R.gr k).slots.length,.rs (gy 1 k) ((nth R.gr k).path.length+(nth R.jp k).length) 2 (nth R.gr k).path.length]
def sl(R:RS)(k:Nat):Row:=.aG 42 3 ((nth R.gr k).slots.map bW)
def pt(R:RS)(k:Nat):Row:=.aG 301 2 (((nth R.gr k).path++nth R.jp k).map tZ)
def hp(R:RS)(k:Nat):Row:=.aG 3 1 ((nth R.heap k).map eI)
def c(R:RS):UM:=[.rs 1 R.gr.length 3 R.nf,.rs 2 R.heap.length 1 R.heap.length,.raw (.int .i64 R.in_),.rs 3 R.bC.length 1 R.bC.length,.raw (.int .i64 R.status),.raw (.int .i64 R.dn),.raw (.int .i64 R.time)]
def e(t:US)(pre post:UM)(R:RS)(tl:UL):UL:=
 (0,.var t (pre++R.c++post))::(1,.aG 304 3 (yi R.gr.length R.fr))::(2,.aG 28 1 (yi R.heap.length fun k=>[.rs (gy 2 k) (nth R.heap k).length 1 (nth R.heap k).length]))::(3,.aG 9 1 (R.bC.map eS)) ::
  iW 0 R.gr.length R.sl (iW 1 R.gr.length R.pt (iW 2 R.heap.length R.hp tl))
end RS
attribute [go_sem] RS.fr RS.sl RS.pt RS.hp RS.c RS.e
def cY.pM{D:UX}{H:Hp}{dd:UM}{i sz m n:Nat}{e:US}{enc:α->UM}[he:bK enc sz](l more:List α)(hD:D i=true)(hi:H.get i=some (.aG e sz ((l++more).map enc)))(hm:m=l.length+more.length)(hn:n=l.length):cY D H (.rs i m sz n) (.sl false sz (l.map enc) dd):=
 .zc dd i sz m n e _ _ hD hi jF jB jF (fun ds XS=>by obtain⟨x,_,rfl⟩:=List.mem_map.1 XS;exact he.len x) (nM l) fun k j c d hk h1 h2=>by
  have Vk:k<l.length:=jB;have e1:((l++more).map enc).getD k []=enc l[k]:=by rw[List.map_append,List.getD_eq_getElem?_getD,List.getElem?_append_left (by simpa using Vk)];simp[Vk]
  have e2:(l.map enc).getD k []=enc l[k]:=by simp[Vk]
  rw[e1]at h1;rw[e2,h1]at h2;cases h2;exact .same c (ql (fun _ h=>by cases h) _ (lz (he.free _) h1))
variable{t:US}{R:RS}{tl:UL}
def RS.uE{pre post:UM}:aC (R.e t pre post tl) 0=some (.var t (pre++R.c++post)):=rfl
def RS.uu{pre post:UM}:aC (R.e t pre post tl) 1=some (.aG 304 3 (yi R.gr.length R.fr)):=rfl
def RS.ua{pre post:UM}:aC (R.e t pre post tl) 2=some (.aG 28 1 (yi R.heap.length fun k=>[.rs (gy 2 k) (nth R.heap k).length 1 (nth R.heap k).length])):=rfl
def RS.uw{pre post:UM}:aC (R.e t pre post tl) 3=some (.aG 9 1 (R.bC.map eS)):=rfl
def RS.pV{pre post:UM}(i:Nat)(h:1000<=i):aC (R.e t pre post tl) i=aC (iW 0 R.gr.length R.sl (iW 1 R.gr.length R.pt (iW 2 R.heap.length R.hp tl))) i:=by unfold RS.e;simp only[aC];rw[jN,jN,jN,jN]
variable{k:Nat}
def RS.p4{pre post:UM}(h:k<R.gr.length):aC (R.e t pre post tl) (gy 0 k)=some (R.sl k):=by rw[RS.pV _ (ze _ _),tQ _ _ _ _ _ jB h]
def RS.BQ{pre post:UM}(h:k<R.gr.length):aC (R.e t pre post tl) (gy 1 k)=some (R.pt k):=by rw[RS.pV _ (ze _ _),rn _ _ _ _ _ _ jB jB jB,tQ _ _ _ _ _ jB h]
def RS.A5{pre post:UM}(h:k<R.heap.length):aC (R.e t pre post tl) (gy 2 k)=some (R.hp k):=by rw[RS.pV _ (ze _ _),rn _ _ _ _ _ _ jB jB jB,rn _ _ _ _ _ _ jB jB jB,tQ _ _ _ _ _ jB h]
theorem Gr(a:Nat)(f:UZ)(l m:UL):∀(n k:Nat),oH a f k n (l++m)=oH a f k n l++m
 |0,k=>rfl
 |n+1,k=>by unfold oH;rw[Gr a f l m n (k+1)];rfl
def DE(a n:Nat)(f:UZ)(l m:UL):iW a n f (l++m)=iW a n f l++m:=Gr a f l m n 0
def RS.xI{pre post:UM}(tl:UL):R.e t pre post tl=R.e t pre post []++tl:=by unfold RS.e;rw[show tl=[]++tl from rfl,DE,DE,DE];rfl
def RS.no{pre post:UM}(i:Nat)(h:4<=i)(h':i<1000):aC (R.e t pre post []) i=none:=by unfold RS.e;simp only[aC];rw[jN,jN,jN,jN,vh _ _ _ _ _ h',vh _ _ _ _ _ h',vh _ _ _ _ _ h'];rfl
def low(tl:UL):Prop:=∀i r,aC tl i=some r->4<=i/\i<1000
def RS.bw{pre post:UM}(h:low tl):Lays (fun tl=>R.e t pre post tl) tl:=⟨fun i=>by rw[RS.xI,v7],fun i r hi=>RS.no i (h i r hi).1 (h i r hi).2⟩
variable{pre' post':UM}
def RS.size{pre post:UM}{R':RS}(h1:R.gr.length<=R'.gr.length)(h2:R.heap.length<=R'.heap.length)(i:Nat)(h:aC (R.e t pre post []) i≠none):aC (R'.e t pre' post' []) i≠none:=by
 by_cases h0:i=0
 ·subst h0;rw[RS.uE];simp
 by_cases Zm:i=1
 ·subst Zm;rw[RS.uu];simp
 by_cases Zy:i=2
 ·subst Zy;rw[RS.ua];simp
 by_cases h3':i=3
 ·subst h3';rw[RS.uw];simp
 by_cases h4:i<1000
 ·exact(h (RS.no i jB h4)).elim
 rw[RS.pV i jB]at h ⊢;rcases vk 0 R.gr.length jB R.sl (iW 1 R.gr.length R.pt (iW 2 R.heap.length R.hp [])) i with⟨k,hk,rfl,e⟩|⟨_,e⟩
 ·rw[tQ _ _ _ _ _ jB jB];simp
 rw[e]at h;rcases vk 1 R.gr.length jB R.pt (iW 2 R.heap.length R.hp []) i with⟨k,hk,rfl,e⟩|⟨_,e⟩
 ·rw[rn _ _ _ _ _ _ jB jB jB,tQ _ _ _ _ _ jB jB];simp
 rw[e]at h;rcases vk 2 R.heap.length jB R.hp [] i with⟨k,hk,rfl,e⟩|⟨_,e⟩
 ·rw[rn _ _ _ _ _ _ jB jB jB,rn _ _ _ _ _ _ jB jB jB,tQ _ _ _ _ _ jB jB];simp
 rw[e]at h;exact(h rfl).elim
theorem F4(a:Nat)(f:UZ)(l:UL):∀(n k:Nat),ids (oH a f k n l)=(List.range' k n).map (gy a)++ids l
 |0,k=>rfl
 |n+1,k=>by unfold oH;rw[List.range'_succ];show gy a k::ids (oH a f (k+1) n l)=_;rw[F4 a f l n (k+1)];rfl
def Cf{a n:Nat}{f:UZ}(ha:a<8)(h:(ids l).Nodup)(hl:∀k,k<n->aC l (gy a k)=Option.none):(ids (iW a n f l)).Nodup:=by
 unfold iW;rw[F4,List.nodup_append];refine⟨?_,h,fun x hx y hy e=>?_⟩
 ·refine List.Pairwise.map _ (fun x y hxy e=>?_) (List.nodup_range' (step:=1) (s:=0) (n:=n) jB);exact hxy (yR ha ha e).2
 ·obtain⟨k,hk,rfl⟩:=List.mem_map.1 hx;subst e;exact(lH _ _).1 hy (hl k (by simp at hk;omega))
theorem nodup_cons{l:UL}{i:Nat}{r:Row}(h:(ids l).Nodup)(hl:aC l i=Option.none):(ids ((i,r)::l)).Nodup:=List.nodup_cons.2 ⟨fun hm=>(lH _ _).1 hm hl,h⟩
def RS.nodup{pre post:UM}:(ids (R.e t pre post [])).Nodup:=by
 have f2:∀i,i<1000->aC (iW 0 R.gr.length R.sl (iW 1 R.gr.length R.pt (iW 2 R.heap.length R.hp []))) i=Option.none:=fun i h=>by rw[vh _ _ _ _ _ h,vh _ _ _ _ _ h,vh _ _ _ _ _ h];rfl
 unfold RS.e;refine nodup_cons (nodup_cons (nodup_cons (nodup_cons (Cf jB (Cf jB (Cf jB List.nodup_nil (fun k _=>rfl)) fun k _=>?_) fun k _=>?_) ?_) ?_) ?_) ?_
 ·rw[rn _ _ _ _ _ _ jB jB jB];rfl
 ·rw[rn _ _ _ _ _ _ jB jB jB,rn _ _ _ _ _ _ jB jB jB];rfl
 ·exact f2 3 jB
 ·show(if(2:Nat)=3 then _ else _)=_;rw[jN];exact f2 2 jB
 ·show(if(1:Nat)=2 then _ else if(1:Nat)=3 then _ else _)=_;rw[jN,jN];exact f2 1 jB
 ·show(if(0:Nat)=1 then _ else if(0:Nat)=2 then _ else if(0:Nat)=3 then _ else _)=_;rw[jN,jN,jN];exact f2 0 jB
def RS.closed{pre post:UM}(h1:aZ eJ pre=true)(h2:aZ eJ post=true):∀i r,aC (R.e t pre post []) i=some r->aZ (fun i=>(ids (R.e t pre post [])).contains i) r.cells=true:=fun i r h=>by
 have up:∀{l},aZ eJ l=true->aZ (fun i=>(ids (R.e t pre post [])).contains i) l=true:=fun h=>fX (fun _ h=>by cases h) _ h
 have c1:=gf (RS.uu (t:=t) (pre:=pre) (post:=post) (R:=R) (tl:=[]));have c2:=gf (RS.ua (t:=t) (pre:=pre) (post:=post) (R:=R) (tl:=[]));have c3:=gf (RS.uw (t:=t) (pre:=pre) (post:=post) (R:=R) (tl:=[]));by_cases h0:i=0
 ·subst h0;rw[RS.uE]at h;cases h;show aZ _ (pre++R.c++post)=true;rw[tE,tE,up h1,up h2];simp only[RS.c,aZ,AV.all,c1,c2,c3,Bool.and_self]
 by_cases Zm:i=1
 ·subst Zm;rw[RS.uu]at h;cases h;exact pj (Hk fun k hk=>by have a:=gf (RS.p4 (t:=t) (pre:=pre) (post:=post) (R:=R) (tl:=[]) hk);have b:=gf (RS.BQ (t:=t) (pre:=pre) (post:=post) (R:=R) (tl:=[]) hk);simp only[RS.fr,aZ,AV.all,a,b,Bool.and_self])
 by_cases Zy:i=2
 ·subst Zy;rw[RS.ua]at h;cases h;exact pj (Hk fun k hk=>by have a:=gf (RS.A5 (t:=t) (pre:=pre) (post:=post) (R:=R) (tl:=[]) hk);simp only[aZ,AV.all,a,Bool.and_self])
 by_cases h3':i=3
 ·subst h3';rw[RS.uw]at h;cases h;exact up (pj (nM (enc:=eS) (sz:=1) _))
 by_cases h4:i<1000
 ·rw[RS.no i jB h4]at h;cases h
 rw[RS.pV i jB]at h;rcases vk 0 R.gr.length jB R.sl (iW 1 R.gr.length R.pt (iW 2 R.heap.length R.hp [])) i with⟨k,hk,rfl,e⟩|⟨_,e⟩
 ·rw[e]at h;cases h;exact up (pj (nM (enc:=bW) (sz:=3) _))
 rw[e]at h;rcases vk 1 R.gr.length jB R.pt (iW 2 R.heap.length R.hp []) i with⟨k,hk,rfl,e⟩|⟨_,e⟩
 ·rw[e]at h;cases h;exact up (pj (nM (enc:=tZ) (sz:=2) _))
 rw[e]at h;rcases vk 2 R.heap.length jB R.hp [] i with⟨k,hk,rfl,e⟩|⟨_,e⟩
 ·rw[e]at h;cases h;exact up (pj (nM (enc:=eI) (sz:=1) _))
 rw[e]at h;cases h
def cE{P:UY}{f:FuncId}{args:UM}{H:Hp}{K:UJ}{pre post:UM}{R':RS}{r0:AV}{B:UQ}(hc:ab P f args (R.e t pre post []) fun r l'=>r=r0/\l'=R'.e t pre' post' [])(hH:H=⟨B,R.e t pre post tl⟩)
  (h1:R.gr.length<=R'.gr.length) (h2:R.heap.length<=R'.heap.length) (hp:aZ eJ pre=true) (hq:aZ eJ post=true) (hl:low tl) (ha:aZ (fun i=>decide (i=0)) args=true) (h0:aS P f=true) (k:K r0 ⟨B,R'.e t pre' post' tl⟩):fh P (.raw (.func (.func f) #[] #[])) args H K:=by
 subst hH;refine nQ h0 (Cj (E:=fun tl=>R.e t pre post tl) (E':=fun tl=>R'.e t pre' post' tl) hc (RS.bw hl) (RS.bw hl) RS.nodup (fX (fun i hi=>?_) _ ha) (RS.closed hp hq) k (RS.size h1 h2));have:i=0:=of_decide_eq_true hi;subst this;exact gf RS.uE
def Af:UX:=fun i=>decide (4<=i/\i<1000)
def fG.pl(f:fG):ga:=nth f.path (f.path.length-1)
def BS(p:af)(node:Int):Prop:=(nth p.aa.nodes node.toNat).kind=10\/(nth p.aa.nodes node.toNat).kind=11
instance (p:af)(node:Int):Decidable (BS p node):=by unfold BS;infer_instance
def RS.A4(R:RS):fG:=nth R.gr (R.nf-1)
def RS.of(s:gF):RS:=⟨s.kq,s.kq.length,s.kq.map fun _=>[],s.heap,s.in_,s.bC,s.status,s.dn,s.time⟩
def BA(p:af)(fn:Int)(args:List aj):fG:=⟨fn,args++List.replicate ((nth p.size fn.toNat)-args.length).toNat v0,[⟨(nth p.aa.aw fn.toNat).body,0⟩]⟩
def IU(p:af)(s:gF)(node:Int)(inp:UP):Prop:=BS p node/\(au p (nth (au p node).l 0)).kind=19/\(inp.length:Int)<=s.in_
instance (p:af)(s:gF)(node:Int)(inp:List Int):Decidable (IU p s node inp):=by unfold IU;infer_instance
end Go.Gd
namespace Go.Proofs.YtijdhbokcdpklaaGreatDoor
open Go Go.Gd Tryz
def gI(t:aH)(a:Int):Prop:=0<=a/\a<t.nodes.length
def Ak(c:Ck):Prop:=c.e=0\/c.e=44\/gI c.aa c.at_
def Kp(t:aH)(c c':Ck):Prop:=c.aa=t->c'.aa=t/\(Ak c->Ak c')
def Kp.refl(t:aH)(c:Ck):Kp t c c:=fun h=>⟨h,id⟩
variable{t:aH}{b:Ck}
def Kp.trans{a c:Ck}(h:Kp t a b)(k:Kp t b c):Kp t a c:=fun e=>⟨(k (h e).1).1,fun x=>(k (h e).1).2 ((h e).2 x)⟩
variable{c':Ck}
def pP{c:Ck}(h1:c'.aa=c.aa)(h2:c'.e=c.e)(h3:c'.at_=c.at_):Kp t c c':=fun e=>⟨h1.trans e,fun h=>by unfold Ak at*;rw[h1,h2,h3];exact h⟩
variable{a:Int}
def rQ(c:Ck)(e:Int)(ha:gI t a):Kp t c (c.aE e a):=fun ht=>by
 unfold Ck.aE;split
 ·refine⟨ht,fun _=>.inr (.inr ?_)⟩;show gI c.aa a;rw[ht];exact ha
 ·exact⟨ht,id⟩
def qC(c:Ck)(b:Bool)(ha:gI t a):Kp t c (c.av b a):=by
 unfold Ck.av;split
 ·exact .refl t c
 ·exact rQ c 42 ha
def Ab(c:Ck)(ha:gI t a):Kp t c (c.named a).1:=by
 unfold Ck.named;split
 ·exact rQ c 40 ha
 ·exact pP rfl rfl rfl
variable{α:Type}
def JI[Inhabited α]{l:List α}{i:Nat}(h:l.length<=i):nth l i=default:=by simp[nth,List.getD_eq_getElem?_getD,List.getElem?_eq_none h]
def vp(h:aR t){c:Ck}(hc:c.aa=t)(ha:gI t a)(i:Nat):gI t (c.aF a i):=by
 obtain⟨h0,h1⟩:=ha;unfold Ck.aF Ck.node;rw[hc];by_cases hi:i<(nth t.nodes a.toNat).l.length
 ·have:=(h.shape a.toNat jB).2.1 _ (fa hi);unfold gI;omega
 ·have:nth (nth t.nodes a.toNat).l i=0:=JI (Nat.le_of_not_lt hi);rw[this];unfold gI;omega
def z8(h:aR t){c:Ck}(hc:c.aa=t)(ha:gI t a):∀x∈(c.node a).l,gI t x:=fun x hx=>by obtain⟨h0,h1⟩:=ha;unfold Ck.node at hx;rw[hc]at hx;have:=(h.shape a.toNat jB).2.1 _ hx;unfold gI;omega
theorem Bw{t:aH}{ex:Ck->Int->Ck×Int}(hex:∀c a,gI t a->Kp t c (ex c a).1):∀(l:UP) (c:Ck) (ts:UP),(∀x∈l,gI t x)->Kp t c (gG ex c l ts).1
 |[],c,ts,_=>by unfold gG;exact .refl t c
 |a::l,c,ts,hl=>by
  unfold gG;split
  ·exact(hex c a (hl a jE)).trans (Bw hex l _ _ fun x hx=>hl x (by simp[hx]))
  ·exact .refl t c
theorem I9{t:aH}{a:Int}(ha:gI t a):∀(ts:UP) (ps:List bM) (c:Ck),Kp t c (iE a c ts ps)
 |[],ps,c=>by rw[tV];exact .refl t c
 |_::_,[],c=>by rw[ux];exact .refl t c
 |x::ts,p::ps,c=>by
  unfold iE;split
  ·exact(qC c _ ha).trans (I9 ha ts ps _)
  ·exact .refl t c
variable{ex:Ck->Int->Ck×Int}
def Ra(h:aR t)(hex:∀c a,gI t a->Kp t c (ex c a).1)(c:Ck)(ha:gI t a):Kp t c (je ex c a).1:=fun hc=>by
 refine(show Kp t c (je ex c a).1 from ?_) hc;unfold je;split
 ·exact rQ c 40 ha
 ·refine Kp.trans ?_ (I9 ha _ _ _);split
  ·exact(Bw hex _ _ _ (z8 h hc ha)).trans (rQ _ 43 ha)
  ·exact Bw hex _ _ _ (z8 h hc ha)
def Mf(h:aR t)(hex:∀c a,gI t a->Kp t c (ex c a).1)(c:Ck)(ha:gI t a):Kp t c (cw ex c a).1:=fun hc=>by
 have k0:=vp h hc ha 0;have k1:=vp h hc ha 1;refine(show Kp t c (cw ex c a).1 from ?_) hc;unfold cw;simp only;repeat' split
 all_goals first
  |exact .refl t c
  |exact Ab c ha
  |exact Ra h hex c ha
  |exact((Ab c ha).trans (hex _ _ k0)).trans (qC _ _ ha)
  |exact((hex c _ k0).trans (hex _ _ k1)).trans (qC _ _ ha)
  |exact(hex c _ k0).trans (qC _ _ ha)
theorem I7{t:aH}(h:aR t):∀(n:Nat) (c:Ck) (a:Int),gI t a->Kp t c (aA n c a).1
 |0,c,a,ha=>by unfold aA;exact .refl t c
 |n+1,c,a,ha=>by
  unfold aA;split
  ·exact .refl t c
  ·exact(Mf h (I7 h n) c ha).trans (pP rfl rfl rfl)
def N8(h:aR t)(hex:∀c a,gI t a->Kp t c (ex c a).1)(c:Ck)(ha:gI t a):Kp t c (pm ex c a):=fun hc=>by
 have k0:=vp h hc ha 0;refine(show Kp t c (pm ex c a) from ?_) hc;rw[uF];have kA:Kp t c (iS ex c a):=(hex c _ k0).trans (qC _ _ ha);have kB:Kp t c (jO ex c a):=by
  unfold jO;split
  ·exact kA.trans (rQ _ 41 ha)
  ·exact kA
 have kC:Kp t c (eR ex c a):=by
  unfold eR;split
  ·exact kB.trans (rQ _ 4 ha)
  ·exact kB
 exact kC.trans (pP rfl rfl rfl)
def PD(h:aR t)(hex:∀c a,gI t a->Kp t c (ex c a).1)(c:Ck)(ha:gI t a):Kp t c (kJ ex c a):=fun hc=>by
 have k0:=vp h hc ha 0;refine(show Kp t c (kJ ex c a) from ?_) hc;unfold kJ;simp only;split
 ·exact rQ c 43 ha
 split
 ·exact(hex c _ k0).trans (qC _ _ ha)
 ·exact .refl t c
theorem DG{t:aH}{st:Ck->Int->Ck}(P':∀c a,gI t a->Kp t c (st c a)):∀(l:UP) (c:Ck),(∀x∈l,gI t x)->Kp t c (dS st c l)
 |[],c,_=>by unfold dS;exact .refl t c
 |a::l,c,hl=>by
  unfold dS;split
  ·exact(P' c a (hl a jE)).trans (DG P' l _ fun x hx=>hl x (by simp[hx]))
  ·exact .refl t c
def FU(h:aR t){st:Ck->Int->Ck}(P':∀c a,gI t a->Kp t c (st c a))(c:Ck)(ha:gI t a):Kp t c (fp st c a):=fun hc=>by refine(show Kp t c (fp st c a) from ?_) hc;have h1:Kp t c (c.ai a):=pP rfl rfl rfl;exact(h1.trans (DG P' _ _ (z8 h hc ha))).trans (pP rfl rfl rfl)
theorem Eb{t:aH}(h:aR t):∀(n:Nat) (c:Ck) (a:Int),gI t a->Kp t c (bU n c a)
 |0,c,a,ha=>by unfold bU;exact .refl t c
 |n+1,c,a,ha=>fun hc=>by
  have k0:=vp h hc ha 0;have k1:=vp h hc ha 1;have kl:=z8 h hc ha;refine(show Kp t c (bU (n+1) c a) from ?_) hc;have e0:Kp t c (c.ai a):=pP rfl rfl rfl;have hx:=I7 h n;unfold bU;simp only;refine e0.trans ?_;repeat' split
  ·exact N8 h hx _ ha
  ·exact((Ab _ ha).trans (hx _ _ k0)).trans (qC _ _ ha)
  ·exact(((Ab _ ha).trans (hx _ _ k0)).trans (hx _ _ k1)).trans (qC _ _ ha)
  ·exact hx _ _ k0
  ·exact(hx _ _ k0).trans (qC _ _ ha)
  ·exact PD h hx _ ha
  ·exact((hx _ _ k0).trans (qC _ _ ha)).trans (DG (fun c a ha=>FU h (Eb h n) c ha) _ _ fun x Vx=>kl x (List.mem_of_mem_drop Vx))
theorem Ij{t:aH}{body:Int}(hb:gI t body):∀(ps:List bM) (c:Ck) (i:Int),Kp t c (fF body c ps i)
 |[],c,i=>by unfold fF;exact .refl t c
 |p::ps,c,i=>by
  unfold fF;simp only;refine Kp.trans ?_ (Ij hb ps _ _);split
  ·exact(rQ c 41 hb).trans (pP rfl rfl rfl)
  ·exact pP rfl rfl rfl
variable{k:Nat}
def pB(h:aR t)(hk:k<t.aw.length):gI t (nth t.aw k).body:=by have:=h.chain.mem (nth t.aw k).body (List.mem_map.2 ⟨_,fa hk,rfl⟩);unfold gI;omega
def R6(h:aR t)(c:Ck)(hk:k<t.aw.length):Kp t c (gU c k):=fun hc=>by
 refine(show Kp t c (gU c k) from ?_) hc;have hb:gI t (nth c.aa.aw k).body:=by rw[hc];exact pB h hk
 have h1:Kp t c (fF (nth c.aa.aw k).body { c with fn:=(k:Int),vars:=[],more:=[],size:=0 } (nth c.aa.aw k).params 0):=Kp.trans (b:={ c with fn:=(k:Int),vars:=[],more:=[],size:=0 }) (pP rfl rfl rfl) (Ij hb _ _ _);unfold gU;simp only;split
 ·exact(h1.trans (FU h (Eb h _) _ hb)).trans (pP rfl rfl rfl)
 ·exact h1.trans (pP rfl rfl rfl)
theorem D6{t:aH}(h:aR t):∀(n:Nat) (c:Ck) (i:Nat),i+n<=t.aw.length->Kp t c (gA c i n)
 |0,c,i,_=>by unfold gA;exact .refl t c
 |n+1,c,i,hi=>by
  unfold gA;split
  ·exact(R6 h c jB).trans (D6 h n _ _ jB)
  ·exact .refl t c
theorem Eg{t:aH}{x:bj}(hx:gI t x.body):∀(l:List bj) (c:Ck),Kp t c (kT x c l)
 |[],c=>by unfold kT;exact .refl t c
 |f::l,c=>by
  unfold kT;refine Kp.trans ?_ (Eg hx l _);split
  ·exact rQ c 41 hx
  ·exact .refl t c
theorem IZ{t:aH}(h:aR t):∀(n:Nat) (c:Ck) (m:Bool) (i:Nat),i+n<=t.aw.length->Kp t c (kn t.aw c m i n).1
 |0,c,m,i,_=>by unfold kn;exact .refl t c
 |n+1,c,m,i,hi=>by unfold kn;exact(Eg (pB h jB) _ _).trans (IZ h n _ _ _ jB)
def QX(h:aR t)(c:Ck):Kp t c (jd c):=fun hc=>by
 have h1:Kp t c (kn c.aa.aw c false 0 c.aa.aw.length).1:=by rw[hc];exact IZ h _ _ _ _ jB
 refine(show Kp t c (jd c) from ?_) hc;unfold jd;simp only;split
 ·exact h1
 ·refine h1.trans fun hq=>?_
  unfold Ck.aE;split
  ·exact⟨hq,fun _=>.inr (.inl rfl)⟩
  ·exact⟨hq,id⟩
def S6(h:aR t):Ak (jb t)/\(jb t).aa=t:=by have k:Kp t (jU t) (jb t):=(QX h (jU t)).trans (D6 h _ _ _ jB);exact⟨(k rfl).2 (.inl rfl),(k rfl).1⟩
def Ly(h:aR t):(iA t).2.2=0\/(iA t).2.2=44\/gI t (iA t).2.1:=by
 obtain⟨a,b⟩:=S6 h;unfold iA;split
 ·rcases a with a|a|a
  ·exact .inl a
  ·exact .inr (.inl a)
  ·rw[b]at a;exact .inr (.inr a)
 ·exact .inl rfl
def Dl(s:UR)(hs:s.size<=1000000):aB prog 6 [rS s] (.aQ [.agg (cf (fZ s).1),rI (fZ s).2.1,rI (fZ s).2.2]):=by
 have hp:=QZ s hs;by_cases h1:(gY s).2.2=0
 ·have ht:=u9 h1;have hk:=LB (gY s).1 ht;have VF:=Ly ht;by_cases h2:(iA (gY s).1).2.2=44
  ·have e:fZ s=(la,0,44):=by unfold fZ;rw[if_neg (fun h=>h h1)];simp only;rw[if_pos h2]
   rw[e];refine bF func6 ntmps6 ?_
   (have W:=jA h1 h2;repeat' (first|refine aq fun K hK=>?_|refine ak ?_|(refine hK _ _ ?_;clear hK K)|(refine ao ?_ ?_<;>intro hc<;>try exact jz)|refine cp (hp) ?_|refine cp (hk) ?_|refine ap ?_|exact jI|(clear hK K)))
   refine fH [.cell 2 30,.tmp 3,.tmp 4] ?_;refine bt.aQ (ds:=[.agg (cf la),rI _,rI _]) ?_;refine jA (bt.agg (ds:=cf la) ?_) (jA (.same _ rfl) (jA (.same _ rfl) trivial));simp only[cf,la];exact jo
  ·by_cases h3:(iA (gY s).1).2.2=0
   ·have e:fZ s=((iA (gY s).1).1,0,0):=by unfold fZ;rw[if_neg (fun h=>h h1)];simp only;rw[if_neg h2,if_neg (fun h=>h h3)]
    rw[e];refine bF func6 ntmps6 ?_
    (have W:=jA h1 h3;repeat' (first|refine aq fun K hK=>?_|refine ak ?_|(refine hK _ _ ?_;clear hK K)|(refine ao ?_ ?_<;>intro hc<;>try exact jz)|refine cp (hp) ?_|refine cp (hk) ?_|refine ap ?_|exact jI|(clear hK K)))
    (refine aW [.cell 2 30,.tmp 3,.tmp 4] ?_;try simp only[go_sem])
   ·have e:fZ s=(la,(nth (gY s).1.nodes (iA (gY s).1).2.1.toNat).cV,(iA (gY s).1).2.2):=by unfold fZ;rw[if_neg (fun h=>h h1)];simp only;rw[if_neg h2,if_pos h3]
    obtain⟨VR,Xa⟩:=(VF.resolve_left h3).resolve_left h2;rw[e];refine bF func6 ntmps6 ?_
    (have W:=jA h1 (jA h2 (h3));repeat' (first|refine aq fun K hK=>?_|refine ak ?_|(with_reducible refine gR 8 ?_);refine dA 8 [0] (ba 0 11) mixed ?_|(refine hK _ _ ?_;clear hK K)|(refine ao ?_ ?_<;>intro hc<;>try exact jz)|refine cp (hp) ?_|refine cp (hk) ?_|refine ap ?_|exact jI|(clear hK K)))
    refine fH [.cell 2 30,.tmp 3,.tmp 4] ?_;refine bt.aQ (ds:=[.agg (cf la),rI _,rI _]) ?_;refine jA (bt.agg (ds:=cf la) ?_) (jA (.same _ rfl) (jA (.same _ rfl) trivial));simp only[cf,la];exact jo
 ·have e:fZ s=(la,(gY s).2.1,(gY s).2.2):=by unfold fZ;rw[if_pos h1]
  rw[e];refine bF func6 ntmps6 ?_
  (have W:=h1;repeat' (first|refine aq fun K hK=>?_|refine ak ?_|(refine hK _ _ ?_;clear hK K)|(refine ao ?_ ?_<;>intro hc<;>try exact jz)|refine cp (hp) ?_|refine ap ?_|exact jI|(clear hK K)))
  refine fH [.cell 2 30,.tmp 3,.tmp 4] ?_;refine bt.aQ (ds:=[.agg (cf la),rI _,rI _]) ?_;refine jA (bt.agg (ds:=cf la) ?_) (jA (.same _ rfl) (jA (.same _ rfl) trivial));simp only[cf,la];exact jo
def yj[Inhabited α](l:List α)(i k:Nat)(v:α):nth (l.set i v) k=if i=k/\k<l.length then v else nth l k:=by
 unfold nth;rw[List.getD_eq_getElem?_getD,List.getElem?_set,List.getD_eq_getElem?_getD];by_cases h:i=k
 ·subst h;by_cases hi:i<l.length
  ·simp[hi]
  ·simp[hi]
 ·simp[h]
structure vz(t:aH)(ty:List Int)(k:Nat):Prop where
 int:(nth t.nodes k).kind=1->nth ty k=1
 bool:(nth t.nodes k).kind=2->nth ty k=2
 text:(nth t.nodes k).kind=3->nth ty k=3
 var:(nth t.nodes k).kind=4->1<=nth ty k/\nth ty k<=4
 index:(nth t.nodes k).kind=5->nth ty k=1/\nth ty (nth (nth t.nodes k).l 0).toNat=1
 len:(nth t.nodes k).kind=6->nth ty k=1/\(nth ty (nth (nth t.nodes k).l 0).toNat=3\/nth ty (nth (nth t.nodes k).l 0).toNat=4)
 neg:(nth t.nodes k).kind=7->nth ty k=1/\nth ty (nth (nth t.nodes k).l 0).toNat=1
 not:(nth t.nodes k).kind=8->nth ty k=2/\nth ty (nth (nth t.nodes k).l 0).toNat=2
 Q4:(nth t.nodes k).kind=9->nth ty k=lZ (nth t.nodes k).name (nth ty (nth (nth t.nodes k).l 0).toNat) (nth ty (nth (nth t.nodes k).l 1).toNat)/\nth ty k≠0
 cond:(nth t.nodes k).kind=15\/(nth t.nodes k).kind=16->nth ty (nth (nth t.nodes k).l 0).toNat=2
 call:(nth t.nodes k).kind=21->0<=jR bj.name (nth t.nodes k).name t.aw 0 (-1)/\(nth t.nodes k).l.length=(nth t.aw (jR bj.name (nth t.nodes k).name t.aw 0 (-1)).toNat).params.length
 in_:(nth t.nodes k).kind=19->nth ty k=1
 new:(nth t.nodes k).kind=20->nth ty k=4
 Ce:(nth t.nodes k).kind=10->1<=nth ty (nth (nth t.nodes k).l 0).toNat/\nth ty (nth (nth t.nodes k).l 0).toNat<=4
def gj(t:aH)(ty:UP)(lo hi:Nat):Prop:=∀k,lo<=k->k<hi->vz t ty k
def Tw(lo hi:Nat)(c c':Ck):Prop:=∀k,(k<lo\/hi<=k)->nth c'.types k=nth c.types k
variable{lo hi:Nat}{L:UP}
def _root_.Go.Gd.aL.closed{t:List bq}(h:aL t lo L hi):∀k,lo<=k->k<hi->∀a∈(nth t k).l,lo<=a.toNat:=by
 induction h with
 |nil=>intro k h1 h2;omega
 |@cons lo c hi L hc h1 h2 i1 i2=>
  intro k Vr Vc a ha;have l1:=h1.le;by_cases h:k<c
  ·exact i1 k Vr h a ha
  by_cases h':k=c
  ·subst h';exact(h1.mem a ha).2.1
  ·have:=i2 k jB Vc a ha;omega
variable{ty:UP}
def vz.aY(h:aR t){ty':UP}(hk:k<t.nodes.length)(U1:lo<=k)(hc:∀a∈(nth t.nodes k).l,lo<=a.toNat)(he:∀i,lo<=i->i<=k->nth ty' i=nth ty i)(x:vz t ty k):vz t ty' k:=by
 have hm:=(h.shape k hk).2.1;have sh:=(h.shape k hk).1;have e0:=he k U1 jl;have ea:∀i,i<(nth t.nodes k).l.length->nth ty' (nth (nth t.nodes k).l i).toNat=nth ty (nth (nth t.nodes k).l i).toNat:=fun i hi=>by have VI:=fa hi;have:=hm _ VI;exact he _ (hc _ VI) jB
 refine⟨fun e=>by rw[e0];exact x.int e,fun e=>by rw[e0];exact x.bool e,fun e=>by rw[e0];exact x.text e,fun e=>by rw[e0];exact x.var e,fun e=>?_,fun e=>?_,fun e=>?_,fun e=>?_,fun e=>?_,fun e=>?_,x.call,fun e=>by rw[e0];exact x.in_ e,fun e=>by rw[e0];exact x.new e,fun e=>?_⟩
 ·obtain⟨a,hl,_⟩:=sh.one jB;rw[e0,ea 0 (by rw[hl];simp)];exact x.index e
 ·obtain⟨a,hl,_⟩:=sh.one jB;rw[e0,ea 0 (by rw[hl];simp)];exact x.len e
 ·obtain⟨a,hl,_⟩:=sh.one jB;rw[e0,ea 0 (by rw[hl];simp)];exact x.neg e
 ·obtain⟨a,hl,_⟩:=sh.one jB;rw[e0,ea 0 (by rw[hl];simp)];exact x.not e
 ·obtain⟨a,b,hl,_⟩:=sh.two jB;rw[e0,ea 0 (by rw[hl];simp),ea 1 (by rw[hl];simp)];exact x.Q4 e
 ·have hl:0<(nth t.nodes k).l.length:=by
   rcases e with e|e
   ·obtain⟨a,b,_,_,hl|⟨d,hl,_⟩⟩:=sh.lA e<;>rw[hl]<;>simp
   ·obtain⟨a,b,hl,_⟩:=sh.eF e;rw[hl];simp
  rw[ea 0 hl];exact x.cond e
 ·obtain⟨a,hl,_⟩:=sh.right jB;rw[ea 0 (by rw[hl];simp)];exact x.Ce e
theorem gj.aY{t:aH}(h:aR t){ty ty':UP}{lo hi:Nat}{L:UP}(hc:aL t.nodes lo L hi)(hl:hi<=t.nodes.length)(he:∀i,lo<=i->i<hi->nth ty' i=nth ty i)(x:gj t ty lo hi):gj t ty' lo hi:=fun k h1 h2=> (x k h1 h2).aY h jB h1 (hc.closed k h1 h2) fun i g1 g2=>he i g1 jB
variable{mid:Nat}
def gj.join(x:gj t ty lo mid)(y:gj t ty mid hi):gj t ty lo hi:=fun k h1 h2=>by
 by_cases h:k<mid
 ·exact x k h1 h
 ·exact y k jB h2
def gj.none:gj t ty lo lo:=fun k h1 h2=>jB
def Tw.refl(lo hi:Nat)(c:Ck):Tw lo hi c c:=fun _ _=>rfl
def Tw.same{c:Ck}(h:c'.types=c.types):Tw lo hi c c':=fun _ _=>by rw[h]
theorem Tw.trans{lo hi:Nat}{a b c:Ck}(h:Tw lo hi a b)(k:Tw lo hi b c):Tw lo hi a c:=fun i hi=>(k i hi).trans (h i hi)
def Tw.mono{lo' VE:Nat}{a:Ck}(h:Tw lo hi a b)(h1:lo'<=lo)(h2:hi<=VE):Tw lo' VE a b:=fun i hi=>h i jB
def CX(c:Ck)(e a:Int):(c.aE e a).types=c.types:=by unfold Ck.aE;split<;>rfl
def lJ(c:Ck)(b:Bool)(a:Int):(c.av b a).types=c.types:=by unfold Ck.av;split;rfl;exact CX _ _ _
def jZ{c:Ck}{b:Bool}(h:(c.av b a).e=0):b=true/\c.e=0:=by
 unfold Ck.av at h;split at h
 ·exact⟨by assumption,h⟩
 ·exfalso;unfold Ck.aE at h;split at h
  ·cases h
  ·contradiction
def qi{c:Ck}{e:Int}(he:e≠0)(h:(c.aE e a).e=0):False:=by
 unfold Ck.aE at h;split at h
 ·exact he h
 ·contradiction
def ym(c:Ck)(a:Int):(c.named a).1.types=c.types:=by unfold Ck.named;split;exact CX _ _ _;rfl
def cX(c:Ck):Prop:=∀v∈c.vars,1<=v.ty/\v.ty<=4
def cX.ev{c:Ck}(h:cX c)(s:Ev c c'):cX c':=by unfold cX;rw[s.vars];exact h
def KH{c:Ck}(h:cX c)(he:(c.named a).1.e=0):1<=(c.named a).2/\(c.named a).2<=4:=by
 unfold Ck.named at he ⊢;split
 ·rename_i hf;rw[if_pos hf]at he;exact(qi jC he).elim
 ·rename_i hf;rcases z6 bI.name (c.node a).name c.vars 0 jB with⟨h1,_⟩|h1
  ·exact(hf (by show js bI.name (c.node a).name c.vars 0<0;rw[h1];decide)).elim
  ·exact h _ (fa (by show(js bI.name (c.node a).name c.vars 0).toNat<_;omega))
def Ev.e0{c:Ck}(s:Ev c c')(h:c'.e=0):c.e=0:=Classical.byContradiction fun e=>s.err e h
structure gv(t:aH)(lo hi:Nat)(c c':Ck):Prop where
 tw:Tw lo hi c c'
 all:gj t c'.types lo hi
def gv.post{a c:Ck}(h:gv t lo hi a b)(e:c.types=b.types):gv t lo hi a c:=⟨h.tw.trans (.same e),by rw[e];exact h.all⟩
def gv.pre{a c:Ck}(e:b.types=a.types)(h:gv t lo hi b c):gv t lo hi a c:=⟨(Tw.same e).trans h.tw,h.all⟩
def gv.seq(ht:aR t){a c:Ck}(hc:aL t.nodes lo L mid)(hl:mid<=t.nodes.length)(h1:mid<=hi)(h:gv t lo mid a b)(k:gv t mid hi b c):gv t lo hi a c:=
 ⟨(h.tw.mono jl h1).trans (k.tw.mono hc.le jl),(h.all.aY ht hc hl fun i _ h2=>k.tw i (.inl h2)).join k.all⟩
def CB(t:aH)(n:Nat):Prop:=∀(c:Ck) (a:Int) (lo:Nat),bJ c->c.aa=t->cX c->0<=a->a<t.nodes.length->a.toNat<n->fy (bX t.nodes a)->aL t.nodes lo (nth t.nodes a.toNat).l a.toNat->(aA n c a).1.e=0->
 gv t lo (a.toNat+1) c (aA n c a).1/\nth (aA n c a).1.types a.toNat=(aA n c a).2/\0<=(aA n c a).2/\(aA n c a).2<=4
variable{t:List bq}
def kG(h:aL t lo [a] hi):0<=a/\a<t.length/\lo<=a.toNat/\hi=a.toNat+1/\aL t lo (nth t a.toNat).l a.toNat:=by
 cases h with
 |cons hc h1 h2=> cases h2;exact⟨jB,jB,by have:=h1.le;simpa using this,jE,by simpa using h1⟩
def kM(h:aL t lo (a::L) hi):0<=a/\a<t.length/\lo<=a.toNat/\a.toNat+1<=hi/\aL t lo (nth t a.toNat).l a.toNat/\aL t (a.toNat+1) L hi:=by
 cases h with
 |cons hc h1 h2=>exact⟨jB,jB,by have:=h1.le;simpa using this,by have:=h2.le;simpa using this,by simpa using h1,by simpa using h2⟩
def aL.oD(h0:0<=a)(h1:a<t.length)(h:aL t lo (nth t a.toNat).l a.toNat):aL t lo [a] (a.toNat+1):=by have e:a=((a.toNat:Nat):Int):=jB;rw[e];exact aL.one jB (by simpa using h)
theorem EA{t:aH}(ht:aR t){n:Nat}(hx:CB t n):∀(L:UP) (c:Ck) (ts:UP) (lo hi:Nat),bJ c->c.aa=t->cX c->hi<=n->hi<=t.nodes.length->(∀x∈L,fy (bX t.nodes x))->aL t.nodes lo L hi->(gG (aA n) c L ts).1.e=0->gv t lo hi c (gG (aA n) c L ts).1
 |[],c,ts,lo,hi,h,hc,hv,hn,hl,hr,U3,he=>by cases U3;unfold gG;exact⟨.refl _ _ _,.none⟩
 |a::L,c,ts,lo,hi,h,hc,hv,hn,hl,hr,U3,he=>by have e0:=(uM (fx n) (a::L) c ts).e0 he;unfold gG at he ⊢;rw[if_pos e0]at he ⊢;obtain⟨c1,c2,c3,c4,c5,c6⟩:=kM U3;have ev:=fx n c a;have e1:=(uM (fx n) L _ _).e0 he;have r1:=(hx c a lo h hc hv c1 c2 jB (hr a jE) c5 e1).1;exact r1.seq ht (aL.oD c1 c2 c5) jB jB (EA ht hx L _ _ _ hi (h.ev ev) (ev.aa.trans hc) (hv.ev ev) hn hl (fun x hx=>hr x (by simp[hx])) c6 he)
theorem FY(a:Int):∀(ts:UP) (ps:List bM) (c:Ck),(iE a c ts ps).types=c.types
 |[],ps,c=>by rw[tV]
 |_::_,[],c=>by rw[ux]
 |x::ts,p::ps,c=>by
  unfold iE;split
  ·rw[FY a ts ps _];exact lJ _ _ _
  ·rfl
variable{t:aH}{n:Nat}
def La(ht:aR t)(hx:CB t n){c:Ck}(h:bJ c)(hc:c.aa=t)(hv:cX c)(h0:0<=a)(h1:a<t.nodes.length)(hn:a.toNat<=n)(hk:(nth t.nodes a.toNat).kind=21)(U3:aL t.nodes lo (nth t.nodes a.toNat).l a.toNat)(he:(je (aA n) c a).1.e=0) :
  gv t lo a.toNat c (je (aA n) c a).1/\(0<=(je (aA n) c a).2/\(je (aA n) c a).2<=4)/\0<=jR bj.name (nth t.nodes a.toNat).name t.aw 0 (-1)/\(nth t.nodes a.toNat).l.length=(nth t.aw (jR bj.name (nth t.nodes a.toNat).name t.aw 0 (-1)).toNat).params.length:=by
 have p':c.node a=nth t.nodes a.toNat:=by unfold Ck.node;rw[hc]
 have Vp:=(ht.shape a.toNat jB).1.call hk;unfold je at he ⊢;split at he
 ·exact(qi jC he).elim
 rename_i hf;rw[if_neg hf];simp only at he ⊢;have e1:=(zU a _ _ _).e0 he;split at e1
 ·exact(qi jC e1).elim
 rename_i hl;rw[if_neg hl];have r:=EA ht hx (c.node a).l c [] lo a.toNat h hc hv hn jB (fun x Vx=>.inl (Vp x (by rw[<-p'];exact Vx))) (by rw[p'];exact U3) e1;have Zz:fV c a=jR bj.name (nth t.nodes a.toNat).name t.aw 0 (-1):=by unfold fV;rw[p',hc]
 refine⟨r.post (FY _ _ _ _),?_,by rw[<-Zz];omega,by rw[<-Zz,<-p',<-hc];omega⟩;have VY:(nth c.aa.aw (fV c a).toNat)∈c.aa.aw\/(nth c.aa.aw (fV c a).toNat)=default:=by
  by_cases hi:(fV c a).toNat<c.aa.aw.length
  ·exact .inl (fa hi)
  ·exact .inr (JI (Nat.le_of_not_lt hi))
 rcases VY with VY|VY
 ·exact(ht.fn _ (by rw[<-hc];exact VY)).1.ret
 ·rw[VY];decide
def QU(s:UR)(a b:Int):0<=lZ s a b/\lZ s a b<=4:=by
 unfold lZ;repeat' split
 all_goals omega
def KS(ht:aR t){c:Ck}{T:Int}(hl:c'.types.length=t.nodes.length)(h0:0<=a)(h1:a<t.nodes.length)(U3:aL t.nodes lo (nth t.nodes a.toNat).l a.toNat)(r:gv t lo a.toNat c c')(hT:vz t (c'.types.set a.toNat T) a.toNat) :
  gv t lo (a.toNat+1) c (c'.note a T)/\nth (c'.note a T).types a.toNat=T:=by
 have hs:∀k,nth (c'.note a T).types k=if a.toNat=k/\k<c'.types.length then T else nth c'.types k:=fun k=>yj _ _ _ _
 refine⟨⟨fun k hk=>?_,?_⟩,by rw[hs,if_pos ⟨rfl,jB⟩]⟩
 ·have U1:=U3.le;rw[hs,jN];exact r.tw k jB
 ·refine(r.all.aY ht U3 jB fun i _ h2=>by rw[hs,jN]).join fun k g1 g2=>?_
  have:k=a.toNat:=jB;subst this;exact hT
theorem xy{t:aH}(ht:aR t):∀n,CB t n
 |0=>fun c a lo h hc hv h0 h1 hn=>by omega
 |n+1=>fun c a lo h hc hv h0 h1 hn hr U3 he=>by
  have hx:=xy ht n;have e0:=(fx (n+1) c a).e0 he;unfold aA at he ⊢;rw[jN]at he ⊢;simp only at he ⊢;have he:(cw (aA n) c a).1.e=0:=he;have p':c.node a=nth t.nodes a.toNat:=by unfold Ck.node;rw[hc]
  have sh:=(ht.shape a.toNat jB).1;have O':(cw (aA n) c a).1.types.length=t.nodes.length:=by rw[(Bk (fx n) c a).types,h.types,hc]
  -- what is to be shown of the node itself
  suffices hs:gv t lo a.toNat c (cw (aA n) c a).1/\vz t ((cw (aA n) c a).1.types.set a.toNat (cw (aA n) c a).2) a.toNat/\0<=(cw (aA n) c a).2/\(cw (aA n) c a).2<=4 by obtain⟨s1,s2,s3⟩:=hs;obtain⟨g1,g2⟩:=KS ht O' h0 h1 U3 s1 s2;exact⟨g1,g2,s3⟩
  have U2:∀T,nth ((cw (aA n) c a).1.types.set a.toNat T) a.toNat=T:=fun T=>by rw[yj,if_pos ⟨rfl,jB⟩]
  have VX:∀T k,k≠a.toNat->nth ((cw (aA n) c a).1.types.set a.toNat T) k=nth (cw (aA n) c a).1.types k:=fun T k hk=>by rw[yj,jN]
  have leaf:(nth t.nodes a.toNat).l=[]->∀c',c'.types=c.types->gv t lo a.toNat c c':=fun hl c' e=>by
   rw[hl]at U3;have:lo=a.toNat:=by cases U3;rfl
   subst this;exact⟨.same e,.none⟩
  have kid1:∀c0 x,bJ c0->c0.aa=t->cX c0->c0.types=c.types->(nth t.nodes a.toNat).l=[x]->fy (bX t.nodes x)->(aA n c0 x).1.e=0->gv t lo a.toNat c (aA n c0 x).1/\nth (aA n c0 x).1.types x.toNat=(aA n c0 x).2/\x.toNat≠a.toNat:=fun c0 x g1 g2 g3 g4 hl Yt Vs=>by rw[hl]at U3;obtain⟨c1,c2,c3,c4,c5⟩:=kG U3;obtain⟨r1,r2,_⟩:=hx c0 x lo g1 g2 g3 c1 c2 jB Yt c5 Vs;rw[c4];exact⟨r1.pre g4,r2,jB⟩
  have kd:∀i,c.aF a i=nth (nth t.nodes a.toNat).l i:=fun i=>by unfold Ck.aF;rw[p']
  have hkr:(nth t.nodes a.toNat).kind=1\/(nth t.nodes a.toNat).kind=2\/(nth t.nodes a.toNat).kind=3\/(nth t.nodes a.toNat).kind=4\/(nth t.nodes a.toNat).kind=5\/(nth t.nodes a.toNat).kind=6\/(nth t.nodes a.toNat).kind=7\/(nth t.nodes a.toNat).kind=8\/(nth t.nodes a.toNat).kind=9\/(nth t.nodes a.toNat).kind=19\/(nth t.nodes a.toNat).kind=20\/(nth t.nodes a.toNat).kind=21:=by have:fy (nth t.nodes a.toNat).kind:=hr;unfold fy cS at this;omega
  rcases hkr with k|k|k|k|k|k|k|k|k|k|k|k
  ·have e:cw (aA n) c a=(c,1):=by unfold cw;simp only;rw[p',k];rfl
   rw[e]at U2 ⊢;refine⟨leaf (sh.zero jB) _ rfl,?_,jE,jE⟩;constructor<;>intro k'<;>first|omega|exact U2 _
  ·have e:cw (aA n) c a=(c,2):=by unfold cw;simp only;rw[p',k];rfl
   rw[e]at U2 ⊢;refine⟨leaf (sh.zero jB) _ rfl,?_,jE,jE⟩;constructor<;>intro k'<;>first|omega|exact U2 _
  ·have e:cw (aA n) c a=(c,3):=by unfold cw;simp only;rw[p',k];rfl
   rw[e]at U2 ⊢;refine⟨leaf (sh.zero jB) _ rfl,?_,jE,jE⟩;constructor<;>intro k'<;>first|omega|exact U2 _
  ·have e:cw (aA n) c a=c.named a:=by unfold cw;simp only;rw[p',k];rfl
   rw[e]at U2 he ⊢;have XG:=KH hv he;refine⟨leaf (sh.zero jB) _ (ym c a),?_,jB,jB⟩;constructor<;>intro k'<;>first|omega|(rw[U2];exact XG)
  ·have e:cw (aA n) c a=((aA n (c.named a).1 (c.aF a 0)).1.av (decide ((c.named a).2=4) && decide ((aA n (c.named a).1 (c.aF a 0)).2=1)) a,1):=by unfold cw;simp only;rw[p',k];rfl
   obtain⟨x,hl,Vs⟩:=sh.one jB;have Vh:c.aF a 0=x:=by rw[kd,hl];rfl
   rw[e]at U2 VX he ⊢;rw[Vh]at U2 VX he ⊢;obtain⟨b1,b2⟩:=jZ he;simp only[Bool.and_eq_true,decide_eq_true_eq]at b1;have ev:=nZ c a;obtain⟨r1,r2,r3⟩:=kid1 (c.named a).1 x (h.ev ev) (ev.aa.trans hc) (hv.ev ev) (ym c a) hl (.inl Vs) b2;refine⟨r1.post (lJ _ _ _),?_,jE,jE⟩;constructor<;>intro k'<;>first|omega|skip
   refine⟨U2 _,?_⟩;rw[hl];show nth (List.set _ _ _) x.toNat=1;rw[VX _ _ r3];show nth (Ck.av _ _ _).types x.toNat=1;rw[lJ,r2];exact b1.2
  ·have e:cw (aA n) c a=((aA n c (c.aF a 0)).1.av (decide ((aA n c (c.aF a 0)).2=3) || decide ((aA n c (c.aF a 0)).2=4)) a,1):=by unfold cw;simp only;rw[p',k];rfl
   obtain⟨x,hl,Vs⟩:=sh.one jB;have Vh:c.aF a 0=x:=by rw[kd,hl];rfl
   rw[e]at U2 VX he ⊢;rw[Vh]at U2 VX he ⊢;obtain⟨b1,b2⟩:=jZ he;simp only[Bool.or_eq_true,decide_eq_true_eq]at b1;obtain⟨r1,r2,r3⟩:=kid1 c x h hc hv rfl hl (.inl Vs) b2;refine⟨r1.post (lJ _ _ _),?_,jE,jE⟩;constructor<;>intro k'<;>first|omega|skip
   refine⟨U2 _,?_⟩;rw[hl];show nth (List.set _ _ _) x.toNat=3\/nth (List.set _ _ _) x.toNat=4;rw[VX _ _ r3];show nth (Ck.av _ _ _).types x.toNat=3\/nth (Ck.av _ _ _).types x.toNat=4;rw[lJ,r2];exact b1
  ·have e:cw (aA n) c a=((aA n c (c.aF a 0)).1.av (decide ((aA n c (c.aF a 0)).2=1)) a,1):=by unfold cw;simp only;rw[p',k];rfl
   obtain⟨x,hl,Vs⟩:=sh.one jB;have Vh:c.aF a 0=x:=by rw[kd,hl];rfl
   rw[e]at U2 VX he ⊢;rw[Vh]at U2 VX he ⊢;obtain⟨b1,b2⟩:=jZ he;simp only[decide_eq_true_eq]at b1;obtain⟨r1,r2,r3⟩:=kid1 c x h hc hv rfl hl (.inl Vs) b2;refine⟨r1.post (lJ _ _ _),?_,jE,jE⟩;constructor<;>intro k'<;>first|omega|skip
   refine⟨U2 _,?_⟩;rw[hl];show nth (List.set _ _ _) x.toNat=1;rw[VX _ _ r3];show nth (Ck.av _ _ _).types x.toNat=1;rw[lJ,r2];exact b1
  ·have e:cw (aA n) c a=((aA n c (c.aF a 0)).1.av (decide ((aA n c (c.aF a 0)).2=2)) a,2):=by unfold cw;simp only;rw[p',k];rfl
   obtain⟨x,hl,Vs⟩:=sh.one jB;have Vh:c.aF a 0=x:=by rw[kd,hl];rfl
   rw[e]at U2 VX he ⊢;rw[Vh]at U2 VX he ⊢;obtain⟨b1,b2⟩:=jZ he;simp only[decide_eq_true_eq]at b1;obtain⟨r1,r2,r3⟩:=kid1 c x h hc hv rfl hl (.inl Vs) b2;refine⟨r1.post (lJ _ _ _),?_,jE,jE⟩;constructor<;>intro k'<;>first|omega|skip
   refine⟨U2 _,?_⟩;rw[hl];show nth (List.set _ _ _) x.toNat=2;rw[VX _ _ r3];show nth (Ck.av _ _ _).types x.toNat=2;rw[lJ,r2];exact b1
  ·have e:cw (aA n) c a=((aA n (aA n c (c.aF a 0)).1 (c.aF a 1)).1.av (!decide (lZ (c.node a).name (aA n c (c.aF a 0)).2 (aA n (aA n c (c.aF a 0)).1 (c.aF a 1)).2=0)) a,lZ (c.node a).name (aA n c (c.aF a 0)).2 (aA n (aA n c (c.aF a 0)).1 (c.aF a 1)).2):=by unfold cw;simp only;rw[p',k];rfl
   obtain⟨x,y,hl,Vs,Yg⟩:=sh.two jB;have Vh:c.aF a 0=x:=by rw[kd,hl];rfl
   have Vr:c.aF a 1=y:=by rw[kd,hl];rfl
   rw[e]at U2 VX he ⊢;rw[Vh,Vr]at U2 VX he ⊢;obtain⟨b1,b2⟩:=jZ he;simp only[Bool.not_eq_true',decide_eq_false_iff_not]at b1;have ev:=fx n c x;have b0:(aA n c x).1.e=0:=(fx n _ y).e0 b2;rw[hl]at U3;obtain⟨c1,c2,c3,c4,c5,c6⟩:=kM U3;obtain⟨d1,d2,d3,d4,d5⟩:=kG c6;obtain⟨r1,r2,_⟩:=hx c x lo h hc hv c1 c2 jB (.inl Vs) c5 b0;obtain⟨q1,q2,_⟩:=hx (aA n c x).1 y (x.toNat+1) (h.ev ev) (ev.aa.trans hc) (hv.ev ev) d1 d2 jB (.inl Yg) d5 b2;have rr:=r1.seq ht (aL.oD c1 c2 c5) jB jB q1;rw[d4];refine⟨rr.post (lJ _ _ _),?_,QU _ _ _⟩;rw[d4]at U2 VX;rw[<-d4];rw[<-d4]at U2 VX;have ex:nth ((aA n (aA n c x).1 y).1.types) x.toNat=(aA n c x).2:=by rw[q1.tw _ jB,r2]
   constructor<;>intro k'<;>first|omega|skip
   have g0:=U2 (lZ (c.node a).name (aA n c x).2 (aA n (aA n c x).1 y).2);have g1:=VX (lZ (c.node a).name (aA n c x).2 (aA n (aA n c x).1 y).2) x.toNat jB;have g2:=VX (lZ (c.node a).name (aA n c x).2 (aA n (aA n c x).1 y).2) y.toNat jB;simp only[lJ]at g0 g1 g2 ⊢;rw[hl];show _=lZ _ (nth _ x.toNat) (nth _ y.toNat)/\_;rw[g0,g1,g2,ex,q2,<-p'];exact⟨rfl,b1⟩
  ·have e:cw (aA n) c a=(c,1):=by unfold cw;simp only;rw[p',k];rfl
   rw[e]at U2 ⊢;refine⟨leaf (sh.zero jB) _ rfl,?_,jE,jE⟩;constructor<;>intro k'<;>first|omega|exact U2 _
  ·have e:cw (aA n) c a=((aA n c (c.aF a 0)).1.av (decide ((aA n c (c.aF a 0)).2=1)) a,4):=by unfold cw;simp only;rw[p',k];rfl
   obtain⟨x,hl,Vs⟩:=sh.one jB;have Vh:c.aF a 0=x:=by rw[kd,hl];rfl
   rw[e]at U2 he ⊢;rw[Vh]at U2 he ⊢;obtain⟨b1,b2⟩:=jZ he;obtain⟨r1,r2,r3⟩:=kid1 c x h hc hv rfl hl (.inl Vs) b2;refine⟨r1.post (lJ _ _ _),?_,jE,jE⟩;constructor<;>intro k'<;>first|omega|exact U2 _
  ·have e:cw (aA n) c a=je (aA n) c a:=by unfold cw;simp only;rw[p',k];rfl
   rw[e]at he ⊢;obtain⟨r1,r2,r3⟩:=La ht hx h hc hv h0 h1 jB k U3 he;refine⟨r1,?_,r2⟩;constructor<;>intro k'<;>first|omega|exact r3
def gv.skip{c:Ck}(hk:fA (bX t.nodes a)\/bX t.nodes a=18)(hcd:(nth t.nodes a.toNat).kind=15\/(nth t.nodes a.toNat).kind=16\/(nth t.nodes a.toNat).kind=10->((nth t.nodes a.toNat).kind=10\/nth c'.types (nth (nth t.nodes a.toNat).l 0).toNat=2)/\1<=nth c'.types (nth (nth t.nodes a.toNat).l 0).toNat/\nth c'.types (nth (nth t.nodes a.toNat).l 0).toNat<=4)(r:gv t lo a.toNat c c'):gv t lo (a.toNat+1) c c':=by
 refine⟨r.tw.mono jl jB,fun k h1 h2=>?_⟩;by_cases h:k<a.toNat
 ·exact r.all k h1 h
 ·have:k=a.toNat:=jB;subst this;have hk:fA (nth t.nodes a.toNat).kind\/(nth t.nodes a.toNat).kind=18:=hk;unfold fA at hk;constructor<;>intro k'<;>first|omega|exact(hcd jB).1.resolve_left jB|exact(hcd jB).2
def Fk(t:aH)(n:Nat):Prop:=∀(c:Ck) (a:Int) (lo:Nat),bJ c->c.aa=t->cX c->c.e=0->0<=a->a<t.nodes.length->a.toNat<n->fA (bX t.nodes a)->aL t.nodes lo (nth t.nodes a.toNat).l a.toNat->(bU n c a).e=0->
 gv t lo (a.toNat+1) c (bU n c a)/\cX (bU n c a)
def Sv.e0{c:Ck}(s:Sv c c')(h:c'.e=0):c.e=0:=Classical.byContradiction fun e=>s.err e h
theorem BJ{t:aH}(ht:aR t){st:Ck->Int->Ck}{C:Int->Prop}{n:Nat}(hs:∀c a,bJ c->c.e=0->Sv c (st c a))
  (P':∀(c:Ck) (a:Int) (lo:Nat),bJ c->c.aa=t->cX c->c.e=0->0<=a->a<t.nodes.length->a.toNat<n->C (bX t.nodes a)->aL t.nodes lo (nth t.nodes a.toNat).l a.toNat->(st c a).e=0->gv t lo (a.toNat+1) c (st c a)/\cX (st c a)) :
  ∀(L:UP) (c:Ck) (lo hi:Nat),bJ c->c.aa=t->cX c->hi<=n->hi<=t.nodes.length->(∀x∈L,C (bX t.nodes x))->aL t.nodes lo L hi->(dS st c L).e=0->gv t lo hi c (dS st c L)/\cX (dS st c L)
 |[],c,lo,hi,h,hc,hv,hn,hl,hr,U3,he=>by cases U3;unfold dS;exact⟨⟨.refl _ _ _,.none⟩,hv⟩
 |a::L,c,lo,hi,h,hc,hv,hn,hl,hr,U3,he=>by have e0:=(rz hs (a::L) c h).e0 he;unfold dS at he ⊢;rw[if_pos e0]at he ⊢;obtain⟨c1,c2,c3,c4,c5,c6⟩:=kM U3;have s:=hs c a h e0;have e1:=(rz hs L _ s.inv).e0 he;obtain⟨r1,v1⟩:=P' c a lo h hc hv e0 c1 c2 jB (hr a jE) c5 e1;obtain⟨r2,v2⟩:=BJ ht hs P' L _ _ hi s.inv (s.aa.trans hc) v1 hn hl (fun x hx=>hr x (by simp[hx])) c6 he;exact⟨r1.seq ht (aL.oD c1 c2 c5) jB jB r2,v2⟩
def EG(ht:aR t)(P':Fk t n)(c:Ck)(a:Int)(lo:Nat)(h:bJ c)(hc:c.aa=t)(hv:cX c)(h0:0<=a)(h1:a<t.nodes.length)(hn:a.toNat<=n)(hk:bX t.nodes a=18)(U3:aL t.nodes lo (nth t.nodes a.toNat).l a.toNat)(he:(fp (bU n) c a).e=0) :
  gv t lo (a.toNat+1) c (fp (bU n) c a)/\cX (fp (bU n) c a):=by
 have sv:=qk (oL n) h a;have p':c.node a=nth t.nodes a.toNat:=by unfold Ck.node;rw[hc]
 have hb:=(ht.shape a.toNat jB).1.block hk;have ev:=rM c a;obtain⟨r,_⟩:=BJ ht (oL n) (C:=fA) P' (c.node a).l (c.ai a) lo a.toNat (h.ev ev) (ev.aa.trans hc) (hv.ev ev) hn jB (fun x hx=>hb x (by rw[<-p'];exact hx)) (by rw[p'];exact U3) he;have r:gv t lo a.toNat c (fp (bU n) c a):=gv.post (b:=dS (bU n) (c.ai a) (c.node a).l) (gv.pre (a:=c) (b:=c.ai a) rfl r) rfl;have Yu:(nth t.nodes a.toNat).kind=18:=hk;refine⟨r.skip (.inr hk) (fun h=>jB),?_⟩;unfold cX;rw[sv.2];exact hv
variable{c0:Ck}{x:Int}
def wE(ht:aR t){c:Ck}(h:bJ c0)(hc:c0.aa=t)(hv:cX c0)(XG:c0.types=c.types)(hn:a.toNat<=n)(hl:(nth t.nodes a.toNat).l=[x])(hx:fy (bX t.nodes x))(U3:aL t.nodes lo (nth t.nodes a.toNat).l a.toNat)(he:(aA n c0 x).1.e=0) :
  gv t lo a.toNat c (aA n c0 x).1/\0<=(aA n c0 x).2/\(aA n c0 x).2<=4/\nth (aA n c0 x).1.types x.toNat=(aA n c0 x).2:=by
 rw[hl]at U3;obtain⟨c1,c2,c3,c4,c5⟩:=kG U3;obtain⟨r1,r2,r3⟩:=xy ht n c0 x lo h hc hv c1 c2 jB hx c5 he;rw[c4];exact⟨r1.pre XG,r3.1,r3.2,r2⟩
def MG(ht:aR t){c:Ck}{y:Int}(h:bJ c0)(hc:c0.aa=t)(hv:cX c0)(XG:c0.types=c.types)(hn:a.toNat<=n)(hl:(nth t.nodes a.toNat).l=[x,y])(hx:cS (bX t.nodes x))(hy:cS (bX t.nodes y))(U3:aL t.nodes lo (nth t.nodes a.toNat).l a.toNat)(U6:a.toNat<=t.nodes.length)(he:(aA n (aA n c0 x).1 y).1.e=0) :
  gv t lo a.toNat c (aA n (aA n c0 x).1 y).1:=by
 rw[hl]at U3;obtain⟨c1,c2,c3,c4,c5,c6⟩:=kM U3;obtain⟨d1,d2,d3,d4,d5⟩:=kG c6;have ev:=fx n c0 x;obtain⟨r1,_⟩:=xy ht n c0 x lo h hc hv c1 c2 jB (.inl hx) c5 ((fx n _ y).e0 he);obtain⟨q1,_⟩:=xy ht n (aA n c0 x).1 y (x.toNat+1) (h.ev ev) (ev.aa.trans hc) (hv.ev ev) d1 d2 jB (.inl hy) d5 he;rw[d4];exact(r1.seq ht (aL.oD c1 c2 c5) jB jB q1).pre XG
def yc{c:Ck}{p:Prop}[Decidable p]{e:Int}(he:e≠0)(h:(if p then c.aE e a else c).e=0):¬p/\(if p then c.aE e a else c)=c:=by
 split at h
 ·exact(qi he h).elim
 ·rename_i hp;exact⟨hp,if_neg hp⟩
theorem FA{t:aH}(ht:aR t):∀n,Fk t n
 |0=>fun c a lo h hc hv e0 h0 h1 hn=>by omega
 |n+1=>fun c a lo h hc hv e0 h0 h1 hn hr U3 he=>by
  have hs:=FA ht n;have p':(c.ai a).node a=nth t.nodes a.toNat:=by unfold Ck.node;show nth c.aa.nodes _=_;rw[hc]
  have sh:=(ht.shape a.toNat jB).1;have kd:∀i,(c.ai a).aF a i=nth (nth t.nodes a.toNat).l i:=fun i=>by unfold Ck.aF;rw[p']
  have ev:=rM c a;have h':=h.ev ev;have Wa:=ev.aa.trans hc;have Vq:=hv.ev ev;suffices hsf:gv t lo a.toNat c (bU (n+1) c a)/\cX (bU (n+1) c a)/\((nth t.nodes a.toNat).kind=15\/(nth t.nodes a.toNat).kind=16\/(nth t.nodes a.toNat).kind=10->((nth t.nodes a.toNat).kind=10\/nth (bU (n+1) c a).types (nth (nth t.nodes a.toNat).l 0).toNat=2)/\1<=nth (bU (n+1) c a).types (nth (nth t.nodes a.toNat).l 0).toNat/\nth (bU (n+1) c a).types (nth (nth t.nodes a.toNat).l 0).toNat<=4) from⟨hsf.1.skip (.inl hr) hsf.2.2,hsf.2.1⟩
  have hkr:(nth t.nodes a.toNat).kind=10\/(nth t.nodes a.toNat).kind=11\/(nth t.nodes a.toNat).kind=12\/(nth t.nodes a.toNat).kind=13\/(nth t.nodes a.toNat).kind=14\/(nth t.nodes a.toNat).kind=17\/(nth t.nodes a.toNat).kind=15\/(nth t.nodes a.toNat).kind=16:=by have:fA (nth t.nodes a.toNat).kind:=hr;unfold fA at this;omega
  rcases hkr with k|k|k|k|k|k|k
  ·have e:bU (n+1) c a=pm (aA n) (c.ai a) a:=by unfold bU;simp only;rw[p',k];rfl
   obtain⟨x,hl,Yt⟩:=sh.right jB;have Vh:(c.ai a).aF a 0=x:=by rw[kd,hl];rfl
   rw[e]at he ⊢;rw[uF]at he ⊢;have he:(eR (aA n) (c.ai a) a).e=0:=he;obtain⟨_,q1⟩:=yc jC he;have q1:eR (aA n) (c.ai a) a=jO (aA n) (c.ai a) a:=q1;rw[q1]at he;obtain⟨_,q2⟩:=yc jC he;have q2:jO (aA n) (c.ai a) a=iS (aA n) (c.ai a) a:=q2;rw[q2]at he;unfold iS at he;rw[Vh]at he;obtain⟨b1,b2⟩:=jZ he;simp only[Bool.not_eq_true',decide_eq_false_iff_not]at b1;obtain⟨r1,r2,r3,r4⟩:=wE (c:=c) ht h' Wa Vq rfl jB hl Yt U3 b2;have XG:(eR (aA n) (c.ai a) a).types=(aA n (c.ai a) x).1.types:=by rw[q1,q2];unfold iS;rw[Vh,lJ]
   refine⟨r1.post XG,fun v YU=>?_,fun _=>⟨.inl k,by rw[hl];show 1<=nth (eR (aA n) (c.ai a) a).types x.toNat/\nth (eR (aA n) (c.ai a) a).types x.toNat<=4;rw[XG,r4];omega⟩⟩
   have YU:v∈(eR (aA n) (c.ai a) a).vars++[(⟨((c.ai a).node a).name,(aA n (c.ai a) ((c.ai a).aF a 0)).2,(eR (aA n) (c.ai a) a).size⟩:bI)]:=YU;rcases List.mem_append.1 YU with hm|hm
   ·rw[(Ae (fx n) (c.ai a) a).vars]at hm;exact Vq v hm
   ·rw[List.mem_singleton.1 hm];show 1<=(aA n (c.ai a) ((c.ai a).aF a 0)).2/\(aA n (c.ai a) ((c.ai a).aF a 0)).2<=4;rw[Vh];omega
  ·have e:bU (n+1) c a=(aA n ((c.ai a).named a).1 ((c.ai a).aF a 0)).1.av (decide (((c.ai a).named a).2=(aA n ((c.ai a).named a).1 ((c.ai a).aF a 0)).2)) a:=by unfold bU;simp only;rw[p',k];rfl
   obtain⟨x,hl,Yt⟩:=sh.right jB;have Vh:(c.ai a).aF a 0=x:=by rw[kd,hl];rfl
   rw[e]at he ⊢;rw[Vh]at he ⊢;obtain⟨b1,b2⟩:=jZ he;have en:=nZ (c.ai a) a;obtain⟨r1,_⟩:=wE (c:=c) ht (h'.ev en) (en.aa.trans Wa) (Vq.ev en) (ym _ _) jB hl Yt U3 b2;exact⟨r1.post (lJ _ _ _),(Vq.ev en).ev ((fx n _ _).trans (kP _ _ _)),fun h=>jB⟩
  ·have e:bU (n+1) c a=(aA n (aA n ((c.ai a).named a).1 ((c.ai a).aF a 0)).1 ((c.ai a).aF a 1)).1.av (decide (((c.ai a).named a).2=4) && decide ((aA n ((c.ai a).named a).1 ((c.ai a).aF a 0)).2=1) && decide ((aA n (aA n ((c.ai a).named a).1 ((c.ai a).aF a 0)).1 ((c.ai a).aF a 1)).2=1)) a:=by unfold bU;simp only;rw[p',k];rfl
   obtain⟨x,y,hl,Vs,Yg⟩:=sh.two jB;have Vh:(c.ai a).aF a 0=x:=by rw[kd,hl];rfl
   have Vr:(c.ai a).aF a 1=y:=by rw[kd,hl];rfl
   rw[e]at he ⊢;rw[Vh,Vr]at he ⊢;obtain⟨b1,b2⟩:=jZ he;have en:=nZ (c.ai a) a;have r1:=MG (c:=c) ht (h'.ev en) (en.aa.trans Wa) (Vq.ev en) (ym _ _) jB hl Vs Yg U3 jB b2;exact⟨r1.post (lJ _ _ _),(Vq.ev en).ev (((fx n _ _).trans (fx n _ _)).trans (kP _ _ _)),fun h=>jB⟩
  ·have e:bU (n+1) c a=(aA n (c.ai a) ((c.ai a).aF a 0)).1:=by unfold bU;simp only;rw[p',k];rfl
   obtain⟨x,hl,hxk⟩:=sh.tn k;have Vh:(c.ai a).aF a 0=x:=by rw[kd,hl];rfl
   rw[e]at he ⊢;rw[Vh]at he ⊢;obtain⟨r1,_⟩:=wE (c:=c) ht h' Wa Vq rfl jB hl (by rw[hxk];unfold fy;omega) U3 he;exact⟨r1,Vq.ev (fx n _ _),fun h=>jB⟩
  ·have e:bU (n+1) c a=(aA n (c.ai a) ((c.ai a).aF a 0)).1.av (!decide ((aA n (c.ai a) ((c.ai a).aF a 0)).2=4)) a:=by unfold bU;simp only;rw[p',k];rfl
   obtain⟨x,hl,Vs⟩:=sh.one jB;have Vh:(c.ai a).aF a 0=x:=by rw[kd,hl];rfl
   rw[e]at he ⊢;rw[Vh]at he ⊢;obtain⟨b1,b2⟩:=jZ he;obtain⟨r1,_⟩:=wE (c:=c) ht h' Wa Vq rfl jB hl (.inl Vs) U3 b2;exact⟨r1.post (lJ _ _ _),Vq.ev ((fx n _ _).trans (kP _ _ _)),fun h=>jB⟩
  ·have e:bU (n+1) c a=kJ (aA n) (c.ai a) a:=by unfold bU;simp only;rw[p',k];rfl
   rw[e]at he ⊢;unfold kJ at he ⊢;rw[p']at he ⊢;simp only at he ⊢;split at he
   ·exact(qi jC he).elim
   rename_i hf;rw[if_neg hf];rcases sh.ret k with hl|⟨x,hl,Vs⟩
   ·rw[hl];rw[if_neg jC];rw[hl]at U3;have:lo=a.toNat:=by cases U3;rfl
    subst this;exact⟨⟨.same rfl,.none⟩,Vq,fun h=>jB⟩
   ·have Vh:(c.ai a).aF a 0=x:=by rw[kd,hl];rfl
    have Wr:(nth t.nodes a.toNat).l.length=1:=by rw[hl];rfl
    rw[if_pos Wr]at he ⊢;rw[Vh]at he ⊢;obtain⟨b1,b2⟩:=jZ he;obtain⟨r1,_⟩:=wE (c:=c) ht h' Wa Vq rfl jB hl (.inl Vs) U3 b2;exact⟨r1.post (lJ _ _ _),Vq.ev ((fx n _ _).trans (kP _ _ _)),fun h=>jB⟩
  ·have e:bU (n+1) c a=dS (fp (bU n)) ((aA n (c.ai a) ((c.ai a).aF a 0)).1.av (decide ((aA n (c.ai a) ((c.ai a).aF a 0)).2=2)) a) (((c.ai a).node a).l.drop 1):=by
    unfold bU;simp only;rw[p'];rcases k with k|k<;>rw[k]<;>rfl
   have Y4:∃x L,(nth t.nodes a.toNat).l=x::L/\cS (bX t.nodes x)/\∀y∈L,bX t.nodes y=18:=by
    rcases k with k|k
    ·obtain⟨x,y,hx,hy,hl|⟨z,hl,hz⟩⟩:=sh.lA k
     ·exact⟨x,[y],hl,hx,fun u hu=>by rw[List.mem_singleton.1 hu];exact hy⟩
     ·exact⟨x,[y,z],hl,hx,fun u hu=>by
       rcases List.mem_cons.1 hu with rfl|hu
       ·exact hy
       ·rw[List.mem_singleton.1 hu];exact hz⟩
    ·obtain⟨x,y,hl,hx,hy⟩:=sh.eF k;exact⟨x,[y],hl,hx,fun u hu=>by rw[List.mem_singleton.1 hu];exact hy⟩
   obtain⟨x,L,hl,Vs,hL⟩:=Y4;have Vh:(c.ai a).aF a 0=x:=by rw[kd,hl];rfl
   rw[e]at he ⊢;rw[p',hl,Vh]at he ⊢;have he:(dS (fp (bU n)) ((aA n (c.ai a) x).1.av (decide ((aA n (c.ai a) x).2=2)) a) L).e=0:=he;show gv t lo a.toNat c (dS (fp (bU n)) ((aA n (c.ai a) x).1.av (decide ((aA n (c.ai a) x).2=2)) a) L)/\cX (dS (fp (bU n)) ((aA n (c.ai a) x).1.av (decide ((aA n (c.ai a) x).2=2)) a) L)/\((nth t.nodes a.toNat).kind=15\/(nth t.nodes a.toNat).kind=16\/(nth t.nodes a.toNat).kind=10->((nth t.nodes a.toNat).kind=10\/nth (dS (fp (bU n)) ((aA n (c.ai a) x).1.av (decide ((aA n (c.ai a) x).2=2)) a) L).types (nth (x::L) 0).toNat=2)/\1<=nth (dS (fp (bU n)) ((aA n (c.ai a) x).1.av (decide ((aA n (c.ai a) x).2=2)) a) L).types (nth (x::L) 0).toNat/\nth (dS (fp (bU n)) ((aA n (c.ai a) x).1.av (decide ((aA n (c.ai a) x).2=2)) a) L).types (nth (x::L) 0).toNat<=4);have ex:=(fx n (c.ai a) x).trans (kP _ (decide ((aA n (c.ai a) x).2=2)) a);have V3:=h'.ev ex;have hsb:∀(q:Ck) b,bJ q->q.e=0->Sv q (fp (bU n) q b):=fun q b hq _=>(qk (oL n) hq b).1
   have e1:=(rz hsb L _ V3).e0 he;obtain⟨b1,b2⟩:=jZ e1;rw[hl]at U3;obtain⟨c1,c2,c3,c4,c5,c6⟩:=kM U3;obtain⟨r1,r1b,_⟩:=xy ht n (c.ai a) x lo h' Wa Vq c1 c2 jB (.inl Vs) c5 b2;obtain⟨r2,v2⟩:=BJ ht hsb (C:=fun k=>k=18) (n:=n) (fun q b l g1 g2 g3 _ g5 g6 g7 g8 g9 g10=>EG ht hs q b l g1 g2 g3 g5 g6 jB g8 g9 g10) L _ (x.toNat+1) a.toNat V3 (ex.aa.trans Wa) (Vq.ev ex) jB jB hL c6 he;exact⟨((gv.pre (a:=c) (b:=c.ai a) rfl r1).post (lJ _ _ _)).seq ht (aL.oD c1 c2 c5) jB jB r2,v2,fun _=>by show(_\/nth _ x.toNat=2)/\1<=nth _ x.toNat/\nth _ x.toNat<=4;rw[r2.tw x.toNat (.inl jB),lJ,r1b];have:=of_decide_eq_true b1;omega⟩
theorem Ew{t:aH}(body:Int):∀(ps:List bM) (c:Ck) (i:Int),cX c->(∀p∈ps,1<=p.ty/\p.ty<=4)->cX (fF body c ps i)/\(fF body c ps i).types=c.types/\((fF body c ps i).e=0->c.e=0)
 |[],c,i,h,hp=>by unfold fF;exact⟨h,rfl,id⟩
 |p::ps,c,i,h,hp=>by
  have fin:∀c1:Ck,Ev c c1->c1.types=c.types->cX (fF body (mU c1 ⟨p.name,p.ty,i⟩) ps (i+1))/\(fF body (mU c1 ⟨p.name,p.ty,i⟩) ps (i+1)).types=c.types/\((fF body (mU c1 ⟨p.name,p.ty,i⟩) ps (i+1)).e=0->c.e=0):=fun c1 s e=>by
   obtain⟨a,b,d⟩:=Ew (t:=t) body ps (mU c1 ⟨p.name,p.ty,i⟩) (i+1) (fun v hv=>by
    have hv:v∈c1.vars++[(⟨p.name,p.ty,i⟩:bI)]:=hv;rcases List.mem_append.1 hv with hv|hv
    ·exact h.ev s v hv
    ·rw[List.mem_singleton.1 hv];exact hp p jE) (fun q hq=>hp q (by simp[hq]))
   exact⟨a,b.trans e,fun hh=>s.e0 (d hh)⟩
  unfold fF;simp only;split
  ·exact fin _ (oj c jC body) (CX _ _ _)
  ·exact fin _ (.refl c) rfl
def QY(ht:aR t){c:Ck}(h:gD c)(hc:c.aa=t)(hk:k<t.aw.length)(U':c.aP.length<6)(U3:aL t.nodes lo (nth t.nodes (nth t.aw k).body.toNat).l (nth t.aw k).body.toNat)(he:(gU c k).e=0) :
  gv t lo ((nth t.aw k).body.toNat+1) c (gU c k)/\c.e=0:=by
 have Vk:k<c.aa.aw.length:=by rw[hc];exact hk
 have hp3:=h.aa.fn _ (fa Vk);have Xg:bJ { c with fn:=(k:Int),vars:=[],more:=[],size:=0 }:=⟨h.aa,h.types,h.slots,h.aw,by show c.aP.length<=6;omega,by show(0:Int)<=k;omega,by show(k:Int)<(c.aa.aw.length:Int);omega,by show((0:Nat):Int)<=0;omega,by show(0:Int)<=25;omega,fun _=>by show(0:Int)<=24;omega⟩;obtain⟨a,b,d⟩:=yq (nth c.aa.aw k).body (nth c.aa.aw k).params _ 0 Xg (by show(0:Int)+_<=20;omega);obtain⟨a',b',d'⟩:=Ew (t:=t) (nth c.aa.aw k).body (nth c.aa.aw k).params { c with fn:=(k:Int),vars:=[],more:=[],size:=0 } 0 (fun v hv=>by simp at hv) hp3.1.ps;have Wi:=pB ht hk;have X3:=ht.body _ (fa hk);unfold gU at he ⊢;simp only at he ⊢;rw[hc]at he ⊢;rw[hc]at a b d a' b' d';split at he
 ·rename_i e1;rw[if_pos e1];obtain⟨r,_⟩:=EG ht (FA ht t.nodes.length) _ (nth t.aw k).body lo a (b.trans (by rfl)) a' Wi.1 Wi.2 (by have:=Wi.2;have:=Wi.1;omega) X3 U3 he;have q:=gv.pre (a:=c) b' r;exact⟨⟨fun k hk=>q.tw k hk,q.all⟩,d' e1⟩
 ·rename_i e1;exact(e1 he).elim
theorem Cy{t:aH}(ht:aR t):∀(n i lo:Nat) (c:Ck),gD c->c.aa=t->c.aP.length=i->i+n=t.aw.length->aL t.nodes lo ((t.aw.drop i).map (·.body)) t.nodes.length->(gA c i n).e=0->
  gv t lo t.nodes.length c (gA c i n)/\(gA c i n).aa=t/\gD (gA c i n)/\(gA c i n).aP.length=t.aw.length
 |0,i,lo,c,h,hc,hs,hi,U3,he=>by
  unfold gA;rw[List.drop_eq_nil_of_le jB]at U3;have:lo=t.nodes.length:=by cases U3;rfl
  subst this;exact⟨⟨.refl _ _ _,.none⟩,hc,h,jB⟩
 |n+1,i,lo,c,h,hc,hs,hi,U3,he=>by
  have h6:=ht.aw;unfold gA at he ⊢;by_cases e0:c.e=0
  ·rw[if_pos e0]at he ⊢;have hk:i<t.aw.length:=jB;rw[kW hk]at U3;obtain⟨c1,c2,c3,c4,c5,c6⟩:=kM (a:=(nth t.aw i).body) U3;obtain⟨f1,f2,f3⟩:=B6 h (by rw[hc];exact hk) (by omega:c.aP.length<6);have e1:(gU c i).e=0:=by
    cases n with
    |zero=>unfold gA at he;exact he
    |succ m=>
     unfold gA at he;split at he
     ·assumption
     ·exact he
   obtain⟨r1,_⟩:=QY ht h hc hk jB c5 e1;obtain⟨r2,q1,q2,q3⟩:=Cy ht n (i+1) ((nth t.aw i).body.toNat+1) (gU c i) f1 (f2.trans hc) jB jB c6 he;exact⟨r1.seq ht (aL.oD c1 c2 c5) jB jB r2,q1,q2,q3⟩
  ·rw[if_neg e0]at he;exact(e0 he).elim
structure p8(p:af):Prop where
 aa:aR p.aa
 types:p.types.length=p.aa.nodes.length
 slots:p.slots.length=p.aa.nodes.length
 fn:p.fn.length=p.aa.nodes.length
 size:p.size.length=p.aa.aw.length
 ty:gj p.aa p.types 0 p.aa.nodes.length
def Ks(ht:aR t):gD (jd (jU t))/\(jd (jU t)).aa=t/\(jd (jU t)).aP=[]:=by
 have ev:=Gw (jU t);refine⟨⟨by rw[ev.aa];exact ht,?_,?_,?_⟩,ev.aa,ev.aP⟩
 ·rw[ev.types,ev.aa];show(t.nodes.map _).length=t.nodes.length;simp
 ·rw[ev.slots,ev.aa];show(t.nodes.map _).length=t.nodes.length;simp
 ·rw[ev.aw,ev.aa];show(t.nodes.map _).length=t.nodes.length;simp
def zb(ht:aR t)(he:(iA t).2.2=0):p8 (iA t).1/\(iA t).1.aa=t:=by
 unfold iA at he ⊢;split at he
 ·rename_i h;exact(h he).elim
 rename_i h;rw[if_neg h];have h:(jb t).e=0:=jB;obtain⟨i1,i2,i3⟩:=Ks ht;obtain⟨r,q1,q2,q3⟩:=Cy ht t.aw.length 0 0 (jd (jU t)) i1 i2 (by rw[i3];rfl) jB (by rw[List.drop_zero];exact ht.chain) h;refine⟨⟨q2.aa,q2.types,q2.slots,q2.aw,?_,?_⟩,q1⟩
 ·show(jb t).aP.length=(jb t).aa.aw.length;have e:(jb t).aa=t:=q1;rw[e];exact q3
 ·show gj (jb t).aa (jb t).types 0 (jb t).aa.nodes.length;have e:(jb t).aa=t:=q1;rw[e];exact r.all
def Ec{s:UR}(he:(fZ s).2.2=0):p8 (fZ s).1:=by
 unfold fZ at he ⊢;split at he
 ·rename_i h;exact(h he).elim
 rename_i h;rw[if_neg h];have h:(gY s).2.2=0:=jB;simp only at he ⊢;split at he
 ·cases he
 rename_i h2;split at he
 ·rename_i h3;exact(h3 he).elim
 rename_i h3;rw[if_neg h2,if_neg h3];exact(zb (u9 h) jB).1
def jY(k:Int):Prop:=k=4\/k=5\/k=10\/k=11\/k=12
def dB(c:Ck):Prop:=0<=c.size/\∀v∈c.vars,0<=v.slot/\v.slot<c.size
structure fR(t:aH)(lo hi:Nat)(c c':Ck):Prop where
 sw:∀k,(k<lo\/hi<=k)->nth c'.slots k=nth c.slots k
 all:∀k,lo<=k->k<hi->jY (nth t.nodes k).kind->0<=nth c'.slots k/\nth c'.slots k<c'.size
 size:c.size<=c'.size
def fR.post{a c:Ck}(h:fR t lo hi a b)(e:c.slots=b.slots)(z:c.size=b.size):fR t lo hi a c:=⟨fun k hk=>by rw[e];exact h.sw k hk,fun k h1 h2 h3=>by rw[e,z];exact h.all k h1 h2 h3,by rw[z];exact h.size⟩
def fR.pre{a c:Ck}(e:b.slots=a.slots)(z:b.size=a.size)(h:fR t lo hi b c):fR t lo hi a c:=⟨fun k hk=>by rw[<-e];exact h.sw k hk,h.all,by rw[<-z];exact h.size⟩
def fR.refl(t:aH)(lo:Nat)(c:Ck):fR t lo lo c c:=⟨fun _ _=>rfl,fun k h1 h2=>jB,Int.le_refl _⟩
def fR.seq{a c:Ck}(h0:lo<=mid)(h1:mid<=hi)(h:fR t lo mid a b)(k:fR t mid hi b c):fR t lo hi a c:=by
 have:=k.size;refine⟨fun i VE=>(k.sw i jB).trans (h.sw i jB),fun i g1 g2 g3=>?_,by have:=h.size;omega⟩;by_cases e:i<mid
 ·rw[k.sw i (.inl e)];have:=h.all i g1 e g3;omega
 ·exact k.all i jB g2 g3
def fR.node{c:Ck}(h:fR t lo n c c')(hn:jY (nth t.nodes n).kind->0<=nth c'.slots n/\nth c'.slots n<c'.size):fR t lo (n+1) c c':=
 ⟨fun k hk=>h.sw k jB,fun k h1 h2 h3=>by
  by_cases e:k<n
  ·exact h.all k h1 e h3
  ·have:k=n:=jB;subst this;exact hn h3,h.size⟩
def E5(c:Ck)(e a:Int):(c.aE e a).slots=c.slots/\(c.aE e a).size=c.size:=by unfold Ck.aE;split<;>exact⟨rfl,rfl⟩
def vj(c:Ck)(b:Bool)(a:Int):(c.av b a).slots=c.slots/\(c.av b a).size=c.size:=by unfold Ck.av;split;exact⟨rfl,rfl⟩;exact E5 _ _ _
theorem fR.av{t:aH}{lo hi:Nat}{a c:Ck}{b:Bool}{x:Int}(h:fR t lo hi a c):fR t lo hi a (c.av b x):=h.post (vj c b x).1 (vj c b x).2
def dB.ev{c:Ck}(h:dB c)(s:Ev c c'):dB c':=by unfold dB;rw[s.vars,s.size];exact h
def Dx{c:Ck}(h:dB c)(hn:a.toNat=n)(hl:n<c.slots.length)(he:(c.named a).1.e=0):(∀k,k≠n->nth (c.named a).1.slots k=nth c.slots k)/\0<=nth (c.named a).1.slots n/\nth (c.named a).1.slots n<c.size:=by
 unfold Ck.named at he ⊢;split
 ·rename_i hf;rw[if_pos hf]at he;exact(qi jC he).elim
 ·rename_i hf;have hv:nth c.vars (c.find (c.node a).name).toNat∈c.vars:=by
   rcases z6 bI.name (c.node a).name c.vars 0 jB with⟨h1,_⟩|h1
   ·exact(hf (by show js bI.name (c.node a).name c.vars 0<0;rw[h1];decide)).elim
   ·exact fa (by show(js bI.name (c.node a).name c.vars 0).toNat<_;omega)
  have hs:∀k,nth (c.slot a (nth c.vars (c.find (c.node a).name).toNat).slot).slots k=if n=k/\k<c.slots.length then(nth c.vars (c.find (c.node a).name).toNat).slot else nth c.slots k:=fun k=>by show nth (c.slots.set a.toNat _) k=_;rw[yj,hn]
  refine⟨fun k hk=>by show nth (c.slot a _).slots k=_;rw[hs,jN],?_⟩;show 0<=nth (c.slot a _).slots n/\nth (c.slot a _).slots n<_;rw[hs,if_pos ⟨rfl,hl⟩];exact h.2 _ hv
def FB(t:aH)(n:Nat):Prop:=∀(c:Ck) (a:Int) (lo:Nat),bJ c->c.aa=t->dB c->0<=a->a<t.nodes.length->a.toNat<n->fy (bX t.nodes a)->aL t.nodes lo (nth t.nodes a.toNat).l a.toNat->(aA n c a).1.e=0->fR t lo (a.toNat+1) c (aA n c a).1
theorem Hr{t:aH}{n:Nat}(hx:FB t n):∀(L:UP) (c:Ck) (ts:UP) (lo hi:Nat),bJ c->c.aa=t->dB c->hi<=n->(∀x∈L,fy (bX t.nodes x))->aL t.nodes lo L hi->(gG (aA n) c L ts).1.e=0->fR t lo hi c (gG (aA n) c L ts).1
 |[],c,ts,lo,hi,h,hc,hv,hn,hr,U3,he=>by cases U3;unfold gG;exact .refl _ _ _
 |a::L,c,ts,lo,hi,h,hc,hv,hn,hr,U3,he=>by have e0:=(uM (fx n) (a::L) c ts).e0 he;unfold gG at he ⊢;rw[if_pos e0]at he ⊢;obtain⟨c1,c2,c3,c4,c5,c6⟩:=kM U3;have ev:=fx n c a;have e1:=(uM (fx n) L _ _).e0 he;have r1:=hx c a lo h hc hv c1 c2 jB (hr a jE) c5 e1;exact r1.seq jB jB (Hr hx L _ _ _ hi (h.ev ev) (ev.aa.trans hc) (hv.ev ev) hn (fun x hx=>hr x (by simp[hx])) c6 he)
theorem GC(a:Int):∀(ts:UP) (ps:List bM) (c:Ck),(iE a c ts ps).slots=c.slots/\(iE a c ts ps).size=c.size
 |[],ps,c=>by rw[tV];exact⟨rfl,rfl⟩
 |_::_,[],c=>by rw[ux];exact⟨rfl,rfl⟩
 |x::ts,p::ps,c=>by
  unfold iE;split
  ·have:=GC a ts ps (c.av (decide (x=p.ty)) a);exact⟨this.1.trans (vj _ _ _).1,this.2.trans (vj _ _ _).2⟩
  ·exact⟨rfl,rfl⟩
theorem wI{t:aH}(ht:aR t):∀n,FB t n
 |0=>fun c a lo h hc hv h0 h1 hn=>by omega
 |n+1=>fun c a lo h hc hv h0 h1 hn hr U3 he=>by
  have hx:=wI ht n;have e0:=(fx (n+1) c a).e0 he;unfold aA at he ⊢;rw[jN]at he ⊢;simp only at he ⊢;have he:(cw (aA n) c a).1.e=0:=he;have p':c.node a=nth t.nodes a.toNat:=by unfold Ck.node;rw[hc]
  have sh:=(ht.shape a.toNat jB).1;suffices hs:fR t lo (a.toNat+1) c (cw (aA n) c a).1 from hs.post rfl rfl
  have U1:=U3.le;have leaf:(nth t.nodes a.toNat).l=[]->fR t lo a.toNat c c:=fun hl=>by
   rw[hl]at U3;have:lo=a.toNat:=by cases U3;rfl
   subst this;exact .refl _ _ _
  have kid1:∀x,(nth t.nodes a.toNat).l=[x]->fy (bX t.nodes x)->(aA n c x).1.e=0->fR t lo a.toNat c (aA n c x).1:=fun x hl Yt Vs=>by rw[hl]at U3;obtain⟨c1,c2,c3,c4,c5⟩:=kG U3;rw[c4];exact hx c x lo h hc hv c1 c2 jB Yt c5 Vs
  have kd:∀i,c.aF a i=nth (nth t.nodes a.toNat).l i:=fun i=>by unfold Ck.aF;rw[p']
  have hkr:(nth t.nodes a.toNat).kind=1\/(nth t.nodes a.toNat).kind=2\/(nth t.nodes a.toNat).kind=3\/(nth t.nodes a.toNat).kind=4\/(nth t.nodes a.toNat).kind=5\/(nth t.nodes a.toNat).kind=6\/(nth t.nodes a.toNat).kind=7\/(nth t.nodes a.toNat).kind=8\/(nth t.nodes a.toNat).kind=9\/(nth t.nodes a.toNat).kind=19\/(nth t.nodes a.toNat).kind=20\/(nth t.nodes a.toNat).kind=21:=by have:fy (nth t.nodes a.toNat).kind:=hr;unfold fy cS at this;omega
  have U8:∀{q:Prop},¬((nth t.nodes a.toNat).kind=4\/(nth t.nodes a.toNat).kind=5)->jY (nth t.nodes a.toNat).kind->q:=fun h1 h2=>by unfold jY at h2;have:fy (nth t.nodes a.toNat).kind:=hr;unfold fy cS at this;omega
  have V5:a.toNat<c.slots.length:=by rw[h.slots,hc];omega
  rcases hkr with k|k|k|k|k|k|k|k|k|k|k|k
  ·have e:cw (aA n) c a=(c,1):=by unfold cw;simp only;rw[p',k];rfl
   rw[e];exact(leaf (sh.zero jB)).node (U8 jB)
  ·have e:cw (aA n) c a=(c,2):=by unfold cw;simp only;rw[p',k];rfl
   rw[e];exact(leaf (sh.zero jB)).node (U8 jB)
  ·have e:cw (aA n) c a=(c,3):=by unfold cw;simp only;rw[p',k];rfl
   rw[e];exact(leaf (sh.zero jB)).node (U8 jB)
  ·have e:cw (aA n) c a=c.named a:=by unfold cw;simp only;rw[p',k];rfl
   rw[e]at he ⊢;obtain⟨g1,g2⟩:=Dx hv rfl V5 he;have hz:=(nZ c a).size;have hl:=sh.zero jB;rw[hl]at U3;have:lo=a.toNat:=by cases U3;rfl
   subst this;exact⟨fun k hk=>g1 k jB,fun k h1 h2 _=>by have:k=a.toNat:=jB;subst this;rw[hz];exact g2,by rw[hz];exact Int.le_refl _⟩
  ·have e:cw (aA n) c a=((aA n (c.named a).1 (c.aF a 0)).1.av (decide ((c.named a).2=4) && decide ((aA n (c.named a).1 (c.aF a 0)).2=1)) a,1):=by unfold cw;simp only;rw[p',k];rfl
   obtain⟨x,hl,Vs⟩:=sh.one jB;have Vh:c.aF a 0=x:=by rw[kd,hl];rfl
   rw[e]at he ⊢;rw[Vh]at he ⊢;obtain⟨b1,b2⟩:=jZ he;have en:=nZ c a;obtain⟨g1,g2⟩:=Dx hv rfl V5 ((fx n _ x).e0 b2);rw[hl]at U3;obtain⟨c1,c2,c3,c4,c5⟩:=kG U3;have r:=hx (c.named a).1 x lo (h.ev en) (en.aa.trans hc) (hv.ev en) c1 c2 jB (.inl Vs) c5 b2;have hz:=en.size;have hrz:=r.size;rw[<-c4]at r;refine fR.av ⟨fun k hk=>(r.sw k jB).trans (g1 k jB),fun k h1 h2 h3=>?_,jB⟩;by_cases hka:k<a.toNat
   ·exact r.all k h1 hka h3
   ·have:k=a.toNat:=jB;subst this;rw[r.sw _ (.inr jB)];omega
  ·have e:cw (aA n) c a=((aA n c (c.aF a 0)).1.av (decide ((aA n c (c.aF a 0)).2=3) || decide ((aA n c (c.aF a 0)).2=4)) a,1):=by unfold cw;simp only;rw[p',k];rfl
   obtain⟨x,hl,Vs⟩:=sh.one jB;have Vh:c.aF a 0=x:=by rw[kd,hl];rfl
   rw[e]at he ⊢;rw[Vh]at he ⊢;exact((kid1 x hl (.inl Vs) (jZ he).2).av).node (U8 jB)
  ·have e:cw (aA n) c a=((aA n c (c.aF a 0)).1.av (decide ((aA n c (c.aF a 0)).2=1)) a,1):=by unfold cw;simp only;rw[p',k];rfl
   obtain⟨x,hl,Vs⟩:=sh.one jB;have Vh:c.aF a 0=x:=by rw[kd,hl];rfl
   rw[e]at he ⊢;rw[Vh]at he ⊢;exact((kid1 x hl (.inl Vs) (jZ he).2).av).node (U8 jB)
  ·have e:cw (aA n) c a=((aA n c (c.aF a 0)).1.av (decide ((aA n c (c.aF a 0)).2=2)) a,2):=by unfold cw;simp only;rw[p',k];rfl
   obtain⟨x,hl,Vs⟩:=sh.one jB;have Vh:c.aF a 0=x:=by rw[kd,hl];rfl
   rw[e]at he ⊢;rw[Vh]at he ⊢;exact((kid1 x hl (.inl Vs) (jZ he).2).av).node (U8 jB)
  ·have e:cw (aA n) c a=((aA n (aA n c (c.aF a 0)).1 (c.aF a 1)).1.av (!decide (lZ (c.node a).name (aA n c (c.aF a 0)).2 (aA n (aA n c (c.aF a 0)).1 (c.aF a 1)).2=0)) a,lZ (c.node a).name (aA n c (c.aF a 0)).2 (aA n (aA n c (c.aF a 0)).1 (c.aF a 1)).2):=by unfold cw;simp only;rw[p',k];rfl
   obtain⟨x,y,hl,Vs,Yg⟩:=sh.two jB;have Vh:c.aF a 0=x:=by rw[kd,hl];rfl
   have Vr:c.aF a 1=y:=by rw[kd,hl];rfl
   rw[e]at he ⊢;rw[Vh,Vr]at he ⊢;obtain⟨b1,b2⟩:=jZ he;have ev:=fx n c x;rw[hl]at U3;obtain⟨c1,c2,c3,c4,c5,c6⟩:=kM U3;obtain⟨d1,d2,d3,d4,d5⟩:=kG c6;have r1:=hx c x lo h hc hv c1 c2 jB (.inl Vs) c5 ((fx n _ y).e0 b2);have r2:=hx (aA n c x).1 y (x.toNat+1) (h.ev ev) (ev.aa.trans hc) (hv.ev ev) d1 d2 jB (.inl Yg) d5 b2;rw[<-d4]at r2;exact((r1.seq jB jB r2).av).node (U8 jB)
  ·have e:cw (aA n) c a=(c,1):=by unfold cw;simp only;rw[p',k];rfl
   rw[e];exact(leaf (sh.zero jB)).node (U8 jB)
  ·have e:cw (aA n) c a=((aA n c (c.aF a 0)).1.av (decide ((aA n c (c.aF a 0)).2=1)) a,4):=by unfold cw;simp only;rw[p',k];rfl
   obtain⟨x,hl,Vs⟩:=sh.one jB;have Vh:c.aF a 0=x:=by rw[kd,hl];rfl
   rw[e]at he ⊢;rw[Vh]at he ⊢;exact((kid1 x hl (.inl Vs) (jZ he).2).av).node (U8 jB)
  ·have e:cw (aA n) c a=je (aA n) c a:=by unfold cw;simp only;rw[p',k];rfl
   rw[e]at he ⊢;have Vp:=sh.call k;unfold je at he ⊢;split at he
   ·exact(qi jC he).elim
   rename_i hf;rw[if_neg hf];simp only at he ⊢;have e1:=(zU a _ _ _).e0 he;split at e1
   ·exact(qi jC e1).elim
   rename_i hl;rw[if_neg hl];have r:=Hr hx (c.node a).l c [] lo a.toNat h hc hv jB (fun x Vx=>.inl (Vp x (by rw[<-p'];exact Vx))) (by rw[p'];exact U3) e1;have q:=GC a (gG (aA n) c (c.node a).l []).2 (nth c.aa.aw (fV c a).toNat).params (gG (aA n) c (c.node a).l []).1;exact(r.post q.1 q.2).node (U8 jB)
def Ii(t:aH)(n:Nat):Prop:=∀(c:Ck) (a:Int) (lo:Nat),bJ c->c.aa=t->dB c->c.e=0->0<=a->a<t.nodes.length->a.toNat<n->fA (bX t.nodes a)->aL t.nodes lo (nth t.nodes a.toNat).l a.toNat->(bU n c a).e=0->
 fR t lo (a.toNat+1) c (bU n c a)/\dB (bU n c a)
theorem C6{t:aH}{st:Ck->Int->Ck}{C:Int->Prop}{n:Nat}(hs:∀c a,bJ c->c.e=0->Sv c (st c a))
  (P':∀(c:Ck) (a:Int) (lo:Nat),bJ c->c.aa=t->dB c->c.e=0->0<=a->a<t.nodes.length->a.toNat<n->C (bX t.nodes a)->aL t.nodes lo (nth t.nodes a.toNat).l a.toNat->(st c a).e=0->fR t lo (a.toNat+1) c (st c a)/\dB (st c a)) :
  ∀(L:UP) (c:Ck) (lo hi:Nat),bJ c->c.aa=t->dB c->hi<=n->(∀x∈L,C (bX t.nodes x))->aL t.nodes lo L hi->(dS st c L).e=0->fR t lo hi c (dS st c L)/\dB (dS st c L)
 |[],c,lo,hi,h,hc,hv,hn,hr,U3,he=>by cases U3;unfold dS;exact⟨.refl _ _ _,hv⟩
 |a::L,c,lo,hi,h,hc,hv,hn,hr,U3,he=>by have e0:=(rz hs (a::L) c h).e0 he;unfold dS at he ⊢;rw[if_pos e0]at he ⊢;obtain⟨c1,c2,c3,c4,c5,c6⟩:=kM U3;have s:=hs c a h e0;have e1:=(rz hs L _ s.inv).e0 he;obtain⟨r1,v1⟩:=P' c a lo h hc hv e0 c1 c2 jB (hr a jE) c5 e1;obtain⟨r2,v2⟩:=C6 hs P' L _ _ hi s.inv (s.aa.trans hc) v1 hn (fun x hx=>hr x (by simp[hx])) c6 he;exact⟨r1.seq jB jB r2,v2⟩
def IW(ht:aR t)(P':Ii t n)(c:Ck)(a:Int)(lo:Nat)(h:bJ c)(hc:c.aa=t)(hv:dB c)(h0:0<=a)(h1:a<t.nodes.length)(hn:a.toNat<=n)(hk:bX t.nodes a=18)(U3:aL t.nodes lo (nth t.nodes a.toNat).l a.toNat)(he:(fp (bU n) c a).e=0) :
  fR t lo (a.toNat+1) c (fp (bU n) c a)/\dB (fp (bU n) c a):=by
 have sv:=qk (oL n) h a;have p':c.node a=nth t.nodes a.toNat:=by unfold Ck.node;rw[hc]
 have hb:=(ht.shape a.toNat jB).1.block hk;have ev:=rM c a;obtain⟨r,_⟩:=C6 (oL n) (C:=fA) P' (c.node a).l (c.ai a) lo a.toNat (h.ev ev) (ev.aa.trans hc) (hv.ev ev) hn (fun x hx=>hb x (by rw[<-p'];exact hx)) (by rw[p'];exact U3) he;have r:fR t lo a.toNat c (fp (bU n) c a):=fR.post (b:=dS (bU n) (c.ai a) (c.node a).l) (fR.pre (a:=c) (b:=c.ai a) rfl rfl r) rfl rfl;have Yu:(nth t.nodes a.toNat).kind=18:=hk;refine⟨r.node (fun h=>by unfold jY at h;omega),?_⟩;have hz:=r.size;refine⟨by have:=hv.1;omega,fun v Vq=>?_⟩;rw[sv.2]at Vq;have:=hv.2 v Vq;omega
def wX(ht:aR t)(h:bJ c0)(hc:c0.aa=t)(hv:dB c0)(hn:a.toNat<=n)(hl:(nth t.nodes a.toNat).l=[x])(hx:fy (bX t.nodes x))(U3:aL t.nodes lo (nth t.nodes a.toNat).l a.toNat)(he:(aA n c0 x).1.e=0) :
  fR t lo a.toNat c0 (aA n c0 x).1:=by
 rw[hl]at U3;obtain⟨c1,c2,c3,c4,c5⟩:=kG U3;rw[c4];exact wI ht n c0 x lo h hc hv c1 c2 jB hx c5 he
def KI(ht:aR t){y:Int}(h:bJ c0)(hc:c0.aa=t)(hv:dB c0)(hn:a.toNat<=n)(hl:(nth t.nodes a.toNat).l=[x,y])(hx:cS (bX t.nodes x))(hy:cS (bX t.nodes y))(U3:aL t.nodes lo (nth t.nodes a.toNat).l a.toNat)(he:(aA n (aA n c0 x).1 y).1.e=0) :
  fR t lo a.toNat c0 (aA n (aA n c0 x).1 y).1:=by
 rw[hl]at U3;obtain⟨c1,c2,c3,c4,c5,c6⟩:=kM U3;obtain⟨d1,d2,d3,d4,d5⟩:=kG c6;have ev:=fx n c0 x;have r1:=wI ht n c0 x lo h hc hv c1 c2 jB (.inl hx) c5 ((fx n _ y).e0 he);have q1:=wI ht n (aA n c0 x).1 y (x.toNat+1) (h.ev ev) (ev.aa.trans hc) (hv.ev ev) d1 d2 jB (.inl hy) d5 he;rw[d4];exact r1.seq jB jB q1
def GS{c:Ck}(h:bJ c)(hc:c.aa=t)(hv:dB c)(h1:a<t.nodes.length)(h0:0<=a)(U1:lo<=a.toNat)(he:(c.named a).1.e=0)(r:fR t lo a.toNat (c.named a).1 c'):fR t lo (a.toNat+1) c c':=by
 have V5:a.toNat<c.slots.length:=by rw[h.slots,hc];omega
 obtain⟨g1,g2⟩:=Dx hv rfl V5 he;have hz:=(nZ c a).size;have hrz:=r.size;refine⟨fun k hk=>(r.sw k jB).trans (g1 k jB),fun k h1 h2 h3=>?_,jB⟩;by_cases hka:k<a.toNat
 ·exact r.all k h1 hka h3
 ·have:k=a.toNat:=jB;subst this;rw[r.sw _ (.inr jB)];omega
theorem Jy{t:aH}(ht:aR t):∀n,Ii t n
 |0=>fun c a lo h hc hv e0 h0 h1 hn=>by omega
 |n+1=>fun c a lo h hc hv e0 h0 h1 hn hr U3 he=>by
  have hs:=Jy ht n;have p':(c.ai a).node a=nth t.nodes a.toNat:=by unfold Ck.node;show nth c.aa.nodes _=_;rw[hc]
  have sh:=(ht.shape a.toNat jB).1;have kd:∀i,(c.ai a).aF a i=nth (nth t.nodes a.toNat).l i:=fun i=>by unfold Ck.aF;rw[p']
  have ev:=rM c a;have h':=h.ev ev;have Wa:=ev.aa.trans hc;have Vq:=hv.ev ev;have U1:=U3.le;have kr:∀{hi:Nat} {c':Ck},fR t lo hi (c.ai a) c'->fR t lo hi c c':=fun r=>fR.pre (a:=c) (b:=c.ai a) rfl rfl r
  have U8:∀{q:Prop},¬((nth t.nodes a.toNat).kind=10\/(nth t.nodes a.toNat).kind=11\/(nth t.nodes a.toNat).kind=12)->jY (nth t.nodes a.toNat).kind->q:=fun h1 h2=>by unfold jY at h2;have:fA (nth t.nodes a.toNat).kind:=hr;unfold fA at this;omega
  have hkr:(nth t.nodes a.toNat).kind=10\/(nth t.nodes a.toNat).kind=11\/(nth t.nodes a.toNat).kind=12\/(nth t.nodes a.toNat).kind=13\/(nth t.nodes a.toNat).kind=14\/(nth t.nodes a.toNat).kind=17\/(nth t.nodes a.toNat).kind=15\/(nth t.nodes a.toNat).kind=16:=by have:fA (nth t.nodes a.toNat).kind:=hr;unfold fA at this;omega
  rcases hkr with k|k|k|k|k|k|k
  ·have e:bU (n+1) c a=pm (aA n) (c.ai a) a:=by unfold bU;simp only;rw[p',k];rfl
   obtain⟨x,hl,Yt⟩:=sh.right jB;have Vh:(c.ai a).aF a 0=x:=by rw[kd,hl];rfl
   rw[e]at he ⊢;rw[uF]at he ⊢;have he:(eR (aA n) (c.ai a) a).e=0:=he;have WV:=Ae (fx n) (c.ai a) a;have V3:=h'.ev WV;have Zn:=Vq.ev WV;obtain⟨_,q1⟩:=yc jC he;have q1:eR (aA n) (c.ai a) a=jO (aA n) (c.ai a) a:=q1;rw[q1]at he;obtain⟨_,q2⟩:=yc jC he;have q2:jO (aA n) (c.ai a) a=iS (aA n) (c.ai a) a:=q2;rw[q2]at he;unfold iS at he;rw[Vh]at he;obtain⟨b1,b2⟩:=jZ he;have r1:=(wX ht h' Wa Vq jB hl Yt U3 b2);have XG:(eR (aA n) (c.ai a) a).slots=(aA n (c.ai a) x).1.slots:=by rw[q1,q2];unfold iS;rw[Vh];exact(vj _ _ _).1
   have U':(eR (aA n) (c.ai a) a).size=(aA n (c.ai a) x).1.size:=by rw[q1,q2];unfold iS;rw[Vh];exact(vj _ _ _).2
   have r2:=kr (r1.post XG U');have V5:a.toNat<(eR (aA n) (c.ai a) a).slots.length:=by rw[V3.slots,WV.aa,Wa];omega
   have h0z:=Zn.1;have Yl:∀i,nth ((eR (aA n) (c.ai a) a).slots.set a.toNat (eR (aA n) (c.ai a) a).size) i=if a.toNat=i/\i<(eR (aA n) (c.ai a) a).slots.length then(eR (aA n) (c.ai a) a).size else nth (eR (aA n) (c.ai a) a).slots i:=fun i=>yj _ _ _ _
   refine⟨⟨fun i hi=>?_,fun i h1 h2 h3=>?_,?_⟩,?_,fun v YU=>?_⟩
   ·show nth ((eR (aA n) (c.ai a) a).slots.set a.toNat _) i=_;rw[Yl,jN];exact r2.sw i jB
   ·show 0<=nth ((eR (aA n) (c.ai a) a).slots.set a.toNat _) i/\nth ((eR (aA n) (c.ai a) a).slots.set a.toNat _) i<(eR (aA n) (c.ai a) a).size+1;rw[Yl];by_cases hia:i<a.toNat
    ·rw[jN];have:=r2.all i h1 hia h3;omega
    ·rw[if_pos ⟨jB,jB⟩];omega
   ·show _<=(eR (aA n) (c.ai a) a).size+1;have:=r2.size;omega
   ·show 0<=(eR (aA n) (c.ai a) a).size+1;omega
   ·show 0<=v.slot/\v.slot<(eR (aA n) (c.ai a) a).size+1;have YU:v∈(eR (aA n) (c.ai a) a).vars++[(⟨((c.ai a).node a).name,(aA n (c.ai a) ((c.ai a).aF a 0)).2,(eR (aA n) (c.ai a) a).size⟩:bI)]:=YU;rcases List.mem_append.1 YU with hm|hm
    ·have:=Zn.2 v hm;omega
    ·rw[List.mem_singleton.1 hm];show 0<=(eR (aA n) (c.ai a) a).size/\(eR (aA n) (c.ai a) a).size<_;omega
  ·have e:bU (n+1) c a=(aA n ((c.ai a).named a).1 ((c.ai a).aF a 0)).1.av (decide (((c.ai a).named a).2=(aA n ((c.ai a).named a).1 ((c.ai a).aF a 0)).2)) a:=by unfold bU;simp only;rw[p',k];rfl
   obtain⟨x,hl,Yt⟩:=sh.right jB;have Vh:(c.ai a).aF a 0=x:=by rw[kd,hl];rfl
   rw[e]at he ⊢;rw[Vh]at he ⊢;obtain⟨b1,b2⟩:=jZ he;have en:=nZ (c.ai a) a;have r1:=wX ht (h'.ev en) (en.aa.trans Wa) (Vq.ev en) jB hl Yt U3 b2;exact⟨kr ((GS h' Wa Vq h1 h0 U1 ((fx n _ x).e0 b2) r1).av),(Vq.ev en).ev ((fx n _ _).trans (kP _ _ _))⟩
  ·have e:bU (n+1) c a=(aA n (aA n ((c.ai a).named a).1 ((c.ai a).aF a 0)).1 ((c.ai a).aF a 1)).1.av (decide (((c.ai a).named a).2=4) && decide ((aA n ((c.ai a).named a).1 ((c.ai a).aF a 0)).2=1) && decide ((aA n (aA n ((c.ai a).named a).1 ((c.ai a).aF a 0)).1 ((c.ai a).aF a 1)).2=1)) a:=by unfold bU;simp only;rw[p',k];rfl
   obtain⟨x,y,hl,Vs,Yg⟩:=sh.two jB;have Vh:(c.ai a).aF a 0=x:=by rw[kd,hl];rfl
   have Vr:(c.ai a).aF a 1=y:=by rw[kd,hl];rfl
   rw[e]at he ⊢;rw[Vh,Vr]at he ⊢;obtain⟨b1,b2⟩:=jZ he;have en:=nZ (c.ai a) a;have r1:=KI ht (h'.ev en) (en.aa.trans Wa) (Vq.ev en) jB hl Vs Yg U3 b2;exact⟨kr ((GS h' Wa Vq h1 h0 U1 ((fx n _ x).e0 ((fx n _ y).e0 b2)) r1).av),(Vq.ev en).ev (((fx n _ _).trans (fx n _ _)).trans (kP _ _ _))⟩
  ·have e:bU (n+1) c a=(aA n (c.ai a) ((c.ai a).aF a 0)).1:=by unfold bU;simp only;rw[p',k];rfl
   obtain⟨x,hl,hxk⟩:=sh.tn k;have Vh:(c.ai a).aF a 0=x:=by rw[kd,hl];rfl
   rw[e]at he ⊢;rw[Vh]at he ⊢;have r1:=wX ht h' Wa Vq jB hl (by rw[hxk];unfold fy;omega) U3 he;exact⟨(kr r1).node (U8 jB),Vq.ev (fx n _ _)⟩
  ·have e:bU (n+1) c a=(aA n (c.ai a) ((c.ai a).aF a 0)).1.av (!decide ((aA n (c.ai a) ((c.ai a).aF a 0)).2=4)) a:=by unfold bU;simp only;rw[p',k];rfl
   obtain⟨x,hl,Vs⟩:=sh.one jB;have Vh:(c.ai a).aF a 0=x:=by rw[kd,hl];rfl
   rw[e]at he ⊢;rw[Vh]at he ⊢;obtain⟨b1,b2⟩:=jZ he;have r1:=wX ht h' Wa Vq jB hl (.inl Vs) U3 b2;exact⟨((kr r1).av).node (U8 jB),Vq.ev ((fx n _ _).trans (kP _ _ _))⟩
  ·have e:bU (n+1) c a=kJ (aA n) (c.ai a) a:=by unfold bU;simp only;rw[p',k];rfl
   rw[e]at he ⊢;unfold kJ at he ⊢;rw[p']at he ⊢;simp only at he ⊢;split at he
   ·exact(qi jC he).elim
   rename_i hf;rw[if_neg hf];rcases sh.ret k with hl|⟨x,hl,Vs⟩
   ·rw[hl];rw[if_neg jC];rw[hl]at U3;have:lo=a.toNat:=by cases U3;rfl
    subst this;exact⟨(kr (fR.refl t a.toNat (c.ai a))).node (U8 jB),Vq⟩
   ·have Vh:(c.ai a).aF a 0=x:=by rw[kd,hl];rfl
    have Wr:(nth t.nodes a.toNat).l.length=1:=by rw[hl];rfl
    rw[if_pos Wr]at he ⊢;rw[Vh]at he ⊢;obtain⟨b1,b2⟩:=jZ he;have r1:=wX ht h' Wa Vq jB hl (.inl Vs) U3 b2;exact⟨((kr r1).av).node (U8 jB),Vq.ev ((fx n _ _).trans (kP _ _ _))⟩
  ·have e:bU (n+1) c a=dS (fp (bU n)) ((aA n (c.ai a) ((c.ai a).aF a 0)).1.av (decide ((aA n (c.ai a) ((c.ai a).aF a 0)).2=2)) a) (((c.ai a).node a).l.drop 1):=by
    unfold bU;simp only;rw[p'];rcases k with k|k<;>rw[k]<;>rfl
   have Y4:∃x L,(nth t.nodes a.toNat).l=x::L/\cS (bX t.nodes x)/\∀y∈L,bX t.nodes y=18:=by
    rcases k with k|k
    ·obtain⟨x,y,hx,hy,hl|⟨z,hl,hz⟩⟩:=sh.lA k
     ·exact⟨x,[y],hl,hx,fun u hu=>by rw[List.mem_singleton.1 hu];exact hy⟩
     ·exact⟨x,[y,z],hl,hx,fun u hu=>by
       rcases List.mem_cons.1 hu with rfl|hu
       ·exact hy
       ·rw[List.mem_singleton.1 hu];exact hz⟩
    ·obtain⟨x,y,hl,hx,hy⟩:=sh.eF k;exact⟨x,[y],hl,hx,fun u hu=>by rw[List.mem_singleton.1 hu];exact hy⟩
   obtain⟨x,L,hl,Vs,hL⟩:=Y4;have Vh:(c.ai a).aF a 0=x:=by rw[kd,hl];rfl
   rw[e]at he ⊢;rw[p',hl,Vh]at he ⊢;have he:(dS (fp (bU n)) ((aA n (c.ai a) x).1.av (decide ((aA n (c.ai a) x).2=2)) a) L).e=0:=he;show fR t lo (a.toNat+1) c (dS (fp (bU n)) ((aA n (c.ai a) x).1.av (decide ((aA n (c.ai a) x).2=2)) a) L)/\dB (dS (fp (bU n)) ((aA n (c.ai a) x).1.av (decide ((aA n (c.ai a) x).2=2)) a) L);have ex:=(fx n (c.ai a) x).trans (kP _ (decide ((aA n (c.ai a) x).2=2)) a);have V3:=h'.ev ex;have hsb:∀(q:Ck) b,bJ q->q.e=0->Sv q (fp (bU n) q b):=fun q b hq _=>(qk (oL n) hq b).1
   have e1:=(rz hsb L _ V3).e0 he;obtain⟨b1,b2⟩:=jZ e1;rw[hl]at U3;obtain⟨c1,c2,c3,c4,c5,c6⟩:=kM U3;have r1:=wI ht n (c.ai a) x lo h' Wa Vq c1 c2 jB (.inl Vs) c5 b2;obtain⟨r2,v2⟩:=C6 hsb (C:=fun k=>k=18) (n:=n) (fun q b l g1 g2 g3 _ g5 g6 g7 g8 g9 g10=>IW ht hs q b l g1 g2 g3 g5 g6 jB g8 g9 g10) L _ (x.toNat+1) a.toNat V3 (ex.aa.trans Wa) (Vq.ev ex) jB hL c6 he;exact⟨((kr r1.av).seq jB jB r2).node (U8 jB),v2⟩
theorem He(body:Int):∀(ps:List bM) (c:Ck) (i:Int),dB c->c.size=i->dB (fF body c ps i)/\(fF body c ps i).slots=c.slots/\(fF body c ps i).size=i+ps.length
 |[],c,i,h,hi=>by unfold fF;exact⟨h,rfl,by simp;exact hi⟩
 |p::ps,c,i,h,hi=>by
  have fin:∀c1:Ck,Ev c c1->c1.slots=c.slots->dB (fF body (mU c1 ⟨p.name,p.ty,i⟩) ps (i+1))/\(fF body (mU c1 ⟨p.name,p.ty,i⟩) ps (i+1)).slots=c.slots/\(fF body (mU c1 ⟨p.name,p.ty,i⟩) ps (i+1)).size=i+(p::ps).length:=fun c1 s e=>by
   have hz:=s.size;have h1:=h.ev s;have h0:=h.1;obtain⟨a,b,d⟩:=He body ps (mU c1 ⟨p.name,p.ty,i⟩) (i+1) ⟨by show 0<=c1.size+1;omega,fun v hv=>by
    have hv:v∈c1.vars++[(⟨p.name,p.ty,i⟩:bI)]:=hv;show 0<=v.slot/\v.slot<c1.size+1;rcases List.mem_append.1 hv with hv|hv
    ·have:=h1.2 v hv;omega
    ·rw[List.mem_singleton.1 hv];show 0<=i/\i<_;omega⟩ (by show c1.size+1=i+1;omega)
   exact⟨a,b.trans e,by rw[d,List.length_cons];omega⟩
  unfold fF;simp only;split
  ·exact fin _ (oj c jC body) (E5 _ _ _).1
  ·exact fin _ (.refl c) rfl
structure sX(t:aH)(sl:List Int)(k lo:Nat)(z:Int):Prop where
 vm:((nth t.aw k).params.length:Int)<=z
 hi:z<=24
 all:∀i,lo<=i->i<(nth t.aw k).body.toNat+1->jY (nth t.nodes i).kind->0<=nth sl i/\nth sl i<z
 chain:aL t.nodes lo (nth t.nodes (nth t.aw k).body.toNat).l (nth t.aw k).body.toNat
def sX.aY{sl sl':UP}{z:Int}(h:sX t sl k lo z)(e:∀i,i<(nth t.aw k).body.toNat+1->nth sl' i=nth sl i):sX t sl' k lo z:=⟨h.vm,h.hi,fun i h1 h2 h3=>by rw[e i h2];exact h.all i h1 h2 h3,h.chain⟩
def QE(ht:aR t){c:Ck}(h:gD c)(hc:c.aa=t)(hk:k<t.aw.length)(U':c.aP.length<6)(U3:aL t.nodes lo (nth t.nodes (nth t.aw k).body.toNat).l (nth t.aw k).body.toNat)(he:(gU c k).e=0) :
  (∀i,(i<lo\/(nth t.aw k).body.toNat+1<=i)->nth (gU c k).slots i=nth c.slots i)/\sX t (gU c k).slots k lo (gU c k).size/\(gU c k).aP=c.aP++[(gU c k).size]:=by
 have Vk:k<c.aa.aw.length:=by rw[hc];exact hk
 have hp3:=h.aa.fn _ (fa Vk);have Xg:bJ { c with fn:=(k:Int),vars:=[],more:=[],size:=0 }:=⟨h.aa,h.types,h.slots,h.aw,by show c.aP.length<=6;omega,by show(0:Int)<=k;omega,by show(k:Int)<(c.aa.aw.length:Int);omega,by show((0:Nat):Int)<=0;omega,by show(0:Int)<=25;omega,fun _=>by show(0:Int)<=24;omega⟩;obtain⟨a,b,d⟩:=yq (nth c.aa.aw k).body (nth c.aa.aw k).params _ 0 Xg (by show(0:Int)+_<=20;omega);obtain⟨a',b',d'⟩:=He (nth c.aa.aw k).body (nth c.aa.aw k).params { c with fn:=(k:Int),vars:=[],more:=[],size:=0 } 0 ⟨by show(0:Int)<=0;omega,fun v hv=>by simp at hv⟩ rfl;have Wi:=pB ht hk;have X3:=ht.body _ (fa hk);unfold gU at he ⊢;simp only at he ⊢;rw[hc]at he ⊢;rw[hc]at a b d a' b' d';split at he
 ·rename_i e1;rw[if_pos e1];have sv:=(qk (oL t.nodes.length) a (nth t.aw k).body).1;obtain⟨r,_⟩:=IW ht (Jy ht t.nodes.length) _ (nth t.aw k).body lo a (b.trans (by rfl)) a' Wi.1 Wi.2 (by have:=Wi.2;have:=Wi.1;omega) X3 U3 he;have q:=fR.size r;have V8:=sv.inv.room he;refine⟨fun i hi=>(r.sw i hi).trans (by rw[b']),⟨?_,V8,r.all,U3⟩,?_⟩
  ·show _<=(fp _ _ _).size;rw[d']at q;omega
  ·show(fp _ _ _).aP++[_]=_;rw[sv.aP,d]
 ·rename_i e1;exact(e1 he).elim
def kS(t:aH)(k:Nat):Nat:=if k=0 then 0 else(nth t.aw (k-1)).body.toNat+1
theorem HT{t:aH}(ht:aR t):∀(n i lo:Nat) (c:Ck),gD c->c.aa=t->c.aP.length=i->i+n=t.aw.length->lo=kS t i->aL t.nodes lo ((t.aw.drop i).map (·.body)) t.nodes.length->(∀j,j<i->sX t c.slots j (kS t j) (nth c.aP j)/\(nth t.aw j).body.toNat<lo)->(gA c i n).e=0->
  ∀j,j<t.aw.length->sX t (gA c i n).slots j (kS t j) (nth (gA c i n).aP j)
 |0,i,lo,c,h,hc,hs,hi,U1,U3,hA,he=>by unfold gA;exact fun j hj=>(hA j jB).1
 |n+1,i,lo,c,h,hc,hs,hi,U1,U3,hA,he=>by
  have h6:=ht.aw;unfold gA at he ⊢;by_cases e0:c.e=0
  ·rw[if_pos e0]at he ⊢;have hk:i<t.aw.length:=jB;rw[kW hk]at U3;obtain⟨c1,c2,c3,c4,c5,c6⟩:=kM (a:=(nth t.aw i).body) U3;obtain⟨f1,f2,f3⟩:=B6 h (by rw[hc];exact hk) (by omega:c.aP.length<6);have e1:(gU c i).e=0:=by
    cases n with
    |zero=>unfold gA at he;exact he
    |succ m=>
     unfold gA at he;split at he
     ·assumption
     ·exact he
   obtain⟨r1,r2,r3⟩:=QE ht h hc hk jB c5 e1;refine HT ht n (i+1) ((nth t.aw i).body.toNat+1) (gU c i) f1 (f2.trans hc) jB jB (by unfold kS;rw[jN];rfl) c6 (fun j hj=>?_) he;by_cases WU:j<i
   ·obtain⟨g1,g2⟩:=hA j WU;have hz:nth (gU c i).aP j=nth c.aP j:=by rw[r3,pK jB]
    rw[hz];exact⟨g1.aY fun q hq=>r1 q (.inl jB),jB⟩
   ·have:j=i:=jB;subst this;have hz:nth (gU c j).aP j=(gU c j).size:=by rw[r3,<-hs];exact qL _ _
    rw[hz,<-U1];exact⟨r2,jB⟩
  ·rw[if_neg e0]at he;exact(e0 he).elim
theorem FT{x:bj}:∀(l:List bj) (c:Ck),(kT x c l).e=0->c.e=0/\∀f∈l,f.name≠x.name
 |[],c,h=>⟨by unfold kT at h;exact h,fun f hf=>by simp at hf⟩
 |f::l,c,h=>by
  unfold kT at h;obtain⟨h1,h2⟩:=FT l _ h;obtain⟨h3,h4⟩:=yc jC h1;rw[h4]at h1;exact⟨h1,fun g hg=>by
   rcases List.mem_cons.1 hg with rfl|hg
   ·exact h3
   ·exact h2 g hg⟩
theorem Gj(aw:List bj):∀(n i:Nat) (c:Ck) (m:Bool),i+n=aw.length->(kn aw c m i n).1.e=0->c.e=0/\(∀j,i<=j->j<aw.length->∀f∈aw.take j,f.name≠(nth aw j).name)/\((kn aw c m i n).2=true->m=true\/∃j,j<aw.length/\vR (nth aw j)=true)
 |0,i,c,m,hi,h=>by unfold kn at h ⊢;exact⟨h,fun j h1 h2=>jB,fun h=>.inl h⟩
 |n+1,i,c,m,hi,h=>by
  unfold kn at h ⊢;obtain⟨h1,h2,h3⟩:=Gj aw n (i+1) _ _ jB h;obtain⟨h4,h5⟩:=FT _ _ h1;refine⟨h4,fun j g1 g2=>?_,fun hm=>?_⟩
  ·by_cases e:j=i
   ·subst e;exact h5
   ·exact h2 j jB g2
  ·rcases h3 hm with h|h
   ·rcases Bool.or_eq_true _ _ |>.mp h with h|h
    ·exact .inl h
    ·exact .inr ⟨i,jB,h⟩
   ·exact .inr h
structure CF(t:aH):Prop where
 one:∀i j,i<j->j<t.aw.length->(nth t.aw i).name≠(nth t.aw j).name
 main:∃j,j<t.aw.length/\vR (nth t.aw j)=true
def M5{c:Ck}(h:(jd c).e=0):c.e=0/\CF c.aa:=by
 unfold jd at h;simp only at h;split at h
 ·rename_i hm;obtain⟨h1,h2,h3⟩:=Gj c.aa.aw c.aa.aw.length 0 c false jB h;refine⟨h1,⟨fun i j hi hj=>h2 j jB hj _ ?_,?_⟩⟩
  ·rw[fM jB];exact List.mem_take_iff_getElem.2 ⟨i,jB,rfl⟩
  ·rcases h3 hm with h|h
   ·cases h
   ·exact h
 ·exact(qi jC h).elim
theorem Iz(f:bj->UR)(nm:UR):∀(l:List bj) (i k:Int),(∀a b,a<b->b<l.length->f (nth l a)≠f (nth l b))->(∃v∈l,f v=nm)->jR f nm l i k=js f nm l i
 |[],i,k,h,hx=>by obtain⟨v,hv,_⟩:=hx;simp at hv
 |v::l,i,k,h,hx=>by
  unfold jR js;have hl:∀a b,a<b->b<l.length->f (nth l a)≠f (nth l b):=fun a b h1 h2=>h (a+1) (b+1) jB (by rw[List.length_cons];omega)
  by_cases hv:f v=nm
  ·rw[if_pos hv,if_pos hv];have hn:∀u∈l,f u≠nm:=fun u hu hh=>by
    obtain⟨q,hq,rfl⟩:=List.mem_iff_getElem.1 hu;exact h 0 (q+1) jB (by rw[List.length_cons];omega) (by rw[show nth (v::l) 0=v from rfl,show nth (v::l) (q+1)=l[q] from by rw[fM (by rw[List.length_cons];omega)];rfl,hv,hh])
   have:∀(l:List bj) (i k:Int),(∀u∈l,f u≠nm)->jR f nm l i k=k:=fun l=>by
    induction l with
    |nil=>intro i k _;rfl
    |cons u l ih=> intro i k hu;unfold jR;rw[if_neg (hu u jE),ih (i+1) k fun w hw=>hu w (by simp[hw])]
   exact this l _ _ hn
  ·rw[if_neg hv,if_neg hv];exact Iz f nm l (i+1) k hl (by
    obtain⟨u,hu,hh⟩:=hx;rcases List.mem_cons.1 hu with rfl|hu
    ·exact(hv hh).elim
    ·exact⟨u,hu,hh⟩)
structure gi(p:af):Prop where
 ok:p8 p
 aw:∀j,j<p.aa.aw.length->sX p.aa p.slots j (kS p.aa j) (nth p.size j)
 names:CF p.aa
def Uh(ht:aR t)(he:(iA t).2.2=0):gi (iA t).1:=by
 have hp:=(zb ht he).1;unfold iA at he hp ⊢;split at he
 ·rename_i h;exact(h he).elim
 rename_i h;rw[if_neg h]at hp ⊢;have h:(jb t).e=0:=jB;obtain⟨i1,i2,i3⟩:=Ks ht;have q:=HT ht t.aw.length 0 0 (jd (jU t)) i1 i2 (by rw[i3];rfl) jB rfl (by rw[List.drop_zero];exact ht.chain) (fun j hj=>jB) h;obtain⟨_,q1,_⟩:=Cy ht t.aw.length 0 0 (jd (jU t)) i1 i2 (by rw[i3];rfl) jB (by rw[List.drop_zero];exact ht.chain) h;have he:(jb t).aa=t:=q1;have h0:(jd (jU t)).e=0:=by
  have Wg:=h;unfold jb at Wg;cases hn:t.aw.length with
  |zero=>rw[hn]at Wg;unfold gA at Wg;exact Wg
  |succ m=>
   rw[hn]at Wg;unfold gA at Wg;split at Wg
   ·assumption
   ·exact Wg
 refine⟨hp,?_,?_⟩
 ·show∀j,j<(jb t).aa.aw.length->sX (jb t).aa (jb t).slots j (kS (jb t).aa j) (nth (jb t).aP j);rw[he];exact q
 ·show CF (jb t).aa;rw[he];exact(M5 h0).2
def yI{s:UR}(he:(fZ s).2.2=0):gi (fZ s).1:=by
 unfold fZ at he ⊢;split at he
 ·rename_i h;exact(h he).elim
 rename_i h;rw[if_neg h];have h:(gY s).2.2=0:=jB;simp only at he ⊢;split at he
 ·cases he
 rename_i h2;split at he
 ·rename_i h3;exact(h3 he).elim
 rename_i h3;rw[if_neg h2,if_neg h3];exact Uh (u9 h) jB
def C3{t:List bq}(h:aL t lo L hi):lo+L.length<=hi:=by
 induction h with
 |nil=>simp
 |@cons lo c hi L hc h1 h2 i1 i2=> have:=h1.le;simp only[List.length_cons];omega
def RM{l:List α}{i:Nat}{x y:α}(h:x∈l.set i y):x=y\/x∈l:=by
 rcases List.mem_or_eq_of_mem_set h with h|h
 ·exact .inr h
 ·exact .inl h
theorem BE{α:Type}[Inhabited α](f:α->UR)(nm:UR):∀(l:List α) (i:Int),(∃v∈l,f v=nm)->i<=js f nm l i/\js f nm l i<i+l.length/\f (nth l (js f nm l i-i).toNat)=nm
 |[],_,h=>by obtain⟨v,hv,_⟩:=h;simp at hv
 |v::l,i,h=>by
  unfold js;by_cases hv:f v=nm
  ·rw[if_pos hv];refine⟨Int.le_refl _,by simp;omega,?_⟩;rw[show(i-i).toNat=0 from jB];exact hv
  ·rw[if_neg hv];obtain⟨u,hu,hh⟩:=h;have hu:u∈l:=by
    rcases List.mem_cons.1 hu with rfl|hu
    ·exact(hv hh).elim
    ·exact hu
   obtain⟨a,b,c⟩:=BE f nm l (i+1) ⟨u,hu,hh⟩;refine⟨jB,by simp;omega,?_⟩;rw[show(js f nm l (i+1)-i).toNat=(js f nm l (i+1)-(i+1)).toNat+1 from jB];exact c
theorem Kc{α:Type}(f:α->UR)(nm:UR):∀(l:List α) (i k:Int),jR f nm l i k≠k->∃v∈l,f v=nm
 |[],_,_,h=>(h rfl).elim
 |v::l,i,k,h=>by
  unfold jR at h;by_cases hv:f v=nm
  ·exact⟨v,jE,hv⟩
  ·rw[if_neg hv]at h;obtain⟨u,hu,hh⟩:=Kc f nm l _ _ h;exact⟨u,by simp[hu],hh⟩
structure Callee(p:af)(a:Int)(k:Nat):Prop where
 lt:k<p.aa.aw.length
 at_:js bj.name (au p a).name p.aa.aw 0=k
 last:jR bj.name (au p a).name p.aa.aw 0 (-1)=k
 name:(nth p.aa.aw k).name=(au p a).name
 args:(au p a).l.length=(nth p.aa.aw k).params.length
 Di:(au p a).l.length<=3
variable{p:af}
def callee(h:gi p)(h0:a.toNat<p.aa.nodes.length)(hk:(au p a).kind=21):∃k,Callee p a k:=by
 obtain⟨h1,h2⟩:=(h.ok.ty a.toNat jB h0).call hk;have hx:=Kc bj.name (au p a).name p.aa.aw 0 (-1) (by show jR bj.name (nth p.aa.nodes a.toNat).name p.aa.aw 0 (-1)≠-1;omega);have e:=Iz bj.name (au p a).name p.aa.aw 0 (-1) (fun a b=>h.names.one a b) hx;obtain⟨f1,f2,f3⟩:=BE bj.name (au p a).name p.aa.aw 0 hx;refine⟨(js bj.name (au p a).name p.aa.aw 0).toNat,jB,jB,jB,?_,?_,?_⟩
 ·rwa [Int.sub_zero]at f3
 ·unfold au at e ⊢;rw[<-e];exact h2
 ·have hm:=(h.ok.aa.fn _ (fa (l:=p.aa.aw) (k:=(js bj.name (au p a).name p.aa.aw 0).toNat) jB)).2;unfold au at e hm ⊢;rw[<-e]at hm;rw[h2];exact hm
def DK(l:UP):lO 0 l=l.length:=by simp[lO]
theorem nN:∀(h:UO) (n:Int),h.foldl lO n=n+h.foldl lO (0:Int)
 |[],n=>by simp[List.foldl]
 |x::h,n=>by simp only[List.foldl_cons];rw[nN h (lO n x),nN h (lO 0 x)];unfold lO;omega
def Gc(h:UO)(x:UP):gw (h++[x])=gw h+x.length+1:=by unfold gw;rw[List.foldl_append,List.foldl_cons,List.foldl_nil,List.length_append,nN h _,nN h (h.length:Int)];unfold lO;simp;omega
theorem Dc:∀(h:UO),0<=h.foldl lO (0:Int)
 |[]=>by simp
 |x::h=>by simp only[List.foldl_cons];rw[nN,DK];have:=Dc h;omega
def Md(h:UO):(h.length:Int)<=gw h:=by unfold gw;rw[nN];have:=Dc h;omega
theorem Hl:∀(h:UO) (i:Nat) (x:UP),i<h.length->x.length=(nth h i).length->(h.set i x).foldl lO (0:Int)=h.foldl lO 0
 |[],i,x,hi,_=>by simp at hi
 |y::h,0,x,_,e=>by have e:x.length=y.length:=e;simp only[List.set_cons_zero,List.foldl_cons,lO,e]
 |y::h,i+1,x,hi,e=>by simp only[List.set_cons_succ,List.foldl_cons];rw[nN (h.set i x) (lO 0 y),nN h (lO 0 y),Hl h i x (by simpa using hi) e]
def GN(h:UO)(i:Nat)(x:UP)(hi:i<h.length)(e:x.length=(nth h i).length):gw (h.set i x)=gw h:=by unfold gw;rw[List.length_set,nN (h.set i x) (h.length:Int),nN h (h.length:Int),Hl h i x hi e]
theorem Hi:∀(h:UO) (i:Nat),i<h.length->((nth h i).length:Int)<=h.foldl lO 0
 |[],i,hi=>by simp at hi
 |y::h,0,_=>by simp only[List.foldl_cons];rw[nN,DK];have:=Dc h;show(y.length:Int)<=_;omega
 |y::h,i+1,hi=>by simp only[List.foldl_cons];rw[nN,DK];have:=Hi h i (by simpa using hi);show((nth h i).length:Int)<=_;omega
def TG(h:UO)(i:Nat)(hi:i<h.length):((nth h i).length:Int)+h.length<=gw h:=by unfold gw;rw[nN];have:=Hi h i hi;omega
def gP[Inhabited α](l:List α)(n k:Nat)(h:k<n):nth (l.take n) k=nth l k:=by unfold nth;rw[List.getD_eq_getElem?_getD,List.getElem?_take,if_pos h,List.getD_eq_getElem?_getD]
def LP{v:aj}(hm:mg v=true):v.s.size<=40:=by
 unfold mg at hm;split at hm
 ·have:v.s=sE:=by simpa using hm
  rw[this];decide
 split at hm
 ·simp only[Bool.and_eq_true,decide_eq_true_eq]at hm;rw[hm.1];decide
 split at hm
 ·simp only[Bool.and_eq_true,decide_eq_true_eq]at hm;omega
 split at hm
 ·simp only[Bool.and_eq_true,decide_eq_true_eq]at hm;rw[hm.1];decide
 ·cases hm
def xk(n:Int):bE (IntKind.i64.wrap n):=by unfold bE;rw[IntKind.wrap_i64];omega
def ru:bE 0:=by unfold bE;omega
def D0(b:Bool):bE (vB b).n:=by cases b<;>(show bE _;unfold vB bE;simp)
def MP{b:Int}(h:bE a):bE (a.tmod b):=by
 unfold bE at*;by_cases h0:0<=a
 ·have h1:0<=a.tmod b:=Int.tmod_nonneg b h0;have h2:a.tmod b<=a:=by
   have:=Int.mul_tdiv_add_tmod a b;by_cases hb:b=0
   ·subst hb;simp
   ·have hn:=Int.natAbs_tmod a b;have:(a.tmod b).natAbs<=a.natAbs:=by rw[hn];exact Nat.mod_le _ _
    omega
  omega
 ·have hn:=Int.natAbs_tmod a b;have:(a.tmod b).natAbs<=a.natAbs:=by rw[hn];exact Nat.mod_le _ _
  have h3:a.tmod b<=0:=by have:=Int.tmod_nonneg b (a:=-a) jB;rw[Int.neg_tmod]at this;omega
  omega
def SE(s:UR)(a:aj):bE (mT s a).n:=by
 unfold mT
 (repeat' split)<;>first|exact xk _|exact ru|exact D0 _
def si(l:List aj):Prop:=∀v∈l,bE v.n
def tU(h:UO):Prop:=∀l∈h,∀x∈l,bE x
def Oq(p:af):Prop:=∀k,k<p.aa.nodes.length->(nth p.aa.nodes k).kind=1->bE (nth p.aa.nodes k).n
theorem p8.bE{p:af}(h:p8 p):Oq p:=fun k hk h1=>by
 obtain⟨s,hs,e⟩:=(h.aa.shape k hk).1.num h1;have U6:=HP hs;have Zt:qf s=(kF s.data.toList 0:Nat):=by unfold qf;rw[AT s hs.2.2 _ jl,List.take_of_length_le jE]
 rw[e,Zt];unfold Go.Gd.bE;omega
def Pj{l:List aj}(h:si l)(k t:Int):bE (ff l k t).n:=by
 unfold ff
 (repeat' split)<;>first|exact ru|exact h _ (fa jB)
def IH[Inhabited α](l:List α)(k:Nat):nth l k∈l\/nth l k=default:=by
 by_cases h:k<l.length
 ·exact .inl (fa h)
 ·right;unfold nth;rw[List.getD_eq_getElem?_getD,List.getElem?_eq_none jB];rfl
def Gl{l:List aj}(h:si l)(k:Nat){v:aj}(hv:bE v.n):si (l.set k v):=fun x hx=>by
 rcases RM hx with rfl|hx
 ·exact hv
 ·exact h x hx
def BZ(hs:gi p):∃m:Nat,m<p.aa.aw.length/\ik p=(m:Int)/\(nth p.aa.aw m).name=(⟨#[109,97,105,110]⟩:UR)/\(nth p.aa.aw m).params.length=0:=by
 obtain⟨j,hj,Y5⟩:=hs.names.main;unfold vR at Y5;simp only[Bool.and_eq_true,decide_eq_true_eq]at Y5;obtain⟨⟨g1,g2⟩,_⟩:=Y5;obtain⟨f1,f2,f3⟩:=BE bj.name (⟨#[109,97,105,110]⟩:UR) p.aa.aw 0 ⟨_,fa hj,g1⟩;have e:(js bj.name (⟨#[109,97,105,110]⟩:UR) p.aa.aw 0-0).toNat=(ik p).toNat:=by unfold ik;simp
 rw[e]at f3;have U1:0<=ik p:=f1;have X6:ik p<0+p.aa.aw.length:=f2;have hm:(ik p).toNat<p.aa.aw.length:=jB;have hjm:j=(ik p).toNat:=by
  rcases Nat.lt_trichotomy j (ik p).toNat with h|h|h
  ·exact(hs.names.one _ _ h hm (by rw[g1,f3])).elim
  ·exact h
  ·exact(hs.names.one _ _ h hj (by rw[g1,f3])).elim
 exact⟨(ik p).toNat,hm,jB,f3,by rw[<-hjm];omega⟩
structure nK(p:af)(fn:Int)(x:ga):Prop where
 b0:0<=x.block
 lo:kS p.aa fn.toNat<=x.block.toNat
 hi:x.block.toNat<=(nth p.aa.aw fn.toNat).body.toNat
 kind:bX p.aa.nodes x.block=18
 a0:0<=x.at_
 a1:x.at_<=(wN p x.block).length
structure AA(p:af)(f:fG):Prop where
 f0:0<=f.fn
 f1:f.fn<p.aa.aw.length
 sl:(f.slots.length:Int)=nth p.size f.fn.toNat
 pl:∀x∈f.path,nK p f.fn x
 dec:(f.path.map (·.block)).Pairwise fun a b=>b<a
def HR(p:af)(f:fG):Prop:=f.path≠[]/\f.pl.at_<(wN p f.pl.block).length
def nK.in_(h:gi p){fn:Int}(f0:0<=fn)(f1:fn<p.aa.aw.length){x:ga}(hx:nK p fn x):x.block.toNat<p.aa.nodes.length:=by have:=pB h.ok.aa (k:=fn.toNat) jB;have h1:=this.1;have h2:=this.2;have h3:=hx.hi;omega
def nK.aF(h:gi p){fn:Int}(f0:0<=fn)(f1:fn<p.aa.aw.length){x:ga}(hx:nK p fn x)(ha:a∈wN p x.block):0<=a/\a.toNat<x.block.toNat/\kS p.aa fn.toNat<=a.toNat/\fA (bX p.aa.nodes a):=by
 have hi:=hx.in_ h f0 f1;have sh:=h.ok.aa.shape x.block.toNat hi;have h1:=sh.2.1 a ha;refine⟨h1.1,h1.2,?_,sh.1.block hx.kind a ha⟩;have hc:=(h.aw fn.toNat jB).chain;by_cases e:x.block.toNat<(nth p.aa.aw fn.toNat).body.toNat
 ·exact hc.closed _ hx.lo e a ha
 ·have e:x.block.toNat=(nth p.aa.aw fn.toNat).body.toNat:=by have:=hx.hi;omega
  have ha:a∈(nth p.aa.nodes x.block.toNat).l:=ha;rw[e]at ha;exact(hc.mem a ha).2.1
structure AE(p:af)(R:RS):Prop where
 ok:R.Ok
 gr:R.gr.length<=8
 fr:∀k,k<R.nf->AA p (nth R.gr k)
 busy:∀k,k+1<R.nf->HR p (nth R.gr k)
 go:R.status≠2->1<=R.nf
end Go.Proofs.YtijdhbokcdpklaaGreatDoor
/- Lemmas. No conditions. -/
import Derived.Test.YtjpcgmjaipfgdaaGreatDoorCk8
set_option linter.all false
set_option maxHeartbeats 4000000
set_option maxRecDepth 10000
namespace Go.Gd
open Go
variable{α:Type}
def dH[Inhabited α](l:List α)(i k:Nat)(v:α)(h:i<l.length):nth (l.set i v) k=if k=i then v else nth l k:=by
 unfold nth;rw[List.getD_eq_getElem?_getD,List.getElem?_set,List.getD_eq_getElem?_getD];by_cases e:i=k
 ·subst e;simp[h]
 ·rw[if_neg e,if_neg (fun h=>e h.symm)]
theorem wy:∀(l m:UT) (i:Nat),aC (l++m) i=(aC l i).or (aC m i)
 |[],m,i=>by simp[aC]
 |(j,r)::l,m,i=>by
  show(if i=j then some r else aC (l++m) i)=((if i=j then some r else aC l i):Option Row).or _;split
  ·rfl
  ·exact wy l m i
theorem lT:∀(l:UT) (i:Nat),i∈ids l<->aC l i≠none
 |[],i=>by simp[ids,aC]
 |(j,r)::l,i=>by
  have:=lT l i;simp only[ids,List.map_cons,List.mem_cons,aC]at this ⊢;by_cases e:i=j
  ·simp[e]
  ·rw[if_neg e];simp only[e,false_or];exact this
variable{l:UT}
def gl{i:Nat}{r:Row}(h:aC l i=some r):(ids l).contains i=true:=List.contains_iff_mem.2 ((lT l i).2 (by rw[h];simp))
theorem tD(q:U5):∀(l m:UU),aY q (l++m)=(aY q l && aY q m)
 |[],m=>by simp[aY]
 |a::l,m=>by simp only[List.cons_append,aY,tD q l m,Bool.and_assoc]
def pB{q:U5}{l:US}(h:QL q l):aY q l.flatten=true:=by
 induction l with
 |nil=>rfl
 |cons x l ih=>rw[List.flatten_cons,tD,h x jE,ih fun y hy=>h y (by simp[hy])];rfl
theorem EM(D:U5):∀(l m:UT),fB D (l++m)=fB D l++fB D m
 |[],m=>rfl
 |(j,r)::l,m=>by show(bif D j then fB D (l++m)else(j,r)::fB D (l++m))=(bif D j then fB D l else(j,r)::fB D l)++_;rw[EM D l m];cases D j<;>rfl
theorem HT(D:U5):∀(l:UT),(∀i∈ids l,D i=false)->fB D l=l
 |[],_=>rfl
 |(j,r)::l,h=>by show(bif D j then fB D l else(j,r)::fB D l)=_;rw[h j (by simp[ids]),HT D l fun i hi=>h i (by simp[ids]at hi ⊢;exact .inr hi)];rfl
theorem I1(D:U5):∀(l:UT),(∀i∈ids l,D i=true)->fB D l=[]
 |[],_=>rfl
 |(j,r)::l,h=>by show(bif D j then fB D l else(j,r)::fB D l)=_;rw[h j (by simp[ids]),I1 D l fun i hi=>h i (by simp[ids]at hi ⊢;exact .inr hi)];rfl
theorem Fa(D:U5):∀(l m:UT),iV D l->iV D m->iV D (l++m)
 |[],m,_,h=>h
 |(j,r)::l,m,h,k=>⟨h.1,Fa D l m h.2 k⟩
theorem IW(D:U5):∀(l:UT),(∀i∈ids l,D i=true)->iV D l
 |[],_=>trivial
 |(j,r)::l,h=>⟨.inl (h j (by simp[ids])),IW D l fun i hi=>h i (by simp[ids]at hi ⊢;exact .inr hi)⟩
theorem BT{q:U5}:∀{l:US},aY q l.flatten=true->QL q l
 |[],_,x,hx=>by simp at hx
 |a::l,h,x,hx=>by
  rw[List.flatten_cons,yI,Bool.and_eq_true]at h;rcases List.mem_cons.1 hx with rfl|hx
  ·exact h.1
  ·exact BT h.2 x hx
def Si{q:U5}:∀{r:Row},aY q r.cells=true->xi q r
 |.var _ _,h=>h
 |.aJ _ _ _,h=>BT h
 |.mp _ _,h=>h
theorem It(D:U5):∀(l:UT),(ids l).Nodup->(∀i r,aC l i=some r->aY (iv D) r.cells=true)->iV D l
 |[],_,_=>trivial
 |(j,r)::l,hn,h=>by
  have hn':=List.nodup_cons.1 hn;refine⟨.inr (Si (h j r (by simp[aC]))),It D l hn'.2 fun i r' hi=>h i r' ?_⟩;have:i≠j:=fun e=>by subst e;exact hn'.1 ((lT l i).2 (by rw[hi];simp))
  simp only[aC,if_neg this];exact hi
def rG(p:ab)(b:Int):UY:=(nth p.aa.nodes b.toNat).l
def iu(p:ab):Int:=jR bk.name (⟨#[109,97,105,110]⟩:U0) p.aa.ao 0
def lH(n:Int)(l:UY):Int:=n+l.length
def gq(h:UW):Int:=h.foldl lH (h.length:Int)
def ak(p:ab)(a:Int):bw:=nth p.aa.nodes a.toNat
def ld(n:Int):U0:=⟨(Lib.itoa n).toArray⟩
def mA(v:aj):U0:=
 if v.ty=1 then ld v.n
 else if v.ty=2 then(if v.n=1 then(⟨#[116,114,117,101]⟩:U0)else(⟨#[102,97,108,115,101]⟩:U0))
 else if v.ty=3 then v.s
 else if v.ty=4 then(⟨#[108,105,115,116]⟩:U0)
 else sE
def bz(n:Int):Prop:=-9223372036854775808<=n/\n<=9223372036854775807
def SL[Inhabited α](l:List α)(i:Nat)(h:i<l.length):l.take (i+1)=l.take i++[nth l i]:=by rw[List.take_succ,List.getElem?_eq_getElem h,fA h];rfl
structure RS where
 eF:List fI
 nf:Nat
 jp:List (List gk)
 heap:List (List Int)
 in_:Int
 aZ:List ByteArray
 status:Int
 cf:Int
 time:Int
namespace RS
structure Ok(R:RS):Prop where
 nf:R.nf<=R.eF.length
 jp:R.jp.length=R.eF.length
def fr(R:RS)(k:Nat):UU:=[.raw (.int .i64 (nth R.eF k).fn),.rs (gC 0 k) (nth R.eF k).slots.length 3 (nth R.eF k).slots.length,.rs (gC 1 k) ((nth R.eF k).path.length+(nth R.jp k).length) 2 (nth R.eF k).path.length]
def sl(R:RS)(k:Nat):Row:=.aJ 54 3 ((nth R.eF k).slots.map bY)
def pt(R:RS)(k:Nat):Row:=.aJ 393 2 (((nth R.eF k).path++nth R.jp k).map ug)
def hp(R:RS)(k:Nat):Row:=.aJ 3 1 ((nth R.heap k).map eI)
def c(R:RS):UU:=[.rs 1 R.eF.length 3 R.nf,.rs 2 R.heap.length 1 R.heap.length,.raw (.int .i64 R.in_),.rs 3 R.aZ.length 1 R.aZ.length,.raw (.int .i64 R.status),.raw (.int .i64 R.cf),.raw (.int .i64 R.time)]
def e(t:U1)(pre post:UU)(R:RS)(tl:UT):UT:=
 (0,.var t (pre++R.c++post))::(1,.aJ 396 3 (xZ R.eF.length R.fr))::(2,.aJ 22 1 (xZ R.heap.length fun k=>[.rs (gC 2 k) (nth R.heap k).length 1 (nth R.heap k).length]))::(3,.aJ 9 1 (R.aZ.map eS)) ::
  jd 0 R.eF.length R.sl (jd 1 R.eF.length R.pt (jd 2 R.heap.length R.hp tl))
end RS
attribute [go_sem] RS.fr RS.sl RS.pt RS.hp RS.c RS.e
def db.qe{D:U5}{H:Hp}{dd:UU}{i sz m n:Nat}{e:U1}{enc:α->UU}[he:bG enc sz](l more:List α)(hD:D i=true)(hi:H.get i=some (.aJ e sz ((l++more).map enc)))(hm:m=l.length+more.length)(hn:n=l.length):db D H (.rs i m sz n) (.sl false sz (l.map enc) dd):=
 .BL dd i sz m n e _ _ hD hi jF jB jF (fun ds Yx=>by obtain⟨x,_,rfl⟩:=List.mem_map.1 Yx;exact he.len x) (ot l) fun k j c d hk h1 h2=>by
  have Vv:k<l.length:=jB;have e1:((l++more).map enc).getD k []=enc l[k]:=by rw[List.map_append,List.getD_eq_getElem?_getD,List.getElem?_append_left (by simpa using Vv)];simp[Vv]
  have e2:(l.map enc).getD k []=enc l[k]:=by simp[Vv]
  rw[e1]at h1;rw[e2,h1]at h2;cases h2;exact .same c (rk (fun _ h=>by cases h) _ (mg (he.free _) h1))
variable{t:U1}{R:RS}{tl:UT}
def RS.uB{pre post:UU}:aC (R.e t pre post tl) 0=some (.var t (pre++R.c++post)):=rfl
def RS.uu{pre post:UU}:aC (R.e t pre post tl) 1=some (.aJ 396 3 (xZ R.eF.length R.fr)):=rfl
def RS.uh{pre post:UU}:aC (R.e t pre post tl) 2=some (.aJ 22 1 (xZ R.heap.length fun k=>[.rs (gC 2 k) (nth R.heap k).length 1 (nth R.heap k).length])):=rfl
def RS.uv{pre post:UU}:aC (R.e t pre post tl) 3=some (.aJ 9 1 (R.aZ.map eS)):=rfl
def RS.qp{pre post:UU}(i:Nat)(h:1000<=i):aC (R.e t pre post tl) i=aC (jd 0 R.eF.length R.sl (jd 1 R.eF.length R.pt (jd 2 R.heap.length R.hp tl))) i:=by unfold RS.e;simp only[aC];rw[jN,jN,jN,jN]
variable{k:Nat}
def RS.p6{pre post:UU}(h:k<R.eF.length):aC (R.e t pre post tl) (gC 0 k)=some (R.sl k):=by rw[RS.qp _ (yL _ _),uX _ _ _ _ _ jB h]
def RS.DK{pre post:UU}(h:k<R.eF.length):aC (R.e t pre post tl) (gC 1 k)=some (R.pt k):=by rw[RS.qp _ (yL _ _),ri _ _ _ _ _ _ jB jB jB,uX _ _ _ _ _ jB h]
def RS.Dm{pre post:UU}(h:k<R.heap.length):aC (R.e t pre post tl) (gC 2 k)=some (R.hp k):=by rw[RS.qp _ (yL _ _),ri _ _ _ _ _ _ jB jB jB,ri _ _ _ _ _ _ jB jB jB,uX _ _ _ _ _ jB h]
theorem J1(a:Nat)(f:U7)(l m:UT):∀(n k:Nat),oG a f k n (l++m)=oG a f k n l++m
 |0,k=>rfl
 |n+1,k=>by unfold oG;rw[J1 a f l m n (k+1)];rfl
def C5(a n:Nat)(f:U7)(l m:UT):jd a n f (l++m)=jd a n f l++m:=J1 a f l m n 0
def RS.xv{pre post:UU}(tl:UT):R.e t pre post tl=R.e t pre post []++tl:=by unfold RS.e;rw[show tl=[]++tl from rfl,C5,C5,C5];rfl
def RS.no{pre post:UU}(i:Nat)(h:4<=i)(h':i<1000):aC (R.e t pre post []) i=none:=by unfold RS.e;simp only[aC];rw[jN,jN,jN,jN,wv _ _ _ _ _ h',wv _ _ _ _ _ h',wv _ _ _ _ _ h'];rfl
def low(tl:UT):Prop:=∀i r,aC tl i=some r->4<=i/\i<1000
def RS.bA{pre post:UU}(h:low tl):Lays (fun tl=>R.e t pre post tl) tl:=⟨fun i=>by rw[RS.xv,wy],fun i r hi=>RS.no i (h i r hi).1 (h i r hi).2⟩
variable{pre' post':UU}
def RS.size{pre post:UU}{R':RS}(h1:R.eF.length<=R'.eF.length)(h2:R.heap.length<=R'.heap.length)(i:Nat)(h:aC (R.e t pre post []) i≠none):aC (R'.e t pre' post' []) i≠none:=by
 by_cases h0:i=0
 ·subst h0;rw[RS.uB];simp
 by_cases YX:i=1
 ·subst YX;rw[RS.uu];simp
 by_cases ZM:i=2
 ·subst ZM;rw[RS.uh];simp
 by_cases h3':i=3
 ·subst h3';rw[RS.uv];simp
 by_cases h4:i<1000
 ·exact(h (RS.no i jB h4)).elim
 rw[RS.qp i jB]at h ⊢;rcases wG 0 R.eF.length jB R.sl (jd 1 R.eF.length R.pt (jd 2 R.heap.length R.hp [])) i with⟨k,hk,rfl,e⟩|⟨_,e⟩
 ·rw[uX _ _ _ _ _ jB jB];simp
 rw[e]at h;rcases wG 1 R.eF.length jB R.pt (jd 2 R.heap.length R.hp []) i with⟨k,hk,rfl,e⟩|⟨_,e⟩
 ·rw[ri _ _ _ _ _ _ jB jB jB,uX _ _ _ _ _ jB jB];simp
 rw[e]at h;rcases wG 2 R.heap.length jB R.hp [] i with⟨k,hk,rfl,e⟩|⟨_,e⟩
 ·rw[ri _ _ _ _ _ _ jB jB jB,ri _ _ _ _ _ _ jB jB jB,uX _ _ _ _ _ jB jB];simp
 rw[e]at h;exact(h rfl).elim
theorem Ik(a:Nat)(f:U7)(l:UT):∀(n k:Nat),ids (oG a f k n l)=(List.range' k n).map (gC a)++ids l
 |0,k=>rfl
 |n+1,k=>by unfold oG;rw[List.range'_succ];show gC a k::ids (oG a f (k+1) n l)=_;rw[Ik a f l n (k+1)];rfl
def B2{a n:Nat}{f:U7}(ha:a<8)(h:(ids l).Nodup)(hl:∀k,k<n->aC l (gC a k)=Option.none):(ids (jd a n f l)).Nodup:=by
 unfold jd;rw[Ik,List.nodup_append];refine⟨?_,h,fun x hx y hy e=>?_⟩
 ·refine List.Pairwise.map _ (fun x y hxy e=>?_) (List.nodup_range' (step:=1) (s:=0) (n:=n) jB);exact hxy (AG ha ha e).2
 ·obtain⟨k,hk,rfl⟩:=List.mem_map.1 hx;subst e;exact(lT _ _).1 hy (hl k (by simp at hk;omega))
theorem nodup_cons{l:UT}{i:Nat}{r:Row}(h:(ids l).Nodup)(hl:aC l i=Option.none):(ids ((i,r)::l)).Nodup:=List.nodup_cons.2 ⟨fun hm=>(lT _ _).1 hm hl,h⟩
def RS.nodup{pre post:UU}:(ids (R.e t pre post [])).Nodup:=by
 have f2:∀i,i<1000->aC (jd 0 R.eF.length R.sl (jd 1 R.eF.length R.pt (jd 2 R.heap.length R.hp []))) i=Option.none:=fun i h=>by rw[wv _ _ _ _ _ h,wv _ _ _ _ _ h,wv _ _ _ _ _ h];rfl
 unfold RS.e;refine nodup_cons (nodup_cons (nodup_cons (nodup_cons (B2 jB (B2 jB (B2 jB List.nodup_nil (fun k _=>rfl)) fun k _=>?_) fun k _=>?_) ?_) ?_) ?_) ?_
 ·rw[ri _ _ _ _ _ _ jB jB jB];rfl
 ·rw[ri _ _ _ _ _ _ jB jB jB,ri _ _ _ _ _ _ jB jB jB];rfl
 ·exact f2 3 jB
 ·show(if(2:Nat)=3 then _ else _)=_;rw[jN];exact f2 2 jB
 ·show(if(1:Nat)=2 then _ else if(1:Nat)=3 then _ else _)=_;rw[jN,jN];exact f2 1 jB
 ·show(if(0:Nat)=1 then _ else if(0:Nat)=2 then _ else if(0:Nat)=3 then _ else _)=_;rw[jN,jN,jN];exact f2 0 jB
def RS.closed{pre post:UU}(h1:aY eJ pre=true)(h2:aY eJ post=true):∀i r,aC (R.e t pre post []) i=some r->aY (fun i=>(ids (R.e t pre post [])).contains i) r.cells=true:=fun i r h=>by
 have up:∀{l},aY eJ l=true->aY (fun i=>(ids (R.e t pre post [])).contains i) l=true:=fun h=>gf (fun _ h=>by cases h) _ h
 have c1:=gl (RS.uu (t:=t) (pre:=pre) (post:=post) (R:=R) (tl:=[]));have c2:=gl (RS.uh (t:=t) (pre:=pre) (post:=post) (R:=R) (tl:=[]));have c3:=gl (RS.uv (t:=t) (pre:=pre) (post:=post) (R:=R) (tl:=[]));by_cases h0:i=0
 ·subst h0;rw[RS.uB]at h;cases h;show aY _ (pre++R.c++post)=true;rw[tD,tD,up h1,up h2];simp only[RS.c,aY,AV.all,c1,c2,c3,Bool.and_self]
 by_cases YX:i=1
 ·subst YX;rw[RS.uu]at h;cases h;exact pB (Jh fun k hk=>by have a:=gl (RS.p6 (t:=t) (pre:=pre) (post:=post) (R:=R) (tl:=[]) hk);have b:=gl (RS.DK (t:=t) (pre:=pre) (post:=post) (R:=R) (tl:=[]) hk);simp only[RS.fr,aY,AV.all,a,b,Bool.and_self])
 by_cases ZM:i=2
 ·subst ZM;rw[RS.uh]at h;cases h;exact pB (Jh fun k hk=>by have a:=gl (RS.Dm (t:=t) (pre:=pre) (post:=post) (R:=R) (tl:=[]) hk);simp only[aY,AV.all,a,Bool.and_self])
 by_cases h3':i=3
 ·subst h3';rw[RS.uv]at h;cases h;exact up (pB (ot (enc:=eS) (sz:=1) _))
 by_cases h4:i<1000
 ·rw[RS.no i jB h4]at h;cases h
 rw[RS.qp i jB]at h;rcases wG 0 R.eF.length jB R.sl (jd 1 R.eF.length R.pt (jd 2 R.heap.length R.hp [])) i with⟨k,hk,rfl,e⟩|⟨_,e⟩
 ·rw[e]at h;cases h;exact up (pB (ot (enc:=bY) (sz:=3) _))
 rw[e]at h;rcases wG 1 R.eF.length jB R.pt (jd 2 R.heap.length R.hp []) i with⟨k,hk,rfl,e⟩|⟨_,e⟩
 ·rw[e]at h;cases h;exact up (pB (ot (enc:=ug) (sz:=2) _))
 rw[e]at h;rcases wG 2 R.heap.length jB R.hp [] i with⟨k,hk,rfl,e⟩|⟨_,e⟩
 ·rw[e]at h;cases h;exact up (pB (ot (enc:=eI) (sz:=1) _))
 rw[e]at h;cases h
def cE{P:U6}{f:FuncId}{args:UU}{H:Hp}{K:UR}{pre post:UU}{R':RS}{r0:AV}{B:UZ}(hc:af P f args (R.e t pre post []) fun r l'=>r=r0/\l'=R'.e t pre' post' [])(hH:H=⟨B,R.e t pre post tl⟩)
  (h1:R.eF.length<=R'.eF.length) (h2:R.heap.length<=R'.heap.length) (hp:aY eJ pre=true) (hq:aY eJ post=true) (hl:low tl) (ha:aY (fun i=>decide (i=0)) args=true) (h0:aX P f=true) (k:K r0 ⟨B,R'.e t pre' post' tl⟩):fi P (.raw (.func (.func f) #[] #[])) args H K:=by
 subst hH;refine nw h0 (BF (E:=fun tl=>R.e t pre post tl) (E':=fun tl=>R'.e t pre' post' tl) hc (RS.bA hl) (RS.bA hl) RS.nodup (gf (fun i hi=>?_) _ ha) (RS.closed hp hq) k (RS.size h1 h2));have:i=0:=of_decide_eq_true hi;subst this;exact gl RS.uB
def zq:U5:=fun i=>decide (4<=i/\i<1000)
def cS.ah(s:cS):fI:=nth s.bF (s.bF.length-1)
def fI.pl(f:fI):gk:=nth f.path (f.path.length-1)
def v7(p:ab)(s:cS):Int:=nth (rG p s.ah.pl.block) s.ah.pl.at_.toNat
structure OnOk(R:RS):Prop where
 ok:R.Ok
 nf:1<=R.nf
 eF:R.eF.length<=1000
 pa:1<=(nth R.eF (R.nf-1)).path.length
 F4:(nth R.eF (R.nf-1)).path.length<=1000
 a0:0<=(nth R.eF (R.nf-1)).pl.at_
 a1:(nth R.eF (R.nf-1)).pl.at_<=1000000
def yQ(p:ab)(node:Int):Prop:=(nth p.aa.nodes node.toNat).kind=10\/(nth p.aa.nodes node.toNat).kind=11
instance (p:ab)(node:Int):Decidable (yQ p node):=by unfold yQ;infer_instance
structure StAt(p:ab)(s:cS):Prop where
 fr:1<=s.bF.length
 eF:s.bF.length<=1000
 pa:1<=s.ah.path.length
 F4:s.ah.path.length<=1000
 b0:0<=s.ah.pl.block
 b1:s.ah.pl.block<p.aa.nodes.length
 a0:0<=s.ah.pl.at_
 a1:s.ah.pl.at_<(rG p s.ah.pl.block).length
 ats:s.ah.pl.at_<=1000000
 n0:0<=v7 p s
 n1:v7 p s<p.aa.nodes.length
 sl:p.slots.length=p.aa.nodes.length
 s0:yQ p (v7 p s)->0<=nth p.slots (v7 p s).toNat/\nth p.slots (v7 p s).toNat<s.ah.slots.length
def RS.of(s:cS):RS:=⟨s.bF,s.bF.length,s.bF.map fun _=>[],s.heap,s.in_,s.aZ,s.status,s.cf,s.time⟩
def Bl(p:ab)(fn:Int)(args:List aj):fI:=⟨fn,args++List.replicate ((nth p.size fn.toNat)-args.length).toNat v0,[⟨(nth p.aa.ao fn.toNat).body,0⟩]⟩
def EX(p:ab)(s:cS):Int:=if s.status=2\/s.status=3 then -1 else v7 p s
def Fy(p:ab)(s:cS)(node:Int)(inp:UY):Prop:=yQ p node/\(ak p (nth (ak p node).l 0)).kind=19/\(inp.length:Int)<=s.in_
instance (p:ab)(s:cS)(node:Int)(inp:List Int):Decidable (Fy p s node inp):=by unfold Fy;infer_instance
end Go.Gd
namespace Go.Proofs.YtjpcgmjaipfgdaaGreatDoor
open Go Go.Gd Tryz
def gJ(t:aK)(a:Int):Prop:=0<=a/\a<t.nodes.length
def Al(c:Ck):Prop:=c.e=0\/c.e=44\/gJ c.aa c.at_
def Kp(t:aK)(c c':Ck):Prop:=c.aa=t->c'.aa=t/\(Al c->Al c')
def Kp.refl(t:aK)(c:Ck):Kp t c c:=fun h=>⟨h,id⟩
variable{t:aK}{b:Ck}
def Kp.trans{a c:Ck}(h:Kp t a b)(k:Kp t b c):Kp t a c:=fun e=>⟨(k (h e).1).1,fun x=>(k (h e).1).2 ((h e).2 x)⟩
variable{c':Ck}
def qo{c:Ck}(h1:c'.aa=c.aa)(h2:c'.e=c.e)(h3:c'.at_=c.at_):Kp t c c':=fun e=>⟨h1.trans e,fun h=>by unfold Al at*;rw[h1,h2,h3];exact h⟩
variable{a:Int}
def rM(c:Ck)(e:Int)(ha:gJ t a):Kp t c (c.aG e a):=fun ht=>by
 unfold Ck.aG;split
 ·refine⟨ht,fun _=>.inr (.inr ?_)⟩;show gJ c.aa a;rw[ht];exact ha
 ·exact⟨ht,id⟩
def qJ(c:Ck)(b:Bool)(ha:gJ t a):Kp t c (c.ap b a):=by
 unfold Ck.ap;split
 ·exact .refl t c
 ·exact rM c 42 ha
def y7(c:Ck)(ha:gJ t a):Kp t c (c.named a).1:=by
 unfold Ck.named;split
 ·exact rM c 40 ha
 ·exact qo rfl rfl rfl
variable{α:Type}
def JA[Inhabited α]{l:List α}{i:Nat}(h:l.length<=i):nth l i=default:=by simp[nth,List.getD_eq_getElem?_getD,List.getElem?_eq_none h]
def vG(h:aS t){c:Ck}(hc:c.aa=t)(ha:gJ t a)(i:Nat):gJ t (c.aH a i):=by
 obtain⟨h0,h1⟩:=ha;unfold Ck.aH Ck.node;rw[hc];by_cases hi:i<(nth t.nodes a.toNat).l.length
 ·have:=(h.shape a.toNat jB).2.1 _ (fc hi);unfold gJ;omega
 ·have:nth (nth t.nodes a.toNat).l i=0:=JA (Nat.le_of_not_lt hi);rw[this];unfold gJ;omega
def zb(h:aS t){c:Ck}(hc:c.aa=t)(ha:gJ t a):∀x∈(c.node a).l,gJ t x:=fun x hx=>by obtain⟨h0,h1⟩:=ha;unfold Ck.node at hx;rw[hc]at hx;have:=(h.shape a.toNat jB).2.1 _ hx;unfold gJ;omega
theorem Bj{t:aK}{ex:Ck->Int->Ck×Int}(hex:∀c a,gJ t a->Kp t c (ex c a).1):∀(l:UY) (c:Ck) (ts:UY),(∀x∈l,gJ t x)->Kp t c (gM ex c l ts).1
 |[],c,ts,_=>by unfold gM;exact .refl t c
 |a::l,c,ts,hl=>by
  unfold gM;split
  ·exact(hex c a (hl a jE)).trans (Bj hex l _ _ fun x hx=>hl x (by simp[hx]))
  ·exact .refl t c
theorem F5{t:aK}{a:Int}(ha:gJ t a):∀(ts:UY) (ps:List bI) (c:Ck),Kp t c (iP a c ts ps)
 |[],ps,c=>by rw[uz];exact .refl t c
 |_::_,[],c=>by rw[uK];exact .refl t c
 |x::ts,p::ps,c=>by
  unfold iP;split
  ·exact(qJ c _ ha).trans (F5 ha ts ps _)
  ·exact .refl t c
variable{ex:Ck->Int->Ck×Int}
def Oo(h:aS t)(hex:∀c a,gJ t a->Kp t c (ex c a).1)(c:Ck)(ha:gJ t a):Kp t c (jq ex c a).1:=fun hc=>by
 refine(show Kp t c (jq ex c a).1 from ?_) hc;unfold jq;split
 ·exact rM c 40 ha
 ·refine Kp.trans ?_ (F5 ha _ _ _);split
  ·exact(Bj hex _ _ _ (zb h hc ha)).trans (rM _ 43 ha)
  ·exact Bj hex _ _ _ (zb h hc ha)
def PF(h:aS t)(hex:∀c a,gJ t a->Kp t c (ex c a).1)(c:Ck)(ha:gJ t a):Kp t c (cz ex c a).1:=fun hc=>by
 have k0:=vG h hc ha 0;have k1:=vG h hc ha 1;refine(show Kp t c (cz ex c a).1 from ?_) hc;unfold cz;simp only;repeat' split
 all_goals first
  |exact .refl t c
  |exact y7 c ha
  |exact Oo h hex c ha
  |exact((y7 c ha).trans (hex _ _ k0)).trans (qJ _ _ ha)
  |exact((hex c _ k0).trans (hex _ _ k1)).trans (qJ _ _ ha)
  |exact(hex c _ k0).trans (qJ _ _ ha)
theorem FO{t:aK}(h:aS t):∀(n:Nat) (c:Ck) (a:Int),gJ t a->Kp t c (aB n c a).1
 |0,c,a,ha=>by unfold aB;exact .refl t c
 |n+1,c,a,ha=>by
  unfold aB;split
  ·exact .refl t c
  ·exact(PF h (FO h n) c ha).trans (qo rfl rfl rfl)
def TU(h:aS t)(hex:∀c a,gJ t a->Kp t c (ex c a).1)(c:Ck)(ha:gJ t a):Kp t c (pm ex c a):=fun hc=>by
 have k0:=vG h hc ha 0;refine(show Kp t c (pm ex c a) from ?_) hc;rw[uE];have kA:Kp t c (iX ex c a):=(hex c _ k0).trans (qJ _ _ ha);have kB:Kp t c (jX ex c a):=by
  unfold jX;split
  ·exact kA.trans (rM _ 41 ha)
  ·exact kA
 have kC:Kp t c (fa ex c a):=by
  unfold fa;split
  ·exact kB.trans (rM _ 4 ha)
  ·exact kB
 exact kC.trans (qo rfl rfl rfl)
def Tn(h:aS t)(hex:∀c a,gJ t a->Kp t c (ex c a).1)(c:Ck)(ha:gJ t a):Kp t c (kP ex c a):=fun hc=>by
 have k0:=vG h hc ha 0;refine(show Kp t c (kP ex c a) from ?_) hc;unfold kP;simp only;split
 ·exact rM c 43 ha
 split
 ·exact(hex c _ k0).trans (qJ _ _ ha)
 ·exact .refl t c
theorem Da{t:aK}{st:Ck->Int->Ck}(P':∀c a,gJ t a->Kp t c (st c a)):∀(l:UY) (c:Ck),(∀x∈l,gJ t x)->Kp t c (dW st c l)
 |[],c,_=>by unfold dW;exact .refl t c
 |a::l,c,hl=>by
  unfold dW;split
  ·exact(P' c a (hl a jE)).trans (Da P' l _ fun x hx=>hl x (by simp[hx]))
  ·exact .refl t c
def GX(h:aS t){st:Ck->Int->Ck}(P':∀c a,gJ t a->Kp t c (st c a))(c:Ck)(ha:gJ t a):Kp t c (fw st c a):=fun hc=>by refine(show Kp t c (fw st c a) from ?_) hc;have h1:Kp t c (c.ai a):=qo rfl rfl rfl;exact(h1.trans (Da P' _ _ (zb h hc ha))).trans (qo rfl rfl rfl)
theorem J0{t:aK}(h:aS t):∀(n:Nat) (c:Ck) (a:Int),gJ t a->Kp t c (bT n c a)
 |0,c,a,ha=>by unfold bT;exact .refl t c
 |n+1,c,a,ha=>fun hc=>by
  have k0:=vG h hc ha 0;have k1:=vG h hc ha 1;have kl:=zb h hc ha;refine(show Kp t c (bT (n+1) c a) from ?_) hc;have e0:Kp t c (c.ai a):=qo rfl rfl rfl;have hx:=FO h n;unfold bT;simp only;refine e0.trans ?_;repeat' split
  ·exact TU h hx _ ha
  ·exact((y7 _ ha).trans (hx _ _ k0)).trans (qJ _ _ ha)
  ·exact(((y7 _ ha).trans (hx _ _ k0)).trans (hx _ _ k1)).trans (qJ _ _ ha)
  ·exact hx _ _ k0
  ·exact(hx _ _ k0).trans (qJ _ _ ha)
  ·exact Tn h hx _ ha
  ·exact((hx _ _ k0).trans (qJ _ _ ha)).trans (Da (fun c a ha=>GX h (J0 h n) c ha) _ _ fun x Vx=>kl x (List.mem_of_mem_drop Vx))
theorem KT{t:aK}{body:Int}(hb:gJ t body):∀(ps:List bI) (c:Ck) (i:Int),Kp t c (fH body c ps i)
 |[],c,i=>by unfold fH;exact .refl t c
 |p::ps,c,i=>by
  unfold fH;simp only;refine Kp.trans ?_ (KT hb ps _ _);split
  ·exact(rM c 41 hb).trans (qo rfl rfl rfl)
  ·exact qo rfl rfl rfl
variable{k:Nat}
def n7(h:aS t)(hk:k<t.ao.length):gJ t (nth t.ao k).body:=by have:=h.chain.mem (nth t.ao k).body (List.mem_map.2 ⟨_,fc hk,rfl⟩);unfold gJ;omega
def K8(h:aS t)(c:Ck)(hk:k<t.ao.length):Kp t c (gT c k):=fun hc=>by
 refine(show Kp t c (gT c k) from ?_) hc;have hb:gJ t (nth c.aa.ao k).body:=by rw[hc];exact n7 h hk
 have h1:Kp t c (fH (nth c.aa.ao k).body { c with fn:=(k:Int),vars:=[],more:=[],size:=0 } (nth c.aa.ao k).params 0):=Kp.trans (b:={ c with fn:=(k:Int),vars:=[],more:=[],size:=0 }) (qo rfl rfl rfl) (KT hb _ _ _);unfold gT;simp only;split
 ·exact(h1.trans (GX h (J0 h _) _ hb)).trans (qo rfl rfl rfl)
 ·exact h1.trans (qo rfl rfl rfl)
theorem Ht{t:aK}(h:aS t):∀(n:Nat) (c:Ck) (i:Nat),i+n<=t.ao.length->Kp t c (gN c i n)
 |0,c,i,_=>by unfold gN;exact .refl t c
 |n+1,c,i,hi=>by
  unfold gN;split
  ·exact(K8 h c jB).trans (Ht h n _ _ jB)
  ·exact .refl t c
theorem Gw{t:aK}{x:bk}(hx:gJ t x.body):∀(l:List bk) (c:Ck),Kp t c (kZ x c l)
 |[],c=>by unfold kZ;exact .refl t c
 |f::l,c=>by
  unfold kZ;refine Kp.trans ?_ (Gw hx l _);split
  ·exact rM c 41 hx
  ·exact .refl t c
theorem G6{t:aK}(h:aS t):∀(n:Nat) (c:Ck) (m:Bool) (i:Nat),i+n<=t.ao.length->Kp t c (ki t.ao c m i n).1
 |0,c,m,i,_=>by unfold ki;exact .refl t c
 |n+1,c,m,i,hi=>by unfold ki;exact(Gw (n7 h jB) _ _).trans (G6 h n _ _ _ jB)
def Ol(h:aS t)(c:Ck):Kp t c (ji c):=fun hc=>by
 have h1:Kp t c (ki c.aa.ao c false 0 c.aa.ao.length).1:=by rw[hc];exact G6 h _ _ _ _ jB
 refine(show Kp t c (ji c) from ?_) hc;unfold ji;simp only;split
 ·exact h1
 ·refine h1.trans fun hq=>?_
  unfold Ck.aG;split
  ·exact⟨hq,fun _=>.inr (.inl rfl)⟩
  ·exact⟨hq,id⟩
def Q7(h:aS t):Al (jh t)/\(jh t).aa=t:=by have k:Kp t (jY t) (jh t):=(Ol h (jY t)).trans (Ht h _ _ _ jB);exact⟨(k rfl).2 (.inl rfl),(k rfl).1⟩
def RZ(h:aS t):(iE t).2.2=0\/(iE t).2.2=44\/gJ t (iE t).2.1:=by
 obtain⟨a,b⟩:=Q7 h;unfold iE;split
 ·rcases a with a|a|a
  ·exact .inl a
  ·exact .inr (.inl a)
  ·rw[b]at a;exact .inr (.inr a)
 ·exact .inl rfl
def AF(s:U0)(hs:s.size<=1000000):aD prog 13 [rS s] (.ba [.agg (cY (ga s).1),rI (ga s).2.1,rI (ga s).2.2]):=by
 have hp:=P2 s hs;by_cases h1:(ik s).2.2=0
 ·have ht:=v8 h1;have hk:=Ry (ik s).1 ht;have VL:=RZ ht;by_cases h2:(iE (ik s).1).2.2=44
  ·have e:ga s=(lA,0,44):=by unfold ga;rw[if_neg (fun h=>h h1)];simp only;rw[if_pos h2]
   rw[e];refine cB func13 ntmps13 ?_
   (have W:=jA h1 h2;repeat' (first|refine ar fun K hK=>?_|refine av ?_|(refine hK _ _ ?_;clear hK K)|(refine au ?_ ?_<;>intro hc<;>try exact jz)|refine cp (hp) ?_|refine cp (hk) ?_|refine aq ?_|exact jI|(clear hK K)))
   refine fy [.cell 2 32,.tmp 3,.tmp 4] ?_;refine bD.ba (ds:=[.agg (cY lA),rI _,rI _]) ?_;refine jA (bD.agg (ds:=cY lA) ?_) (jA (.same _ rfl) (jA (.same _ rfl) trivial));simp only[cY,lA];exact iQ
  ·by_cases h3:(iE (ik s).1).2.2=0
   ·have e:ga s=((iE (ik s).1).1,0,0):=by unfold ga;rw[if_neg (fun h=>h h1)];simp only;rw[if_neg h2,if_neg (fun h=>h h3)]
    rw[e];refine cB func13 ntmps13 ?_
    (have W:=jA h1 h3;repeat' (first|refine ar fun K hK=>?_|refine av ?_|(refine hK _ _ ?_;clear hK K)|(refine au ?_ ?_<;>intro hc<;>try exact jz)|refine cp (hp) ?_|refine cp (hk) ?_|refine aq ?_|exact jI|(clear hK K)))
    (refine bq [.cell 2 32,.tmp 3,.tmp 4] ?_;try simp only[go_sem])
   ·have e:ga s=(lA,(nth (ik s).1.nodes (iE (ik s).1).2.1.toNat).ci,(iE (ik s).1).2.2):=by unfold ga;rw[if_neg (fun h=>h h1)];simp only;rw[if_neg h2,if_pos h3]
    obtain⟨V9,Xb⟩:=(VL.resolve_left h3).resolve_left h2;rw[e];refine cB func13 ntmps13 ?_
    (have W:=jA h1 (jA h2 (h3));repeat' (first|refine ar fun K hK=>?_|refine av ?_|(with_reducible refine gR 8 ?_);refine dA 8 [0] (bf 0 11) mixed ?_|(refine hK _ _ ?_;clear hK K)|(refine au ?_ ?_<;>intro hc<;>try exact jz)|refine cp (hp) ?_|refine cp (hk) ?_|refine aq ?_|exact jI|(clear hK K)))
    refine fy [.cell 2 32,.tmp 3,.tmp 4] ?_;refine bD.ba (ds:=[.agg (cY lA),rI _,rI _]) ?_;refine jA (bD.agg (ds:=cY lA) ?_) (jA (.same _ rfl) (jA (.same _ rfl) trivial));simp only[cY,lA];exact iQ
 ·have e:ga s=(lA,(ik s).2.1,(ik s).2.2):=by unfold ga;rw[if_pos h1]
  rw[e];refine cB func13 ntmps13 ?_
  (have W:=h1;repeat' (first|refine ar fun K hK=>?_|refine av ?_|(refine hK _ _ ?_;clear hK K)|(refine au ?_ ?_<;>intro hc<;>try exact jz)|refine cp (hp) ?_|refine aq ?_|exact jI|(clear hK K)))
  refine fy [.cell 2 32,.tmp 3,.tmp 4] ?_;refine bD.ba (ds:=[.agg (cY lA),rI _,rI _]) ?_;refine jA (bD.agg (ds:=cY lA) ?_) (jA (.same _ rfl) (jA (.same _ rfl) trivial));simp only[cY,lA];exact iQ
def xG[Inhabited α](l:List α)(i k:Nat)(v:α):nth (l.set i v) k=if i=k/\k<l.length then v else nth l k:=by
 unfold nth;rw[List.getD_eq_getElem?_getD,List.getElem?_set,List.getD_eq_getElem?_getD];by_cases h:i=k
 ·subst h;by_cases hi:i<l.length
  ·simp[hi]
  ·simp[hi]
 ·simp[h]
structure u7(t:aK)(ty:List Int)(k:Nat):Prop where
 int:(nth t.nodes k).kind=1->nth ty k=1
 bool:(nth t.nodes k).kind=2->nth ty k=2
 text:(nth t.nodes k).kind=3->nth ty k=3
 var:(nth t.nodes k).kind=4->1<=nth ty k/\nth ty k<=4
 index:(nth t.nodes k).kind=5->nth ty k=1/\nth ty (nth (nth t.nodes k).l 0).toNat=1
 len:(nth t.nodes k).kind=6->nth ty k=1/\(nth ty (nth (nth t.nodes k).l 0).toNat=3\/nth ty (nth (nth t.nodes k).l 0).toNat=4)
 neg:(nth t.nodes k).kind=7->nth ty k=1/\nth ty (nth (nth t.nodes k).l 0).toNat=1
 not:(nth t.nodes k).kind=8->nth ty k=2/\nth ty (nth (nth t.nodes k).l 0).toNat=2
 RE:(nth t.nodes k).kind=9->nth ty k=mf (nth t.nodes k).name (nth ty (nth (nth t.nodes k).l 0).toNat) (nth ty (nth (nth t.nodes k).l 1).toNat)/\nth ty k≠0
 cond:(nth t.nodes k).kind=15\/(nth t.nodes k).kind=16->nth ty (nth (nth t.nodes k).l 0).toNat=2
 call:(nth t.nodes k).kind=21->0<=j7 bk.name (nth t.nodes k).name t.ao 0 (-1)/\(nth t.nodes k).l.length=(nth t.ao (j7 bk.name (nth t.nodes k).name t.ao 0 (-1)).toNat).params.length
 in_:(nth t.nodes k).kind=19->nth ty k=1
 new:(nth t.nodes k).kind=20->nth ty k=4
 BE:(nth t.nodes k).kind=10->1<=nth ty (nth (nth t.nodes k).l 0).toNat/\nth ty (nth (nth t.nodes k).l 0).toNat<=4
def gu(t:aK)(ty:UY)(lo hi:Nat):Prop:=∀k,lo<=k->k<hi->u7 t ty k
def Tw(lo hi:Nat)(c c':Ck):Prop:=∀k,(k<lo\/hi<=k)->nth c'.types k=nth c.types k
variable{lo hi:Nat}{L:UY}
def _root_.Go.Gd.aP.closed{t:List bw}(h:aP t lo L hi):∀k,lo<=k->k<hi->∀a∈(nth t k).l,lo<=a.toNat:=by
 induction h with
 |nil=>intro k h1 h2;omega
 |@cons lo c hi L hc h1 h2 i1 i2=>
  intro k VA Vk a ha;have l1:=h1.le;by_cases h:k<c
  ·exact i1 k VA h a ha
  by_cases h':k=c
  ·subst h';exact(h1.mem a ha).2.1
  ·have:=i2 k jB Vk a ha;omega
variable{ty:UY}
def u7.aW(h:aS t){ty':UY}(hk:k<t.nodes.length)(U9:lo<=k)(hc:∀a∈(nth t.nodes k).l,lo<=a.toNat)(he:∀i,lo<=i->i<=k->nth ty' i=nth ty i)(x:u7 t ty k):u7 t ty' k:=by
 have hm:=(h.shape k hk).2.1;have sh:=(h.shape k hk).1;have e0:=he k U9 jl;have ea:∀i,i<(nth t.nodes k).l.length->nth ty' (nth (nth t.nodes k).l i).toNat=nth ty (nth (nth t.nodes k).l i).toNat:=fun i hi=>by have VX:=fc hi;have:=hm _ VX;exact he _ (hc _ VX) jB
 refine⟨fun e=>by rw[e0];exact x.int e,fun e=>by rw[e0];exact x.bool e,fun e=>by rw[e0];exact x.text e,fun e=>by rw[e0];exact x.var e,fun e=>?_,fun e=>?_,fun e=>?_,fun e=>?_,fun e=>?_,fun e=>?_,x.call,fun e=>by rw[e0];exact x.in_ e,fun e=>by rw[e0];exact x.new e,fun e=>?_⟩
 ·obtain⟨a,hl,_⟩:=sh.one jB;rw[e0,ea 0 (by rw[hl];simp)];exact x.index e
 ·obtain⟨a,hl,_⟩:=sh.one jB;rw[e0,ea 0 (by rw[hl];simp)];exact x.len e
 ·obtain⟨a,hl,_⟩:=sh.one jB;rw[e0,ea 0 (by rw[hl];simp)];exact x.neg e
 ·obtain⟨a,hl,_⟩:=sh.one jB;rw[e0,ea 0 (by rw[hl];simp)];exact x.not e
 ·obtain⟨a,b,hl,_⟩:=sh.two jB;rw[e0,ea 0 (by rw[hl];simp),ea 1 (by rw[hl];simp)];exact x.RE e
 ·have hl:0<(nth t.nodes k).l.length:=by
   rcases e with e|e
   ·obtain⟨a,b,_,_,hl|⟨d,hl,_⟩⟩:=sh.lg e<;>rw[hl]<;>simp
   ·obtain⟨a,b,hl,_⟩:=sh.ee e;rw[hl];simp
  rw[ea 0 hl];exact x.cond e
 ·obtain⟨a,hl,_⟩:=sh.right jB;rw[ea 0 (by rw[hl];simp)];exact x.BE e
theorem gu.aW{t:aK}(h:aS t){ty ty':UY}{lo hi:Nat}{L:UY}(hc:aP t.nodes lo L hi)(hl:hi<=t.nodes.length)(he:∀i,lo<=i->i<hi->nth ty' i=nth ty i)(x:gu t ty lo hi):gu t ty' lo hi:=fun k h1 h2=> (x k h1 h2).aW h jB h1 (hc.closed k h1 h2) fun i g1 g2=>he i g1 jB
variable{mid:Nat}
def gu.join(x:gu t ty lo mid)(y:gu t ty mid hi):gu t ty lo hi:=fun k h1 h2=>by
 by_cases h:k<mid
 ·exact x k h1 h
 ·exact y k jB h2
def gu.none:gu t ty lo lo:=fun k h1 h2=>jB
def Tw.refl(lo hi:Nat)(c:Ck):Tw lo hi c c:=fun _ _=>rfl
def Tw.same{c:Ck}(h:c'.types=c.types):Tw lo hi c c':=fun _ _=>by rw[h]
theorem Tw.trans{lo hi:Nat}{a b c:Ck}(h:Tw lo hi a b)(k:Tw lo hi b c):Tw lo hi a c:=fun i hi=>(k i hi).trans (h i hi)
def Tw.mono{lo' V4:Nat}{a:Ck}(h:Tw lo hi a b)(h1:lo'<=lo)(h2:hi<=V4):Tw lo' V4 a b:=fun i hi=>h i jB
def BV(c:Ck)(e a:Int):(c.aG e a).types=c.types:=by unfold Ck.aG;split<;>rfl
def lF(c:Ck)(b:Bool)(a:Int):(c.ap b a).types=c.types:=by unfold Ck.ap;split;rfl;exact BV _ _ _
def jT{c:Ck}{b:Bool}(h:(c.ap b a).e=0):b=true/\c.e=0:=by
 unfold Ck.ap at h;split at h
 ·exact⟨by assumption,h⟩
 ·exfalso;unfold Ck.aG at h;split at h
  ·cases h
  ·contradiction
def qy{c:Ck}{e:Int}(he:e≠0)(h:(c.aG e a).e=0):False:=by
 unfold Ck.aG at h;split at h
 ·exact he h
 ·contradiction
def Av(c:Ck)(a:Int):(c.named a).1.types=c.types:=by unfold Ck.named;split;exact BV _ _ _;rfl
def df(c:Ck):Prop:=∀v∈c.vars,1<=v.ty/\v.ty<=4
def df.ev{c:Ck}(h:df c)(s:Ev c c'):df c':=by unfold df;rw[s.vars];exact h
def QN{c:Ck}(h:df c)(he:(c.named a).1.e=0):1<=(c.named a).2/\(c.named a).2<=4:=by
 unfold Ck.named at he ⊢;split
 ·rename_i hf;rw[if_pos hf]at he;exact(qy jC he).elim
 ·rename_i hf;rcases z6 bB.name (c.node a).name c.vars 0 jB with⟨h1,_⟩|h1
  ·exact(hf (by show jR bB.name (c.node a).name c.vars 0<0;rw[h1];decide)).elim
  ·exact h _ (fc (by show(jR bB.name (c.node a).name c.vars 0).toNat<_;omega))
def Ev.e0{c:Ck}(s:Ev c c')(h:c'.e=0):c.e=0:=Classical.byContradiction fun e=>s.err e h
structure gz(t:aK)(lo hi:Nat)(c c':Ck):Prop where
 tw:Tw lo hi c c'
 all:gu t c'.types lo hi
def gz.post{a c:Ck}(h:gz t lo hi a b)(e:c.types=b.types):gz t lo hi a c:=⟨h.tw.trans (.same e),by rw[e];exact h.all⟩
def gz.pre{a c:Ck}(e:b.types=a.types)(h:gz t lo hi b c):gz t lo hi a c:=⟨(Tw.same e).trans h.tw,h.all⟩
def gz.seq(ht:aS t){a c:Ck}(hc:aP t.nodes lo L mid)(hl:mid<=t.nodes.length)(h1:mid<=hi)(h:gz t lo mid a b)(k:gz t mid hi b c):gz t lo hi a c:=
 ⟨(h.tw.mono jl h1).trans (k.tw.mono hc.le jl),(h.all.aW ht hc hl fun i _ h2=>k.tw i (.inl h2)).join k.all⟩
def CL(t:aK)(n:Nat):Prop:=∀(c:Ck) (a:Int) (lo:Nat),bH c->c.aa=t->df c->0<=a->a<t.nodes.length->a.toNat<n->fz (bX t.nodes a)->aP t.nodes lo (nth t.nodes a.toNat).l a.toNat->(aB n c a).1.e=0->
 gz t lo (a.toNat+1) c (aB n c a).1/\nth (aB n c a).1.types a.toNat=(aB n c a).2/\0<=(aB n c a).2/\(aB n c a).2<=4
variable{t:List bw}
def kX(h:aP t lo [a] hi):0<=a/\a<t.length/\lo<=a.toNat/\hi=a.toNat+1/\aP t lo (nth t a.toNat).l a.toNat:=by
 cases h with
 |cons hc h1 h2=> cases h2;exact⟨jB,jB,by have:=h1.le;simpa using this,jE,by simpa using h1⟩
def kQ(h:aP t lo (a::L) hi):0<=a/\a<t.length/\lo<=a.toNat/\a.toNat+1<=hi/\aP t lo (nth t a.toNat).l a.toNat/\aP t (a.toNat+1) L hi:=by
 cases h with
 |cons hc h1 h2=>exact⟨jB,jB,by have:=h1.le;simpa using this,by have:=h2.le;simpa using this,by simpa using h1,by simpa using h2⟩
def aP.oF(h0:0<=a)(h1:a<t.length)(h:aP t lo (nth t a.toNat).l a.toNat):aP t lo [a] (a.toNat+1):=by have e:a=((a.toNat:Nat):Int):=jB;rw[e];exact aP.one jB (by simpa using h)
theorem Gb{t:aK}(ht:aS t){n:Nat}(hx:CL t n):∀(L:UY) (c:Ck) (ts:UY) (lo hi:Nat),bH c->c.aa=t->df c->hi<=n->hi<=t.nodes.length->(∀x∈L,fz (bX t.nodes x))->aP t.nodes lo L hi->(gM (aB n) c L ts).1.e=0->gz t lo hi c (gM (aB n) c L ts).1
 |[],c,ts,lo,hi,h,hc,hv,hn,hl,hr,U',he=>by cases U';unfold gM;exact⟨.refl _ _ _,.none⟩
 |a::L,c,ts,lo,hi,h,hc,hv,hn,hl,hr,U',he=>by have e0:=(ur (fx n) (a::L) c ts).e0 he;unfold gM at he ⊢;rw[if_pos e0]at he ⊢;obtain⟨c1,c2,c3,c4,c5,c6⟩:=kQ U';have ev:=fx n c a;have e1:=(ur (fx n) L _ _).e0 he;have r1:=(hx c a lo h hc hv c1 c2 jB (hr a jE) c5 e1).1;exact r1.seq ht (aP.oF c1 c2 c5) jB jB (Gb ht hx L _ _ _ hi (h.ev ev) (ev.aa.trans hc) (hv.ev ev) hn hl (fun x hx=>hr x (by simp[hx])) c6 he)
theorem JC(a:Int):∀(ts:UY) (ps:List bI) (c:Ck),(iP a c ts ps).types=c.types
 |[],ps,c=>by rw[uz]
 |_::_,[],c=>by rw[uK]
 |x::ts,p::ps,c=>by
  unfold iP;split
  ·rw[JC a ts ps _];exact lF _ _ _
  ·rfl
variable{t:aK}{n:Nat}
def Nc(ht:aS t)(hx:CL t n){c:Ck}(h:bH c)(hc:c.aa=t)(hv:df c)(h0:0<=a)(h1:a<t.nodes.length)(hn:a.toNat<=n)(hk:(nth t.nodes a.toNat).kind=21)(U':aP t.nodes lo (nth t.nodes a.toNat).l a.toNat)(he:(jq (aB n) c a).1.e=0) :
  gz t lo a.toNat c (jq (aB n) c a).1/\(0<=(jq (aB n) c a).2/\(jq (aB n) c a).2<=4)/\0<=j7 bk.name (nth t.nodes a.toNat).name t.ao 0 (-1)/\(nth t.nodes a.toNat).l.length=(nth t.ao (j7 bk.name (nth t.nodes a.toNat).name t.ao 0 (-1)).toNat).params.length:=by
 have p':c.node a=nth t.nodes a.toNat:=by unfold Ck.node;rw[hc]
 have VG:=(ht.shape a.toNat jB).1.call hk;unfold jq at he ⊢;split at he
 ·exact(qy jC he).elim
 rename_i hf;rw[if_neg hf];simp only at he ⊢;have e1:=(Ai a _ _ _).e0 he;split at e1
 ·exact(qy jC e1).elim
 rename_i hl;rw[if_neg hl];have r:=Gb ht hx (c.node a).l c [] lo a.toNat h hc hv hn jB (fun x Vx=>.inl (VG x (by rw[<-p'];exact Vx))) (by rw[p'];exact U') e1;have ZN:fV c a=j7 bk.name (nth t.nodes a.toNat).name t.ao 0 (-1):=by unfold fV;rw[p',hc]
 refine⟨r.post (JC _ _ _ _),?_,by rw[<-ZN];omega,by rw[<-ZN,<-p',<-hc];omega⟩;have VD:(nth c.aa.ao (fV c a).toNat)∈c.aa.ao\/(nth c.aa.ao (fV c a).toNat)=default:=by
  by_cases hi:(fV c a).toNat<c.aa.ao.length
  ·exact .inl (fc hi)
  ·exact .inr (JA (Nat.le_of_not_lt hi))
 rcases VD with VD|VD
 ·exact(ht.fn _ (by rw[<-hc];exact VD)).1.ret
 ·rw[VD];decide
def NQ(s:U0)(a b:Int):0<=mf s a b/\mf s a b<=4:=by
 unfold mf;repeat' split
 all_goals omega
def NV(ht:aS t){c:Ck}{T:Int}(hl:c'.types.length=t.nodes.length)(h0:0<=a)(h1:a<t.nodes.length)(U':aP t.nodes lo (nth t.nodes a.toNat).l a.toNat)(r:gz t lo a.toNat c c')(hT:u7 t (c'.types.set a.toNat T) a.toNat) :
  gz t lo (a.toNat+1) c (c'.note a T)/\nth (c'.note a T).types a.toNat=T:=by
 have hs:∀k,nth (c'.note a T).types k=if a.toNat=k/\k<c'.types.length then T else nth c'.types k:=fun k=>xG _ _ _ _
 refine⟨⟨fun k hk=>?_,?_⟩,by rw[hs,if_pos ⟨rfl,jB⟩]⟩
 ·have U9:=U'.le;rw[hs,jN];exact r.tw k jB
 ·refine(r.all.aW ht U' jB fun i _ h2=>by rw[hs,jN]).join fun k g1 g2=>?_
  have:k=a.toNat:=jB;subst this;exact hT
theorem xD{t:aK}(ht:aS t):∀n,CL t n
 |0=>fun c a lo h hc hv h0 h1 hn=>by omega
 |n+1=>fun c a lo h hc hv h0 h1 hn hr U' he=>by
  have hx:=xD ht n;have e0:=(fx (n+1) c a).e0 he;unfold aB at he ⊢;rw[jN]at he ⊢;simp only at he ⊢;have he:(cz (aB n) c a).1.e=0:=he;have p':c.node a=nth t.nodes a.toNat:=by unfold Ck.node;rw[hc]
  have sh:=(ht.shape a.toNat jB).1;have O':(cz (aB n) c a).1.types.length=t.nodes.length:=by rw[(CV (fx n) c a).types,h.types,hc]
  -- what is to be shown of the node itself
  suffices hs:gz t lo a.toNat c (cz (aB n) c a).1/\u7 t ((cz (aB n) c a).1.types.set a.toNat (cz (aB n) c a).2) a.toNat/\0<=(cz (aB n) c a).2/\(cz (aB n) c a).2<=4 by obtain⟨s1,s2,s3⟩:=hs;obtain⟨g1,g2⟩:=NV ht O' h0 h1 U' s1 s2;exact⟨g1,g2,s3⟩
  have Va:∀T,nth ((cz (aB n) c a).1.types.set a.toNat T) a.toNat=T:=fun T=>by rw[xG,if_pos ⟨rfl,jB⟩]
  have Wa:∀T k,k≠a.toNat->nth ((cz (aB n) c a).1.types.set a.toNat T) k=nth (cz (aB n) c a).1.types k:=fun T k hk=>by rw[xG,jN]
  have leaf:(nth t.nodes a.toNat).l=[]->∀c',c'.types=c.types->gz t lo a.toNat c c':=fun hl c' e=>by
   rw[hl]at U';have:lo=a.toNat:=by cases U';rfl
   subst this;exact⟨.same e,.none⟩
  have kid1:∀c0 x,bH c0->c0.aa=t->df c0->c0.types=c.types->(nth t.nodes a.toNat).l=[x]->fz (bX t.nodes x)->(aB n c0 x).1.e=0->gz t lo a.toNat c (aB n c0 x).1/\nth (aB n c0 x).1.types x.toNat=(aB n c0 x).2/\x.toNat≠a.toNat:=fun c0 x g1 g2 g3 g4 hl YC Vw=>by rw[hl]at U';obtain⟨c1,c2,c3,c4,c5⟩:=kX U';obtain⟨r1,r2,_⟩:=hx c0 x lo g1 g2 g3 c1 c2 jB YC c5 Vw;rw[c4];exact⟨r1.pre g4,r2,jB⟩
  have kd:∀i,c.aH a i=nth (nth t.nodes a.toNat).l i:=fun i=>by unfold Ck.aH;rw[p']
  have hkr:(nth t.nodes a.toNat).kind=1\/(nth t.nodes a.toNat).kind=2\/(nth t.nodes a.toNat).kind=3\/(nth t.nodes a.toNat).kind=4\/(nth t.nodes a.toNat).kind=5\/(nth t.nodes a.toNat).kind=6\/(nth t.nodes a.toNat).kind=7\/(nth t.nodes a.toNat).kind=8\/(nth t.nodes a.toNat).kind=9\/(nth t.nodes a.toNat).kind=19\/(nth t.nodes a.toNat).kind=20\/(nth t.nodes a.toNat).kind=21:=by have:fz (nth t.nodes a.toNat).kind:=hr;unfold fz cW at this;omega
  rcases hkr with k|k|k|k|k|k|k|k|k|k|k|k
  ·have e:cz (aB n) c a=(c,1):=by unfold cz;simp only;rw[p',k];rfl
   rw[e]at Va ⊢;refine⟨leaf (sh.zero jB) _ rfl,?_,jE,jE⟩;constructor<;>intro k'<;>first|omega|exact Va _
  ·have e:cz (aB n) c a=(c,2):=by unfold cz;simp only;rw[p',k];rfl
   rw[e]at Va ⊢;refine⟨leaf (sh.zero jB) _ rfl,?_,jE,jE⟩;constructor<;>intro k'<;>first|omega|exact Va _
  ·have e:cz (aB n) c a=(c,3):=by unfold cz;simp only;rw[p',k];rfl
   rw[e]at Va ⊢;refine⟨leaf (sh.zero jB) _ rfl,?_,jE,jE⟩;constructor<;>intro k'<;>first|omega|exact Va _
  ·have e:cz (aB n) c a=c.named a:=by unfold cz;simp only;rw[p',k];rfl
   rw[e]at Va he ⊢;have XK:=QN hv he;refine⟨leaf (sh.zero jB) _ (Av c a),?_,jB,jB⟩;constructor<;>intro k'<;>first|omega|(rw[Va];exact XK)
  ·have e:cz (aB n) c a=((aB n (c.named a).1 (c.aH a 0)).1.ap (decide ((c.named a).2=4) && decide ((aB n (c.named a).1 (c.aH a 0)).2=1)) a,1):=by unfold cz;simp only;rw[p',k];rfl
   obtain⟨x,hl,Vw⟩:=sh.one jB;have Vo:c.aH a 0=x:=by rw[kd,hl];rfl
   rw[e]at Va Wa he ⊢;rw[Vo]at Va Wa he ⊢;obtain⟨b1,b2⟩:=jT he;simp only[Bool.and_eq_true,decide_eq_true_eq]at b1;have ev:=oa c a;obtain⟨r1,r2,r3⟩:=kid1 (c.named a).1 x (h.ev ev) (ev.aa.trans hc) (hv.ev ev) (Av c a) hl (.inl Vw) b2;refine⟨r1.post (lF _ _ _),?_,jE,jE⟩;constructor<;>intro k'<;>first|omega|skip
   refine⟨Va _,?_⟩;rw[hl];show nth (List.set _ _ _) x.toNat=1;rw[Wa _ _ r3];show nth (Ck.ap _ _ _).types x.toNat=1;rw[lF,r2];exact b1.2
  ·have e:cz (aB n) c a=((aB n c (c.aH a 0)).1.ap (decide ((aB n c (c.aH a 0)).2=3) || decide ((aB n c (c.aH a 0)).2=4)) a,1):=by unfold cz;simp only;rw[p',k];rfl
   obtain⟨x,hl,Vw⟩:=sh.one jB;have Vo:c.aH a 0=x:=by rw[kd,hl];rfl
   rw[e]at Va Wa he ⊢;rw[Vo]at Va Wa he ⊢;obtain⟨b1,b2⟩:=jT he;simp only[Bool.or_eq_true,decide_eq_true_eq]at b1;obtain⟨r1,r2,r3⟩:=kid1 c x h hc hv rfl hl (.inl Vw) b2;refine⟨r1.post (lF _ _ _),?_,jE,jE⟩;constructor<;>intro k'<;>first|omega|skip
   refine⟨Va _,?_⟩;rw[hl];show nth (List.set _ _ _) x.toNat=3\/nth (List.set _ _ _) x.toNat=4;rw[Wa _ _ r3];show nth (Ck.ap _ _ _).types x.toNat=3\/nth (Ck.ap _ _ _).types x.toNat=4;rw[lF,r2];exact b1
  ·have e:cz (aB n) c a=((aB n c (c.aH a 0)).1.ap (decide ((aB n c (c.aH a 0)).2=1)) a,1):=by unfold cz;simp only;rw[p',k];rfl
   obtain⟨x,hl,Vw⟩:=sh.one jB;have Vo:c.aH a 0=x:=by rw[kd,hl];rfl
   rw[e]at Va Wa he ⊢;rw[Vo]at Va Wa he ⊢;obtain⟨b1,b2⟩:=jT he;simp only[decide_eq_true_eq]at b1;obtain⟨r1,r2,r3⟩:=kid1 c x h hc hv rfl hl (.inl Vw) b2;refine⟨r1.post (lF _ _ _),?_,jE,jE⟩;constructor<;>intro k'<;>first|omega|skip
   refine⟨Va _,?_⟩;rw[hl];show nth (List.set _ _ _) x.toNat=1;rw[Wa _ _ r3];show nth (Ck.ap _ _ _).types x.toNat=1;rw[lF,r2];exact b1
  ·have e:cz (aB n) c a=((aB n c (c.aH a 0)).1.ap (decide ((aB n c (c.aH a 0)).2=2)) a,2):=by unfold cz;simp only;rw[p',k];rfl
   obtain⟨x,hl,Vw⟩:=sh.one jB;have Vo:c.aH a 0=x:=by rw[kd,hl];rfl
   rw[e]at Va Wa he ⊢;rw[Vo]at Va Wa he ⊢;obtain⟨b1,b2⟩:=jT he;simp only[decide_eq_true_eq]at b1;obtain⟨r1,r2,r3⟩:=kid1 c x h hc hv rfl hl (.inl Vw) b2;refine⟨r1.post (lF _ _ _),?_,jE,jE⟩;constructor<;>intro k'<;>first|omega|skip
   refine⟨Va _,?_⟩;rw[hl];show nth (List.set _ _ _) x.toNat=2;rw[Wa _ _ r3];show nth (Ck.ap _ _ _).types x.toNat=2;rw[lF,r2];exact b1
  ·have e:cz (aB n) c a=((aB n (aB n c (c.aH a 0)).1 (c.aH a 1)).1.ap (!decide (mf (c.node a).name (aB n c (c.aH a 0)).2 (aB n (aB n c (c.aH a 0)).1 (c.aH a 1)).2=0)) a,mf (c.node a).name (aB n c (c.aH a 0)).2 (aB n (aB n c (c.aH a 0)).1 (c.aH a 1)).2):=by unfold cz;simp only;rw[p',k];rfl
   obtain⟨x,y,hl,Vw,Yo⟩:=sh.two jB;have Vo:c.aH a 0=x:=by rw[kd,hl];rfl
   have VA:c.aH a 1=y:=by rw[kd,hl];rfl
   rw[e]at Va Wa he ⊢;rw[Vo,VA]at Va Wa he ⊢;obtain⟨b1,b2⟩:=jT he;simp only[Bool.not_eq_true',decide_eq_false_iff_not]at b1;have ev:=fx n c x;have b0:(aB n c x).1.e=0:=(fx n _ y).e0 b2;rw[hl]at U';obtain⟨c1,c2,c3,c4,c5,c6⟩:=kQ U';obtain⟨d1,d2,d3,d4,d5⟩:=kX c6;obtain⟨r1,r2,_⟩:=hx c x lo h hc hv c1 c2 jB (.inl Vw) c5 b0;obtain⟨q1,q2,_⟩:=hx (aB n c x).1 y (x.toNat+1) (h.ev ev) (ev.aa.trans hc) (hv.ev ev) d1 d2 jB (.inl Yo) d5 b2;have rr:=r1.seq ht (aP.oF c1 c2 c5) jB jB q1;rw[d4];refine⟨rr.post (lF _ _ _),?_,NQ _ _ _⟩;rw[d4]at Va Wa;rw[<-d4];rw[<-d4]at Va Wa;have ex:nth ((aB n (aB n c x).1 y).1.types) x.toNat=(aB n c x).2:=by rw[q1.tw _ jB,r2]
   constructor<;>intro k'<;>first|omega|skip
   have g0:=Va (mf (c.node a).name (aB n c x).2 (aB n (aB n c x).1 y).2);have g1:=Wa (mf (c.node a).name (aB n c x).2 (aB n (aB n c x).1 y).2) x.toNat jB;have g2:=Wa (mf (c.node a).name (aB n c x).2 (aB n (aB n c x).1 y).2) y.toNat jB;simp only[lF]at g0 g1 g2 ⊢;rw[hl];show _=mf _ (nth _ x.toNat) (nth _ y.toNat)/\_;rw[g0,g1,g2,ex,q2,<-p'];exact⟨rfl,b1⟩
  ·have e:cz (aB n) c a=(c,1):=by unfold cz;simp only;rw[p',k];rfl
   rw[e]at Va ⊢;refine⟨leaf (sh.zero jB) _ rfl,?_,jE,jE⟩;constructor<;>intro k'<;>first|omega|exact Va _
  ·have e:cz (aB n) c a=((aB n c (c.aH a 0)).1.ap (decide ((aB n c (c.aH a 0)).2=1)) a,4):=by unfold cz;simp only;rw[p',k];rfl
   obtain⟨x,hl,Vw⟩:=sh.one jB;have Vo:c.aH a 0=x:=by rw[kd,hl];rfl
   rw[e]at Va he ⊢;rw[Vo]at Va he ⊢;obtain⟨b1,b2⟩:=jT he;obtain⟨r1,r2,r3⟩:=kid1 c x h hc hv rfl hl (.inl Vw) b2;refine⟨r1.post (lF _ _ _),?_,jE,jE⟩;constructor<;>intro k'<;>first|omega|exact Va _
  ·have e:cz (aB n) c a=jq (aB n) c a:=by unfold cz;simp only;rw[p',k];rfl
   rw[e]at he ⊢;obtain⟨r1,r2,r3⟩:=Nc ht hx h hc hv h0 h1 jB k U' he;refine⟨r1,?_,r2⟩;constructor<;>intro k'<;>first|omega|exact r3
def gz.skip{c:Ck}(hk:fF (bX t.nodes a)\/bX t.nodes a=18)(hcd:(nth t.nodes a.toNat).kind=15\/(nth t.nodes a.toNat).kind=16\/(nth t.nodes a.toNat).kind=10->((nth t.nodes a.toNat).kind=10\/nth c'.types (nth (nth t.nodes a.toNat).l 0).toNat=2)/\1<=nth c'.types (nth (nth t.nodes a.toNat).l 0).toNat/\nth c'.types (nth (nth t.nodes a.toNat).l 0).toNat<=4)(r:gz t lo a.toNat c c'):gz t lo (a.toNat+1) c c':=by
 refine⟨r.tw.mono jl jB,fun k h1 h2=>?_⟩;by_cases h:k<a.toNat
 ·exact r.all k h1 h
 ·have:k=a.toNat:=jB;subst this;have hk:fF (nth t.nodes a.toNat).kind\/(nth t.nodes a.toNat).kind=18:=hk;unfold fF at hk;constructor<;>intro k'<;>first|omega|exact(hcd jB).1.resolve_left jB|exact(hcd jB).2
def Gq(t:aK)(n:Nat):Prop:=∀(c:Ck) (a:Int) (lo:Nat),bH c->c.aa=t->df c->c.e=0->0<=a->a<t.nodes.length->a.toNat<n->fF (bX t.nodes a)->aP t.nodes lo (nth t.nodes a.toNat).l a.toNat->(bT n c a).e=0->
 gz t lo (a.toNat+1) c (bT n c a)/\df (bT n c a)
def Sv.e0{c:Ck}(s:Sv c c')(h:c'.e=0):c.e=0:=Classical.byContradiction fun e=>s.err e h
theorem DA{t:aK}(ht:aS t){st:Ck->Int->Ck}{C:Int->Prop}{n:Nat}(hs:∀c a,bH c->c.e=0->Sv c (st c a))
  (P':∀(c:Ck) (a:Int) (lo:Nat),bH c->c.aa=t->df c->c.e=0->0<=a->a<t.nodes.length->a.toNat<n->C (bX t.nodes a)->aP t.nodes lo (nth t.nodes a.toNat).l a.toNat->(st c a).e=0->gz t lo (a.toNat+1) c (st c a)/\df (st c a)) :
  ∀(L:UY) (c:Ck) (lo hi:Nat),bH c->c.aa=t->df c->hi<=n->hi<=t.nodes.length->(∀x∈L,C (bX t.nodes x))->aP t.nodes lo L hi->(dW st c L).e=0->gz t lo hi c (dW st c L)/\df (dW st c L)
 |[],c,lo,hi,h,hc,hv,hn,hl,hr,U',he=>by cases U';unfold dW;exact⟨⟨.refl _ _ _,.none⟩,hv⟩
 |a::L,c,lo,hi,h,hc,hv,hn,hl,hr,U',he=>by have e0:=(rh hs (a::L) c h).e0 he;unfold dW at he ⊢;rw[if_pos e0]at he ⊢;obtain⟨c1,c2,c3,c4,c5,c6⟩:=kQ U';have s:=hs c a h e0;have e1:=(rh hs L _ s.inv).e0 he;obtain⟨r1,v1⟩:=P' c a lo h hc hv e0 c1 c2 jB (hr a jE) c5 e1;obtain⟨r2,v2⟩:=DA ht hs P' L _ _ hi s.inv (s.aa.trans hc) v1 hn hl (fun x hx=>hr x (by simp[hx])) c6 he;exact⟨r1.seq ht (aP.oF c1 c2 c5) jB jB r2,v2⟩
def Km(ht:aS t)(P':Gq t n)(c:Ck)(a:Int)(lo:Nat)(h:bH c)(hc:c.aa=t)(hv:df c)(h0:0<=a)(h1:a<t.nodes.length)(hn:a.toNat<=n)(hk:bX t.nodes a=18)(U':aP t.nodes lo (nth t.nodes a.toNat).l a.toNat)(he:(fw (bT n) c a).e=0) :
  gz t lo (a.toNat+1) c (fw (bT n) c a)/\df (fw (bT n) c a):=by
 have sv:=qY (pi n) h a;have p':c.node a=nth t.nodes a.toNat:=by unfold Ck.node;rw[hc]
 have hb:=(ht.shape a.toNat jB).1.block hk;have ev:=rf c a;obtain⟨r,_⟩:=DA ht (pi n) (C:=fF) P' (c.node a).l (c.ai a) lo a.toNat (h.ev ev) (ev.aa.trans hc) (hv.ev ev) hn jB (fun x hx=>hb x (by rw[<-p'];exact hx)) (by rw[p'];exact U') he;have r:gz t lo a.toNat c (fw (bT n) c a):=gz.post (b:=dW (bT n) (c.ai a) (c.node a).l) (gz.pre (a:=c) (b:=c.ai a) rfl r) rfl;have YD:(nth t.nodes a.toNat).kind=18:=hk;refine⟨r.skip (.inr hk) (fun h=>jB),?_⟩;unfold df;rw[sv.2];exact hv
variable{c0:Ck}{x:Int}
def xS(ht:aS t){c:Ck}(h:bH c0)(hc:c0.aa=t)(hv:df c0)(XK:c0.types=c.types)(hn:a.toNat<=n)(hl:(nth t.nodes a.toNat).l=[x])(hx:fz (bX t.nodes x))(U':aP t.nodes lo (nth t.nodes a.toNat).l a.toNat)(he:(aB n c0 x).1.e=0) :
  gz t lo a.toNat c (aB n c0 x).1/\0<=(aB n c0 x).2/\(aB n c0 x).2<=4/\nth (aB n c0 x).1.types x.toNat=(aB n c0 x).2:=by
 rw[hl]at U';obtain⟨c1,c2,c3,c4,c5⟩:=kX U';obtain⟨r1,r2,r3⟩:=xD ht n c0 x lo h hc hv c1 c2 jB hx c5 he;rw[c4];exact⟨r1.pre XK,r3.1,r3.2,r2⟩
def TZ(ht:aS t){c:Ck}{y:Int}(h:bH c0)(hc:c0.aa=t)(hv:df c0)(XK:c0.types=c.types)(hn:a.toNat<=n)(hl:(nth t.nodes a.toNat).l=[x,y])(hx:cW (bX t.nodes x))(hy:cW (bX t.nodes y))(U':aP t.nodes lo (nth t.nodes a.toNat).l a.toNat)(Vd:a.toNat<=t.nodes.length)(he:(aB n (aB n c0 x).1 y).1.e=0) :
  gz t lo a.toNat c (aB n (aB n c0 x).1 y).1:=by
 rw[hl]at U';obtain⟨c1,c2,c3,c4,c5,c6⟩:=kQ U';obtain⟨d1,d2,d3,d4,d5⟩:=kX c6;have ev:=fx n c0 x;obtain⟨r1,_⟩:=xD ht n c0 x lo h hc hv c1 c2 jB (.inl hx) c5 ((fx n _ y).e0 he);obtain⟨q1,_⟩:=xD ht n (aB n c0 x).1 y (x.toNat+1) (h.ev ev) (ev.aa.trans hc) (hv.ev ev) d1 d2 jB (.inl hy) d5 he;rw[d4];exact(r1.seq ht (aP.oF c1 c2 c5) jB jB q1).pre XK
def xa{c:Ck}{p:Prop}[Decidable p]{e:Int}(he:e≠0)(h:(if p then c.aG e a else c).e=0):¬p/\(if p then c.aG e a else c)=c:=by
 split at h
 ·exact(qy he h).elim
 ·rename_i hp;exact⟨hp,if_neg hp⟩
theorem FR{t:aK}(ht:aS t):∀n,Gq t n
 |0=>fun c a lo h hc hv e0 h0 h1 hn=>by omega
 |n+1=>fun c a lo h hc hv e0 h0 h1 hn hr U' he=>by
  have hs:=FR ht n;have p':(c.ai a).node a=nth t.nodes a.toNat:=by unfold Ck.node;show nth c.aa.nodes _=_;rw[hc]
  have sh:=(ht.shape a.toNat jB).1;have kd:∀i,(c.ai a).aH a i=nth (nth t.nodes a.toNat).l i:=fun i=>by unfold Ck.aH;rw[p']
  have ev:=rf c a;have h':=h.ev ev;have Wk:=ev.aa.trans hc;have Vp:=hv.ev ev;suffices hsf:gz t lo a.toNat c (bT (n+1) c a)/\df (bT (n+1) c a)/\((nth t.nodes a.toNat).kind=15\/(nth t.nodes a.toNat).kind=16\/(nth t.nodes a.toNat).kind=10->((nth t.nodes a.toNat).kind=10\/nth (bT (n+1) c a).types (nth (nth t.nodes a.toNat).l 0).toNat=2)/\1<=nth (bT (n+1) c a).types (nth (nth t.nodes a.toNat).l 0).toNat/\nth (bT (n+1) c a).types (nth (nth t.nodes a.toNat).l 0).toNat<=4) from⟨hsf.1.skip (.inl hr) hsf.2.2,hsf.2.1⟩
  have hkr:(nth t.nodes a.toNat).kind=10\/(nth t.nodes a.toNat).kind=11\/(nth t.nodes a.toNat).kind=12\/(nth t.nodes a.toNat).kind=13\/(nth t.nodes a.toNat).kind=14\/(nth t.nodes a.toNat).kind=17\/(nth t.nodes a.toNat).kind=15\/(nth t.nodes a.toNat).kind=16:=by have:fF (nth t.nodes a.toNat).kind:=hr;unfold fF at this;omega
  rcases hkr with k|k|k|k|k|k|k
  ·have e:bT (n+1) c a=pm (aB n) (c.ai a) a:=by unfold bT;simp only;rw[p',k];rfl
   obtain⟨x,hl,YC⟩:=sh.right jB;have Vo:(c.ai a).aH a 0=x:=by rw[kd,hl];rfl
   rw[e]at he ⊢;rw[uE]at he ⊢;have he:(fa (aB n) (c.ai a) a).e=0:=he;obtain⟨_,q1⟩:=xa jC he;have q1:fa (aB n) (c.ai a) a=jX (aB n) (c.ai a) a:=q1;rw[q1]at he;obtain⟨_,q2⟩:=xa jC he;have q2:jX (aB n) (c.ai a) a=iX (aB n) (c.ai a) a:=q2;rw[q2]at he;unfold iX at he;rw[Vo]at he;obtain⟨b1,b2⟩:=jT he;simp only[Bool.not_eq_true',decide_eq_false_iff_not]at b1;obtain⟨r1,r2,r3,r4⟩:=xS (c:=c) ht h' Wk Vp rfl jB hl YC U' b2;have XK:(fa (aB n) (c.ai a) a).types=(aB n (c.ai a) x).1.types:=by rw[q1,q2];unfold iX;rw[Vo,lF]
   refine⟨r1.post XK,fun v Y9=>?_,fun _=>⟨.inl k,by rw[hl];show 1<=nth (fa (aB n) (c.ai a) a).types x.toNat/\nth (fa (aB n) (c.ai a) a).types x.toNat<=4;rw[XK,r4];omega⟩⟩
   have Y9:v∈(fa (aB n) (c.ai a) a).vars++[(⟨((c.ai a).node a).name,(aB n (c.ai a) ((c.ai a).aH a 0)).2,(fa (aB n) (c.ai a) a).size⟩:bB)]:=Y9;rcases List.mem_append.1 Y9 with hm|hm
   ·rw[(zL (fx n) (c.ai a) a).vars]at hm;exact Vp v hm
   ·rw[List.mem_singleton.1 hm];show 1<=(aB n (c.ai a) ((c.ai a).aH a 0)).2/\(aB n (c.ai a) ((c.ai a).aH a 0)).2<=4;rw[Vo];omega
  ·have e:bT (n+1) c a=(aB n ((c.ai a).named a).1 ((c.ai a).aH a 0)).1.ap (decide (((c.ai a).named a).2=(aB n ((c.ai a).named a).1 ((c.ai a).aH a 0)).2)) a:=by unfold bT;simp only;rw[p',k];rfl
   obtain⟨x,hl,YC⟩:=sh.right jB;have Vo:(c.ai a).aH a 0=x:=by rw[kd,hl];rfl
   rw[e]at he ⊢;rw[Vo]at he ⊢;obtain⟨b1,b2⟩:=jT he;have en:=oa (c.ai a) a;obtain⟨r1,_⟩:=xS (c:=c) ht (h'.ev en) (en.aa.trans Wk) (Vp.ev en) (Av _ _) jB hl YC U' b2;exact⟨r1.post (lF _ _ _),(Vp.ev en).ev ((fx n _ _).trans (kU _ _ _)),fun h=>jB⟩
  ·have e:bT (n+1) c a=(aB n (aB n ((c.ai a).named a).1 ((c.ai a).aH a 0)).1 ((c.ai a).aH a 1)).1.ap (decide (((c.ai a).named a).2=4) && decide ((aB n ((c.ai a).named a).1 ((c.ai a).aH a 0)).2=1) && decide ((aB n (aB n ((c.ai a).named a).1 ((c.ai a).aH a 0)).1 ((c.ai a).aH a 1)).2=1)) a:=by unfold bT;simp only;rw[p',k];rfl
   obtain⟨x,y,hl,Vw,Yo⟩:=sh.two jB;have Vo:(c.ai a).aH a 0=x:=by rw[kd,hl];rfl
   have VA:(c.ai a).aH a 1=y:=by rw[kd,hl];rfl
   rw[e]at he ⊢;rw[Vo,VA]at he ⊢;obtain⟨b1,b2⟩:=jT he;have en:=oa (c.ai a) a;have r1:=TZ (c:=c) ht (h'.ev en) (en.aa.trans Wk) (Vp.ev en) (Av _ _) jB hl Vw Yo U' jB b2;exact⟨r1.post (lF _ _ _),(Vp.ev en).ev (((fx n _ _).trans (fx n _ _)).trans (kU _ _ _)),fun h=>jB⟩
  ·have e:bT (n+1) c a=(aB n (c.ai a) ((c.ai a).aH a 0)).1:=by unfold bT;simp only;rw[p',k];rfl
   obtain⟨x,hl,hxk⟩:=sh.sU k;have Vo:(c.ai a).aH a 0=x:=by rw[kd,hl];rfl
   rw[e]at he ⊢;rw[Vo]at he ⊢;obtain⟨r1,_⟩:=xS (c:=c) ht h' Wk Vp rfl jB hl (by rw[hxk];unfold fz;omega) U' he;exact⟨r1,Vp.ev (fx n _ _),fun h=>jB⟩
  ·have e:bT (n+1) c a=(aB n (c.ai a) ((c.ai a).aH a 0)).1.ap (!decide ((aB n (c.ai a) ((c.ai a).aH a 0)).2=4)) a:=by unfold bT;simp only;rw[p',k];rfl
   obtain⟨x,hl,Vw⟩:=sh.one jB;have Vo:(c.ai a).aH a 0=x:=by rw[kd,hl];rfl
   rw[e]at he ⊢;rw[Vo]at he ⊢;obtain⟨b1,b2⟩:=jT he;obtain⟨r1,_⟩:=xS (c:=c) ht h' Wk Vp rfl jB hl (.inl Vw) U' b2;exact⟨r1.post (lF _ _ _),Vp.ev ((fx n _ _).trans (kU _ _ _)),fun h=>jB⟩
  ·have e:bT (n+1) c a=kP (aB n) (c.ai a) a:=by unfold bT;simp only;rw[p',k];rfl
   rw[e]at he ⊢;unfold kP at he ⊢;rw[p']at he ⊢;simp only at he ⊢;split at he
   ·exact(qy jC he).elim
   rename_i hf;rw[if_neg hf];rcases sh.ret k with hl|⟨x,hl,Vw⟩
   ·rw[hl];rw[if_neg jC];rw[hl]at U';have:lo=a.toNat:=by cases U';rfl
    subst this;exact⟨⟨.same rfl,.none⟩,Vp,fun h=>jB⟩
   ·have Vo:(c.ai a).aH a 0=x:=by rw[kd,hl];rfl
    have WO:(nth t.nodes a.toNat).l.length=1:=by rw[hl];rfl
    rw[if_pos WO]at he ⊢;rw[Vo]at he ⊢;obtain⟨b1,b2⟩:=jT he;obtain⟨r1,_⟩:=xS (c:=c) ht h' Wk Vp rfl jB hl (.inl Vw) U' b2;exact⟨r1.post (lF _ _ _),Vp.ev ((fx n _ _).trans (kU _ _ _)),fun h=>jB⟩
  ·have e:bT (n+1) c a=dW (fw (bT n)) ((aB n (c.ai a) ((c.ai a).aH a 0)).1.ap (decide ((aB n (c.ai a) ((c.ai a).aH a 0)).2=2)) a) (((c.ai a).node a).l.drop 1):=by
    unfold bT;simp only;rw[p'];rcases k with k|k<;>rw[k]<;>rfl
   have Zj:∃x L,(nth t.nodes a.toNat).l=x::L/\cW (bX t.nodes x)/\∀y∈L,bX t.nodes y=18:=by
    rcases k with k|k
    ·obtain⟨x,y,hx,hy,hl|⟨z,hl,hz⟩⟩:=sh.lg k
     ·exact⟨x,[y],hl,hx,fun u hu=>by rw[List.mem_singleton.1 hu];exact hy⟩
     ·exact⟨x,[y,z],hl,hx,fun u hu=>by
       rcases List.mem_cons.1 hu with rfl|hu
       ·exact hy
       ·rw[List.mem_singleton.1 hu];exact hz⟩
    ·obtain⟨x,y,hl,hx,hy⟩:=sh.ee k;exact⟨x,[y],hl,hx,fun u hu=>by rw[List.mem_singleton.1 hu];exact hy⟩
   obtain⟨x,L,hl,Vw,hL⟩:=Zj;have Vo:(c.ai a).aH a 0=x:=by rw[kd,hl];rfl
   rw[e]at he ⊢;rw[p',hl,Vo]at he ⊢;have he:(dW (fw (bT n)) ((aB n (c.ai a) x).1.ap (decide ((aB n (c.ai a) x).2=2)) a) L).e=0:=he;show gz t lo a.toNat c (dW (fw (bT n)) ((aB n (c.ai a) x).1.ap (decide ((aB n (c.ai a) x).2=2)) a) L)/\df (dW (fw (bT n)) ((aB n (c.ai a) x).1.ap (decide ((aB n (c.ai a) x).2=2)) a) L)/\((nth t.nodes a.toNat).kind=15\/(nth t.nodes a.toNat).kind=16\/(nth t.nodes a.toNat).kind=10->((nth t.nodes a.toNat).kind=10\/nth (dW (fw (bT n)) ((aB n (c.ai a) x).1.ap (decide ((aB n (c.ai a) x).2=2)) a) L).types (nth (x::L) 0).toNat=2)/\1<=nth (dW (fw (bT n)) ((aB n (c.ai a) x).1.ap (decide ((aB n (c.ai a) x).2=2)) a) L).types (nth (x::L) 0).toNat/\nth (dW (fw (bT n)) ((aB n (c.ai a) x).1.ap (decide ((aB n (c.ai a) x).2=2)) a) L).types (nth (x::L) 0).toNat<=4);have ex:=(fx n (c.ai a) x).trans (kU _ (decide ((aB n (c.ai a) x).2=2)) a);have VO:=h'.ev ex;have hsb:∀(q:Ck) b,bH q->q.e=0->Sv q (fw (bT n) q b):=fun q b hq _=>(qY (pi n) hq b).1
   have e1:=(rh hsb L _ VO).e0 he;obtain⟨b1,b2⟩:=jT e1;rw[hl]at U';obtain⟨c1,c2,c3,c4,c5,c6⟩:=kQ U';obtain⟨r1,r1b,_⟩:=xD ht n (c.ai a) x lo h' Wk Vp c1 c2 jB (.inl Vw) c5 b2;obtain⟨r2,v2⟩:=DA ht hsb (C:=fun k=>k=18) (n:=n) (fun q b l g1 g2 g3 _ g5 g6 g7 g8 g9 g10=>Km ht hs q b l g1 g2 g3 g5 g6 jB g8 g9 g10) L _ (x.toNat+1) a.toNat VO (ex.aa.trans Wk) (Vp.ev ex) jB jB hL c6 he;exact⟨((gz.pre (a:=c) (b:=c.ai a) rfl r1).post (lF _ _ _)).seq ht (aP.oF c1 c2 c5) jB jB r2,v2,fun _=>by show(_\/nth _ x.toNat=2)/\1<=nth _ x.toNat/\nth _ x.toNat<=4;rw[r2.tw x.toNat (.inl jB),lF,r1b];have:=of_decide_eq_true b1;omega⟩
theorem ED{t:aK}(body:Int):∀(ps:List bI) (c:Ck) (i:Int),df c->(∀p∈ps,1<=p.ty/\p.ty<=4)->df (fH body c ps i)/\(fH body c ps i).types=c.types/\((fH body c ps i).e=0->c.e=0)
 |[],c,i,h,hp=>by unfold fH;exact⟨h,rfl,id⟩
 |p::ps,c,i,h,hp=>by
  have fin:∀c1:Ck,Ev c c1->c1.types=c.types->df (fH body (mZ c1 ⟨p.name,p.ty,i⟩) ps (i+1))/\(fH body (mZ c1 ⟨p.name,p.ty,i⟩) ps (i+1)).types=c.types/\((fH body (mZ c1 ⟨p.name,p.ty,i⟩) ps (i+1)).e=0->c.e=0):=fun c1 s e=>by
   obtain⟨a,b,d⟩:=ED (t:=t) body ps (mZ c1 ⟨p.name,p.ty,i⟩) (i+1) (fun v hv=>by
    have hv:v∈c1.vars++[(⟨p.name,p.ty,i⟩:bB)]:=hv;rcases List.mem_append.1 hv with hv|hv
    ·exact h.ev s v hv
    ·rw[List.mem_singleton.1 hv];exact hp p jE) (fun q hq=>hp q (by simp[hq]))
   exact⟨a,b.trans e,fun hh=>s.e0 (d hh)⟩
  unfold fH;simp only;split
  ·exact fin _ (og c jC body) (BV _ _ _)
  ·exact fin _ (.refl c) rfl
def Uy(ht:aS t){c:Ck}(h:gD c)(hc:c.aa=t)(hk:k<t.ao.length)(Vi:c.aR.length<6)(U':aP t.nodes lo (nth t.nodes (nth t.ao k).body.toNat).l (nth t.ao k).body.toNat)(he:(gT c k).e=0) :
  gz t lo ((nth t.ao k).body.toNat+1) c (gT c k)/\c.e=0:=by
 have Vv:k<c.aa.ao.length:=by rw[hc];exact hk
 have hp3:=h.aa.fn _ (fc Vv);have XQ:bH { c with fn:=(k:Int),vars:=[],more:=[],size:=0 }:=⟨h.aa,h.types,h.slots,h.ao,by show c.aR.length<=6;omega,by show(0:Int)<=k;omega,by show(k:Int)<(c.aa.ao.length:Int);omega,by show((0:Nat):Int)<=0;omega,by show(0:Int)<=25;omega,fun _=>by show(0:Int)<=24;omega⟩;obtain⟨a,b,d⟩:=zz (nth c.aa.ao k).body (nth c.aa.ao k).params _ 0 XQ (by show(0:Int)+_<=20;omega);obtain⟨a',b',d'⟩:=ED (t:=t) (nth c.aa.ao k).body (nth c.aa.ao k).params { c with fn:=(k:Int),vars:=[],more:=[],size:=0 } 0 (fun v hv=>by simp at hv) hp3.1.ps;have Wf:=n7 ht hk;have X8:=ht.body _ (fc hk);unfold gT at he ⊢;simp only at he ⊢;rw[hc]at he ⊢;rw[hc]at a b d a' b' d';split at he
 ·rename_i e1;rw[if_pos e1];obtain⟨r,_⟩:=Km ht (FR ht t.nodes.length) _ (nth t.ao k).body lo a (b.trans (by rfl)) a' Wf.1 Wf.2 (by have:=Wf.2;have:=Wf.1;omega) X8 U' he;have q:=gz.pre (a:=c) b' r;exact⟨⟨fun k hk=>q.tw k hk,q.all⟩,d' e1⟩
 ·rename_i e1;exact(e1 he).elim
theorem Cg{t:aK}(ht:aS t):∀(n i lo:Nat) (c:Ck),gD c->c.aa=t->c.aR.length=i->i+n=t.ao.length->aP t.nodes lo ((t.ao.drop i).map (·.body)) t.nodes.length->(gN c i n).e=0->
  gz t lo t.nodes.length c (gN c i n)/\(gN c i n).aa=t/\gD (gN c i n)/\(gN c i n).aR.length=t.ao.length
 |0,i,lo,c,h,hc,hs,hi,U',he=>by
  unfold gN;rw[List.drop_eq_nil_of_le jB]at U';have:lo=t.nodes.length:=by cases U';rfl
  subst this;exact⟨⟨.refl _ _ _,.none⟩,hc,h,jB⟩
 |n+1,i,lo,c,h,hc,hs,hi,U',he=>by
  have h6:=ht.ao;unfold gN at he ⊢;by_cases e0:c.e=0
  ·rw[if_pos e0]at he ⊢;have hk:i<t.ao.length:=jB;rw[lb hk]at U';obtain⟨c1,c2,c3,c4,c5,c6⟩:=kQ (a:=(nth t.ao i).body) U';obtain⟨f1,f2,f3⟩:=AU h (by rw[hc];exact hk) (by omega:c.aR.length<6);have e1:(gT c i).e=0:=by
    cases n with
    |zero=>unfold gN at he;exact he
    |succ m=>
     unfold gN at he;split at he
     ·assumption
     ·exact he
   obtain⟨r1,_⟩:=Uy ht h hc hk jB c5 e1;obtain⟨r2,q1,q2,q3⟩:=Cg ht n (i+1) ((nth t.ao i).body.toNat+1) (gT c i) f1 (f2.trans hc) jB jB c6 he;exact⟨r1.seq ht (aP.oF c1 c2 c5) jB jB r2,q1,q2,q3⟩
  ·rw[if_neg e0]at he;exact(e0 he).elim
structure nU(p:ab):Prop where
 aa:aS p.aa
 types:p.types.length=p.aa.nodes.length
 slots:p.slots.length=p.aa.nodes.length
 fn:p.fn.length=p.aa.nodes.length
 size:p.size.length=p.aa.ao.length
 ty:gu p.aa p.types 0 p.aa.nodes.length
def Jw(ht:aS t):gD (ji (jY t))/\(ji (jY t)).aa=t/\(ji (jY t)).aR=[]:=by
 have ev:=Jd (jY t);refine⟨⟨by rw[ev.aa];exact ht,?_,?_,?_⟩,ev.aa,ev.aR⟩
 ·rw[ev.types,ev.aa];show(t.nodes.map _).length=t.nodes.length;simp
 ·rw[ev.slots,ev.aa];show(t.nodes.map _).length=t.nodes.length;simp
 ·rw[ev.ao,ev.aa];show(t.nodes.map _).length=t.nodes.length;simp
def zH(ht:aS t)(he:(iE t).2.2=0):nU (iE t).1/\(iE t).1.aa=t:=by
 unfold iE at he ⊢;split at he
 ·rename_i h;exact(h he).elim
 rename_i h;rw[if_neg h];have h:(jh t).e=0:=jB;obtain⟨i1,i2,i3⟩:=Jw ht;obtain⟨r,q1,q2,q3⟩:=Cg ht t.ao.length 0 0 (ji (jY t)) i1 i2 (by rw[i3];rfl) jB (by rw[List.drop_zero];exact ht.chain) h;refine⟨⟨q2.aa,q2.types,q2.slots,q2.ao,?_,?_⟩,q1⟩
 ·show(jh t).aR.length=(jh t).aa.ao.length;have e:(jh t).aa=t:=q1;rw[e];exact q3
 ·show gu (jh t).aa (jh t).types 0 (jh t).aa.nodes.length;have e:(jh t).aa=t:=q1;rw[e];exact r.all
def HV{s:U0}(he:(ga s).2.2=0):nU (ga s).1:=by
 unfold ga at he ⊢;split at he
 ·rename_i h;exact(h he).elim
 rename_i h;rw[if_neg h];have h:(ik s).2.2=0:=jB;simp only at he ⊢;split at he
 ·cases he
 rename_i h2;split at he
 ·rename_i h3;exact(h3 he).elim
 rename_i h3;rw[if_neg h2,if_neg h3];exact(zH (v8 h) jB).1
def jM(k:Int):Prop:=k=4\/k=5\/k=10\/k=11\/k=12
def dF(c:Ck):Prop:=0<=c.size/\∀v∈c.vars,0<=v.slot/\v.slot<c.size
structure fT(t:aK)(lo hi:Nat)(c c':Ck):Prop where
 sw:∀k,(k<lo\/hi<=k)->nth c'.slots k=nth c.slots k
 all:∀k,lo<=k->k<hi->jM (nth t.nodes k).kind->0<=nth c'.slots k/\nth c'.slots k<c'.size
 size:c.size<=c'.size
def fT.post{a c:Ck}(h:fT t lo hi a b)(e:c.slots=b.slots)(z:c.size=b.size):fT t lo hi a c:=⟨fun k hk=>by rw[e];exact h.sw k hk,fun k h1 h2 h3=>by rw[e,z];exact h.all k h1 h2 h3,by rw[z];exact h.size⟩
def fT.pre{a c:Ck}(e:b.slots=a.slots)(z:b.size=a.size)(h:fT t lo hi b c):fT t lo hi a c:=⟨fun k hk=>by rw[<-e];exact h.sw k hk,h.all,by rw[<-z];exact h.size⟩
def fT.refl(t:aK)(lo:Nat)(c:Ck):fT t lo lo c c:=⟨fun _ _=>rfl,fun k h1 h2=>jB,Int.le_refl _⟩
def fT.seq{a c:Ck}(h0:lo<=mid)(h1:mid<=hi)(h:fT t lo mid a b)(k:fT t mid hi b c):fT t lo hi a c:=by
 have:=k.size;refine⟨fun i V4=>(k.sw i jB).trans (h.sw i jB),fun i g1 g2 g3=>?_,by have:=h.size;omega⟩;by_cases e:i<mid
 ·rw[k.sw i (.inl e)];have:=h.all i g1 e g3;omega
 ·exact k.all i jB g2 g3
def fT.node{c:Ck}(h:fT t lo n c c')(hn:jM (nth t.nodes n).kind->0<=nth c'.slots n/\nth c'.slots n<c'.size):fT t lo (n+1) c c':=
 ⟨fun k hk=>h.sw k jB,fun k h1 h2 h3=>by
  by_cases e:k<n
  ·exact h.all k h1 e h3
  ·have:k=n:=jB;subst this;exact hn h3,h.size⟩
def G5(c:Ck)(e a:Int):(c.aG e a).slots=c.slots/\(c.aG e a).size=c.size:=by unfold Ck.aG;split<;>exact⟨rfl,rfl⟩
def vk(c:Ck)(b:Bool)(a:Int):(c.ap b a).slots=c.slots/\(c.ap b a).size=c.size:=by unfold Ck.ap;split;exact⟨rfl,rfl⟩;exact G5 _ _ _
theorem fT.ap{t:aK}{lo hi:Nat}{a c:Ck}{b:Bool}{x:Int}(h:fT t lo hi a c):fT t lo hi a (c.ap b x):=h.post (vk c b x).1 (vk c b x).2
def dF.ev{c:Ck}(h:dF c)(s:Ev c c'):dF c':=by unfold dF;rw[s.vars,s.size];exact h
def Cf{c:Ck}(h:dF c)(hn:a.toNat=n)(hl:n<c.slots.length)(he:(c.named a).1.e=0):(∀k,k≠n->nth (c.named a).1.slots k=nth c.slots k)/\0<=nth (c.named a).1.slots n/\nth (c.named a).1.slots n<c.size:=by
 unfold Ck.named at he ⊢;split
 ·rename_i hf;rw[if_pos hf]at he;exact(qy jC he).elim
 ·rename_i hf;have hv:nth c.vars (c.find (c.node a).name).toNat∈c.vars:=by
   rcases z6 bB.name (c.node a).name c.vars 0 jB with⟨h1,_⟩|h1
   ·exact(hf (by show jR bB.name (c.node a).name c.vars 0<0;rw[h1];decide)).elim
   ·exact fc (by show(jR bB.name (c.node a).name c.vars 0).toNat<_;omega)
  have hs:∀k,nth (c.slot a (nth c.vars (c.find (c.node a).name).toNat).slot).slots k=if n=k/\k<c.slots.length then(nth c.vars (c.find (c.node a).name).toNat).slot else nth c.slots k:=fun k=>by show nth (c.slots.set a.toNat _) k=_;rw[xG,hn]
  refine⟨fun k hk=>by show nth (c.slot a _).slots k=_;rw[hs,jN],?_⟩;show 0<=nth (c.slot a _).slots n/\nth (c.slot a _).slots n<_;rw[hs,if_pos ⟨rfl,hl⟩];exact h.2 _ hv
def Fm(t:aK)(n:Nat):Prop:=∀(c:Ck) (a:Int) (lo:Nat),bH c->c.aa=t->dF c->0<=a->a<t.nodes.length->a.toNat<n->fz (bX t.nodes a)->aP t.nodes lo (nth t.nodes a.toNat).l a.toNat->(aB n c a).1.e=0->fT t lo (a.toNat+1) c (aB n c a).1
theorem Jm{t:aK}{n:Nat}(hx:Fm t n):∀(L:UY) (c:Ck) (ts:UY) (lo hi:Nat),bH c->c.aa=t->dF c->hi<=n->(∀x∈L,fz (bX t.nodes x))->aP t.nodes lo L hi->(gM (aB n) c L ts).1.e=0->fT t lo hi c (gM (aB n) c L ts).1
 |[],c,ts,lo,hi,h,hc,hv,hn,hr,U',he=>by cases U';unfold gM;exact .refl _ _ _
 |a::L,c,ts,lo,hi,h,hc,hv,hn,hr,U',he=>by have e0:=(ur (fx n) (a::L) c ts).e0 he;unfold gM at he ⊢;rw[if_pos e0]at he ⊢;obtain⟨c1,c2,c3,c4,c5,c6⟩:=kQ U';have ev:=fx n c a;have e1:=(ur (fx n) L _ _).e0 he;have r1:=hx c a lo h hc hv c1 c2 jB (hr a jE) c5 e1;exact r1.seq jB jB (Jm hx L _ _ _ hi (h.ev ev) (ev.aa.trans hc) (hv.ev ev) hn (fun x hx=>hr x (by simp[hx])) c6 he)
theorem G1(a:Int):∀(ts:UY) (ps:List bI) (c:Ck),(iP a c ts ps).slots=c.slots/\(iP a c ts ps).size=c.size
 |[],ps,c=>by rw[uz];exact⟨rfl,rfl⟩
 |_::_,[],c=>by rw[uK];exact⟨rfl,rfl⟩
 |x::ts,p::ps,c=>by
  unfold iP;split
  ·have:=G1 a ts ps (c.ap (decide (x=p.ty)) a);exact⟨this.1.trans (vk _ _ _).1,this.2.trans (vk _ _ _).2⟩
  ·exact⟨rfl,rfl⟩
theorem xr{t:aK}(ht:aS t):∀n,Fm t n
 |0=>fun c a lo h hc hv h0 h1 hn=>by omega
 |n+1=>fun c a lo h hc hv h0 h1 hn hr U' he=>by
  have hx:=xr ht n;have e0:=(fx (n+1) c a).e0 he;unfold aB at he ⊢;rw[jN]at he ⊢;simp only at he ⊢;have he:(cz (aB n) c a).1.e=0:=he;have p':c.node a=nth t.nodes a.toNat:=by unfold Ck.node;rw[hc]
  have sh:=(ht.shape a.toNat jB).1;suffices hs:fT t lo (a.toNat+1) c (cz (aB n) c a).1 from hs.post rfl rfl
  have U9:=U'.le;have leaf:(nth t.nodes a.toNat).l=[]->fT t lo a.toNat c c:=fun hl=>by
   rw[hl]at U';have:lo=a.toNat:=by cases U';rfl
   subst this;exact .refl _ _ _
  have kid1:∀x,(nth t.nodes a.toNat).l=[x]->fz (bX t.nodes x)->(aB n c x).1.e=0->fT t lo a.toNat c (aB n c x).1:=fun x hl YC Vw=>by rw[hl]at U';obtain⟨c1,c2,c3,c4,c5⟩:=kX U';rw[c4];exact hx c x lo h hc hv c1 c2 jB YC c5 Vw
  have kd:∀i,c.aH a i=nth (nth t.nodes a.toNat).l i:=fun i=>by unfold Ck.aH;rw[p']
  have hkr:(nth t.nodes a.toNat).kind=1\/(nth t.nodes a.toNat).kind=2\/(nth t.nodes a.toNat).kind=3\/(nth t.nodes a.toNat).kind=4\/(nth t.nodes a.toNat).kind=5\/(nth t.nodes a.toNat).kind=6\/(nth t.nodes a.toNat).kind=7\/(nth t.nodes a.toNat).kind=8\/(nth t.nodes a.toNat).kind=9\/(nth t.nodes a.toNat).kind=19\/(nth t.nodes a.toNat).kind=20\/(nth t.nodes a.toNat).kind=21:=by have:fz (nth t.nodes a.toNat).kind:=hr;unfold fz cW at this;omega
  have Vj:∀{q:Prop},¬((nth t.nodes a.toNat).kind=4\/(nth t.nodes a.toNat).kind=5)->jM (nth t.nodes a.toNat).kind->q:=fun h1 h2=>by unfold jM at h2;have:fz (nth t.nodes a.toNat).kind:=hr;unfold fz cW at this;omega
  have V5:a.toNat<c.slots.length:=by rw[h.slots,hc];omega
  rcases hkr with k|k|k|k|k|k|k|k|k|k|k|k
  ·have e:cz (aB n) c a=(c,1):=by unfold cz;simp only;rw[p',k];rfl
   rw[e];exact(leaf (sh.zero jB)).node (Vj jB)
  ·have e:cz (aB n) c a=(c,2):=by unfold cz;simp only;rw[p',k];rfl
   rw[e];exact(leaf (sh.zero jB)).node (Vj jB)
  ·have e:cz (aB n) c a=(c,3):=by unfold cz;simp only;rw[p',k];rfl
   rw[e];exact(leaf (sh.zero jB)).node (Vj jB)
  ·have e:cz (aB n) c a=c.named a:=by unfold cz;simp only;rw[p',k];rfl
   rw[e]at he ⊢;obtain⟨g1,g2⟩:=Cf hv rfl V5 he;have hz:=(oa c a).size;have hl:=sh.zero jB;rw[hl]at U';have:lo=a.toNat:=by cases U';rfl
   subst this;exact⟨fun k hk=>g1 k jB,fun k h1 h2 _=>by have:k=a.toNat:=jB;subst this;rw[hz];exact g2,by rw[hz];exact Int.le_refl _⟩
  ·have e:cz (aB n) c a=((aB n (c.named a).1 (c.aH a 0)).1.ap (decide ((c.named a).2=4) && decide ((aB n (c.named a).1 (c.aH a 0)).2=1)) a,1):=by unfold cz;simp only;rw[p',k];rfl
   obtain⟨x,hl,Vw⟩:=sh.one jB;have Vo:c.aH a 0=x:=by rw[kd,hl];rfl
   rw[e]at he ⊢;rw[Vo]at he ⊢;obtain⟨b1,b2⟩:=jT he;have en:=oa c a;obtain⟨g1,g2⟩:=Cf hv rfl V5 ((fx n _ x).e0 b2);rw[hl]at U';obtain⟨c1,c2,c3,c4,c5⟩:=kX U';have r:=hx (c.named a).1 x lo (h.ev en) (en.aa.trans hc) (hv.ev en) c1 c2 jB (.inl Vw) c5 b2;have hz:=en.size;have hrz:=r.size;rw[<-c4]at r;refine fT.ap ⟨fun k hk=>(r.sw k jB).trans (g1 k jB),fun k h1 h2 h3=>?_,jB⟩;by_cases hka:k<a.toNat
   ·exact r.all k h1 hka h3
   ·have:k=a.toNat:=jB;subst this;rw[r.sw _ (.inr jB)];omega
  ·have e:cz (aB n) c a=((aB n c (c.aH a 0)).1.ap (decide ((aB n c (c.aH a 0)).2=3) || decide ((aB n c (c.aH a 0)).2=4)) a,1):=by unfold cz;simp only;rw[p',k];rfl
   obtain⟨x,hl,Vw⟩:=sh.one jB;have Vo:c.aH a 0=x:=by rw[kd,hl];rfl
   rw[e]at he ⊢;rw[Vo]at he ⊢;exact((kid1 x hl (.inl Vw) (jT he).2).ap).node (Vj jB)
  ·have e:cz (aB n) c a=((aB n c (c.aH a 0)).1.ap (decide ((aB n c (c.aH a 0)).2=1)) a,1):=by unfold cz;simp only;rw[p',k];rfl
   obtain⟨x,hl,Vw⟩:=sh.one jB;have Vo:c.aH a 0=x:=by rw[kd,hl];rfl
   rw[e]at he ⊢;rw[Vo]at he ⊢;exact((kid1 x hl (.inl Vw) (jT he).2).ap).node (Vj jB)
  ·have e:cz (aB n) c a=((aB n c (c.aH a 0)).1.ap (decide ((aB n c (c.aH a 0)).2=2)) a,2):=by unfold cz;simp only;rw[p',k];rfl
   obtain⟨x,hl,Vw⟩:=sh.one jB;have Vo:c.aH a 0=x:=by rw[kd,hl];rfl
   rw[e]at he ⊢;rw[Vo]at he ⊢;exact((kid1 x hl (.inl Vw) (jT he).2).ap).node (Vj jB)
  ·have e:cz (aB n) c a=((aB n (aB n c (c.aH a 0)).1 (c.aH a 1)).1.ap (!decide (mf (c.node a).name (aB n c (c.aH a 0)).2 (aB n (aB n c (c.aH a 0)).1 (c.aH a 1)).2=0)) a,mf (c.node a).name (aB n c (c.aH a 0)).2 (aB n (aB n c (c.aH a 0)).1 (c.aH a 1)).2):=by unfold cz;simp only;rw[p',k];rfl
   obtain⟨x,y,hl,Vw,Yo⟩:=sh.two jB;have Vo:c.aH a 0=x:=by rw[kd,hl];rfl
   have VA:c.aH a 1=y:=by rw[kd,hl];rfl
   rw[e]at he ⊢;rw[Vo,VA]at he ⊢;obtain⟨b1,b2⟩:=jT he;have ev:=fx n c x;rw[hl]at U';obtain⟨c1,c2,c3,c4,c5,c6⟩:=kQ U';obtain⟨d1,d2,d3,d4,d5⟩:=kX c6;have r1:=hx c x lo h hc hv c1 c2 jB (.inl Vw) c5 ((fx n _ y).e0 b2);have r2:=hx (aB n c x).1 y (x.toNat+1) (h.ev ev) (ev.aa.trans hc) (hv.ev ev) d1 d2 jB (.inl Yo) d5 b2;rw[<-d4]at r2;exact((r1.seq jB jB r2).ap).node (Vj jB)
  ·have e:cz (aB n) c a=(c,1):=by unfold cz;simp only;rw[p',k];rfl
   rw[e];exact(leaf (sh.zero jB)).node (Vj jB)
  ·have e:cz (aB n) c a=((aB n c (c.aH a 0)).1.ap (decide ((aB n c (c.aH a 0)).2=1)) a,4):=by unfold cz;simp only;rw[p',k];rfl
   obtain⟨x,hl,Vw⟩:=sh.one jB;have Vo:c.aH a 0=x:=by rw[kd,hl];rfl
   rw[e]at he ⊢;rw[Vo]at he ⊢;exact((kid1 x hl (.inl Vw) (jT he).2).ap).node (Vj jB)
  ·have e:cz (aB n) c a=jq (aB n) c a:=by unfold cz;simp only;rw[p',k];rfl
   rw[e]at he ⊢;have VG:=sh.call k;unfold jq at he ⊢;split at he
   ·exact(qy jC he).elim
   rename_i hf;rw[if_neg hf];simp only at he ⊢;have e1:=(Ai a _ _ _).e0 he;split at e1
   ·exact(qy jC e1).elim
   rename_i hl;rw[if_neg hl];have r:=Jm hx (c.node a).l c [] lo a.toNat h hc hv jB (fun x Vx=>.inl (VG x (by rw[<-p'];exact Vx))) (by rw[p'];exact U') e1;have q:=G1 a (gM (aB n) c (c.node a).l []).2 (nth c.aa.ao (fV c a).toNat).params (gM (aB n) c (c.node a).l []).1;exact(r.post q.1 q.2).node (Vj jB)
def JL(t:aK)(n:Nat):Prop:=∀(c:Ck) (a:Int) (lo:Nat),bH c->c.aa=t->dF c->c.e=0->0<=a->a<t.nodes.length->a.toNat<n->fF (bX t.nodes a)->aP t.nodes lo (nth t.nodes a.toNat).l a.toNat->(bT n c a).e=0->
 fT t lo (a.toNat+1) c (bT n c a)/\dF (bT n c a)
theorem Bs{t:aK}{st:Ck->Int->Ck}{C:Int->Prop}{n:Nat}(hs:∀c a,bH c->c.e=0->Sv c (st c a))
  (P':∀(c:Ck) (a:Int) (lo:Nat),bH c->c.aa=t->dF c->c.e=0->0<=a->a<t.nodes.length->a.toNat<n->C (bX t.nodes a)->aP t.nodes lo (nth t.nodes a.toNat).l a.toNat->(st c a).e=0->fT t lo (a.toNat+1) c (st c a)/\dF (st c a)) :
  ∀(L:UY) (c:Ck) (lo hi:Nat),bH c->c.aa=t->dF c->hi<=n->(∀x∈L,C (bX t.nodes x))->aP t.nodes lo L hi->(dW st c L).e=0->fT t lo hi c (dW st c L)/\dF (dW st c L)
 |[],c,lo,hi,h,hc,hv,hn,hr,U',he=>by cases U';unfold dW;exact⟨.refl _ _ _,hv⟩
 |a::L,c,lo,hi,h,hc,hv,hn,hr,U',he=>by have e0:=(rh hs (a::L) c h).e0 he;unfold dW at he ⊢;rw[if_pos e0]at he ⊢;obtain⟨c1,c2,c3,c4,c5,c6⟩:=kQ U';have s:=hs c a h e0;have e1:=(rh hs L _ s.inv).e0 he;obtain⟨r1,v1⟩:=P' c a lo h hc hv e0 c1 c2 jB (hr a jE) c5 e1;obtain⟨r2,v2⟩:=Bs hs P' L _ _ hi s.inv (s.aa.trans hc) v1 hn (fun x hx=>hr x (by simp[hx])) c6 he;exact⟨r1.seq jB jB r2,v2⟩
def Jc(ht:aS t)(P':JL t n)(c:Ck)(a:Int)(lo:Nat)(h:bH c)(hc:c.aa=t)(hv:dF c)(h0:0<=a)(h1:a<t.nodes.length)(hn:a.toNat<=n)(hk:bX t.nodes a=18)(U':aP t.nodes lo (nth t.nodes a.toNat).l a.toNat)(he:(fw (bT n) c a).e=0) :
  fT t lo (a.toNat+1) c (fw (bT n) c a)/\dF (fw (bT n) c a):=by
 have sv:=qY (pi n) h a;have p':c.node a=nth t.nodes a.toNat:=by unfold Ck.node;rw[hc]
 have hb:=(ht.shape a.toNat jB).1.block hk;have ev:=rf c a;obtain⟨r,_⟩:=Bs (pi n) (C:=fF) P' (c.node a).l (c.ai a) lo a.toNat (h.ev ev) (ev.aa.trans hc) (hv.ev ev) hn (fun x hx=>hb x (by rw[<-p'];exact hx)) (by rw[p'];exact U') he;have r:fT t lo a.toNat c (fw (bT n) c a):=fT.post (b:=dW (bT n) (c.ai a) (c.node a).l) (fT.pre (a:=c) (b:=c.ai a) rfl rfl r) rfl rfl;have YD:(nth t.nodes a.toNat).kind=18:=hk;refine⟨r.node (fun h=>by unfold jM at h;omega),?_⟩;have hz:=r.size;refine⟨by have:=hv.1;omega,fun v Vp=>?_⟩;rw[sv.2]at Vp;have:=hv.2 v Vp;omega
def xE(ht:aS t)(h:bH c0)(hc:c0.aa=t)(hv:dF c0)(hn:a.toNat<=n)(hl:(nth t.nodes a.toNat).l=[x])(hx:fz (bX t.nodes x))(U':aP t.nodes lo (nth t.nodes a.toNat).l a.toNat)(he:(aB n c0 x).1.e=0) :
  fT t lo a.toNat c0 (aB n c0 x).1:=by
 rw[hl]at U';obtain⟨c1,c2,c3,c4,c5⟩:=kX U';rw[c4];exact xr ht n c0 x lo h hc hv c1 c2 jB hx c5 he
def PM(ht:aS t){y:Int}(h:bH c0)(hc:c0.aa=t)(hv:dF c0)(hn:a.toNat<=n)(hl:(nth t.nodes a.toNat).l=[x,y])(hx:cW (bX t.nodes x))(hy:cW (bX t.nodes y))(U':aP t.nodes lo (nth t.nodes a.toNat).l a.toNat)(he:(aB n (aB n c0 x).1 y).1.e=0) :
  fT t lo a.toNat c0 (aB n (aB n c0 x).1 y).1:=by
 rw[hl]at U';obtain⟨c1,c2,c3,c4,c5,c6⟩:=kQ U';obtain⟨d1,d2,d3,d4,d5⟩:=kX c6;have ev:=fx n c0 x;have r1:=xr ht n c0 x lo h hc hv c1 c2 jB (.inl hx) c5 ((fx n _ y).e0 he);have q1:=xr ht n (aB n c0 x).1 y (x.toNat+1) (h.ev ev) (ev.aa.trans hc) (hv.ev ev) d1 d2 jB (.inl hy) d5 he;rw[d4];exact r1.seq jB jB q1
def H5{c:Ck}(h:bH c)(hc:c.aa=t)(hv:dF c)(h1:a<t.nodes.length)(h0:0<=a)(U9:lo<=a.toNat)(he:(c.named a).1.e=0)(r:fT t lo a.toNat (c.named a).1 c'):fT t lo (a.toNat+1) c c':=by
 have V5:a.toNat<c.slots.length:=by rw[h.slots,hc];omega
 obtain⟨g1,g2⟩:=Cf hv rfl V5 he;have hz:=(oa c a).size;have hrz:=r.size;refine⟨fun k hk=>(r.sw k jB).trans (g1 k jB),fun k h1 h2 h3=>?_,jB⟩;by_cases hka:k<a.toNat
 ·exact r.all k h1 hka h3
 ·have:k=a.toNat:=jB;subst this;rw[r.sw _ (.inr jB)];omega
theorem G3{t:aK}(ht:aS t):∀n,JL t n
 |0=>fun c a lo h hc hv e0 h0 h1 hn=>by omega
 |n+1=>fun c a lo h hc hv e0 h0 h1 hn hr U' he=>by
  have hs:=G3 ht n;have p':(c.ai a).node a=nth t.nodes a.toNat:=by unfold Ck.node;show nth c.aa.nodes _=_;rw[hc]
  have sh:=(ht.shape a.toNat jB).1;have kd:∀i,(c.ai a).aH a i=nth (nth t.nodes a.toNat).l i:=fun i=>by unfold Ck.aH;rw[p']
  have ev:=rf c a;have h':=h.ev ev;have Wk:=ev.aa.trans hc;have Vp:=hv.ev ev;have U9:=U'.le;have kr:∀{hi:Nat} {c':Ck},fT t lo hi (c.ai a) c'->fT t lo hi c c':=fun r=>fT.pre (a:=c) (b:=c.ai a) rfl rfl r
  have Vj:∀{q:Prop},¬((nth t.nodes a.toNat).kind=10\/(nth t.nodes a.toNat).kind=11\/(nth t.nodes a.toNat).kind=12)->jM (nth t.nodes a.toNat).kind->q:=fun h1 h2=>by unfold jM at h2;have:fF (nth t.nodes a.toNat).kind:=hr;unfold fF at this;omega
  have hkr:(nth t.nodes a.toNat).kind=10\/(nth t.nodes a.toNat).kind=11\/(nth t.nodes a.toNat).kind=12\/(nth t.nodes a.toNat).kind=13\/(nth t.nodes a.toNat).kind=14\/(nth t.nodes a.toNat).kind=17\/(nth t.nodes a.toNat).kind=15\/(nth t.nodes a.toNat).kind=16:=by have:fF (nth t.nodes a.toNat).kind:=hr;unfold fF at this;omega
  rcases hkr with k|k|k|k|k|k|k
  ·have e:bT (n+1) c a=pm (aB n) (c.ai a) a:=by unfold bT;simp only;rw[p',k];rfl
   obtain⟨x,hl,YC⟩:=sh.right jB;have Vo:(c.ai a).aH a 0=x:=by rw[kd,hl];rfl
   rw[e]at he ⊢;rw[uE]at he ⊢;have he:(fa (aB n) (c.ai a) a).e=0:=he;have Xt:=zL (fx n) (c.ai a) a;have VO:=h'.ev Xt;have YL:=Vp.ev Xt;obtain⟨_,q1⟩:=xa jC he;have q1:fa (aB n) (c.ai a) a=jX (aB n) (c.ai a) a:=q1;rw[q1]at he;obtain⟨_,q2⟩:=xa jC he;have q2:jX (aB n) (c.ai a) a=iX (aB n) (c.ai a) a:=q2;rw[q2]at he;unfold iX at he;rw[Vo]at he;obtain⟨b1,b2⟩:=jT he;have r1:=(xE ht h' Wk Vp jB hl YC U' b2);have XK:(fa (aB n) (c.ai a) a).slots=(aB n (c.ai a) x).1.slots:=by rw[q1,q2];unfold iX;rw[Vo];exact(vk _ _ _).1
   have Vi:(fa (aB n) (c.ai a) a).size=(aB n (c.ai a) x).1.size:=by rw[q1,q2];unfold iX;rw[Vo];exact(vk _ _ _).2
   have r2:=kr (r1.post XK Vi);have V5:a.toNat<(fa (aB n) (c.ai a) a).slots.length:=by rw[VO.slots,Xt.aa,Wk];omega
   have h0z:=YL.1;have Yu:∀i,nth ((fa (aB n) (c.ai a) a).slots.set a.toNat (fa (aB n) (c.ai a) a).size) i=if a.toNat=i/\i<(fa (aB n) (c.ai a) a).slots.length then(fa (aB n) (c.ai a) a).size else nth (fa (aB n) (c.ai a) a).slots i:=fun i=>xG _ _ _ _
   refine⟨⟨fun i hi=>?_,fun i h1 h2 h3=>?_,?_⟩,?_,fun v Y9=>?_⟩
   ·show nth ((fa (aB n) (c.ai a) a).slots.set a.toNat _) i=_;rw[Yu,jN];exact r2.sw i jB
   ·show 0<=nth ((fa (aB n) (c.ai a) a).slots.set a.toNat _) i/\nth ((fa (aB n) (c.ai a) a).slots.set a.toNat _) i<(fa (aB n) (c.ai a) a).size+1;rw[Yu];by_cases hia:i<a.toNat
    ·rw[jN];have:=r2.all i h1 hia h3;omega
    ·rw[if_pos ⟨jB,jB⟩];omega
   ·show _<=(fa (aB n) (c.ai a) a).size+1;have:=r2.size;omega
   ·show 0<=(fa (aB n) (c.ai a) a).size+1;omega
   ·show 0<=v.slot/\v.slot<(fa (aB n) (c.ai a) a).size+1;have Y9:v∈(fa (aB n) (c.ai a) a).vars++[(⟨((c.ai a).node a).name,(aB n (c.ai a) ((c.ai a).aH a 0)).2,(fa (aB n) (c.ai a) a).size⟩:bB)]:=Y9;rcases List.mem_append.1 Y9 with hm|hm
    ·have:=YL.2 v hm;omega
    ·rw[List.mem_singleton.1 hm];show 0<=(fa (aB n) (c.ai a) a).size/\(fa (aB n) (c.ai a) a).size<_;omega
  ·have e:bT (n+1) c a=(aB n ((c.ai a).named a).1 ((c.ai a).aH a 0)).1.ap (decide (((c.ai a).named a).2=(aB n ((c.ai a).named a).1 ((c.ai a).aH a 0)).2)) a:=by unfold bT;simp only;rw[p',k];rfl
   obtain⟨x,hl,YC⟩:=sh.right jB;have Vo:(c.ai a).aH a 0=x:=by rw[kd,hl];rfl
   rw[e]at he ⊢;rw[Vo]at he ⊢;obtain⟨b1,b2⟩:=jT he;have en:=oa (c.ai a) a;have r1:=xE ht (h'.ev en) (en.aa.trans Wk) (Vp.ev en) jB hl YC U' b2;exact⟨kr ((H5 h' Wk Vp h1 h0 U9 ((fx n _ x).e0 b2) r1).ap),(Vp.ev en).ev ((fx n _ _).trans (kU _ _ _))⟩
  ·have e:bT (n+1) c a=(aB n (aB n ((c.ai a).named a).1 ((c.ai a).aH a 0)).1 ((c.ai a).aH a 1)).1.ap (decide (((c.ai a).named a).2=4) && decide ((aB n ((c.ai a).named a).1 ((c.ai a).aH a 0)).2=1) && decide ((aB n (aB n ((c.ai a).named a).1 ((c.ai a).aH a 0)).1 ((c.ai a).aH a 1)).2=1)) a:=by unfold bT;simp only;rw[p',k];rfl
   obtain⟨x,y,hl,Vw,Yo⟩:=sh.two jB;have Vo:(c.ai a).aH a 0=x:=by rw[kd,hl];rfl
   have VA:(c.ai a).aH a 1=y:=by rw[kd,hl];rfl
   rw[e]at he ⊢;rw[Vo,VA]at he ⊢;obtain⟨b1,b2⟩:=jT he;have en:=oa (c.ai a) a;have r1:=PM ht (h'.ev en) (en.aa.trans Wk) (Vp.ev en) jB hl Vw Yo U' b2;exact⟨kr ((H5 h' Wk Vp h1 h0 U9 ((fx n _ x).e0 ((fx n _ y).e0 b2)) r1).ap),(Vp.ev en).ev (((fx n _ _).trans (fx n _ _)).trans (kU _ _ _))⟩
  ·have e:bT (n+1) c a=(aB n (c.ai a) ((c.ai a).aH a 0)).1:=by unfold bT;simp only;rw[p',k];rfl
   obtain⟨x,hl,hxk⟩:=sh.sU k;have Vo:(c.ai a).aH a 0=x:=by rw[kd,hl];rfl
   rw[e]at he ⊢;rw[Vo]at he ⊢;have r1:=xE ht h' Wk Vp jB hl (by rw[hxk];unfold fz;omega) U' he;exact⟨(kr r1).node (Vj jB),Vp.ev (fx n _ _)⟩
  ·have e:bT (n+1) c a=(aB n (c.ai a) ((c.ai a).aH a 0)).1.ap (!decide ((aB n (c.ai a) ((c.ai a).aH a 0)).2=4)) a:=by unfold bT;simp only;rw[p',k];rfl
   obtain⟨x,hl,Vw⟩:=sh.one jB;have Vo:(c.ai a).aH a 0=x:=by rw[kd,hl];rfl
   rw[e]at he ⊢;rw[Vo]at he ⊢;obtain⟨b1,b2⟩:=jT he;have r1:=xE ht h' Wk Vp jB hl (.inl Vw) U' b2;exact⟨((kr r1).ap).node (Vj jB),Vp.ev ((fx n _ _).trans (kU _ _ _))⟩
  ·have e:bT (n+1) c a=kP (aB n) (c.ai a) a:=by unfold bT;simp only;rw[p',k];rfl
   rw[e]at he ⊢;unfold kP at he ⊢;rw[p']at he ⊢;simp only at he ⊢;split at he
   ·exact(qy jC he).elim
   rename_i hf;rw[if_neg hf];rcases sh.ret k with hl|⟨x,hl,Vw⟩
   ·rw[hl];rw[if_neg jC];rw[hl]at U';have:lo=a.toNat:=by cases U';rfl
    subst this;exact⟨(kr (fT.refl t a.toNat (c.ai a))).node (Vj jB),Vp⟩
   ·have Vo:(c.ai a).aH a 0=x:=by rw[kd,hl];rfl
    have WO:(nth t.nodes a.toNat).l.length=1:=by rw[hl];rfl
    rw[if_pos WO]at he ⊢;rw[Vo]at he ⊢;obtain⟨b1,b2⟩:=jT he;have r1:=xE ht h' Wk Vp jB hl (.inl Vw) U' b2;exact⟨((kr r1).ap).node (Vj jB),Vp.ev ((fx n _ _).trans (kU _ _ _))⟩
  ·have e:bT (n+1) c a=dW (fw (bT n)) ((aB n (c.ai a) ((c.ai a).aH a 0)).1.ap (decide ((aB n (c.ai a) ((c.ai a).aH a 0)).2=2)) a) (((c.ai a).node a).l.drop 1):=by
    unfold bT;simp only;rw[p'];rcases k with k|k<;>rw[k]<;>rfl
   have Zj:∃x L,(nth t.nodes a.toNat).l=x::L/\cW (bX t.nodes x)/\∀y∈L,bX t.nodes y=18:=by
    rcases k with k|k
    ·obtain⟨x,y,hx,hy,hl|⟨z,hl,hz⟩⟩:=sh.lg k
     ·exact⟨x,[y],hl,hx,fun u hu=>by rw[List.mem_singleton.1 hu];exact hy⟩
     ·exact⟨x,[y,z],hl,hx,fun u hu=>by
       rcases List.mem_cons.1 hu with rfl|hu
       ·exact hy
       ·rw[List.mem_singleton.1 hu];exact hz⟩
    ·obtain⟨x,y,hl,hx,hy⟩:=sh.ee k;exact⟨x,[y],hl,hx,fun u hu=>by rw[List.mem_singleton.1 hu];exact hy⟩
   obtain⟨x,L,hl,Vw,hL⟩:=Zj;have Vo:(c.ai a).aH a 0=x:=by rw[kd,hl];rfl
   rw[e]at he ⊢;rw[p',hl,Vo]at he ⊢;have he:(dW (fw (bT n)) ((aB n (c.ai a) x).1.ap (decide ((aB n (c.ai a) x).2=2)) a) L).e=0:=he;show fT t lo (a.toNat+1) c (dW (fw (bT n)) ((aB n (c.ai a) x).1.ap (decide ((aB n (c.ai a) x).2=2)) a) L)/\dF (dW (fw (bT n)) ((aB n (c.ai a) x).1.ap (decide ((aB n (c.ai a) x).2=2)) a) L);have ex:=(fx n (c.ai a) x).trans (kU _ (decide ((aB n (c.ai a) x).2=2)) a);have VO:=h'.ev ex;have hsb:∀(q:Ck) b,bH q->q.e=0->Sv q (fw (bT n) q b):=fun q b hq _=>(qY (pi n) hq b).1
   have e1:=(rh hsb L _ VO).e0 he;obtain⟨b1,b2⟩:=jT e1;rw[hl]at U';obtain⟨c1,c2,c3,c4,c5,c6⟩:=kQ U';have r1:=xr ht n (c.ai a) x lo h' Wk Vp c1 c2 jB (.inl Vw) c5 b2;obtain⟨r2,v2⟩:=Bs hsb (C:=fun k=>k=18) (n:=n) (fun q b l g1 g2 g3 _ g5 g6 g7 g8 g9 g10=>Jc ht hs q b l g1 g2 g3 g5 g6 jB g8 g9 g10) L _ (x.toNat+1) a.toNat VO (ex.aa.trans Wk) (Vp.ev ex) jB hL c6 he;exact⟨((kr r1.ap).seq jB jB r2).node (Vj jB),v2⟩
theorem GG(body:Int):∀(ps:List bI) (c:Ck) (i:Int),dF c->c.size=i->dF (fH body c ps i)/\(fH body c ps i).slots=c.slots/\(fH body c ps i).size=i+ps.length
 |[],c,i,h,hi=>by unfold fH;exact⟨h,rfl,by simp;exact hi⟩
 |p::ps,c,i,h,hi=>by
  have fin:∀c1:Ck,Ev c c1->c1.slots=c.slots->dF (fH body (mZ c1 ⟨p.name,p.ty,i⟩) ps (i+1))/\(fH body (mZ c1 ⟨p.name,p.ty,i⟩) ps (i+1)).slots=c.slots/\(fH body (mZ c1 ⟨p.name,p.ty,i⟩) ps (i+1)).size=i+(p::ps).length:=fun c1 s e=>by
   have hz:=s.size;have h1:=h.ev s;have h0:=h.1;obtain⟨a,b,d⟩:=GG body ps (mZ c1 ⟨p.name,p.ty,i⟩) (i+1) ⟨by show 0<=c1.size+1;omega,fun v hv=>by
    have hv:v∈c1.vars++[(⟨p.name,p.ty,i⟩:bB)]:=hv;show 0<=v.slot/\v.slot<c1.size+1;rcases List.mem_append.1 hv with hv|hv
    ·have:=h1.2 v hv;omega
    ·rw[List.mem_singleton.1 hv];show 0<=i/\i<_;omega⟩ (by show c1.size+1=i+1;omega)
   exact⟨a,b.trans e,by rw[d,List.length_cons];omega⟩
  unfold fH;simp only;split
  ·exact fin _ (og c jC body) (G5 _ _ _).1
  ·exact fin _ (.refl c) rfl
structure tC(t:aK)(sl:List Int)(k lo:Nat)(z:Int):Prop where
 vy:((nth t.ao k).params.length:Int)<=z
 hi:z<=24
 all:∀i,lo<=i->i<(nth t.ao k).body.toNat+1->jM (nth t.nodes i).kind->0<=nth sl i/\nth sl i<z
 chain:aP t.nodes lo (nth t.nodes (nth t.ao k).body.toNat).l (nth t.ao k).body.toNat
def tC.aW{sl sl':UY}{z:Int}(h:tC t sl k lo z)(e:∀i,i<(nth t.ao k).body.toNat+1->nth sl' i=nth sl i):tC t sl' k lo z:=⟨h.vy,h.hi,fun i h1 h2 h3=>by rw[e i h2];exact h.all i h1 h2 h3,h.chain⟩
def PD(ht:aS t){c:Ck}(h:gD c)(hc:c.aa=t)(hk:k<t.ao.length)(Vi:c.aR.length<6)(U':aP t.nodes lo (nth t.nodes (nth t.ao k).body.toNat).l (nth t.ao k).body.toNat)(he:(gT c k).e=0) :
  (∀i,(i<lo\/(nth t.ao k).body.toNat+1<=i)->nth (gT c k).slots i=nth c.slots i)/\tC t (gT c k).slots k lo (gT c k).size/\(gT c k).aR=c.aR++[(gT c k).size]:=by
 have Vv:k<c.aa.ao.length:=by rw[hc];exact hk
 have hp3:=h.aa.fn _ (fc Vv);have XQ:bH { c with fn:=(k:Int),vars:=[],more:=[],size:=0 }:=⟨h.aa,h.types,h.slots,h.ao,by show c.aR.length<=6;omega,by show(0:Int)<=k;omega,by show(k:Int)<(c.aa.ao.length:Int);omega,by show((0:Nat):Int)<=0;omega,by show(0:Int)<=25;omega,fun _=>by show(0:Int)<=24;omega⟩;obtain⟨a,b,d⟩:=zz (nth c.aa.ao k).body (nth c.aa.ao k).params _ 0 XQ (by show(0:Int)+_<=20;omega);obtain⟨a',b',d'⟩:=GG (nth c.aa.ao k).body (nth c.aa.ao k).params { c with fn:=(k:Int),vars:=[],more:=[],size:=0 } 0 ⟨by show(0:Int)<=0;omega,fun v hv=>by simp at hv⟩ rfl;have Wf:=n7 ht hk;have X8:=ht.body _ (fc hk);unfold gT at he ⊢;simp only at he ⊢;rw[hc]at he ⊢;rw[hc]at a b d a' b' d';split at he
 ·rename_i e1;rw[if_pos e1];have sv:=(qY (pi t.nodes.length) a (nth t.ao k).body).1;obtain⟨r,_⟩:=Jc ht (G3 ht t.nodes.length) _ (nth t.ao k).body lo a (b.trans (by rfl)) a' Wf.1 Wf.2 (by have:=Wf.2;have:=Wf.1;omega) X8 U' he;have q:=fT.size r;have Wi:=sv.inv.room he;refine⟨fun i hi=>(r.sw i hi).trans (by rw[b']),⟨?_,Wi,r.all,U'⟩,?_⟩
  ·show _<=(fw _ _ _).size;rw[d']at q;omega
  ·show(fw _ _ _).aR++[_]=_;rw[sv.aR,d]
 ·rename_i e1;exact(e1 he).elim
def kW(t:aK)(k:Nat):Nat:=if k=0 then 0 else(nth t.ao (k-1)).body.toNat+1
theorem JX{t:aK}(ht:aS t):∀(n i lo:Nat) (c:Ck),gD c->c.aa=t->c.aR.length=i->i+n=t.ao.length->lo=kW t i->aP t.nodes lo ((t.ao.drop i).map (·.body)) t.nodes.length->(∀j,j<i->tC t c.slots j (kW t j) (nth c.aR j)/\(nth t.ao j).body.toNat<lo)->(gN c i n).e=0->
  ∀j,j<t.ao.length->tC t (gN c i n).slots j (kW t j) (nth (gN c i n).aR j)
 |0,i,lo,c,h,hc,hs,hi,U9,U',hA,he=>by unfold gN;exact fun j hj=>(hA j jB).1
 |n+1,i,lo,c,h,hc,hs,hi,U9,U',hA,he=>by
  have h6:=ht.ao;unfold gN at he ⊢;by_cases e0:c.e=0
  ·rw[if_pos e0]at he ⊢;have hk:i<t.ao.length:=jB;rw[lb hk]at U';obtain⟨c1,c2,c3,c4,c5,c6⟩:=kQ (a:=(nth t.ao i).body) U';obtain⟨f1,f2,f3⟩:=AU h (by rw[hc];exact hk) (by omega:c.aR.length<6);have e1:(gT c i).e=0:=by
    cases n with
    |zero=>unfold gN at he;exact he
    |succ m=>
     unfold gN at he;split at he
     ·assumption
     ·exact he
   obtain⟨r1,r2,r3⟩:=PD ht h hc hk jB c5 e1;refine JX ht n (i+1) ((nth t.ao i).body.toNat+1) (gT c i) f1 (f2.trans hc) jB jB (by unfold kW;rw[jN];rfl) c6 (fun j hj=>?_) he;by_cases WW:j<i
   ·obtain⟨g1,g2⟩:=hA j WW;have hz:nth (gT c i).aR j=nth c.aR j:=by rw[r3,pZ jB]
    rw[hz];exact⟨g1.aW fun q hq=>r1 q (.inl jB),jB⟩
   ·have:j=i:=jB;subst this;have hz:nth (gT c j).aR j=(gT c j).size:=by rw[r3,<-hs];exact qq _ _
    rw[hz,<-U9];exact⟨r2,jB⟩
  ·rw[if_neg e0]at he;exact(e0 he).elim
theorem Ih{x:bk}:∀(l:List bk) (c:Ck),(kZ x c l).e=0->c.e=0/\∀f∈l,f.name≠x.name
 |[],c,h=>⟨by unfold kZ at h;exact h,fun f hf=>by simp at hf⟩
 |f::l,c,h=>by
  unfold kZ at h;obtain⟨h1,h2⟩:=Ih l _ h;obtain⟨h3,h4⟩:=xa jC h1;rw[h4]at h1;exact⟨h1,fun g hg=>by
   rcases List.mem_cons.1 hg with rfl|hg
   ·exact h3
   ·exact h2 g hg⟩
theorem KE(ao:List bk):∀(n i:Nat) (c:Ck) (m:Bool),i+n=ao.length->(ki ao c m i n).1.e=0->c.e=0/\(∀j,i<=j->j<ao.length->∀f∈ao.take j,f.name≠(nth ao j).name)/\((ki ao c m i n).2=true->m=true\/∃j,j<ao.length/\ws (nth ao j)=true)
 |0,i,c,m,hi,h=>by unfold ki at h ⊢;exact⟨h,fun j h1 h2=>jB,fun h=>.inl h⟩
 |n+1,i,c,m,hi,h=>by
  unfold ki at h ⊢;obtain⟨h1,h2,h3⟩:=KE ao n (i+1) _ _ jB h;obtain⟨h4,h5⟩:=Ih _ _ h1;refine⟨h4,fun j g1 g2=>?_,fun hm=>?_⟩
  ·by_cases e:j=i
   ·subst e;exact h5
   ·exact h2 j jB g2
  ·rcases h3 hm with h|h
   ·rcases Bool.or_eq_true _ _ |>.mp h with h|h
    ·exact .inl h
    ·exact .inr ⟨i,jB,h⟩
   ·exact .inr h
structure Ch(t:aK):Prop where
 one:∀i j,i<j->j<t.ao.length->(nth t.ao i).name≠(nth t.ao j).name
 main:∃j,j<t.ao.length/\ws (nth t.ao j)=true
def PJ{c:Ck}(h:(ji c).e=0):c.e=0/\Ch c.aa:=by
 unfold ji at h;simp only at h;split at h
 ·rename_i hm;obtain⟨h1,h2,h3⟩:=KE c.aa.ao c.aa.ao.length 0 c false jB h;refine⟨h1,⟨fun i j hi hj=>h2 j jB hj _ ?_,?_⟩⟩
  ·rw[fA jB];exact List.mem_take_iff_getElem.2 ⟨i,jB,rfl⟩
  ·rcases h3 hm with h|h
   ·cases h
   ·exact h
 ·exact(qy jC h).elim
theorem Js(f:bk->U0)(nm:U0):∀(l:List bk) (i k:Int),(∀a b,a<b->b<l.length->f (nth l a)≠f (nth l b))->(∃v∈l,f v=nm)->j7 f nm l i k=jR f nm l i
 |[],i,k,h,hx=>by obtain⟨v,hv,_⟩:=hx;simp at hv
 |v::l,i,k,h,hx=>by
  unfold j7 jR;have hl:∀a b,a<b->b<l.length->f (nth l a)≠f (nth l b):=fun a b h1 h2=>h (a+1) (b+1) jB (by rw[List.length_cons];omega)
  by_cases hv:f v=nm
  ·rw[if_pos hv,if_pos hv];have hn:∀u∈l,f u≠nm:=fun u hu hh=>by
    obtain⟨q,hq,rfl⟩:=List.mem_iff_getElem.1 hu;exact h 0 (q+1) jB (by rw[List.length_cons];omega) (by rw[show nth (v::l) 0=v from rfl,show nth (v::l) (q+1)=l[q] from by rw[fA (by rw[List.length_cons];omega)];rfl,hv,hh])
   have:∀(l:List bk) (i k:Int),(∀u∈l,f u≠nm)->j7 f nm l i k=k:=fun l=>by
    induction l with
    |nil=>intro i k _;rfl
    |cons u l ih=> intro i k hu;unfold j7;rw[if_neg (hu u jE),ih (i+1) k fun w hw=>hu w (by simp[hw])]
   exact this l _ _ hn
  ·rw[if_neg hv,if_neg hv];exact Js f nm l (i+1) k hl (by
    obtain⟨u,hu,hh⟩:=hx;rcases List.mem_cons.1 hu with rfl|hu
    ·exact(hv hh).elim
    ·exact⟨u,hu,hh⟩)
structure fO(p:ab):Prop where
 ok:nU p
 ao:∀j,j<p.aa.ao.length->tC p.aa p.slots j (kW p.aa j) (nth p.size j)
 names:Ch p.aa
def NK(ht:aS t)(he:(iE t).2.2=0):fO (iE t).1:=by
 have hp:=(zH ht he).1;unfold iE at he hp ⊢;split at he
 ·rename_i h;exact(h he).elim
 rename_i h;rw[if_neg h]at hp ⊢;have h:(jh t).e=0:=jB;obtain⟨i1,i2,i3⟩:=Jw ht;have q:=JX ht t.ao.length 0 0 (ji (jY t)) i1 i2 (by rw[i3];rfl) jB rfl (by rw[List.drop_zero];exact ht.chain) (fun j hj=>jB) h;obtain⟨_,q1,_⟩:=Cg ht t.ao.length 0 0 (ji (jY t)) i1 i2 (by rw[i3];rfl) jB (by rw[List.drop_zero];exact ht.chain) h;have he:(jh t).aa=t:=q1;have h0:(ji (jY t)).e=0:=by
  have VV:=h;unfold jh at VV;cases hn:t.ao.length with
  |zero=>rw[hn]at VV;unfold gN at VV;exact VV
  |succ m=>
   rw[hn]at VV;unfold gN at VV;split at VV
   ·assumption
   ·exact VV
 refine⟨hp,?_,?_⟩
 ·show∀j,j<(jh t).aa.ao.length->tC (jh t).aa (jh t).slots j (kW (jh t).aa j) (nth (jh t).aR j);rw[he];exact q
 ·show Ch (jh t).aa;rw[he];exact(PJ h0).2
def yV{s:U0}(he:(ga s).2.2=0):fO (ga s).1:=by
 unfold ga at he ⊢;split at he
 ·rename_i h;exact(h he).elim
 rename_i h;rw[if_neg h];have h:(ik s).2.2=0:=jB;simp only at he ⊢;split at he
 ·cases he
 rename_i h2;split at he
 ·rename_i h3;exact(h3 he).elim
 rename_i h3;rw[if_neg h2,if_neg h3];exact NK (v8 h) jB
def DB{t:List bw}(h:aP t lo L hi):lo+L.length<=hi:=by
 induction h with
 |nil=>simp
 |@cons lo c hi L hc h1 h2 i1 i2=> have:=h1.le;simp only[List.length_cons];omega
def Qe{l:List α}{i:Nat}{x y:α}(h:x∈l.set i y):x=y\/x∈l:=by
 rcases List.mem_or_eq_of_mem_set h with h|h
 ·exact .inr h
 ·exact .inl h
theorem Cc{α:Type}[Inhabited α](f:α->U0)(nm:U0):∀(l:List α) (i:Int),(∃v∈l,f v=nm)->i<=jR f nm l i/\jR f nm l i<i+l.length/\f (nth l (jR f nm l i-i).toNat)=nm
 |[],_,h=>by obtain⟨v,hv,_⟩:=h;simp at hv
 |v::l,i,h=>by
  unfold jR;by_cases hv:f v=nm
  ·rw[if_pos hv];refine⟨Int.le_refl _,by simp;omega,?_⟩;rw[show(i-i).toNat=0 from jB];exact hv
  ·rw[if_neg hv];obtain⟨u,hu,hh⟩:=h;have hu:u∈l:=by
    rcases List.mem_cons.1 hu with rfl|hu
    ·exact(hv hh).elim
    ·exact hu
   obtain⟨a,b,c⟩:=Cc f nm l (i+1) ⟨u,hu,hh⟩;refine⟨jB,by simp;omega,?_⟩;rw[show(jR f nm l (i+1)-i).toNat=(jR f nm l (i+1)-(i+1)).toNat+1 from jB];exact c
theorem JN{α:Type}(f:α->U0)(nm:U0):∀(l:List α) (i k:Int),j7 f nm l i k≠k->∃v∈l,f v=nm
 |[],_,_,h=>(h rfl).elim
 |v::l,i,k,h=>by
  unfold j7 at h;by_cases hv:f v=nm
  ·exact⟨v,jE,hv⟩
  ·rw[if_neg hv]at h;obtain⟨u,hu,hh⟩:=JN f nm l _ _ h;exact⟨u,by simp[hu],hh⟩
structure Callee(p:ab)(a:Int)(k:Nat):Prop where
 lt:k<p.aa.ao.length
 at_:jR bk.name (ak p a).name p.aa.ao 0=k
 last:j7 bk.name (ak p a).name p.aa.ao 0 (-1)=k
 name:(nth p.aa.ao k).name=(ak p a).name
 args:(ak p a).l.length=(nth p.aa.ao k).params.length
 C1:(ak p a).l.length<=3
variable{p:ab}
def callee(h:fO p)(h0:a.toNat<p.aa.nodes.length)(hk:(ak p a).kind=21):∃k,Callee p a k:=by
 obtain⟨h1,h2⟩:=(h.ok.ty a.toNat jB h0).call hk;have hx:=JN bk.name (ak p a).name p.aa.ao 0 (-1) (by show j7 bk.name (nth p.aa.nodes a.toNat).name p.aa.ao 0 (-1)≠-1;omega);have e:=Js bk.name (ak p a).name p.aa.ao 0 (-1) (fun a b=>h.names.one a b) hx;obtain⟨f1,f2,f3⟩:=Cc bk.name (ak p a).name p.aa.ao 0 hx;refine⟨(jR bk.name (ak p a).name p.aa.ao 0).toNat,jB,jB,jB,?_,?_,?_⟩
 ·rwa [Int.sub_zero]at f3
 ·unfold ak at e ⊢;rw[<-e];exact h2
 ·have hm:=(h.ok.aa.fn _ (fc (l:=p.aa.ao) (k:=(jR bk.name (ak p a).name p.aa.ao 0).toNat) jB)).2;unfold ak at e hm ⊢;rw[<-e]at hm;rw[h2];exact hm
def DF(l:UY):lH 0 l=l.length:=by simp[lH]
theorem nE:∀(h:UW) (n:Int),h.foldl lH n=n+h.foldl lH (0:Int)
 |[],n=>by simp[List.foldl]
 |x::h,n=>by simp only[List.foldl_cons];rw[nE h (lH n x),nE h (lH 0 x)];unfold lH;omega
def EB(h:UW)(x:UY):gq (h++[x])=gq h+x.length+1:=by unfold gq;rw[List.foldl_append,List.foldl_cons,List.foldl_nil,List.length_append,nE h _,nE h (h.length:Int)];unfold lH;simp;omega
theorem CE:∀(h:UW),0<=h.foldl lH (0:Int)
 |[]=>by simp
 |x::h=>by simp only[List.foldl_cons];rw[nE,DF];have:=CE h;omega
def ME(h:UW):(h.length:Int)<=gq h:=by unfold gq;rw[nE];have:=CE h;omega
theorem Jk:∀(h:UW) (i:Nat) (x:UY),i<h.length->x.length=(nth h i).length->(h.set i x).foldl lH (0:Int)=h.foldl lH 0
 |[],i,x,hi,_=>by simp at hi
 |y::h,0,x,_,e=>by have e:x.length=y.length:=e;simp only[List.set_cons_zero,List.foldl_cons,lH,e]
 |y::h,i+1,x,hi,e=>by simp only[List.set_cons_succ,List.foldl_cons];rw[nE (h.set i x) (lH 0 y),nE h (lH 0 y),Jk h i x (by simpa using hi) e]
def KI(h:UW)(i:Nat)(x:UY)(hi:i<h.length)(e:x.length=(nth h i).length):gq (h.set i x)=gq h:=by unfold gq;rw[List.length_set,nE (h.set i x) (h.length:Int),nE h (h.length:Int),Jk h i x hi e]
theorem JQ:∀(h:UW) (i:Nat),i<h.length->((nth h i).length:Int)<=h.foldl lH 0
 |[],i,hi=>by simp at hi
 |y::h,0,_=>by simp only[List.foldl_cons];rw[nE,DF];have:=CE h;show(y.length:Int)<=_;omega
 |y::h,i+1,hi=>by simp only[List.foldl_cons];rw[nE,DF];have:=JQ h i (by simpa using hi);show((nth h i).length:Int)<=_;omega
def T3(h:UW)(i:Nat)(hi:i<h.length):((nth h i).length:Int)+h.length<=gq h:=by unfold gq;rw[nE];have:=JQ h i hi;omega
def gY[Inhabited α](l:List α)(n k:Nat)(h:k<n):nth (l.take n) k=nth l k:=by unfold nth;rw[List.getD_eq_getElem?_getD,List.getElem?_take,if_pos h,List.getD_eq_getElem?_getD]
def En{v:aj}(hm:lc v=true):v.s.size<=40:=by
 unfold lc at hm;split at hm
 ·have:v.s=sE:=by simpa using hm
  rw[this];decide
 split at hm
 ·simp only[Bool.and_eq_true,decide_eq_true_eq]at hm;rw[hm.1];decide
 split at hm
 ·simp only[Bool.and_eq_true,decide_eq_true_eq]at hm;omega
 split at hm
 ·simp only[Bool.and_eq_true,decide_eq_true_eq]at hm;rw[hm.1];decide
 ·cases hm
def xn(n:Int):bz (IntKind.i64.wrap n):=by unfold bz;rw[IntKind.wrap_i64];omega
def sF:bz 0:=by unfold bz;omega
def Ic(b:Bool):bz (vB b).n:=by cases b<;>(show bz _;unfold vB bz;simp)
def NY{b:Int}(h:bz a):bz (a.tmod b):=by
 unfold bz at*;by_cases h0:0<=a
 ·have h1:0<=a.tmod b:=Int.tmod_nonneg b h0;have h2:a.tmod b<=a:=by
   have:=Int.mul_tdiv_add_tmod a b;by_cases hb:b=0
   ·subst hb;simp
   ·have hn:=Int.natAbs_tmod a b;have:(a.tmod b).natAbs<=a.natAbs:=by rw[hn];exact Nat.mod_le _ _
    omega
  omega
 ·have hn:=Int.natAbs_tmod a b;have:(a.tmod b).natAbs<=a.natAbs:=by rw[hn];exact Nat.mod_le _ _
  have h3:a.tmod b<=0:=by have:=Int.tmod_nonneg b (a:=-a) jB;rw[Int.neg_tmod]at this;omega
  omega
def TV(s:U0)(a:aj):bz (mQ s a).n:=by
 unfold mQ
 (repeat' split)<;>first|exact xn _|exact sF|exact Ic _
def pH(l:List aj):Prop:=∀v∈l,bz v.n
def p8(h:UW):Prop:=∀l∈h,∀x∈l,bz x
def M9(p:ab):Prop:=∀k,k<p.aa.nodes.length->(nth p.aa.nodes k).kind=1->bz (nth p.aa.nodes k).n
theorem nU.bz{p:ab}(h:nU p):M9 p:=fun k hk h1=>by
 obtain⟨s,hs,e⟩:=(h.aa.shape k hk).1.num h1;have Vd:=IU hs;have ZJ:pX s=(kV s.data.toList 0:Nat):=by unfold pX;rw[B0 s hs.2.2 _ jl,List.take_of_length_le jE]
 rw[e,ZJ];unfold Go.Gd.bz;omega
def FX{l:List aj}(h:pH l)(k t:Int):bz (dU l k t).n:=by
 unfold dU
 (repeat' split)<;>first|exact sF|exact h _ (fc jB)
def KS[Inhabited α](l:List α)(k:Nat):nth l k∈l\/nth l k=default:=by
 by_cases h:k<l.length
 ·exact .inl (fc h)
 ·right;unfold nth;rw[List.getD_eq_getElem?_getD,List.getElem?_eq_none jB];rfl
def Eo{l:List aj}(h:pH l)(k:Nat){v:aj}(hv:bz v.n):pH (l.set k v):=fun x hx=>by
 rcases Qe hx with rfl|hx
 ·exact hv
 ·exact h x hx
def BW(hs:fO p):∃m:Nat,m<p.aa.ao.length/\iu p=(m:Int)/\(nth p.aa.ao m).name=(⟨#[109,97,105,110]⟩:U0)/\(nth p.aa.ao m).params.length=0:=by
 obtain⟨j,hj,Zk⟩:=hs.names.main;unfold ws at Zk;simp only[Bool.and_eq_true,decide_eq_true_eq]at Zk;obtain⟨⟨g1,g2⟩,_⟩:=Zk;obtain⟨f1,f2,f3⟩:=Cc bk.name (⟨#[109,97,105,110]⟩:U0) p.aa.ao 0 ⟨_,fc hj,g1⟩;have e:(jR bk.name (⟨#[109,97,105,110]⟩:U0) p.aa.ao 0-0).toNat=(iu p).toNat:=by unfold iu;simp
 rw[e]at f3;have U9:0<=iu p:=f1;have XX:iu p<0+p.aa.ao.length:=f2;have hm:(iu p).toNat<p.aa.ao.length:=jB;have hjm:j=(iu p).toNat:=by
  rcases Nat.lt_trichotomy j (iu p).toNat with h|h|h
  ·exact(hs.names.one _ _ h hm (by rw[g1,f3])).elim
  ·exact h
  ·exact(hs.names.one _ _ h hj (by rw[g1,f3])).elim
 exact⟨(iu p).toNat,hm,jB,f3,by rw[<-hjm];omega⟩
structure lU(p:ab)(fn:Int)(x:gk):Prop where
 b0:0<=x.block
 lo:kW p.aa fn.toNat<=x.block.toNat
 hi:x.block.toNat<=(nth p.aa.ao fn.toNat).body.toNat
 kind:bX p.aa.nodes x.block=18
 a0:0<=x.at_
 a1:x.at_<=(rG p x.block).length
structure Cu(p:ab)(f:fI):Prop where
 f0:0<=f.fn
 f1:f.fn<p.aa.ao.length
 sl:(f.slots.length:Int)=nth p.size f.fn.toNat
 pl:∀x∈f.path,lU p f.fn x
 dec:(f.path.map (·.block)).Pairwise fun a b=>b<a
def A0(p:ab)(f:fI):Prop:=f.path≠[]/\f.pl.at_<(rG p f.pl.block).length
def lU.in_(h:fO p){fn:Int}(f0:0<=fn)(f1:fn<p.aa.ao.length){x:gk}(hx:lU p fn x):x.block.toNat<p.aa.nodes.length:=by have:=n7 h.ok.aa (k:=fn.toNat) jB;have h1:=this.1;have h2:=this.2;have h3:=hx.hi;omega
def lU.aH(h:fO p){fn:Int}(f0:0<=fn)(f1:fn<p.aa.ao.length){x:gk}(hx:lU p fn x)(ha:a∈rG p x.block):0<=a/\a.toNat<x.block.toNat/\kW p.aa fn.toNat<=a.toNat/\fF (bX p.aa.nodes a):=by
 have hi:=hx.in_ h f0 f1;have sh:=h.ok.aa.shape x.block.toNat hi;have h1:=sh.2.1 a ha;refine⟨h1.1,h1.2,?_,sh.1.block hx.kind a ha⟩;have hc:=(h.ao fn.toNat jB).chain;by_cases e:x.block.toNat<(nth p.aa.ao fn.toNat).body.toNat
 ·exact hc.closed _ hx.lo e a ha
 ·have e:x.block.toNat=(nth p.aa.ao fn.toNat).body.toNat:=by have:=hx.hi;omega
  have ha:a∈(nth p.aa.nodes x.block.toNat).l:=ha;rw[e]at ha;exact(hc.mem a ha).2.1
structure uP(p:ab)(R:RS):Prop where
 ok:R.Ok
 eF:R.eF.length<=8
 fr:∀k,k<R.nf->Cu p (nth R.eF k)
 busy:∀k,k+1<R.nf->A0 p (nth R.eF k)
 go:R.status≠2->1<=R.nf
end Go.Proofs.YtjpcgmjaipfgdaaGreatDoor
/- Lemmas. No conditions. -/
import Derived.Test.YtjpcgmjaipfgdaaGreatDoorCk8
set_option linter.all false
set_option maxHeartbeats 4000000
set_option maxRecDepth 10000
namespace Go.Gd
open Go
variable{α:Type}
def dD[Inhabited α](l:List α)(i k:Nat)(v:α)(h:i<l.length):nth (l.set i v) k=if k=i then v else nth l k:=by
 unfold nth;rw[List.getD_eq_getElem?_getD,List.getElem?_set,List.getD_eq_getElem?_getD];by_cases e:i=k
 ·subst e;simp[h]
 ·rw[if_neg e,if_neg (fun h=>e h.symm)]
theorem wy:∀(l m:UR) (i:Nat),az (l++m) i=(az l i).or (az m i)
 |[],m,i=>by simp[az]
 |(j,r)::l,m,i=>by
  show(if i=j then some r else az (l++m) i)=((if i=j then some r else az l i):Option Row).or _;split
  ·rfl
  ·exact wy l m i
theorem lR:∀(l:UR) (i:Nat),i∈ids l<->az l i≠none
 |[],i=>by simp[ids,az]
 |(j,r)::l,i=>by
  have:=lR l i;simp only[ids,List.map_cons,List.mem_cons,az]at this ⊢;by_cases e:i=j
  ·simp[e]
  ·rw[if_neg e];simp only[e,false_or];exact this
variable{l:UR}
def fV{i:Nat}{r:Row}(h:az l i=some r):(ids l).contains i=true:=List.contains_iff_mem.2 ((lR l i).2 (by rw[h];simp))
theorem s9(q:U2):∀(l m:US),aR q (l++m)=(aR q l && aR q m)
 |[],m=>by simp[aR]
 |a::l,m=>by simp only[List.cons_append,aR,s9 q l m,Bool.and_assoc]
def pW{q:U2}{l:UQ}(h:QL q l):aR q l.flatten=true:=by
 induction l with
 |nil=>rfl
 |cons x l ih=>rw[List.flatten_cons,s9,h x jE,ih fun y hy=>h y (by simp[hy])];rfl
theorem I8(D:U2):∀(l m:UR),gi D (l++m)=gi D l++gi D m
 |[],m=>rfl
 |(j,r)::l,m=>by show(bif D j then gi D (l++m)else(j,r)::gi D (l++m))=(bif D j then gi D l else(j,r)::gi D l)++_;rw[I8 D l m];cases D j<;>rfl
theorem Ic(D:U2):∀(l:UR),(∀i∈ids l,D i=false)->gi D l=l
 |[],_=>rfl
 |(j,r)::l,h=>by show(bif D j then gi D l else(j,r)::gi D l)=_;rw[h j (by simp[ids]),Ic D l fun i hi=>h i (by simp[ids]at hi ⊢;exact .inr hi)];rfl
theorem Fq(D:U2):∀(l:UR),(∀i∈ids l,D i=true)->gi D l=[]
 |[],_=>rfl
 |(j,r)::l,h=>by show(bif D j then gi D l else(j,r)::gi D l)=_;rw[h j (by simp[ids]),Fq D l fun i hi=>h i (by simp[ids]at hi ⊢;exact .inr hi)];rfl
theorem IZ(D:U2):∀(l m:UR),kI D l->kI D m->kI D (l++m)
 |[],m,_,h=>h
 |(j,r)::l,m,h,k=>⟨h.1,IZ D l m h.2 k⟩
theorem HQ(D:U2):∀(l:UR),(∀i∈ids l,D i=true)->kI D l
 |[],_=>trivial
 |(j,r)::l,h=>⟨.inl (h j (by simp[ids])),HQ D l fun i hi=>h i (by simp[ids]at hi ⊢;exact .inr hi)⟩
theorem DI{q:U2}:∀{l:UQ},aR q l.flatten=true->QL q l
 |[],_,x,hx=>by simp at hx
 |a::l,h,x,hx=>by
  rw[List.flatten_cons,Af,Bool.and_eq_true]at h;rcases List.mem_cons.1 hx with rfl|hx
  ·exact h.1
  ·exact DI h.2 x hx
def K0{q:U2}:∀{r:Row},aR q r.cells=true->xm q r
 |.var _ _,h=>h
 |.aD _ _ _,h=>DI h
 |.mp _ _,h=>h
theorem Fg(D:U2):∀(l:UR),(ids l).Nodup->(∀i r,az l i=some r->aR (iY D) r.cells=true)->kI D l
 |[],_,_=>trivial
 |(j,r)::l,hn,h=>by
  have hn':=List.nodup_cons.1 hn;refine⟨.inr (K0 (h j r (by simp[az]))),Fg D l hn'.2 fun i r' hi=>h i r' ?_⟩;have:i≠j:=fun e=>by subst e;exact hn'.1 ((lR l i).2 (by rw[hi];simp))
  simp only[az,if_neg this];exact hi
def wP(p:ah)(b:Int):UU:=(nth p.aa.nodes b.toNat).l
def j4(p:ah):Int:=jx aV.name (⟨#[109,97,105,110]⟩:UX) p.aa.ak 0
def ma(n:Int)(l:UU):Int:=n+l.length
def gz(h:UT):Int:=h.foldl ma (h.length:Int)
def ap(p:ah)(a:Int):bk:=nth p.aa.nodes a.toNat
def cA(n:Int):UX:=⟨(Lib.itoa n).toArray⟩
def lm(v:aj):UX:=
 if v.ty=1 then cA v.n
 else if v.ty=2 then(if v.n=1 then(⟨#[116,114,117,101]⟩:UX)else(⟨#[102,97,108,115,101]⟩:UX))
 else if v.ty=3 then v.s
 else if v.ty=4 then(⟨#[108,105,115,116]⟩:UX)
 else sE
def bG(n:Int):Prop:=-9223372036854775808<=n/\n<=9223372036854775807
def LY[Inhabited α](l:List α)(i:Nat)(h:i<l.length):l.take (i+1)=l.take i++[nth l i]:=by rw[List.take_succ,List.getElem?_eq_getElem h,ee h];rfl
structure RS where
 gw:List fy
 nf:Nat
 jp:List (List fT)
 heap:List (List Int)
 in_:Int
 aS:List ByteArray
 status:Int
 bs:Int
 time:Int
namespace RS
structure Ok(R:RS):Prop where
 nf:R.nf<=R.gw.length
 jp:R.jp.length=R.gw.length
def fr(R:RS)(k:Nat):US:=[.raw (.int .i64 (nth R.gw k).fn),.rs (gG 0 k) (nth R.gw k).slots.length 3 (nth R.gw k).slots.length,.rs (gG 1 k) ((nth R.gw k).path.length+(nth R.jp k).length) 2 (nth R.gw k).path.length]
def sl(R:RS)(k:Nat):Row:=.aD 54 3 ((nth R.gw k).slots.map bW)
def pt(R:RS)(k:Nat):Row:=.aD 393 2 (((nth R.gw k).path++nth R.jp k).map uk)
def hp(R:RS)(k:Nat):Row:=.aD 3 1 ((nth R.heap k).map eI)
def c(R:RS):US:=[.rs 1 R.gw.length 3 R.nf,.rs 2 R.heap.length 1 R.heap.length,.raw (.int .i64 R.in_),.rs 3 R.aS.length 1 R.aS.length,.raw (.int .i64 R.status),.raw (.int .i64 R.bs),.raw (.int .i64 R.time)]
def e(t:UY)(pre post:US)(R:RS)(tl:UR):UR:=
 (0,.var t (pre++R.c++post))::(1,.aD 396 3 (x8 R.gw.length R.fr))::(2,.aD 22 1 (x8 R.heap.length fun k=>[.rs (gG 2 k) (nth R.heap k).length 1 (nth R.heap k).length]))::(3,.aD 9 1 (R.aS.map eS)) ::
  ja 0 R.gw.length R.sl (ja 1 R.gw.length R.pt (ja 2 R.heap.length R.hp tl))
end RS
attribute [go_sem] RS.fr RS.sl RS.pt RS.hp RS.c RS.e
def dn.uI{D:U2}{H:Hp}{dd:US}{i sz m n:Nat}{e:UY}{enc:α->US}[he:bD enc sz](l more:List α)(hD:D i=true)(hi:H.get i=some (.aD e sz ((l++more).map enc)))(hm:m=l.length+more.length)(hn:n=l.length):dn D H (.rs i m sz n) (.sl false sz (l.map enc) dd):=
 .Dq dd i sz m n e _ _ hD hi jF jB jF (fun ds Yl=>by obtain⟨x,_,rfl⟩:=List.mem_map.1 Yl;exact he.len x) (oJ l) fun k j c d hk h1 h2=>by
  have Vn:k<l.length:=jB;have e1:((l++more).map enc).getD k []=enc l[k]:=by rw[List.map_append,List.getD_eq_getElem?_getD,List.getElem?_append_left (by simpa using Vn)];simp[Vn]
  have e2:(l.map enc).getD k []=enc l[k]:=by simp[Vn]
  rw[e1]at h1;rw[e2,h1]at h2;cases h2;exact .same c (rA (fun _ h=>by cases h) _ (mH (he.free _) h1))
variable{t:UY}{R:RS}{tl:UR}
def RS.vj{pre post:US}:az (R.e t pre post tl) 0=some (.var t (pre++R.c++post)):=rfl
def RS.uU{pre post:US}:az (R.e t pre post tl) 1=some (.aD 396 3 (x8 R.gw.length R.fr)):=rfl
def RS.uA{pre post:US}:az (R.e t pre post tl) 2=some (.aD 22 1 (x8 R.heap.length fun k=>[.rs (gG 2 k) (nth R.heap k).length 1 (nth R.heap k).length])):=rfl
def RS.uh{pre post:US}:az (R.e t pre post tl) 3=some (.aD 9 1 (R.aS.map eS)):=rfl
def RS.qs{pre post:US}(i:Nat)(h:1000<=i):az (R.e t pre post tl) i=az (ja 0 R.gw.length R.sl (ja 1 R.gw.length R.pt (ja 2 R.heap.length R.hp tl))) i:=by unfold RS.e;simp only[az];rw[jN,jN,jN,jN]
variable{k:Nat}
def RS.jb{pre post:US}(h:k<R.gw.length):az (R.e t pre post tl) (gG 0 k)=some (R.sl k):=by rw[RS.qs _ (yX _ _),uR _ _ _ _ _ jB h]
def RS.Ct{pre post:US}(h:k<R.gw.length):az (R.e t pre post tl) (gG 1 k)=some (R.pt k):=by rw[RS.qs _ (yX _ _),sy _ _ _ _ _ _ jB jB jB,uR _ _ _ _ _ jB h]
def RS.CQ{pre post:US}(h:k<R.heap.length):az (R.e t pre post tl) (gG 2 k)=some (R.hp k):=by rw[RS.qs _ (yX _ _),sy _ _ _ _ _ _ jB jB jB,sy _ _ _ _ _ _ jB jB jB,uR _ _ _ _ _ jB h]
theorem HW(a:Nat)(f:U4)(l m:UR):∀(n k:Nat),oX a f k n (l++m)=oX a f k n l++m
 |0,k=>rfl
 |n+1,k=>by unfold oX;rw[HW a f l m n (k+1)];rfl
def C0(a n:Nat)(f:U4)(l m:UR):ja a n f (l++m)=ja a n f l++m:=HW a f l m n 0
def RS.wZ{pre post:US}(tl:UR):R.e t pre post tl=R.e t pre post []++tl:=by unfold RS.e;rw[show tl=[]++tl from rfl,C0,C0,C0];rfl
def RS.no{pre post:US}(i:Nat)(h:4<=i)(h':i<1000):az (R.e t pre post []) i=none:=by unfold RS.e;simp only[az];rw[jN,jN,jN,jN,wD _ _ _ _ _ h',wD _ _ _ _ _ h',wD _ _ _ _ _ h'];rfl
def low(tl:UR):Prop:=∀i r,az tl i=some r->4<=i/\i<1000
def RS.bv{pre post:US}(h:low tl):Lays (fun tl=>R.e t pre post tl) tl:=⟨fun i=>by rw[RS.wZ,wy],fun i r hi=>RS.no i (h i r hi).1 (h i r hi).2⟩
variable{pre' post':US}
def RS.size{pre post:US}{R':RS}(h1:R.gw.length<=R'.gw.length)(h2:R.heap.length<=R'.heap.length)(i:Nat)(h:az (R.e t pre post []) i≠none):az (R'.e t pre' post' []) i≠none:=by
 by_cases h0:i=0
 ·subst h0;rw[RS.vj];simp
 by_cases Zl:i=1
 ·subst Zl;rw[RS.uU];simp
 by_cases Zx:i=2
 ·subst Zx;rw[RS.uA];simp
 by_cases h3':i=3
 ·subst h3';rw[RS.uh];simp
 by_cases h4:i<1000
 ·exact(h (RS.no i jB h4)).elim
 rw[RS.qs i jB]at h ⊢;rcases vM 0 R.gw.length jB R.sl (ja 1 R.gw.length R.pt (ja 2 R.heap.length R.hp [])) i with⟨k,hk,rfl,e⟩|⟨_,e⟩
 ·rw[uR _ _ _ _ _ jB jB];simp
 rw[e]at h;rcases vM 1 R.gw.length jB R.pt (ja 2 R.heap.length R.hp []) i with⟨k,hk,rfl,e⟩|⟨_,e⟩
 ·rw[sy _ _ _ _ _ _ jB jB jB,uR _ _ _ _ _ jB jB];simp
 rw[e]at h;rcases vM 2 R.heap.length jB R.hp [] i with⟨k,hk,rfl,e⟩|⟨_,e⟩
 ·rw[sy _ _ _ _ _ _ jB jB jB,sy _ _ _ _ _ _ jB jB jB,uR _ _ _ _ _ jB jB];simp
 rw[e]at h;exact(h rfl).elim
theorem H7(a:Nat)(f:U4)(l:UR):∀(n k:Nat),ids (oX a f k n l)=(List.range' k n).map (gG a)++ids l
 |0,k=>rfl
 |n+1,k=>by unfold oX;rw[List.range'_succ];show gG a k::ids (oX a f (k+1) n l)=_;rw[H7 a f l n (k+1)];rfl
def AX{a n:Nat}{f:U4}(ha:a<8)(h:(ids l).Nodup)(hl:∀k,k<n->az l (gG a k)=Option.none):(ids (ja a n f l)).Nodup:=by
 unfold ja;rw[H7,List.nodup_append];refine⟨?_,h,fun x hx y hy e=>?_⟩
 ·refine List.Pairwise.map _ (fun x y hxy e=>?_) (List.nodup_range' (step:=1) (s:=0) (n:=n) jB);exact hxy (zb ha ha e).2
 ·obtain⟨k,hk,rfl⟩:=List.mem_map.1 hx;subst e;exact(lR _ _).1 hy (hl k (by simp at hk;omega))
theorem nodup_cons{l:UR}{i:Nat}{r:Row}(h:(ids l).Nodup)(hl:az l i=Option.none):(ids ((i,r)::l)).Nodup:=List.nodup_cons.2 ⟨fun hm=>(lR _ _).1 hm hl,h⟩
def RS.nodup{pre post:US}:(ids (R.e t pre post [])).Nodup:=by
 have f2:∀i,i<1000->az (ja 0 R.gw.length R.sl (ja 1 R.gw.length R.pt (ja 2 R.heap.length R.hp []))) i=Option.none:=fun i h=>by rw[wD _ _ _ _ _ h,wD _ _ _ _ _ h,wD _ _ _ _ _ h];rfl
 unfold RS.e;refine nodup_cons (nodup_cons (nodup_cons (nodup_cons (AX jB (AX jB (AX jB List.nodup_nil (fun k _=>rfl)) fun k _=>?_) fun k _=>?_) ?_) ?_) ?_) ?_
 ·rw[sy _ _ _ _ _ _ jB jB jB];rfl
 ·rw[sy _ _ _ _ _ _ jB jB jB,sy _ _ _ _ _ _ jB jB jB];rfl
 ·exact f2 3 jB
 ·show(if(2:Nat)=3 then _ else _)=_;rw[jN];exact f2 2 jB
 ·show(if(1:Nat)=2 then _ else if(1:Nat)=3 then _ else _)=_;rw[jN,jN];exact f2 1 jB
 ·show(if(0:Nat)=1 then _ else if(0:Nat)=2 then _ else if(0:Nat)=3 then _ else _)=_;rw[jN,jN,jN];exact f2 0 jB
def RS.closed{pre post:US}(h1:aR eo pre=true)(h2:aR eo post=true):∀i r,az (R.e t pre post []) i=some r->aR (fun i=>(ids (R.e t pre post [])).contains i) r.cells=true:=fun i r h=>by
 have up:∀{l},aR eo l=true->aR (fun i=>(ids (R.e t pre post [])).contains i) l=true:=fun h=>fR (fun _ h=>by cases h) _ h
 have c1:=fV (RS.uU (t:=t) (pre:=pre) (post:=post) (R:=R) (tl:=[]));have c2:=fV (RS.uA (t:=t) (pre:=pre) (post:=post) (R:=R) (tl:=[]));have c3:=fV (RS.uh (t:=t) (pre:=pre) (post:=post) (R:=R) (tl:=[]));by_cases h0:i=0
 ·subst h0;rw[RS.vj]at h;cases h;show aR _ (pre++R.c++post)=true;rw[s9,s9,up h1,up h2];simp only[RS.c,aR,AV.all,c1,c2,c3,Bool.and_self]
 by_cases Zl:i=1
 ·subst Zl;rw[RS.uU]at h;cases h;exact pW (KE fun k hk=>by have a:=fV (RS.jb (t:=t) (pre:=pre) (post:=post) (R:=R) (tl:=[]) hk);have b:=fV (RS.Ct (t:=t) (pre:=pre) (post:=post) (R:=R) (tl:=[]) hk);simp only[RS.fr,aR,AV.all,a,b,Bool.and_self])
 by_cases Zx:i=2
 ·subst Zx;rw[RS.uA]at h;cases h;exact pW (KE fun k hk=>by have a:=fV (RS.CQ (t:=t) (pre:=pre) (post:=post) (R:=R) (tl:=[]) hk);simp only[aR,AV.all,a,Bool.and_self])
 by_cases h3':i=3
 ·subst h3';rw[RS.uh]at h;cases h;exact up (pW (oJ (enc:=eS) (sz:=1) _))
 by_cases h4:i<1000
 ·rw[RS.no i jB h4]at h;cases h
 rw[RS.qs i jB]at h;rcases vM 0 R.gw.length jB R.sl (ja 1 R.gw.length R.pt (ja 2 R.heap.length R.hp [])) i with⟨k,hk,rfl,e⟩|⟨_,e⟩
 ·rw[e]at h;cases h;exact up (pW (oJ (enc:=bW) (sz:=3) _))
 rw[e]at h;rcases vM 1 R.gw.length jB R.pt (ja 2 R.heap.length R.hp []) i with⟨k,hk,rfl,e⟩|⟨_,e⟩
 ·rw[e]at h;cases h;exact up (pW (oJ (enc:=uk) (sz:=2) _))
 rw[e]at h;rcases vM 2 R.heap.length jB R.hp [] i with⟨k,hk,rfl,e⟩|⟨_,e⟩
 ·rw[e]at h;cases h;exact up (pW (oJ (enc:=eI) (sz:=1) _))
 rw[e]at h;cases h
def cE{P:U3}{f:FuncId}{args:US}{H:Hp}{K:UP}{pre post:US}{R':RS}{r0:AV}{B:UW}(hc:ab P f args (R.e t pre post []) fun r l'=>r=r0/\l'=R'.e t pre' post' [])(hH:H=⟨B,R.e t pre post tl⟩)
  (h1:R.gw.length<=R'.gw.length) (h2:R.heap.length<=R'.heap.length) (hp:aR eo pre=true) (hq:aR eo post=true) (hl:low tl) (ha:aR (fun i=>decide (i=0)) args=true) (h0:aW P f=true) (k:K r0 ⟨B,R'.e t pre' post' tl⟩):eQ P (.raw (.func (.func f) #[] #[])) args H K:=by
 subst hH;refine nS h0 (CK (E:=fun tl=>R.e t pre post tl) (E':=fun tl=>R'.e t pre' post' tl) hc (RS.bv hl) (RS.bv hl) RS.nodup (fR (fun i hi=>?_) _ ha) (RS.closed hp hq) k (RS.size h1 h2));have:i=0:=of_decide_eq_true hi;subst this;exact fV RS.vj
def fy.pl(f:fy):fT:=nth f.path (f.path.length-1)
def Bb(p:ah)(node:Int):Prop:=(nth p.aa.nodes node.toNat).kind=10\/(nth p.aa.nodes node.toNat).kind=11
instance (p:ah)(node:Int):Decidable (Bb p node):=by unfold Bb;infer_instance
def RS.CI(R:RS):fy:=nth R.gw (R.nf-1)
def RS.of(s:gA):RS:=⟨s.j8,s.j8.length,s.j8.map fun _=>[],s.heap,s.in_,s.aS,s.status,s.bs,s.time⟩
def Bv(p:ah)(fn:Int)(args:List aj):fy:=⟨fn,args++List.replicate ((nth p.size fn.toNat)-args.length).toNat v0,[⟨(nth p.aa.ak fn.toNat).body,0⟩]⟩
def Hw(p:ah)(s:gA)(node:Int)(inp:UU):Prop:=Bb p node/\(ap p (nth (ap p node).l 0)).kind=19/\(inp.length:Int)<=s.in_
instance (p:ah)(s:gA)(node:Int)(inp:List Int):Decidable (Hw p s node inp):=by unfold Hw;infer_instance
end Go.Gd
namespace Go.Proofs.YtjpcgmjaipfgdaaGreatDoor
open Go Go.Gd Tryz
def gL(t:aB)(a:Int):Prop:=0<=a/\a<t.nodes.length
def Ab(c:Ck):Prop:=c.e=0\/c.e=44\/gL c.aa c.at_
def Kp(t:aB)(c c':Ck):Prop:=c.aa=t->c'.aa=t/\(Ab c->Ab c')
def Kp.refl(t:aB)(c:Ck):Kp t c c:=fun h=>⟨h,id⟩
variable{t:aB}{b:Ck}
def Kp.trans{a c:Ck}(h:Kp t a b)(k:Kp t b c):Kp t a c:=fun e=>⟨(k (h e).1).1,fun x=>(k (h e).1).2 ((h e).2 x)⟩
variable{c':Ck}
def qc{c:Ck}(h1:c'.aa=c.aa)(h2:c'.e=c.e)(h3:c'.at_=c.at_):Kp t c c':=fun e=>⟨h1.trans e,fun h=>by unfold Ab at*;rw[h1,h2,h3];exact h⟩
variable{a:Int}
def rH(c:Ck)(e:Int)(ha:gL t a):Kp t c (c.aA e a):=fun ht=>by
 unfold Ck.aA;split
 ·refine⟨ht,fun _=>.inr (.inr ?_)⟩;show gL c.aa a;rw[ht];exact ha
 ·exact⟨ht,id⟩
def qP(c:Ck)(b:Bool)(ha:gL t a):Kp t c (c.ao b a):=by
 unfold Ck.ao;split
 ·exact .refl t c
 ·exact rH c 42 ha
def AF(c:Ck)(ha:gL t a):Kp t c (c.named a).1:=by
 unfold Ck.named;split
 ·exact rH c 40 ha
 ·exact qc rfl rfl rfl
variable{α:Type}
def II[Inhabited α]{l:List α}{i:Nat}(h:l.length<=i):nth l i=default:=by simp[nth,List.getD_eq_getElem?_getD,List.getElem?_eq_none h]
def wE(h:aM t){c:Ck}(hc:c.aa=t)(ha:gL t a)(i:Nat):gL t (c.aC a i):=by
 obtain⟨h0,h1⟩:=ha;unfold Ck.aC Ck.node;rw[hc];by_cases hi:i<(nth t.nodes a.toNat).l.length
 ·have:=(h.shape a.toNat jB).2.1 _ (cV hi);unfold gL;omega
 ·have:nth (nth t.nodes a.toNat).l i=0:=II (Nat.le_of_not_lt hi);rw[this];unfold gL;omega
def AB(h:aM t){c:Ck}(hc:c.aa=t)(ha:gL t a):∀x∈(c.node a).l,gL t x:=fun x hx=>by obtain⟨h0,h1⟩:=ha;unfold Ck.node at hx;rw[hc]at hx;have:=(h.shape a.toNat jB).2.1 _ hx;unfold gL;omega
theorem Bx{t:aB}{ex:Ck->Int->Ck×Int}(hex:∀c a,gL t a->Kp t c (ex c a).1):∀(l:UU) (c:Ck) (ts:UU),(∀x∈l,gL t x)->Kp t c (gK ex c l ts).1
 |[],c,ts,_=>by unfold gK;exact .refl t c
 |a::l,c,ts,hl=>by
  unfold gK;split
  ·exact(hex c a (hl a jE)).trans (Bx hex l _ _ fun x hx=>hl x (by simp[hx]))
  ·exact .refl t c
theorem HM{t:aB}{a:Int}(ha:gL t a):∀(ts:UU) (ps:List bp) (c:Ck),Kp t c (iO a c ts ps)
 |[],ps,c=>by rw[uG];exact .refl t c
 |_::_,[],c=>by rw[uF];exact .refl t c
 |x::ts,p::ps,c=>by
  unfold iO;split
  ·exact(qP c _ ha).trans (HM ha ts ps _)
  ·exact .refl t c
variable{ex:Ck->Int->Ck×Int}
def Mn(h:aM t)(hex:∀c a,gL t a->Kp t c (ex c a).1)(c:Ck)(ha:gL t a):Kp t c (jr ex c a).1:=fun hc=>by
 refine(show Kp t c (jr ex c a).1 from ?_) hc;unfold jr;split
 ·exact rH c 40 ha
 ·refine Kp.trans ?_ (HM ha _ _ _);split
  ·exact(Bx hex _ _ _ (AB h hc ha)).trans (rH _ 43 ha)
  ·exact Bx hex _ _ _ (AB h hc ha)
def PB(h:aM t)(hex:∀c a,gL t a->Kp t c (ex c a).1)(c:Ck)(ha:gL t a):Kp t c (cf ex c a).1:=fun hc=>by
 have k0:=wE h hc ha 0;have k1:=wE h hc ha 1;refine(show Kp t c (cf ex c a).1 from ?_) hc;unfold cf;simp only;repeat' split
 all_goals first
  |exact .refl t c
  |exact AF c ha
  |exact Mn h hex c ha
  |exact((AF c ha).trans (hex _ _ k0)).trans (qP _ _ ha)
  |exact((hex c _ k0).trans (hex _ _ k1)).trans (qP _ _ ha)
  |exact(hex c _ k0).trans (qP _ _ ha)
theorem Hl{t:aB}(h:aM t):∀(n:Nat) (c:Ck) (a:Int),gL t a->Kp t c (ay n c a).1
 |0,c,a,ha=>by unfold ay;exact .refl t c
 |n+1,c,a,ha=>by
  unfold ay;split
  ·exact .refl t c
  ·exact(PB h (Hl h n) c ha).trans (qc rfl rfl rfl)
def Nb(h:aM t)(hex:∀c a,gL t a->Kp t c (ex c a).1)(c:Ck)(ha:gL t a):Kp t c (oz ex c a):=fun hc=>by
 have k0:=wE h hc ha 0;refine(show Kp t c (oz ex c a) from ?_) hc;rw[sW];have kA:Kp t c (iK ex c a):=(hex c _ k0).trans (qP _ _ ha);have kB:Kp t c (jn ex c a):=by
  unfold jn;split
  ·exact kA.trans (rH _ 41 ha)
  ·exact kA
 have kC:Kp t c (dX ex c a):=by
  unfold dX;split
  ·exact kB.trans (rH _ 4 ha)
  ·exact kB
 exact kC.trans (qc rfl rfl rfl)
def Pn(h:aM t)(hex:∀c a,gL t a->Kp t c (ex c a).1)(c:Ck)(ha:gL t a):Kp t c (j5 ex c a):=fun hc=>by
 have k0:=wE h hc ha 0;refine(show Kp t c (j5 ex c a) from ?_) hc;unfold j5;simp only;split
 ·exact rH c 43 ha
 split
 ·exact(hex c _ k0).trans (qP _ _ ha)
 ·exact .refl t c
theorem C6{t:aB}{st:Ck->Int->Ck}(O':∀c a,gL t a->Kp t c (st c a)):∀(l:UU) (c:Ck),(∀x∈l,gL t x)->Kp t c (dh st c l)
 |[],c,_=>by unfold dh;exact .refl t c
 |a::l,c,hl=>by
  unfold dh;split
  ·exact(O' c a (hl a jE)).trans (C6 O' l _ fun x hx=>hl x (by simp[hx]))
  ·exact .refl t c
def HS(h:aM t){st:Ck->Int->Ck}(O':∀c a,gL t a->Kp t c (st c a))(c:Ck)(ha:gL t a):Kp t c (eH st c a):=fun hc=>by refine(show Kp t c (eH st c a) from ?_) hc;have h1:Kp t c (c.af a):=qc rfl rfl rfl;exact(h1.trans (C6 O' _ _ (AB h hc ha))).trans (qc rfl rfl rfl)
theorem Js{t:aB}(h:aM t):∀(n:Nat) (c:Ck) (a:Int),gL t a->Kp t c (bF n c a)
 |0,c,a,ha=>by unfold bF;exact .refl t c
 |n+1,c,a,ha=>fun hc=>by
  have k0:=wE h hc ha 0;have k1:=wE h hc ha 1;have kl:=AB h hc ha;refine(show Kp t c (bF (n+1) c a) from ?_) hc;have e0:Kp t c (c.af a):=qc rfl rfl rfl;have hx:=Hl h n;unfold bF;simp only;refine e0.trans ?_;repeat' split
  ·exact Nb h hx _ ha
  ·exact((AF _ ha).trans (hx _ _ k0)).trans (qP _ _ ha)
  ·exact(((AF _ ha).trans (hx _ _ k0)).trans (hx _ _ k1)).trans (qP _ _ ha)
  ·exact hx _ _ k0
  ·exact(hx _ _ k0).trans (qP _ _ ha)
  ·exact Pn h hx _ ha
  ·exact((hx _ _ k0).trans (qP _ _ ha)).trans (C6 (fun c a ha=>HS h (Js h n) c ha) _ _ fun x Vr=>kl x (List.mem_of_mem_drop Vr))
theorem Ik{t:aB}{body:Int}(hb:gL t body):∀(ps:List bp) (c:Ck) (i:Int),Kp t c (eD body c ps i)
 |[],c,i=>by unfold eD;exact .refl t c
 |p::ps,c,i=>by
  unfold eD;simp only;refine Kp.trans ?_ (Ik hb ps _ _);split
  ·exact(rH c 41 hb).trans (qc rfl rfl rfl)
  ·exact qc rfl rfl rfl
variable{k:Nat}
def ou(h:aM t)(hk:k<t.ak.length):gL t (nth t.ak k).body:=by have:=h.chain.mem (nth t.ak k).body (List.mem_map.2 ⟨_,cV hk,rfl⟩);unfold gL;omega
def Tl(h:aM t)(c:Ck)(hk:k<t.ak.length):Kp t c (gf c k):=fun hc=>by
 refine(show Kp t c (gf c k) from ?_) hc;have hb:gL t (nth c.aa.ak k).body:=by rw[hc];exact ou h hk
 have h1:Kp t c (eD (nth c.aa.ak k).body { c with fn:=(k:Int),vars:=[],more:=[],size:=0 } (nth c.aa.ak k).params 0):=Kp.trans (b:={ c with fn:=(k:Int),vars:=[],more:=[],size:=0 }) (qc rfl rfl rfl) (Ik hb _ _ _);unfold gf;simp only;split
 ·exact(h1.trans (HS h (Js h _) _ hb)).trans (qc rfl rfl rfl)
 ·exact h1.trans (qc rfl rfl rfl)
theorem I7{t:aB}(h:aM t):∀(n:Nat) (c:Ck) (i:Nat),i+n<=t.ak.length->Kp t c (fS c i n)
 |0,c,i,_=>by unfold fS;exact .refl t c
 |n+1,c,i,hi=>by
  unfold fS;split
  ·exact(Tl h c jB).trans (I7 h n _ _ jB)
  ·exact .refl t c
theorem JW{t:aB}{x:aV}(hx:gL t x.body):∀(l:List aV) (c:Ck),Kp t c (kY x c l)
 |[],c=>by unfold kY;exact .refl t c
 |f::l,c=>by
  unfold kY;refine Kp.trans ?_ (JW hx l _);split
  ·exact rH c 41 hx
  ·exact .refl t c
theorem HC{t:aB}(h:aM t):∀(n:Nat) (c:Ck) (m:Bool) (i:Nat),i+n<=t.ak.length->Kp t c (j9 t.ak c m i n).1
 |0,c,m,i,_=>by unfold j9;exact .refl t c
 |n+1,c,m,i,hi=>by unfold j9;exact(JW (ou h jB) _ _).trans (HC h n _ _ _ jB)
def LF(h:aM t)(c:Ck):Kp t c (iV c):=fun hc=>by
 have h1:Kp t c (j9 c.aa.ak c false 0 c.aa.ak.length).1:=by rw[hc];exact HC h _ _ _ _ jB
 refine(show Kp t c (iV c) from ?_) hc;unfold iV;simp only;split
 ·exact h1
 ·refine h1.trans fun hq=>?_
  unfold Ck.aA;split
  ·exact⟨hq,fun _=>.inr (.inl rfl)⟩
  ·exact⟨hq,id⟩
def F7(h:aM t):Ab (ik t)/\(ik t).aa=t:=by have k:Kp t (jM t) (ik t):=(LF h (jM t)).trans (I7 h _ _ _ jB);exact⟨(k rfl).2 (.inl rfl),(k rfl).1⟩
def RK(h:aM t):(gm t).2.2=0\/(gm t).2.2=44\/gL t (gm t).2.1:=by
 obtain⟨a,b⟩:=F7 h;unfold gm;split
 ·rcases a with a|a|a
  ·exact .inl a
  ·exact .inr (.inl a)
  ·rw[b]at a;exact .inr (.inr a)
 ·exact .inl rfl
def LX(s:UX)(hs:s.size<=1000000):aL prog 13 [rS s] (.aY [.agg (dj (fI s).1),rI (fI s).2.1,rI (fI s).2.2]):=by
 have hp:=Mx s hs;by_cases h1:(gu s).2.2=0
 ·have ht:=tp h1;have hk:=R7 (gu s).1 ht;have VL:=RK ht;by_cases h2:(gm (gu s).1).2.2=44
  ·have e:fI s=(lE,0,44):=by unfold fI;rw[if_neg (fun h=>h h1)];simp only;rw[if_pos h2]
   rw[e];refine dG func13 ntmps13 ?_
   (have W:=jA h1 h2;repeat' (first|refine au fun K hK=>?_|refine aq ?_|(refine hK _ _ ?_;clear hK K)|(refine ar ?_ ?_<;>intro hc<;>try exact jz)|refine cp (hp) ?_|refine cp (hk) ?_|refine av ?_|exact jI|(clear hK K)))
   refine iM [.cell 2 32,.tmp 3,.tmp 4] ?_;refine cn.aY (ds:=[.agg (dj lE),rI _,rI _]) ?_;refine jA (cn.agg (ds:=dj lE) ?_) (jA (.same _ rfl) (jA (.same _ rfl) trivial));simp only[dj,lE];exact ie
  ·by_cases h3:(gm (gu s).1).2.2=0
   ·have e:fI s=((gm (gu s).1).1,0,0):=by unfold fI;rw[if_neg (fun h=>h h1)];simp only;rw[if_neg h2,if_neg (fun h=>h h3)]
    rw[e];refine dG func13 ntmps13 ?_
    (have W:=jA h1 h3;repeat' (first|refine au fun K hK=>?_|refine aq ?_|(refine hK _ _ ?_;clear hK K)|(refine ar ?_ ?_<;>intro hc<;>try exact jz)|refine cp (hp) ?_|refine cp (hk) ?_|refine av ?_|exact jI|(clear hK K)))
    (refine bu [.cell 2 32,.tmp 3,.tmp 4] ?_;try simp only[go_sem])
   ·have e:fI s=(lE,(nth (gu s).1.nodes (gm (gu s).1).2.1.toNat).bA,(gm (gu s).1).2.2):=by unfold fI;rw[if_neg (fun h=>h h1)];simp only;rw[if_neg h2,if_pos h3]
    obtain⟨V0,Xd⟩:=(VL.resolve_left h3).resolve_left h2;rw[e];refine dG func13 ntmps13 ?_
    (have W:=jA h1 (jA h2 (h3));repeat' (first|refine au fun K hK=>?_|refine aq ?_|(with_reducible refine gR 8 ?_);refine dA 8 [0] (bf 0 11) mixed ?_|(refine hK _ _ ?_;clear hK K)|(refine ar ?_ ?_<;>intro hc<;>try exact jz)|refine cp (hp) ?_|refine cp (hk) ?_|refine av ?_|exact jI|(clear hK K)))
    refine iM [.cell 2 32,.tmp 3,.tmp 4] ?_;refine cn.aY (ds:=[.agg (dj lE),rI _,rI _]) ?_;refine jA (cn.agg (ds:=dj lE) ?_) (jA (.same _ rfl) (jA (.same _ rfl) trivial));simp only[dj,lE];exact ie
 ·have e:fI s=(lE,(gu s).2.1,(gu s).2.2):=by unfold fI;rw[if_pos h1]
  rw[e];refine dG func13 ntmps13 ?_
  (have W:=h1;repeat' (first|refine au fun K hK=>?_|refine aq ?_|(refine hK _ _ ?_;clear hK K)|(refine ar ?_ ?_<;>intro hc<;>try exact jz)|refine cp (hp) ?_|refine av ?_|exact jI|(clear hK K)))
  refine iM [.cell 2 32,.tmp 3,.tmp 4] ?_;refine cn.aY (ds:=[.agg (dj lE),rI _,rI _]) ?_;refine jA (cn.agg (ds:=dj lE) ?_) (jA (.same _ rfl) (jA (.same _ rfl) trivial));simp only[dj,lE];exact ie
def xg[Inhabited α](l:List α)(i k:Nat)(v:α):nth (l.set i v) k=if i=k/\k<l.length then v else nth l k:=by
 unfold nth;rw[List.getD_eq_getElem?_getD,List.getElem?_set,List.getD_eq_getElem?_getD];by_cases h:i=k
 ·subst h;by_cases hi:i<l.length
  ·simp[hi]
  ·simp[hi]
 ·simp[h]
structure wq(t:aB)(ty:List Int)(k:Nat):Prop where
 int:(nth t.nodes k).kind=1->nth ty k=1
 bool:(nth t.nodes k).kind=2->nth ty k=2
 text:(nth t.nodes k).kind=3->nth ty k=3
 var:(nth t.nodes k).kind=4->1<=nth ty k/\nth ty k<=4
 index:(nth t.nodes k).kind=5->nth ty k=1/\nth ty (nth (nth t.nodes k).l 0).toNat=1
 len:(nth t.nodes k).kind=6->nth ty k=1/\(nth ty (nth (nth t.nodes k).l 0).toNat=3\/nth ty (nth (nth t.nodes k).l 0).toNat=4)
 neg:(nth t.nodes k).kind=7->nth ty k=1/\nth ty (nth (nth t.nodes k).l 0).toNat=1
 not:(nth t.nodes k).kind=8->nth ty k=2/\nth ty (nth (nth t.nodes k).l 0).toNat=2
 My:(nth t.nodes k).kind=9->nth ty k=my (nth t.nodes k).name (nth ty (nth (nth t.nodes k).l 0).toNat) (nth ty (nth (nth t.nodes k).l 1).toNat)/\nth ty k≠0
 cond:(nth t.nodes k).kind=15\/(nth t.nodes k).kind=16->nth ty (nth (nth t.nodes k).l 0).toNat=2
 call:(nth t.nodes k).kind=21->0<=jT aV.name (nth t.nodes k).name t.ak 0 (-1)/\(nth t.nodes k).l.length=(nth t.ak (jT aV.name (nth t.nodes k).name t.ak 0 (-1)).toNat).params.length
 in_:(nth t.nodes k).kind=19->nth ty k=1
 new:(nth t.nodes k).kind=20->nth ty k=4
 AO:(nth t.nodes k).kind=10->1<=nth ty (nth (nth t.nodes k).l 0).toNat/\nth ty (nth (nth t.nodes k).l 0).toNat<=4
def gg(t:aB)(ty:UU)(lo hi:Nat):Prop:=∀k,lo<=k->k<hi->wq t ty k
def Tw(lo hi:Nat)(c c':Ck):Prop:=∀k,(k<lo\/hi<=k)->nth c'.types k=nth c.types k
variable{lo hi:Nat}{L:UU}
def _root_.Go.Gd.aI.closed{t:List bk}(h:aI t lo L hi):∀k,lo<=k->k<hi->∀a∈(nth t k).l,lo<=a.toNat:=by
 induction h with
 |nil=>intro k h1 h2;omega
 |@cons lo c hi L hc h1 h2 i1 i2=>
  intro k Vs Va a ha;have l1:=h1.le;by_cases h:k<c
  ·exact i1 k Vs h a ha
  by_cases h':k=c
  ·subst h';exact(h1.mem a ha).2.1
  ·have:=i2 k jB Va a ha;omega
variable{ty:UU}
def wq.aU(h:aM t){ty':UU}(hk:k<t.nodes.length)(P':lo<=k)(hc:∀a∈(nth t.nodes k).l,lo<=a.toNat)(he:∀i,lo<=i->i<=k->nth ty' i=nth ty i)(x:wq t ty k):wq t ty' k:=by
 have hm:=(h.shape k hk).2.1;have sh:=(h.shape k hk).1;have e0:=he k P' jl;have ea:∀i,i<(nth t.nodes k).l.length->nth ty' (nth (nth t.nodes k).l i).toNat=nth ty (nth (nth t.nodes k).l i).toNat:=fun i hi=>by have VO:=cV hi;have:=hm _ VO;exact he _ (hc _ VO) jB
 refine⟨fun e=>by rw[e0];exact x.int e,fun e=>by rw[e0];exact x.bool e,fun e=>by rw[e0];exact x.text e,fun e=>by rw[e0];exact x.var e,fun e=>?_,fun e=>?_,fun e=>?_,fun e=>?_,fun e=>?_,fun e=>?_,x.call,fun e=>by rw[e0];exact x.in_ e,fun e=>by rw[e0];exact x.new e,fun e=>?_⟩
 ·obtain⟨a,hl,_⟩:=sh.one jB;rw[e0,ea 0 (by rw[hl];simp)];exact x.index e
 ·obtain⟨a,hl,_⟩:=sh.one jB;rw[e0,ea 0 (by rw[hl];simp)];exact x.len e
 ·obtain⟨a,hl,_⟩:=sh.one jB;rw[e0,ea 0 (by rw[hl];simp)];exact x.neg e
 ·obtain⟨a,hl,_⟩:=sh.one jB;rw[e0,ea 0 (by rw[hl];simp)];exact x.not e
 ·obtain⟨a,b,hl,_⟩:=sh.two jB;rw[e0,ea 0 (by rw[hl];simp),ea 1 (by rw[hl];simp)];exact x.My e
 ·have hl:0<(nth t.nodes k).l.length:=by
   rcases e with e|e
   ·obtain⟨a,b,_,_,hl|⟨d,hl,_⟩⟩:=sh.lC e<;>rw[hl]<;>simp
   ·obtain⟨a,b,hl,_⟩:=sh.dP e;rw[hl];simp
  rw[ea 0 hl];exact x.cond e
 ·obtain⟨a,hl,_⟩:=sh.right jB;rw[ea 0 (by rw[hl];simp)];exact x.AO e
theorem gg.aU{t:aB}(h:aM t){ty ty':UU}{lo hi:Nat}{L:UU}(hc:aI t.nodes lo L hi)(hl:hi<=t.nodes.length)(he:∀i,lo<=i->i<hi->nth ty' i=nth ty i)(x:gg t ty lo hi):gg t ty' lo hi:=fun k h1 h2=> (x k h1 h2).aU h jB h1 (hc.closed k h1 h2) fun i g1 g2=>he i g1 jB
variable{mid:Nat}
def gg.join(x:gg t ty lo mid)(y:gg t ty mid hi):gg t ty lo hi:=fun k h1 h2=>by
 by_cases h:k<mid
 ·exact x k h1 h
 ·exact y k jB h2
def gg.none:gg t ty lo lo:=fun k h1 h2=>jB
def Tw.refl(lo hi:Nat)(c:Ck):Tw lo hi c c:=fun _ _=>rfl
def Tw.same{c:Ck}(h:c'.types=c.types):Tw lo hi c c':=fun _ _=>by rw[h]
theorem Tw.trans{lo hi:Nat}{a b c:Ck}(h:Tw lo hi a b)(k:Tw lo hi b c):Tw lo hi a c:=fun i hi=>(k i hi).trans (h i hi)
def Tw.mono{lo' Wx:Nat}{a:Ck}(h:Tw lo hi a b)(h1:lo'<=lo)(h2:hi<=Wx):Tw lo' Wx a b:=fun i hi=>h i jB
def Dg(c:Ck)(e a:Int):(c.aA e a).types=c.types:=by unfold Ck.aA;split<;>rfl
def l4(c:Ck)(b:Bool)(a:Int):(c.ao b a).types=c.types:=by unfold Ck.ao;split;rfl;exact Dg _ _ _
def jX{c:Ck}{b:Bool}(h:(c.ao b a).e=0):b=true/\c.e=0:=by
 unfold Ck.ao at h;split at h
 ·exact⟨by assumption,h⟩
 ·exfalso;unfold Ck.aA at h;split at h
  ·cases h
  ·contradiction
def qE{c:Ck}{e:Int}(he:e≠0)(h:(c.aA e a).e=0):False:=by
 unfold Ck.aA at h;split at h
 ·exact he h
 ·contradiction
def yY(c:Ck)(a:Int):(c.named a).1.types=c.types:=by unfold Ck.named;split;exact Dg _ _ _;rfl
def cO(c:Ck):Prop:=∀v∈c.vars,1<=v.ty/\v.ty<=4
def cO.ev{c:Ck}(h:cO c)(s:Ev c c'):cO c':=by unfold cO;rw[s.vars];exact h
def KY{c:Ck}(h:cO c)(he:(c.named a).1.e=0):1<=(c.named a).2/\(c.named a).2<=4:=by
 unfold Ck.named at he ⊢;split
 ·rename_i hf;rw[if_pos hf]at he;exact(qE jC he).elim
 ·rename_i hf;rcases vy ba.name (c.node a).name c.vars 0 jB with⟨h1,_⟩|h1
  ·exact(hf (by show jx ba.name (c.node a).name c.vars 0<0;rw[h1];decide)).elim
  ·exact h _ (cV (by show(jx ba.name (c.node a).name c.vars 0).toNat<_;omega))
def Ev.e0{c:Ck}(s:Ev c c')(h:c'.e=0):c.e=0:=Classical.byContradiction fun e=>s.err e h
structure gq(t:aB)(lo hi:Nat)(c c':Ck):Prop where
 tw:Tw lo hi c c'
 all:gg t c'.types lo hi
def gq.post{a c:Ck}(h:gq t lo hi a b)(e:c.types=b.types):gq t lo hi a c:=⟨h.tw.trans (.same e),by rw[e];exact h.all⟩
def gq.pre{a c:Ck}(e:b.types=a.types)(h:gq t lo hi b c):gq t lo hi a c:=⟨(Tw.same e).trans h.tw,h.all⟩
def gq.seq(ht:aM t){a c:Ck}(hc:aI t.nodes lo L mid)(hl:mid<=t.nodes.length)(h1:mid<=hi)(h:gq t lo mid a b)(k:gq t mid hi b c):gq t lo hi a c:=
 ⟨(h.tw.mono jl h1).trans (k.tw.mono hc.le jl),(h.all.aU ht hc hl fun i _ h2=>k.tw i (.inl h2)).join k.all⟩
def BQ(t:aB)(n:Nat):Prop:=∀(c:Ck) (a:Int) (lo:Nat),bz c->c.aa=t->cO c->0<=a->a<t.nodes.length->a.toNat<n->fk (bT t.nodes a)->aI t.nodes lo (nth t.nodes a.toNat).l a.toNat->(ay n c a).1.e=0->
 gq t lo (a.toNat+1) c (ay n c a).1/\nth (ay n c a).1.types a.toNat=(ay n c a).2/\0<=(ay n c a).2/\(ay n c a).2<=4
variable{t:List bk}
def kQ(h:aI t lo [a] hi):0<=a/\a<t.length/\lo<=a.toNat/\hi=a.toNat+1/\aI t lo (nth t a.toNat).l a.toNat:=by
 cases h with
 |cons hc h1 h2=> cases h2;exact⟨jB,jB,by have:=h1.le;simpa using this,jE,by simpa using h1⟩
def kV(h:aI t lo (a::L) hi):0<=a/\a<t.length/\lo<=a.toNat/\a.toNat+1<=hi/\aI t lo (nth t a.toNat).l a.toNat/\aI t (a.toNat+1) L hi:=by
 cases h with
 |cons hc h1 h2=>exact⟨jB,jB,by have:=h1.le;simpa using this,by have:=h2.le;simpa using this,by simpa using h1,by simpa using h2⟩
def aI.oM(h0:0<=a)(h1:a<t.length)(h:aI t lo (nth t a.toNat).l a.toNat):aI t lo [a] (a.toNat+1):=by have e:a=((a.toNat:Nat):Int):=jB;rw[e];exact aI.one jB (by simpa using h)
theorem Gt{t:aB}(ht:aM t){n:Nat}(hx:BQ t n):∀(L:UU) (c:Ck) (ts:UU) (lo hi:Nat),bz c->c.aa=t->cO c->hi<=n->hi<=t.nodes.length->(∀x∈L,fk (bT t.nodes x))->aI t.nodes lo L hi->(gK (ay n) c L ts).1.e=0->gq t lo hi c (gK (ay n) c L ts).1
 |[],c,ts,lo,hi,h,hc,hv,hn,hl,hr,T',he=>by cases T';unfold gK;exact⟨.refl _ _ _,.none⟩
 |a::L,c,ts,lo,hi,h,hc,hv,hn,hl,hr,T',he=>by have e0:=(uZ (fa n) (a::L) c ts).e0 he;unfold gK at he ⊢;rw[if_pos e0]at he ⊢;obtain⟨c1,c2,c3,c4,c5,c6⟩:=kV T';have ev:=fa n c a;have e1:=(uZ (fa n) L _ _).e0 he;have r1:=(hx c a lo h hc hv c1 c2 jB (hr a jE) c5 e1).1;exact r1.seq ht (aI.oM c1 c2 c5) jB jB (Gt ht hx L _ _ _ hi (h.ev ev) (ev.aa.trans hc) (hv.ev ev) hn hl (fun x hx=>hr x (by simp[hx])) c6 he)
theorem Et(a:Int):∀(ts:UU) (ps:List bp) (c:Ck),(iO a c ts ps).types=c.types
 |[],ps,c=>by rw[uG]
 |_::_,[],c=>by rw[uF]
 |x::ts,p::ps,c=>by
  unfold iO;split
  ·rw[Et a ts ps _];exact l4 _ _ _
  ·rfl
variable{t:aB}{n:Nat}
def UN(ht:aM t)(hx:BQ t n){c:Ck}(h:bz c)(hc:c.aa=t)(hv:cO c)(h0:0<=a)(h1:a<t.nodes.length)(hn:a.toNat<=n)(hk:(nth t.nodes a.toNat).kind=21)(T':aI t.nodes lo (nth t.nodes a.toNat).l a.toNat)(he:(jr (ay n) c a).1.e=0) :
  gq t lo a.toNat c (jr (ay n) c a).1/\(0<=(jr (ay n) c a).2/\(jr (ay n) c a).2<=4)/\0<=jT aV.name (nth t.nodes a.toNat).name t.ak 0 (-1)/\(nth t.nodes a.toNat).l.length=(nth t.ak (jT aV.name (nth t.nodes a.toNat).name t.ak 0 (-1)).toNat).params.length:=by
 have p':c.node a=nth t.nodes a.toNat:=by unfold Ck.node;rw[hc]
 have Vz:=(ht.shape a.toNat jB).1.call hk;unfold jr at he ⊢;split at he
 ·exact(qE jC he).elim
 rename_i hf;rw[if_neg hf];simp only at he ⊢;have e1:=(yD a _ _ _).e0 he;split at e1
 ·exact(qE jC e1).elim
 rename_i hl;rw[if_neg hl];have r:=Gt ht hx (c.node a).l c [] lo a.toNat h hc hv hn jB (fun x Vr=>.inl (Vz x (by rw[<-p'];exact Vr))) (by rw[p'];exact T') e1;have Zy:fL c a=jT aV.name (nth t.nodes a.toNat).name t.ak 0 (-1):=by unfold fL;rw[p',hc]
 refine⟨r.post (Et _ _ _ _),?_,by rw[<-Zy];omega,by rw[<-Zy,<-p',<-hc];omega⟩;have VB:(nth c.aa.ak (fL c a).toNat)∈c.aa.ak\/(nth c.aa.ak (fL c a).toNat)=default:=by
  by_cases hi:(fL c a).toNat<c.aa.ak.length
  ·exact .inl (cV hi)
  ·exact .inr (II (Nat.le_of_not_lt hi))
 rcases VB with VB|VB
 ·exact(ht.fn _ (by rw[<-hc];exact VB)).1.ret
 ·rw[VB];decide
def T5(s:UX)(a b:Int):0<=my s a b/\my s a b<=4:=by
 unfold my;repeat' split
 all_goals omega
def MN(ht:aM t){c:Ck}{T:Int}(hl:c'.types.length=t.nodes.length)(h0:0<=a)(h1:a<t.nodes.length)(T':aI t.nodes lo (nth t.nodes a.toNat).l a.toNat)(r:gq t lo a.toNat c c')(hT:wq t (c'.types.set a.toNat T) a.toNat) :
  gq t lo (a.toNat+1) c (c'.note a T)/\nth (c'.note a T).types a.toNat=T:=by
 have hs:∀k,nth (c'.note a T).types k=if a.toNat=k/\k<c'.types.length then T else nth c'.types k:=fun k=>xg _ _ _ _
 refine⟨⟨fun k hk=>?_,?_⟩,by rw[hs,if_pos ⟨rfl,jB⟩]⟩
 ·have P':=T'.le;rw[hs,jN];exact r.tw k jB
 ·refine(r.all.aU ht T' jB fun i _ h2=>by rw[hs,jN]).join fun k g1 g2=>?_
  have:k=a.toNat:=jB;subst this;exact hT
theorem yi{t:aB}(ht:aM t):∀n,BQ t n
 |0=>fun c a lo h hc hv h0 h1 hn=>by omega
 |n+1=>fun c a lo h hc hv h0 h1 hn hr T' he=>by
  have hx:=yi ht n;have e0:=(fa (n+1) c a).e0 he;unfold ay at he ⊢;rw[jN]at he ⊢;simp only at he ⊢;have he:(cf (ay n) c a).1.e=0:=he;have p':c.node a=nth t.nodes a.toNat:=by unfold Ck.node;rw[hc]
  have sh:=(ht.shape a.toNat jB).1;have J':(cf (ay n) c a).1.types.length=t.nodes.length:=by rw[(CP (fa n) c a).types,h.types,hc]
  -- what is to be shown of the node itself
  suffices hs:gq t lo a.toNat c (cf (ay n) c a).1/\wq t ((cf (ay n) c a).1.types.set a.toNat (cf (ay n) c a).2) a.toNat/\0<=(cf (ay n) c a).2/\(cf (ay n) c a).2<=4 by obtain⟨s1,s2,s3⟩:=hs;obtain⟨g1,g2⟩:=MN ht J' h0 h1 T' s1 s2;exact⟨g1,g2,s3⟩
  have U7:∀T,nth ((cf (ay n) c a).1.types.set a.toNat T) a.toNat=T:=fun T=>by rw[xg,if_pos ⟨rfl,jB⟩]
  have V3:∀T k,k≠a.toNat->nth ((cf (ay n) c a).1.types.set a.toNat T) k=nth (cf (ay n) c a).1.types k:=fun T k hk=>by rw[xg,jN]
  have leaf:(nth t.nodes a.toNat).l=[]->∀c',c'.types=c.types->gq t lo a.toNat c c':=fun hl c' e=>by
   rw[hl]at T';have:lo=a.toNat:=by cases T';rfl
   subst this;exact⟨.same e,.none⟩
  have kid1:∀c0 x,bz c0->c0.aa=t->cO c0->c0.types=c.types->(nth t.nodes a.toNat).l=[x]->fk (bT t.nodes x)->(ay n c0 x).1.e=0->gq t lo a.toNat c (ay n c0 x).1/\nth (ay n c0 x).1.types x.toNat=(ay n c0 x).2/\x.toNat≠a.toNat:=fun c0 x g1 g2 g3 g4 hl Yt Vq=>by rw[hl]at T';obtain⟨c1,c2,c3,c4,c5⟩:=kQ T';obtain⟨r1,r2,_⟩:=hx c0 x lo g1 g2 g3 c1 c2 jB Yt c5 Vq;rw[c4];exact⟨r1.pre g4,r2,jB⟩
  have kd:∀i,c.aC a i=nth (nth t.nodes a.toNat).l i:=fun i=>by unfold Ck.aC;rw[p']
  have hkr:(nth t.nodes a.toNat).kind=1\/(nth t.nodes a.toNat).kind=2\/(nth t.nodes a.toNat).kind=3\/(nth t.nodes a.toNat).kind=4\/(nth t.nodes a.toNat).kind=5\/(nth t.nodes a.toNat).kind=6\/(nth t.nodes a.toNat).kind=7\/(nth t.nodes a.toNat).kind=8\/(nth t.nodes a.toNat).kind=9\/(nth t.nodes a.toNat).kind=19\/(nth t.nodes a.toNat).kind=20\/(nth t.nodes a.toNat).kind=21:=by have:fk (nth t.nodes a.toNat).kind:=hr;unfold fk cF at this;omega
  rcases hkr with k|k|k|k|k|k|k|k|k|k|k|k
  ·have e:cf (ay n) c a=(c,1):=by unfold cf;simp only;rw[p',k];rfl
   rw[e]at U7 ⊢;refine⟨leaf (sh.zero jB) _ rfl,?_,jE,jE⟩;constructor<;>intro k'<;>first|omega|exact U7 _
  ·have e:cf (ay n) c a=(c,2):=by unfold cf;simp only;rw[p',k];rfl
   rw[e]at U7 ⊢;refine⟨leaf (sh.zero jB) _ rfl,?_,jE,jE⟩;constructor<;>intro k'<;>first|omega|exact U7 _
  ·have e:cf (ay n) c a=(c,3):=by unfold cf;simp only;rw[p',k];rfl
   rw[e]at U7 ⊢;refine⟨leaf (sh.zero jB) _ rfl,?_,jE,jE⟩;constructor<;>intro k'<;>first|omega|exact U7 _
  ·have e:cf (ay n) c a=c.named a:=by unfold cf;simp only;rw[p',k];rfl
   rw[e]at U7 he ⊢;have XB:=KY hv he;refine⟨leaf (sh.zero jB) _ (yY c a),?_,jB,jB⟩;constructor<;>intro k'<;>first|omega|(rw[U7];exact XB)
  ·have e:cf (ay n) c a=((ay n (c.named a).1 (c.aC a 0)).1.ao (decide ((c.named a).2=4) && decide ((ay n (c.named a).1 (c.aC a 0)).2=1)) a,1):=by unfold cf;simp only;rw[p',k];rfl
   obtain⟨x,hl,Vq⟩:=sh.one jB;have Vi:c.aC a 0=x:=by rw[kd,hl];rfl
   rw[e]at U7 V3 he ⊢;rw[Vi]at U7 V3 he ⊢;obtain⟨b1,b2⟩:=jX he;simp only[Bool.and_eq_true,decide_eq_true_eq]at b1;have ev:=nn c a;obtain⟨r1,r2,r3⟩:=kid1 (c.named a).1 x (h.ev ev) (ev.aa.trans hc) (hv.ev ev) (yY c a) hl (.inl Vq) b2;refine⟨r1.post (l4 _ _ _),?_,jE,jE⟩;constructor<;>intro k'<;>first|omega|skip
   refine⟨U7 _,?_⟩;rw[hl];show nth (List.set _ _ _) x.toNat=1;rw[V3 _ _ r3];show nth (Ck.ao _ _ _).types x.toNat=1;rw[l4,r2];exact b1.2
  ·have e:cf (ay n) c a=((ay n c (c.aC a 0)).1.ao (decide ((ay n c (c.aC a 0)).2=3) || decide ((ay n c (c.aC a 0)).2=4)) a,1):=by unfold cf;simp only;rw[p',k];rfl
   obtain⟨x,hl,Vq⟩:=sh.one jB;have Vi:c.aC a 0=x:=by rw[kd,hl];rfl
   rw[e]at U7 V3 he ⊢;rw[Vi]at U7 V3 he ⊢;obtain⟨b1,b2⟩:=jX he;simp only[Bool.or_eq_true,decide_eq_true_eq]at b1;obtain⟨r1,r2,r3⟩:=kid1 c x h hc hv rfl hl (.inl Vq) b2;refine⟨r1.post (l4 _ _ _),?_,jE,jE⟩;constructor<;>intro k'<;>first|omega|skip
   refine⟨U7 _,?_⟩;rw[hl];show nth (List.set _ _ _) x.toNat=3\/nth (List.set _ _ _) x.toNat=4;rw[V3 _ _ r3];show nth (Ck.ao _ _ _).types x.toNat=3\/nth (Ck.ao _ _ _).types x.toNat=4;rw[l4,r2];exact b1
  ·have e:cf (ay n) c a=((ay n c (c.aC a 0)).1.ao (decide ((ay n c (c.aC a 0)).2=1)) a,1):=by unfold cf;simp only;rw[p',k];rfl
   obtain⟨x,hl,Vq⟩:=sh.one jB;have Vi:c.aC a 0=x:=by rw[kd,hl];rfl
   rw[e]at U7 V3 he ⊢;rw[Vi]at U7 V3 he ⊢;obtain⟨b1,b2⟩:=jX he;simp only[decide_eq_true_eq]at b1;obtain⟨r1,r2,r3⟩:=kid1 c x h hc hv rfl hl (.inl Vq) b2;refine⟨r1.post (l4 _ _ _),?_,jE,jE⟩;constructor<;>intro k'<;>first|omega|skip
   refine⟨U7 _,?_⟩;rw[hl];show nth (List.set _ _ _) x.toNat=1;rw[V3 _ _ r3];show nth (Ck.ao _ _ _).types x.toNat=1;rw[l4,r2];exact b1
  ·have e:cf (ay n) c a=((ay n c (c.aC a 0)).1.ao (decide ((ay n c (c.aC a 0)).2=2)) a,2):=by unfold cf;simp only;rw[p',k];rfl
   obtain⟨x,hl,Vq⟩:=sh.one jB;have Vi:c.aC a 0=x:=by rw[kd,hl];rfl
   rw[e]at U7 V3 he ⊢;rw[Vi]at U7 V3 he ⊢;obtain⟨b1,b2⟩:=jX he;simp only[decide_eq_true_eq]at b1;obtain⟨r1,r2,r3⟩:=kid1 c x h hc hv rfl hl (.inl Vq) b2;refine⟨r1.post (l4 _ _ _),?_,jE,jE⟩;constructor<;>intro k'<;>first|omega|skip
   refine⟨U7 _,?_⟩;rw[hl];show nth (List.set _ _ _) x.toNat=2;rw[V3 _ _ r3];show nth (Ck.ao _ _ _).types x.toNat=2;rw[l4,r2];exact b1
  ·have e:cf (ay n) c a=((ay n (ay n c (c.aC a 0)).1 (c.aC a 1)).1.ao (!decide (my (c.node a).name (ay n c (c.aC a 0)).2 (ay n (ay n c (c.aC a 0)).1 (c.aC a 1)).2=0)) a,my (c.node a).name (ay n c (c.aC a 0)).2 (ay n (ay n c (c.aC a 0)).1 (c.aC a 1)).2):=by unfold cf;simp only;rw[p',k];rfl
   obtain⟨x,y,hl,Vq,Ye⟩:=sh.two jB;have Vi:c.aC a 0=x:=by rw[kd,hl];rfl
   have Vs:c.aC a 1=y:=by rw[kd,hl];rfl
   rw[e]at U7 V3 he ⊢;rw[Vi,Vs]at U7 V3 he ⊢;obtain⟨b1,b2⟩:=jX he;simp only[Bool.not_eq_true',decide_eq_false_iff_not]at b1;have ev:=fa n c x;have b0:(ay n c x).1.e=0:=(fa n _ y).e0 b2;rw[hl]at T';obtain⟨c1,c2,c3,c4,c5,c6⟩:=kV T';obtain⟨d1,d2,d3,d4,d5⟩:=kQ c6;obtain⟨r1,r2,_⟩:=hx c x lo h hc hv c1 c2 jB (.inl Vq) c5 b0;obtain⟨q1,q2,_⟩:=hx (ay n c x).1 y (x.toNat+1) (h.ev ev) (ev.aa.trans hc) (hv.ev ev) d1 d2 jB (.inl Ye) d5 b2;have rr:=r1.seq ht (aI.oM c1 c2 c5) jB jB q1;rw[d4];refine⟨rr.post (l4 _ _ _),?_,T5 _ _ _⟩;rw[d4]at U7 V3;rw[<-d4];rw[<-d4]at U7 V3;have ex:nth ((ay n (ay n c x).1 y).1.types) x.toNat=(ay n c x).2:=by rw[q1.tw _ jB,r2]
   constructor<;>intro k'<;>first|omega|skip
   have g0:=U7 (my (c.node a).name (ay n c x).2 (ay n (ay n c x).1 y).2);have g1:=V3 (my (c.node a).name (ay n c x).2 (ay n (ay n c x).1 y).2) x.toNat jB;have g2:=V3 (my (c.node a).name (ay n c x).2 (ay n (ay n c x).1 y).2) y.toNat jB;simp only[l4]at g0 g1 g2 ⊢;rw[hl];show _=my _ (nth _ x.toNat) (nth _ y.toNat)/\_;rw[g0,g1,g2,ex,q2,<-p'];exact⟨rfl,b1⟩
  ·have e:cf (ay n) c a=(c,1):=by unfold cf;simp only;rw[p',k];rfl
   rw[e]at U7 ⊢;refine⟨leaf (sh.zero jB) _ rfl,?_,jE,jE⟩;constructor<;>intro k'<;>first|omega|exact U7 _
  ·have e:cf (ay n) c a=((ay n c (c.aC a 0)).1.ao (decide ((ay n c (c.aC a 0)).2=1)) a,4):=by unfold cf;simp only;rw[p',k];rfl
   obtain⟨x,hl,Vq⟩:=sh.one jB;have Vi:c.aC a 0=x:=by rw[kd,hl];rfl
   rw[e]at U7 he ⊢;rw[Vi]at U7 he ⊢;obtain⟨b1,b2⟩:=jX he;obtain⟨r1,r2,r3⟩:=kid1 c x h hc hv rfl hl (.inl Vq) b2;refine⟨r1.post (l4 _ _ _),?_,jE,jE⟩;constructor<;>intro k'<;>first|omega|exact U7 _
  ·have e:cf (ay n) c a=jr (ay n) c a:=by unfold cf;simp only;rw[p',k];rfl
   rw[e]at he ⊢;obtain⟨r1,r2,r3⟩:=UN ht hx h hc hv h0 h1 jB k T' he;refine⟨r1,?_,r2⟩;constructor<;>intro k'<;>first|omega|exact r3
def gq.skip{c:Ck}(hk:fu (bT t.nodes a)\/bT t.nodes a=18)(Zz:(nth t.nodes a.toNat).kind=15\/(nth t.nodes a.toNat).kind=16\/(nth t.nodes a.toNat).kind=10->((nth t.nodes a.toNat).kind=10\/nth c'.types (nth (nth t.nodes a.toNat).l 0).toNat=2)/\1<=nth c'.types (nth (nth t.nodes a.toNat).l 0).toNat/\nth c'.types (nth (nth t.nodes a.toNat).l 0).toNat<=4)(r:gq t lo a.toNat c c'):gq t lo (a.toNat+1) c c':=by
 refine⟨r.tw.mono jl jB,fun k h1 h2=>?_⟩;by_cases h:k<a.toNat
 ·exact r.all k h1 h
 ·have:k=a.toNat:=jB;subst this;have hk:fu (nth t.nodes a.toNat).kind\/(nth t.nodes a.toNat).kind=18:=hk;unfold fu at hk;constructor<;>intro k'<;>first|omega|exact(Zz jB).1.resolve_left jB|exact(Zz jB).2
def Ey(t:aB)(n:Nat):Prop:=∀(c:Ck) (a:Int) (lo:Nat),bz c->c.aa=t->cO c->c.e=0->0<=a->a<t.nodes.length->a.toNat<n->fu (bT t.nodes a)->aI t.nodes lo (nth t.nodes a.toNat).l a.toNat->(bF n c a).e=0->
 gq t lo (a.toNat+1) c (bF n c a)/\cO (bF n c a)
def Sv.e0{c:Ck}(s:Sv c c')(h:c'.e=0):c.e=0:=Classical.byContradiction fun e=>s.err e h
theorem CX{t:aB}(ht:aM t){st:Ck->Int->Ck}{C:Int->Prop}{n:Nat}(hs:∀c a,bz c->c.e=0->Sv c (st c a))
  (O':∀(c:Ck) (a:Int) (lo:Nat),bz c->c.aa=t->cO c->c.e=0->0<=a->a<t.nodes.length->a.toNat<n->C (bT t.nodes a)->aI t.nodes lo (nth t.nodes a.toNat).l a.toNat->(st c a).e=0->gq t lo (a.toNat+1) c (st c a)/\cO (st c a)) :
  ∀(L:UU) (c:Ck) (lo hi:Nat),bz c->c.aa=t->cO c->hi<=n->hi<=t.nodes.length->(∀x∈L,C (bT t.nodes x))->aI t.nodes lo L hi->(dh st c L).e=0->gq t lo hi c (dh st c L)/\cO (dh st c L)
 |[],c,lo,hi,h,hc,hv,hn,hl,hr,T',he=>by cases T';unfold dh;exact⟨⟨.refl _ _ _,.none⟩,hv⟩
 |a::L,c,lo,hi,h,hc,hv,hn,hl,hr,T',he=>by have e0:=(rX hs (a::L) c h).e0 he;unfold dh at he ⊢;rw[if_pos e0]at he ⊢;obtain⟨c1,c2,c3,c4,c5,c6⟩:=kV T';have s:=hs c a h e0;have e1:=(rX hs L _ s.inv).e0 he;obtain⟨r1,v1⟩:=O' c a lo h hc hv e0 c1 c2 jB (hr a jE) c5 e1;obtain⟨r2,v2⟩:=CX ht hs O' L _ _ hi s.inv (s.aa.trans hc) v1 hn hl (fun x hx=>hr x (by simp[hx])) c6 he;exact⟨r1.seq ht (aI.oM c1 c2 c5) jB jB r2,v2⟩
def JN(ht:aM t)(O':Ey t n)(c:Ck)(a:Int)(lo:Nat)(h:bz c)(hc:c.aa=t)(hv:cO c)(h0:0<=a)(h1:a<t.nodes.length)(hn:a.toNat<=n)(hk:bT t.nodes a=18)(T':aI t.nodes lo (nth t.nodes a.toNat).l a.toNat)(he:(eH (bF n) c a).e=0) :
  gq t lo (a.toNat+1) c (eH (bF n) c a)/\cO (eH (bF n) c a):=by
 have sv:=pE (mD n) h a;have p':c.node a=nth t.nodes a.toNat:=by unfold Ck.node;rw[hc]
 have hb:=(ht.shape a.toNat jB).1.block hk;have ev:=pO c a;obtain⟨r,_⟩:=CX ht (mD n) (C:=fu) O' (c.node a).l (c.af a) lo a.toNat (h.ev ev) (ev.aa.trans hc) (hv.ev ev) hn jB (fun x hx=>hb x (by rw[<-p'];exact hx)) (by rw[p'];exact T') he;have r:gq t lo a.toNat c (eH (bF n) c a):=gq.post (b:=dh (bF n) (c.af a) (c.node a).l) (gq.pre (a:=c) (b:=c.af a) rfl r) rfl;have Yu:(nth t.nodes a.toNat).kind=18:=hk;refine⟨r.skip (.inr hk) (fun h=>jB),?_⟩;unfold cO;rw[sv.2];exact hv
variable{c0:Ck}{x:Int}
def wW(ht:aM t){c:Ck}(h:bz c0)(hc:c0.aa=t)(hv:cO c0)(XB:c0.types=c.types)(hn:a.toNat<=n)(hl:(nth t.nodes a.toNat).l=[x])(hx:fk (bT t.nodes x))(T':aI t.nodes lo (nth t.nodes a.toNat).l a.toNat)(he:(ay n c0 x).1.e=0) :
  gq t lo a.toNat c (ay n c0 x).1/\0<=(ay n c0 x).2/\(ay n c0 x).2<=4/\nth (ay n c0 x).1.types x.toNat=(ay n c0 x).2:=by
 rw[hl]at T';obtain⟨c1,c2,c3,c4,c5⟩:=kQ T';obtain⟨r1,r2,r3⟩:=yi ht n c0 x lo h hc hv c1 c2 jB hx c5 he;rw[c4];exact⟨r1.pre XB,r3.1,r3.2,r2⟩
def O1(ht:aM t){c:Ck}{y:Int}(h:bz c0)(hc:c0.aa=t)(hv:cO c0)(XB:c0.types=c.types)(hn:a.toNat<=n)(hl:(nth t.nodes a.toNat).l=[x,y])(hx:cF (bT t.nodes x))(hy:cF (bT t.nodes y))(T':aI t.nodes lo (nth t.nodes a.toNat).l a.toNat)(Vj:a.toNat<=t.nodes.length)(he:(ay n (ay n c0 x).1 y).1.e=0) :
  gq t lo a.toNat c (ay n (ay n c0 x).1 y).1:=by
 rw[hl]at T';obtain⟨c1,c2,c3,c4,c5,c6⟩:=kV T';obtain⟨d1,d2,d3,d4,d5⟩:=kQ c6;have ev:=fa n c0 x;obtain⟨r1,_⟩:=yi ht n c0 x lo h hc hv c1 c2 jB (.inl hx) c5 ((fa n _ y).e0 he);obtain⟨q1,_⟩:=yi ht n (ay n c0 x).1 y (x.toNat+1) (h.ev ev) (ev.aa.trans hc) (hv.ev ev) d1 d2 jB (.inl hy) d5 he;rw[d4];exact(r1.seq ht (aI.oM c1 c2 c5) jB jB q1).pre XB
def xe{c:Ck}{p:Prop}[Decidable p]{e:Int}(he:e≠0)(h:(if p then c.aA e a else c).e=0):¬p/\(if p then c.aA e a else c)=c:=by
 split at h
 ·exact(qE he h).elim
 ·rename_i hp;exact⟨hp,if_neg hp⟩
theorem Kb{t:aB}(ht:aM t):∀n,Ey t n
 |0=>fun c a lo h hc hv e0 h0 h1 hn=>by omega
 |n+1=>fun c a lo h hc hv e0 h0 h1 hn hr T' he=>by
  have hs:=Kb ht n;have p':(c.af a).node a=nth t.nodes a.toNat:=by unfold Ck.node;show nth c.aa.nodes _=_;rw[hc]
  have sh:=(ht.shape a.toNat jB).1;have kd:∀i,(c.af a).aC a i=nth (nth t.nodes a.toNat).l i:=fun i=>by unfold Ck.aC;rw[p']
  have ev:=pO c a;have h':=h.ev ev;have VV:=ev.aa.trans hc;have Ve:=hv.ev ev;suffices hsf:gq t lo a.toNat c (bF (n+1) c a)/\cO (bF (n+1) c a)/\((nth t.nodes a.toNat).kind=15\/(nth t.nodes a.toNat).kind=16\/(nth t.nodes a.toNat).kind=10->((nth t.nodes a.toNat).kind=10\/nth (bF (n+1) c a).types (nth (nth t.nodes a.toNat).l 0).toNat=2)/\1<=nth (bF (n+1) c a).types (nth (nth t.nodes a.toNat).l 0).toNat/\nth (bF (n+1) c a).types (nth (nth t.nodes a.toNat).l 0).toNat<=4) from⟨hsf.1.skip (.inl hr) hsf.2.2,hsf.2.1⟩
  have hkr:(nth t.nodes a.toNat).kind=10\/(nth t.nodes a.toNat).kind=11\/(nth t.nodes a.toNat).kind=12\/(nth t.nodes a.toNat).kind=13\/(nth t.nodes a.toNat).kind=14\/(nth t.nodes a.toNat).kind=17\/(nth t.nodes a.toNat).kind=15\/(nth t.nodes a.toNat).kind=16:=by have:fu (nth t.nodes a.toNat).kind:=hr;unfold fu at this;omega
  rcases hkr with k|k|k|k|k|k|k
  ·have e:bF (n+1) c a=oz (ay n) (c.af a) a:=by unfold bF;simp only;rw[p',k];rfl
   obtain⟨x,hl,Yt⟩:=sh.right jB;have Vi:(c.af a).aC a 0=x:=by rw[kd,hl];rfl
   rw[e]at he ⊢;rw[sW]at he ⊢;have he:(dX (ay n) (c.af a) a).e=0:=he;obtain⟨_,q1⟩:=xe jC he;have q1:dX (ay n) (c.af a) a=jn (ay n) (c.af a) a:=q1;rw[q1]at he;obtain⟨_,q2⟩:=xe jC he;have q2:jn (ay n) (c.af a) a=iK (ay n) (c.af a) a:=q2;rw[q2]at he;unfold iK at he;rw[Vi]at he;obtain⟨b1,b2⟩:=jX he;simp only[Bool.not_eq_true',decide_eq_false_iff_not]at b1;obtain⟨r1,r2,r3,r4⟩:=wW (c:=c) ht h' VV Ve rfl jB hl Yt T' b2;have XB:(dX (ay n) (c.af a) a).types=(ay n (c.af a) x).1.types:=by rw[q1,q2];unfold iK;rw[Vi,l4]
   refine⟨r1.post XB,fun v YS=>?_,fun _=>⟨.inl k,by rw[hl];show 1<=nth (dX (ay n) (c.af a) a).types x.toNat/\nth (dX (ay n) (c.af a) a).types x.toNat<=4;rw[XB,r4];omega⟩⟩
   have YS:v∈(dX (ay n) (c.af a) a).vars++[(⟨((c.af a).node a).name,(ay n (c.af a) ((c.af a).aC a 0)).2,(dX (ay n) (c.af a) a).size⟩:ba)]:=YS;rcases List.mem_append.1 YS with hm|hm
   ·rw[(xw (fa n) (c.af a) a).vars]at hm;exact Ve v hm
   ·rw[List.mem_singleton.1 hm];show 1<=(ay n (c.af a) ((c.af a).aC a 0)).2/\(ay n (c.af a) ((c.af a).aC a 0)).2<=4;rw[Vi];omega
  ·have e:bF (n+1) c a=(ay n ((c.af a).named a).1 ((c.af a).aC a 0)).1.ao (decide (((c.af a).named a).2=(ay n ((c.af a).named a).1 ((c.af a).aC a 0)).2)) a:=by unfold bF;simp only;rw[p',k];rfl
   obtain⟨x,hl,Yt⟩:=sh.right jB;have Vi:(c.af a).aC a 0=x:=by rw[kd,hl];rfl
   rw[e]at he ⊢;rw[Vi]at he ⊢;obtain⟨b1,b2⟩:=jX he;have en:=nn (c.af a) a;obtain⟨r1,_⟩:=wW (c:=c) ht (h'.ev en) (en.aa.trans VV) (Ve.ev en) (yY _ _) jB hl Yt T' b2;exact⟨r1.post (l4 _ _ _),(Ve.ev en).ev ((fa n _ _).trans (jd _ _ _)),fun h=>jB⟩
  ·have e:bF (n+1) c a=(ay n (ay n ((c.af a).named a).1 ((c.af a).aC a 0)).1 ((c.af a).aC a 1)).1.ao (decide (((c.af a).named a).2=4) && decide ((ay n ((c.af a).named a).1 ((c.af a).aC a 0)).2=1) && decide ((ay n (ay n ((c.af a).named a).1 ((c.af a).aC a 0)).1 ((c.af a).aC a 1)).2=1)) a:=by unfold bF;simp only;rw[p',k];rfl
   obtain⟨x,y,hl,Vq,Ye⟩:=sh.two jB;have Vi:(c.af a).aC a 0=x:=by rw[kd,hl];rfl
   have Vs:(c.af a).aC a 1=y:=by rw[kd,hl];rfl
   rw[e]at he ⊢;rw[Vi,Vs]at he ⊢;obtain⟨b1,b2⟩:=jX he;have en:=nn (c.af a) a;have r1:=O1 (c:=c) ht (h'.ev en) (en.aa.trans VV) (Ve.ev en) (yY _ _) jB hl Vq Ye T' jB b2;exact⟨r1.post (l4 _ _ _),(Ve.ev en).ev (((fa n _ _).trans (fa n _ _)).trans (jd _ _ _)),fun h=>jB⟩
  ·have e:bF (n+1) c a=(ay n (c.af a) ((c.af a).aC a 0)).1:=by unfold bF;simp only;rw[p',k];rfl
   obtain⟨x,hl,ZV⟩:=sh.tS k;have Vi:(c.af a).aC a 0=x:=by rw[kd,hl];rfl
   rw[e]at he ⊢;rw[Vi]at he ⊢;obtain⟨r1,_⟩:=wW (c:=c) ht h' VV Ve rfl jB hl (by rw[ZV];unfold fk;omega) T' he;exact⟨r1,Ve.ev (fa n _ _),fun h=>jB⟩
  ·have e:bF (n+1) c a=(ay n (c.af a) ((c.af a).aC a 0)).1.ao (!decide ((ay n (c.af a) ((c.af a).aC a 0)).2=4)) a:=by unfold bF;simp only;rw[p',k];rfl
   obtain⟨x,hl,Vq⟩:=sh.one jB;have Vi:(c.af a).aC a 0=x:=by rw[kd,hl];rfl
   rw[e]at he ⊢;rw[Vi]at he ⊢;obtain⟨b1,b2⟩:=jX he;obtain⟨r1,_⟩:=wW (c:=c) ht h' VV Ve rfl jB hl (.inl Vq) T' b2;exact⟨r1.post (l4 _ _ _),Ve.ev ((fa n _ _).trans (jd _ _ _)),fun h=>jB⟩
  ·have e:bF (n+1) c a=j5 (ay n) (c.af a) a:=by unfold bF;simp only;rw[p',k];rfl
   rw[e]at he ⊢;unfold j5 at he ⊢;rw[p']at he ⊢;simp only at he ⊢;split at he
   ·exact(qE jC he).elim
   rename_i hf;rw[if_neg hf];rcases sh.ret k with hl|⟨x,hl,Vq⟩
   ·rw[hl];rw[if_neg jC];rw[hl]at T';have:lo=a.toNat:=by cases T';rfl
    subst this;exact⟨⟨.same rfl,.none⟩,Ve,fun h=>jB⟩
   ·have Vi:(c.af a).aC a 0=x:=by rw[kd,hl];rfl
    have WB:(nth t.nodes a.toNat).l.length=1:=by rw[hl];rfl
    rw[if_pos WB]at he ⊢;rw[Vi]at he ⊢;obtain⟨b1,b2⟩:=jX he;obtain⟨r1,_⟩:=wW (c:=c) ht h' VV Ve rfl jB hl (.inl Vq) T' b2;exact⟨r1.post (l4 _ _ _),Ve.ev ((fa n _ _).trans (jd _ _ _)),fun h=>jB⟩
  ·have e:bF (n+1) c a=dh (eH (bF n)) ((ay n (c.af a) ((c.af a).aC a 0)).1.ao (decide ((ay n (c.af a) ((c.af a).aC a 0)).2=2)) a) (((c.af a).node a).l.drop 1):=by
    unfold bF;simp only;rw[p'];rcases k with k|k<;>rw[k]<;>rfl
   have Y2:∃x L,(nth t.nodes a.toNat).l=x::L/\cF (bT t.nodes x)/\∀y∈L,bT t.nodes y=18:=by
    rcases k with k|k
    ·obtain⟨x,y,hx,hy,hl|⟨z,hl,hz⟩⟩:=sh.lC k
     ·exact⟨x,[y],hl,hx,fun u hu=>by rw[List.mem_singleton.1 hu];exact hy⟩
     ·exact⟨x,[y,z],hl,hx,fun u hu=>by
       rcases List.mem_cons.1 hu with rfl|hu
       ·exact hy
       ·rw[List.mem_singleton.1 hu];exact hz⟩
    ·obtain⟨x,y,hl,hx,hy⟩:=sh.dP k;exact⟨x,[y],hl,hx,fun u hu=>by rw[List.mem_singleton.1 hu];exact hy⟩
   obtain⟨x,L,hl,Vq,hL⟩:=Y2;have Vi:(c.af a).aC a 0=x:=by rw[kd,hl];rfl
   rw[e]at he ⊢;rw[p',hl,Vi]at he ⊢;have he:(dh (eH (bF n)) ((ay n (c.af a) x).1.ao (decide ((ay n (c.af a) x).2=2)) a) L).e=0:=he;show gq t lo a.toNat c (dh (eH (bF n)) ((ay n (c.af a) x).1.ao (decide ((ay n (c.af a) x).2=2)) a) L)/\cO (dh (eH (bF n)) ((ay n (c.af a) x).1.ao (decide ((ay n (c.af a) x).2=2)) a) L)/\((nth t.nodes a.toNat).kind=15\/(nth t.nodes a.toNat).kind=16\/(nth t.nodes a.toNat).kind=10->((nth t.nodes a.toNat).kind=10\/nth (dh (eH (bF n)) ((ay n (c.af a) x).1.ao (decide ((ay n (c.af a) x).2=2)) a) L).types (nth (x::L) 0).toNat=2)/\1<=nth (dh (eH (bF n)) ((ay n (c.af a) x).1.ao (decide ((ay n (c.af a) x).2=2)) a) L).types (nth (x::L) 0).toNat/\nth (dh (eH (bF n)) ((ay n (c.af a) x).1.ao (decide ((ay n (c.af a) x).2=2)) a) L).types (nth (x::L) 0).toNat<=4);have ex:=(fa n (c.af a) x).trans (jd _ (decide ((ay n (c.af a) x).2=2)) a);have Wb:=h'.ev ex;have hsb:∀(q:Ck) b,bz q->q.e=0->Sv q (eH (bF n) q b):=fun q b hq _=>(pE (mD n) hq b).1
   have e1:=(rX hsb L _ Wb).e0 he;obtain⟨b1,b2⟩:=jX e1;rw[hl]at T';obtain⟨c1,c2,c3,c4,c5,c6⟩:=kV T';obtain⟨r1,r1b,_⟩:=yi ht n (c.af a) x lo h' VV Ve c1 c2 jB (.inl Vq) c5 b2;obtain⟨r2,v2⟩:=CX ht hsb (C:=fun k=>k=18) (n:=n) (fun q b l g1 g2 g3 _ g5 g6 g7 g8 g9 g10=>JN ht hs q b l g1 g2 g3 g5 g6 jB g8 g9 g10) L _ (x.toNat+1) a.toNat Wb (ex.aa.trans VV) (Ve.ev ex) jB jB hL c6 he;exact⟨((gq.pre (a:=c) (b:=c.af a) rfl r1).post (l4 _ _ _)).seq ht (aI.oM c1 c2 c5) jB jB r2,v2,fun _=>by show(_\/nth _ x.toNat=2)/\1<=nth _ x.toNat/\nth _ x.toNat<=4;rw[r2.tw x.toNat (.inl jB),l4,r1b];have:=of_decide_eq_true b1;omega⟩
theorem JA{t:aB}(body:Int):∀(ps:List bp) (c:Ck) (i:Int),cO c->(∀p∈ps,1<=p.ty/\p.ty<=4)->cO (eD body c ps i)/\(eD body c ps i).types=c.types/\((eD body c ps i).e=0->c.e=0)
 |[],c,i,h,hp=>by unfold eD;exact⟨h,rfl,id⟩
 |p::ps,c,i,h,hp=>by
  have fin:∀c1:Ck,Ev c c1->c1.types=c.types->cO (eD body (mN c1 ⟨p.name,p.ty,i⟩) ps (i+1))/\(eD body (mN c1 ⟨p.name,p.ty,i⟩) ps (i+1)).types=c.types/\((eD body (mN c1 ⟨p.name,p.ty,i⟩) ps (i+1)).e=0->c.e=0):=fun c1 s e=>by
   obtain⟨a,b,d⟩:=JA (t:=t) body ps (mN c1 ⟨p.name,p.ty,i⟩) (i+1) (fun v hv=>by
    have hv:v∈c1.vars++[(⟨p.name,p.ty,i⟩:ba)]:=hv;rcases List.mem_append.1 hv with hv|hv
    ·exact h.ev s v hv
    ·rw[List.mem_singleton.1 hv];exact hp p jE) (fun q hq=>hp q (by simp[hq]))
   exact⟨a,b.trans e,fun hh=>s.e0 (d hh)⟩
  unfold eD;simp only;split
  ·exact fin _ (nR c jC body) (Dg _ _ _)
  ·exact fin _ (.refl c) rfl
def KS(ht:aM t){c:Ck}(h:fM c)(hc:c.aa=t)(hk:k<t.ak.length)(Vb:c.aJ.length<6)(T':aI t.nodes lo (nth t.nodes (nth t.ak k).body.toNat).l (nth t.ak k).body.toNat)(he:(gf c k).e=0) :
  gq t lo ((nth t.ak k).body.toNat+1) c (gf c k)/\c.e=0:=by
 have Vn:k<c.aa.ak.length:=by rw[hc];exact hk
 have hp3:=h.aa.fn _ (cV Vn);have Xi:bz { c with fn:=(k:Int),vars:=[],more:=[],size:=0 }:=⟨h.aa,h.types,h.slots,h.ak,by show c.aJ.length<=6;omega,by show(0:Int)<=k;omega,by show(k:Int)<(c.aa.ak.length:Int);omega,by show((0:Nat):Int)<=0;omega,by show(0:Int)<=25;omega,fun _=>by show(0:Int)<=24;omega⟩;obtain⟨a,b,d⟩:=xN (nth c.aa.ak k).body (nth c.aa.ak k).params _ 0 Xi (by show(0:Int)+_<=20;omega);obtain⟨a',b',d'⟩:=JA (t:=t) (nth c.aa.ak k).body (nth c.aa.ak k).params { c with fn:=(k:Int),vars:=[],more:=[],size:=0 } 0 (fun v hv=>by simp at hv) hp3.1.ps;have Wa:=ou ht hk;have X2:=ht.body _ (cV hk);unfold gf at he ⊢;simp only at he ⊢;rw[hc]at he ⊢;rw[hc]at a b d a' b' d';split at he
 ·rename_i e1;rw[if_pos e1];obtain⟨r,_⟩:=JN ht (Kb ht t.nodes.length) _ (nth t.ak k).body lo a (b.trans (by rfl)) a' Wa.1 Wa.2 (by have:=Wa.2;have:=Wa.1;omega) X2 T' he;have q:=gq.pre (a:=c) b' r;exact⟨⟨fun k hk=>q.tw k hk,q.all⟩,d' e1⟩
 ·rename_i e1;exact(e1 he).elim
theorem DM{t:aB}(ht:aM t):∀(n i lo:Nat) (c:Ck),fM c->c.aa=t->c.aJ.length=i->i+n=t.ak.length->aI t.nodes lo ((t.ak.drop i).map (·.body)) t.nodes.length->(fS c i n).e=0->
  gq t lo t.nodes.length c (fS c i n)/\(fS c i n).aa=t/\fM (fS c i n)/\(fS c i n).aJ.length=t.ak.length
 |0,i,lo,c,h,hc,hs,hi,T',he=>by
  unfold fS;rw[List.drop_eq_nil_of_le jB]at T';have:lo=t.nodes.length:=by cases T';rfl
  subst this;exact⟨⟨.refl _ _ _,.none⟩,hc,h,jB⟩
 |n+1,i,lo,c,h,hc,hs,hi,T',he=>by
  have h6:=ht.ak;unfold fS at he ⊢;by_cases e0:c.e=0
  ·rw[if_pos e0]at he ⊢;have hk:i<t.ak.length:=jB;rw[kX hk]at T';obtain⟨c1,c2,c3,c4,c5,c6⟩:=kV (a:=(nth t.ak i).body) T';obtain⟨f1,f2,f3⟩:=Ac h (by rw[hc];exact hk) (by omega:c.aJ.length<6);have e1:(gf c i).e=0:=by
    cases n with
    |zero=>unfold fS at he;exact he
    |succ m=>
     unfold fS at he;split at he
     ·assumption
     ·exact he
   obtain⟨r1,_⟩:=KS ht h hc hk jB c5 e1;obtain⟨r2,q1,q2,q3⟩:=DM ht n (i+1) ((nth t.ak i).body.toNat+1) (gf c i) f1 (f2.trans hc) jB jB c6 he;exact⟨r1.seq ht (aI.oM c1 c2 c5) jB jB r2,q1,q2,q3⟩
  ·rw[if_neg e0]at he;exact(e0 he).elim
structure nC(p:ah):Prop where
 aa:aM p.aa
 types:p.types.length=p.aa.nodes.length
 slots:p.slots.length=p.aa.nodes.length
 fn:p.fn.length=p.aa.nodes.length
 size:p.size.length=p.aa.ak.length
 ty:gg p.aa p.types 0 p.aa.nodes.length
def DH(ht:aM t):fM (iV (jM t))/\(iV (jM t)).aa=t/\(iV (jM t)).aJ=[]:=by
 have ev:=Jf (jM t);refine⟨⟨by rw[ev.aa];exact ht,?_,?_,?_⟩,ev.aa,ev.aJ⟩
 ·rw[ev.types,ev.aa];show(t.nodes.map _).length=t.nodes.length;simp
 ·rw[ev.slots,ev.aa];show(t.nodes.map _).length=t.nodes.length;simp
 ·rw[ev.ak,ev.aa];show(t.nodes.map _).length=t.nodes.length;simp
def Am(ht:aM t)(he:(gm t).2.2=0):nC (gm t).1/\(gm t).1.aa=t:=by
 unfold gm at he ⊢;split at he
 ·rename_i h;exact(h he).elim
 rename_i h;rw[if_neg h];have h:(ik t).e=0:=jB;obtain⟨i1,i2,i3⟩:=DH ht;obtain⟨r,q1,q2,q3⟩:=DM ht t.ak.length 0 0 (iV (jM t)) i1 i2 (by rw[i3];rfl) jB (by rw[List.drop_zero];exact ht.chain) h;refine⟨⟨q2.aa,q2.types,q2.slots,q2.ak,?_,?_⟩,q1⟩
 ·show(ik t).aJ.length=(ik t).aa.ak.length;have e:(ik t).aa=t:=q1;rw[e];exact q3
 ·show gg (ik t).aa (ik t).types 0 (ik t).aa.nodes.length;have e:(ik t).aa=t:=q1;rw[e];exact r.all
def GB{s:UX}(he:(fI s).2.2=0):nC (fI s).1:=by
 unfold fI at he ⊢;split at he
 ·rename_i h;exact(h he).elim
 rename_i h;rw[if_neg h];have h:(gu s).2.2=0:=jB;simp only at he ⊢;split at he
 ·cases he
 rename_i h2;split at he
 ·rename_i h3;exact(h3 he).elim
 rename_i h3;rw[if_neg h2,if_neg h3];exact(Am (tp h) jB).1
def ju(k:Int):Prop:=k=4\/k=5\/k=10\/k=11\/k=12
def dr(c:Ck):Prop:=0<=c.size/\∀v∈c.vars,0<=v.slot/\v.slot<c.size
structure fG(t:aB)(lo hi:Nat)(c c':Ck):Prop where
 sw:∀k,(k<lo\/hi<=k)->nth c'.slots k=nth c.slots k
 all:∀k,lo<=k->k<hi->ju (nth t.nodes k).kind->0<=nth c'.slots k/\nth c'.slots k<c'.size
 size:c.size<=c'.size
def fG.post{a c:Ck}(h:fG t lo hi a b)(e:c.slots=b.slots)(z:c.size=b.size):fG t lo hi a c:=⟨fun k hk=>by rw[e];exact h.sw k hk,fun k h1 h2 h3=>by rw[e,z];exact h.all k h1 h2 h3,by rw[z];exact h.size⟩
def fG.pre{a c:Ck}(e:b.slots=a.slots)(z:b.size=a.size)(h:fG t lo hi b c):fG t lo hi a c:=⟨fun k hk=>by rw[<-e];exact h.sw k hk,h.all,by rw[<-z];exact h.size⟩
def fG.refl(t:aB)(lo:Nat)(c:Ck):fG t lo lo c c:=⟨fun _ _=>rfl,fun k h1 h2=>jB,Int.le_refl _⟩
def fG.seq{a c:Ck}(h0:lo<=mid)(h1:mid<=hi)(h:fG t lo mid a b)(k:fG t mid hi b c):fG t lo hi a c:=by
 have:=k.size;refine⟨fun i Wx=>(k.sw i jB).trans (h.sw i jB),fun i g1 g2 g3=>?_,by have:=h.size;omega⟩;by_cases e:i<mid
 ·rw[k.sw i (.inl e)];have:=h.all i g1 e g3;omega
 ·exact k.all i jB g2 g3
def fG.node{c:Ck}(h:fG t lo n c c')(hn:ju (nth t.nodes n).kind->0<=nth c'.slots n/\nth c'.slots n<c'.size):fG t lo (n+1) c c':=
 ⟨fun k hk=>h.sw k jB,fun k h1 h2 h3=>by
  by_cases e:k<n
  ·exact h.all k h1 e h3
  ·have:k=n:=jB;subst this;exact hn h3,h.size⟩
def KG(c:Ck)(e a:Int):(c.aA e a).slots=c.slots/\(c.aA e a).size=c.size:=by unfold Ck.aA;split<;>exact⟨rfl,rfl⟩
def wa(c:Ck)(b:Bool)(a:Int):(c.ao b a).slots=c.slots/\(c.ao b a).size=c.size:=by unfold Ck.ao;split;exact⟨rfl,rfl⟩;exact KG _ _ _
theorem fG.ao{t:aB}{lo hi:Nat}{a c:Ck}{b:Bool}{x:Int}(h:fG t lo hi a c):fG t lo hi a (c.ao b x):=h.post (wa c b x).1 (wa c b x).2
def dr.ev{c:Ck}(h:dr c)(s:Ev c c'):dr c':=by unfold dr;rw[s.vars,s.size];exact h
def DG{c:Ck}(h:dr c)(hn:a.toNat=n)(hl:n<c.slots.length)(he:(c.named a).1.e=0):(∀k,k≠n->nth (c.named a).1.slots k=nth c.slots k)/\0<=nth (c.named a).1.slots n/\nth (c.named a).1.slots n<c.size:=by
 unfold Ck.named at he ⊢;split
 ·rename_i hf;rw[if_pos hf]at he;exact(qE jC he).elim
 ·rename_i hf;have hv:nth c.vars (c.find (c.node a).name).toNat∈c.vars:=by
   rcases vy ba.name (c.node a).name c.vars 0 jB with⟨h1,_⟩|h1
   ·exact(hf (by show jx ba.name (c.node a).name c.vars 0<0;rw[h1];decide)).elim
   ·exact cV (by show(jx ba.name (c.node a).name c.vars 0).toNat<_;omega)
  have hs:∀k,nth (c.slot a (nth c.vars (c.find (c.node a).name).toNat).slot).slots k=if n=k/\k<c.slots.length then(nth c.vars (c.find (c.node a).name).toNat).slot else nth c.slots k:=fun k=>by show nth (c.slots.set a.toNat _) k=_;rw[xg,hn]
  refine⟨fun k hk=>by show nth (c.slot a _).slots k=_;rw[hs,jN],?_⟩;show 0<=nth (c.slot a _).slots n/\nth (c.slot a _).slots n<_;rw[hs,if_pos ⟨rfl,hl⟩];exact h.2 _ hv
def EY(t:aB)(n:Nat):Prop:=∀(c:Ck) (a:Int) (lo:Nat),bz c->c.aa=t->dr c->0<=a->a<t.nodes.length->a.toNat<n->fk (bT t.nodes a)->aI t.nodes lo (nth t.nodes a.toNat).l a.toNat->(ay n c a).1.e=0->fG t lo (a.toNat+1) c (ay n c a).1
theorem IA{t:aB}{n:Nat}(hx:EY t n):∀(L:UU) (c:Ck) (ts:UU) (lo hi:Nat),bz c->c.aa=t->dr c->hi<=n->(∀x∈L,fk (bT t.nodes x))->aI t.nodes lo L hi->(gK (ay n) c L ts).1.e=0->fG t lo hi c (gK (ay n) c L ts).1
 |[],c,ts,lo,hi,h,hc,hv,hn,hr,T',he=>by cases T';unfold gK;exact .refl _ _ _
 |a::L,c,ts,lo,hi,h,hc,hv,hn,hr,T',he=>by have e0:=(uZ (fa n) (a::L) c ts).e0 he;unfold gK at he ⊢;rw[if_pos e0]at he ⊢;obtain⟨c1,c2,c3,c4,c5,c6⟩:=kV T';have ev:=fa n c a;have e1:=(uZ (fa n) L _ _).e0 he;have r1:=hx c a lo h hc hv c1 c2 jB (hr a jE) c5 e1;exact r1.seq jB jB (IA hx L _ _ _ hi (h.ev ev) (ev.aa.trans hc) (hv.ev ev) hn (fun x hx=>hr x (by simp[hx])) c6 he)
theorem J9(a:Int):∀(ts:UU) (ps:List bp) (c:Ck),(iO a c ts ps).slots=c.slots/\(iO a c ts ps).size=c.size
 |[],ps,c=>by rw[uG];exact⟨rfl,rfl⟩
 |_::_,[],c=>by rw[uF];exact⟨rfl,rfl⟩
 |x::ts,p::ps,c=>by
  unfold iO;split
  ·have:=J9 a ts ps (c.ao (decide (x=p.ty)) a);exact⟨this.1.trans (wa _ _ _).1,this.2.trans (wa _ _ _).2⟩
  ·exact⟨rfl,rfl⟩
theorem xY{t:aB}(ht:aM t):∀n,EY t n
 |0=>fun c a lo h hc hv h0 h1 hn=>by omega
 |n+1=>fun c a lo h hc hv h0 h1 hn hr T' he=>by
  have hx:=xY ht n;have e0:=(fa (n+1) c a).e0 he;unfold ay at he ⊢;rw[jN]at he ⊢;simp only at he ⊢;have he:(cf (ay n) c a).1.e=0:=he;have p':c.node a=nth t.nodes a.toNat:=by unfold Ck.node;rw[hc]
  have sh:=(ht.shape a.toNat jB).1;suffices hs:fG t lo (a.toNat+1) c (cf (ay n) c a).1 from hs.post rfl rfl
  have P':=T'.le;have leaf:(nth t.nodes a.toNat).l=[]->fG t lo a.toNat c c:=fun hl=>by
   rw[hl]at T';have:lo=a.toNat:=by cases T';rfl
   subst this;exact .refl _ _ _
  have kid1:∀x,(nth t.nodes a.toNat).l=[x]->fk (bT t.nodes x)->(ay n c x).1.e=0->fG t lo a.toNat c (ay n c x).1:=fun x hl Yt Vq=>by rw[hl]at T';obtain⟨c1,c2,c3,c4,c5⟩:=kQ T';rw[c4];exact hx c x lo h hc hv c1 c2 jB Yt c5 Vq
  have kd:∀i,c.aC a i=nth (nth t.nodes a.toNat).l i:=fun i=>by unfold Ck.aC;rw[p']
  have hkr:(nth t.nodes a.toNat).kind=1\/(nth t.nodes a.toNat).kind=2\/(nth t.nodes a.toNat).kind=3\/(nth t.nodes a.toNat).kind=4\/(nth t.nodes a.toNat).kind=5\/(nth t.nodes a.toNat).kind=6\/(nth t.nodes a.toNat).kind=7\/(nth t.nodes a.toNat).kind=8\/(nth t.nodes a.toNat).kind=9\/(nth t.nodes a.toNat).kind=19\/(nth t.nodes a.toNat).kind=20\/(nth t.nodes a.toNat).kind=21:=by have:fk (nth t.nodes a.toNat).kind:=hr;unfold fk cF at this;omega
  have Vd:∀{q:Prop},¬((nth t.nodes a.toNat).kind=4\/(nth t.nodes a.toNat).kind=5)->ju (nth t.nodes a.toNat).kind->q:=fun h1 h2=>by unfold ju at h2;have:fk (nth t.nodes a.toNat).kind:=hr;unfold fk cF at this;omega
  have VX:a.toNat<c.slots.length:=by rw[h.slots,hc];omega
  rcases hkr with k|k|k|k|k|k|k|k|k|k|k|k
  ·have e:cf (ay n) c a=(c,1):=by unfold cf;simp only;rw[p',k];rfl
   rw[e];exact(leaf (sh.zero jB)).node (Vd jB)
  ·have e:cf (ay n) c a=(c,2):=by unfold cf;simp only;rw[p',k];rfl
   rw[e];exact(leaf (sh.zero jB)).node (Vd jB)
  ·have e:cf (ay n) c a=(c,3):=by unfold cf;simp only;rw[p',k];rfl
   rw[e];exact(leaf (sh.zero jB)).node (Vd jB)
  ·have e:cf (ay n) c a=c.named a:=by unfold cf;simp only;rw[p',k];rfl
   rw[e]at he ⊢;obtain⟨g1,g2⟩:=DG hv rfl VX he;have hz:=(nn c a).size;have hl:=sh.zero jB;rw[hl]at T';have:lo=a.toNat:=by cases T';rfl
   subst this;exact⟨fun k hk=>g1 k jB,fun k h1 h2 _=>by have:k=a.toNat:=jB;subst this;rw[hz];exact g2,by rw[hz];exact Int.le_refl _⟩
  ·have e:cf (ay n) c a=((ay n (c.named a).1 (c.aC a 0)).1.ao (decide ((c.named a).2=4) && decide ((ay n (c.named a).1 (c.aC a 0)).2=1)) a,1):=by unfold cf;simp only;rw[p',k];rfl
   obtain⟨x,hl,Vq⟩:=sh.one jB;have Vi:c.aC a 0=x:=by rw[kd,hl];rfl
   rw[e]at he ⊢;rw[Vi]at he ⊢;obtain⟨b1,b2⟩:=jX he;have en:=nn c a;obtain⟨g1,g2⟩:=DG hv rfl VX ((fa n _ x).e0 b2);rw[hl]at T';obtain⟨c1,c2,c3,c4,c5⟩:=kQ T';have r:=hx (c.named a).1 x lo (h.ev en) (en.aa.trans hc) (hv.ev en) c1 c2 jB (.inl Vq) c5 b2;have hz:=en.size;have hrz:=r.size;rw[<-c4]at r;refine fG.ao ⟨fun k hk=>(r.sw k jB).trans (g1 k jB),fun k h1 h2 h3=>?_,jB⟩;by_cases hka:k<a.toNat
   ·exact r.all k h1 hka h3
   ·have:k=a.toNat:=jB;subst this;rw[r.sw _ (.inr jB)];omega
  ·have e:cf (ay n) c a=((ay n c (c.aC a 0)).1.ao (decide ((ay n c (c.aC a 0)).2=3) || decide ((ay n c (c.aC a 0)).2=4)) a,1):=by unfold cf;simp only;rw[p',k];rfl
   obtain⟨x,hl,Vq⟩:=sh.one jB;have Vi:c.aC a 0=x:=by rw[kd,hl];rfl
   rw[e]at he ⊢;rw[Vi]at he ⊢;exact((kid1 x hl (.inl Vq) (jX he).2).ao).node (Vd jB)
  ·have e:cf (ay n) c a=((ay n c (c.aC a 0)).1.ao (decide ((ay n c (c.aC a 0)).2=1)) a,1):=by unfold cf;simp only;rw[p',k];rfl
   obtain⟨x,hl,Vq⟩:=sh.one jB;have Vi:c.aC a 0=x:=by rw[kd,hl];rfl
   rw[e]at he ⊢;rw[Vi]at he ⊢;exact((kid1 x hl (.inl Vq) (jX he).2).ao).node (Vd jB)
  ·have e:cf (ay n) c a=((ay n c (c.aC a 0)).1.ao (decide ((ay n c (c.aC a 0)).2=2)) a,2):=by unfold cf;simp only;rw[p',k];rfl
   obtain⟨x,hl,Vq⟩:=sh.one jB;have Vi:c.aC a 0=x:=by rw[kd,hl];rfl
   rw[e]at he ⊢;rw[Vi]at he ⊢;exact((kid1 x hl (.inl Vq) (jX he).2).ao).node (Vd jB)
  ·have e:cf (ay n) c a=((ay n (ay n c (c.aC a 0)).1 (c.aC a 1)).1.ao (!decide (my (c.node a).name (ay n c (c.aC a 0)).2 (ay n (ay n c (c.aC a 0)).1 (c.aC a 1)).2=0)) a,my (c.node a).name (ay n c (c.aC a 0)).2 (ay n (ay n c (c.aC a 0)).1 (c.aC a 1)).2):=by unfold cf;simp only;rw[p',k];rfl
   obtain⟨x,y,hl,Vq,Ye⟩:=sh.two jB;have Vi:c.aC a 0=x:=by rw[kd,hl];rfl
   have Vs:c.aC a 1=y:=by rw[kd,hl];rfl
   rw[e]at he ⊢;rw[Vi,Vs]at he ⊢;obtain⟨b1,b2⟩:=jX he;have ev:=fa n c x;rw[hl]at T';obtain⟨c1,c2,c3,c4,c5,c6⟩:=kV T';obtain⟨d1,d2,d3,d4,d5⟩:=kQ c6;have r1:=hx c x lo h hc hv c1 c2 jB (.inl Vq) c5 ((fa n _ y).e0 b2);have r2:=hx (ay n c x).1 y (x.toNat+1) (h.ev ev) (ev.aa.trans hc) (hv.ev ev) d1 d2 jB (.inl Ye) d5 b2;rw[<-d4]at r2;exact((r1.seq jB jB r2).ao).node (Vd jB)
  ·have e:cf (ay n) c a=(c,1):=by unfold cf;simp only;rw[p',k];rfl
   rw[e];exact(leaf (sh.zero jB)).node (Vd jB)
  ·have e:cf (ay n) c a=((ay n c (c.aC a 0)).1.ao (decide ((ay n c (c.aC a 0)).2=1)) a,4):=by unfold cf;simp only;rw[p',k];rfl
   obtain⟨x,hl,Vq⟩:=sh.one jB;have Vi:c.aC a 0=x:=by rw[kd,hl];rfl
   rw[e]at he ⊢;rw[Vi]at he ⊢;exact((kid1 x hl (.inl Vq) (jX he).2).ao).node (Vd jB)
  ·have e:cf (ay n) c a=jr (ay n) c a:=by unfold cf;simp only;rw[p',k];rfl
   rw[e]at he ⊢;have Vz:=sh.call k;unfold jr at he ⊢;split at he
   ·exact(qE jC he).elim
   rename_i hf;rw[if_neg hf];simp only at he ⊢;have e1:=(yD a _ _ _).e0 he;split at e1
   ·exact(qE jC e1).elim
   rename_i hl;rw[if_neg hl];have r:=IA hx (c.node a).l c [] lo a.toNat h hc hv jB (fun x Vr=>.inl (Vz x (by rw[<-p'];exact Vr))) (by rw[p'];exact T') e1;have q:=J9 a (gK (ay n) c (c.node a).l []).2 (nth c.aa.ak (fL c a).toNat).params (gK (ay n) c (c.node a).l []).1;exact(r.post q.1 q.2).node (Vd jB)
def HO(t:aB)(n:Nat):Prop:=∀(c:Ck) (a:Int) (lo:Nat),bz c->c.aa=t->dr c->c.e=0->0<=a->a<t.nodes.length->a.toNat<n->fu (bT t.nodes a)->aI t.nodes lo (nth t.nodes a.toNat).l a.toNat->(bF n c a).e=0->
 fG t lo (a.toNat+1) c (bF n c a)/\dr (bF n c a)
theorem CV{t:aB}{st:Ck->Int->Ck}{C:Int->Prop}{n:Nat}(hs:∀c a,bz c->c.e=0->Sv c (st c a))
  (O':∀(c:Ck) (a:Int) (lo:Nat),bz c->c.aa=t->dr c->c.e=0->0<=a->a<t.nodes.length->a.toNat<n->C (bT t.nodes a)->aI t.nodes lo (nth t.nodes a.toNat).l a.toNat->(st c a).e=0->fG t lo (a.toNat+1) c (st c a)/\dr (st c a)) :
  ∀(L:UU) (c:Ck) (lo hi:Nat),bz c->c.aa=t->dr c->hi<=n->(∀x∈L,C (bT t.nodes x))->aI t.nodes lo L hi->(dh st c L).e=0->fG t lo hi c (dh st c L)/\dr (dh st c L)
 |[],c,lo,hi,h,hc,hv,hn,hr,T',he=>by cases T';unfold dh;exact⟨.refl _ _ _,hv⟩
 |a::L,c,lo,hi,h,hc,hv,hn,hr,T',he=>by have e0:=(rX hs (a::L) c h).e0 he;unfold dh at he ⊢;rw[if_pos e0]at he ⊢;obtain⟨c1,c2,c3,c4,c5,c6⟩:=kV T';have s:=hs c a h e0;have e1:=(rX hs L _ s.inv).e0 he;obtain⟨r1,v1⟩:=O' c a lo h hc hv e0 c1 c2 jB (hr a jE) c5 e1;obtain⟨r2,v2⟩:=CV hs O' L _ _ hi s.inv (s.aa.trans hc) v1 hn (fun x hx=>hr x (by simp[hx])) c6 he;exact⟨r1.seq jB jB r2,v2⟩
def KH(ht:aM t)(O':HO t n)(c:Ck)(a:Int)(lo:Nat)(h:bz c)(hc:c.aa=t)(hv:dr c)(h0:0<=a)(h1:a<t.nodes.length)(hn:a.toNat<=n)(hk:bT t.nodes a=18)(T':aI t.nodes lo (nth t.nodes a.toNat).l a.toNat)(he:(eH (bF n) c a).e=0) :
  fG t lo (a.toNat+1) c (eH (bF n) c a)/\dr (eH (bF n) c a):=by
 have sv:=pE (mD n) h a;have p':c.node a=nth t.nodes a.toNat:=by unfold Ck.node;rw[hc]
 have hb:=(ht.shape a.toNat jB).1.block hk;have ev:=pO c a;obtain⟨r,_⟩:=CV (mD n) (C:=fu) O' (c.node a).l (c.af a) lo a.toNat (h.ev ev) (ev.aa.trans hc) (hv.ev ev) hn (fun x hx=>hb x (by rw[<-p'];exact hx)) (by rw[p'];exact T') he;have r:fG t lo a.toNat c (eH (bF n) c a):=fG.post (b:=dh (bF n) (c.af a) (c.node a).l) (fG.pre (a:=c) (b:=c.af a) rfl rfl r) rfl rfl;have Yu:(nth t.nodes a.toNat).kind=18:=hk;refine⟨r.node (fun h=>by unfold ju at h;omega),?_⟩;have hz:=r.size;refine⟨by have:=hv.1;omega,fun v Ve=>?_⟩;rw[sv.2]at Ve;have:=hv.2 v Ve;omega
def xJ(ht:aM t)(h:bz c0)(hc:c0.aa=t)(hv:dr c0)(hn:a.toNat<=n)(hl:(nth t.nodes a.toNat).l=[x])(hx:fk (bT t.nodes x))(T':aI t.nodes lo (nth t.nodes a.toNat).l a.toNat)(he:(ay n c0 x).1.e=0) :
  fG t lo a.toNat c0 (ay n c0 x).1:=by
 rw[hl]at T';obtain⟨c1,c2,c3,c4,c5⟩:=kQ T';rw[c4];exact xY ht n c0 x lo h hc hv c1 c2 jB hx c5 he
def QH(ht:aM t){y:Int}(h:bz c0)(hc:c0.aa=t)(hv:dr c0)(hn:a.toNat<=n)(hl:(nth t.nodes a.toNat).l=[x,y])(hx:cF (bT t.nodes x))(hy:cF (bT t.nodes y))(T':aI t.nodes lo (nth t.nodes a.toNat).l a.toNat)(he:(ay n (ay n c0 x).1 y).1.e=0) :
  fG t lo a.toNat c0 (ay n (ay n c0 x).1 y).1:=by
 rw[hl]at T';obtain⟨c1,c2,c3,c4,c5,c6⟩:=kV T';obtain⟨d1,d2,d3,d4,d5⟩:=kQ c6;have ev:=fa n c0 x;have r1:=xY ht n c0 x lo h hc hv c1 c2 jB (.inl hx) c5 ((fa n _ y).e0 he);have q1:=xY ht n (ay n c0 x).1 y (x.toNat+1) (h.ev ev) (ev.aa.trans hc) (hv.ev ev) d1 d2 jB (.inl hy) d5 he;rw[d4];exact r1.seq jB jB q1
def Kx{c:Ck}(h:bz c)(hc:c.aa=t)(hv:dr c)(h1:a<t.nodes.length)(h0:0<=a)(P':lo<=a.toNat)(he:(c.named a).1.e=0)(r:fG t lo a.toNat (c.named a).1 c'):fG t lo (a.toNat+1) c c':=by
 have VX:a.toNat<c.slots.length:=by rw[h.slots,hc];omega
 obtain⟨g1,g2⟩:=DG hv rfl VX he;have hz:=(nn c a).size;have hrz:=r.size;refine⟨fun k hk=>(r.sw k jB).trans (g1 k jB),fun k h1 h2 h3=>?_,jB⟩;by_cases hka:k<a.toNat
 ·exact r.all k h1 hka h3
 ·have:k=a.toNat:=jB;subst this;rw[r.sw _ (.inr jB)];omega
theorem Ec{t:aB}(ht:aM t):∀n,HO t n
 |0=>fun c a lo h hc hv e0 h0 h1 hn=>by omega
 |n+1=>fun c a lo h hc hv e0 h0 h1 hn hr T' he=>by
  have hs:=Ec ht n;have p':(c.af a).node a=nth t.nodes a.toNat:=by unfold Ck.node;show nth c.aa.nodes _=_;rw[hc]
  have sh:=(ht.shape a.toNat jB).1;have kd:∀i,(c.af a).aC a i=nth (nth t.nodes a.toNat).l i:=fun i=>by unfold Ck.aC;rw[p']
  have ev:=pO c a;have h':=h.ev ev;have VV:=ev.aa.trans hc;have Ve:=hv.ev ev;have P':=T'.le;have kr:∀{hi:Nat} {c':Ck},fG t lo hi (c.af a) c'->fG t lo hi c c':=fun r=>fG.pre (a:=c) (b:=c.af a) rfl rfl r
  have Vd:∀{q:Prop},¬((nth t.nodes a.toNat).kind=10\/(nth t.nodes a.toNat).kind=11\/(nth t.nodes a.toNat).kind=12)->ju (nth t.nodes a.toNat).kind->q:=fun h1 h2=>by unfold ju at h2;have:fu (nth t.nodes a.toNat).kind:=hr;unfold fu at this;omega
  have hkr:(nth t.nodes a.toNat).kind=10\/(nth t.nodes a.toNat).kind=11\/(nth t.nodes a.toNat).kind=12\/(nth t.nodes a.toNat).kind=13\/(nth t.nodes a.toNat).kind=14\/(nth t.nodes a.toNat).kind=17\/(nth t.nodes a.toNat).kind=15\/(nth t.nodes a.toNat).kind=16:=by have:fu (nth t.nodes a.toNat).kind:=hr;unfold fu at this;omega
  rcases hkr with k|k|k|k|k|k|k
  ·have e:bF (n+1) c a=oz (ay n) (c.af a) a:=by unfold bF;simp only;rw[p',k];rfl
   obtain⟨x,hl,Yt⟩:=sh.right jB;have Vi:(c.af a).aC a 0=x:=by rw[kd,hl];rfl
   rw[e]at he ⊢;rw[sW]at he ⊢;have he:(dX (ay n) (c.af a) a).e=0:=he;have Xp:=xw (fa n) (c.af a) a;have Wb:=h'.ev Xp;have Ym:=Ve.ev Xp;obtain⟨_,q1⟩:=xe jC he;have q1:dX (ay n) (c.af a) a=jn (ay n) (c.af a) a:=q1;rw[q1]at he;obtain⟨_,q2⟩:=xe jC he;have q2:jn (ay n) (c.af a) a=iK (ay n) (c.af a) a:=q2;rw[q2]at he;unfold iK at he;rw[Vi]at he;obtain⟨b1,b2⟩:=jX he;have r1:=(xJ ht h' VV Ve jB hl Yt T' b2);have XB:(dX (ay n) (c.af a) a).slots=(ay n (c.af a) x).1.slots:=by rw[q1,q2];unfold iK;rw[Vi];exact(wa _ _ _).1
   have Vb:(dX (ay n) (c.af a) a).size=(ay n (c.af a) x).1.size:=by rw[q1,q2];unfold iK;rw[Vi];exact(wa _ _ _).2
   have r2:=kr (r1.post XB Vb);have VX:a.toNat<(dX (ay n) (c.af a) a).slots.length:=by rw[Wb.slots,Xp.aa,VV];omega
   have h0z:=Ym.1;have Yi:∀i,nth ((dX (ay n) (c.af a) a).slots.set a.toNat (dX (ay n) (c.af a) a).size) i=if a.toNat=i/\i<(dX (ay n) (c.af a) a).slots.length then(dX (ay n) (c.af a) a).size else nth (dX (ay n) (c.af a) a).slots i:=fun i=>xg _ _ _ _
   refine⟨⟨fun i hi=>?_,fun i h1 h2 h3=>?_,?_⟩,?_,fun v YS=>?_⟩
   ·show nth ((dX (ay n) (c.af a) a).slots.set a.toNat _) i=_;rw[Yi,jN];exact r2.sw i jB
   ·show 0<=nth ((dX (ay n) (c.af a) a).slots.set a.toNat _) i/\nth ((dX (ay n) (c.af a) a).slots.set a.toNat _) i<(dX (ay n) (c.af a) a).size+1;rw[Yi];by_cases hia:i<a.toNat
    ·rw[jN];have:=r2.all i h1 hia h3;omega
    ·rw[if_pos ⟨jB,jB⟩];omega
   ·show _<=(dX (ay n) (c.af a) a).size+1;have:=r2.size;omega
   ·show 0<=(dX (ay n) (c.af a) a).size+1;omega
   ·show 0<=v.slot/\v.slot<(dX (ay n) (c.af a) a).size+1;have YS:v∈(dX (ay n) (c.af a) a).vars++[(⟨((c.af a).node a).name,(ay n (c.af a) ((c.af a).aC a 0)).2,(dX (ay n) (c.af a) a).size⟩:ba)]:=YS;rcases List.mem_append.1 YS with hm|hm
    ·have:=Ym.2 v hm;omega
    ·rw[List.mem_singleton.1 hm];show 0<=(dX (ay n) (c.af a) a).size/\(dX (ay n) (c.af a) a).size<_;omega
  ·have e:bF (n+1) c a=(ay n ((c.af a).named a).1 ((c.af a).aC a 0)).1.ao (decide (((c.af a).named a).2=(ay n ((c.af a).named a).1 ((c.af a).aC a 0)).2)) a:=by unfold bF;simp only;rw[p',k];rfl
   obtain⟨x,hl,Yt⟩:=sh.right jB;have Vi:(c.af a).aC a 0=x:=by rw[kd,hl];rfl
   rw[e]at he ⊢;rw[Vi]at he ⊢;obtain⟨b1,b2⟩:=jX he;have en:=nn (c.af a) a;have r1:=xJ ht (h'.ev en) (en.aa.trans VV) (Ve.ev en) jB hl Yt T' b2;exact⟨kr ((Kx h' VV Ve h1 h0 P' ((fa n _ x).e0 b2) r1).ao),(Ve.ev en).ev ((fa n _ _).trans (jd _ _ _))⟩
  ·have e:bF (n+1) c a=(ay n (ay n ((c.af a).named a).1 ((c.af a).aC a 0)).1 ((c.af a).aC a 1)).1.ao (decide (((c.af a).named a).2=4) && decide ((ay n ((c.af a).named a).1 ((c.af a).aC a 0)).2=1) && decide ((ay n (ay n ((c.af a).named a).1 ((c.af a).aC a 0)).1 ((c.af a).aC a 1)).2=1)) a:=by unfold bF;simp only;rw[p',k];rfl
   obtain⟨x,y,hl,Vq,Ye⟩:=sh.two jB;have Vi:(c.af a).aC a 0=x:=by rw[kd,hl];rfl
   have Vs:(c.af a).aC a 1=y:=by rw[kd,hl];rfl
   rw[e]at he ⊢;rw[Vi,Vs]at he ⊢;obtain⟨b1,b2⟩:=jX he;have en:=nn (c.af a) a;have r1:=QH ht (h'.ev en) (en.aa.trans VV) (Ve.ev en) jB hl Vq Ye T' b2;exact⟨kr ((Kx h' VV Ve h1 h0 P' ((fa n _ x).e0 ((fa n _ y).e0 b2)) r1).ao),(Ve.ev en).ev (((fa n _ _).trans (fa n _ _)).trans (jd _ _ _))⟩
  ·have e:bF (n+1) c a=(ay n (c.af a) ((c.af a).aC a 0)).1:=by unfold bF;simp only;rw[p',k];rfl
   obtain⟨x,hl,ZV⟩:=sh.tS k;have Vi:(c.af a).aC a 0=x:=by rw[kd,hl];rfl
   rw[e]at he ⊢;rw[Vi]at he ⊢;have r1:=xJ ht h' VV Ve jB hl (by rw[ZV];unfold fk;omega) T' he;exact⟨(kr r1).node (Vd jB),Ve.ev (fa n _ _)⟩
  ·have e:bF (n+1) c a=(ay n (c.af a) ((c.af a).aC a 0)).1.ao (!decide ((ay n (c.af a) ((c.af a).aC a 0)).2=4)) a:=by unfold bF;simp only;rw[p',k];rfl
   obtain⟨x,hl,Vq⟩:=sh.one jB;have Vi:(c.af a).aC a 0=x:=by rw[kd,hl];rfl
   rw[e]at he ⊢;rw[Vi]at he ⊢;obtain⟨b1,b2⟩:=jX he;have r1:=xJ ht h' VV Ve jB hl (.inl Vq) T' b2;exact⟨((kr r1).ao).node (Vd jB),Ve.ev ((fa n _ _).trans (jd _ _ _))⟩
  ·have e:bF (n+1) c a=j5 (ay n) (c.af a) a:=by unfold bF;simp only;rw[p',k];rfl
   rw[e]at he ⊢;unfold j5 at he ⊢;rw[p']at he ⊢;simp only at he ⊢;split at he
   ·exact(qE jC he).elim
   rename_i hf;rw[if_neg hf];rcases sh.ret k with hl|⟨x,hl,Vq⟩
   ·rw[hl];rw[if_neg jC];rw[hl]at T';have:lo=a.toNat:=by cases T';rfl
    subst this;exact⟨(kr (fG.refl t a.toNat (c.af a))).node (Vd jB),Ve⟩
   ·have Vi:(c.af a).aC a 0=x:=by rw[kd,hl];rfl
    have WB:(nth t.nodes a.toNat).l.length=1:=by rw[hl];rfl
    rw[if_pos WB]at he ⊢;rw[Vi]at he ⊢;obtain⟨b1,b2⟩:=jX he;have r1:=xJ ht h' VV Ve jB hl (.inl Vq) T' b2;exact⟨((kr r1).ao).node (Vd jB),Ve.ev ((fa n _ _).trans (jd _ _ _))⟩
  ·have e:bF (n+1) c a=dh (eH (bF n)) ((ay n (c.af a) ((c.af a).aC a 0)).1.ao (decide ((ay n (c.af a) ((c.af a).aC a 0)).2=2)) a) (((c.af a).node a).l.drop 1):=by
    unfold bF;simp only;rw[p'];rcases k with k|k<;>rw[k]<;>rfl
   have Y2:∃x L,(nth t.nodes a.toNat).l=x::L/\cF (bT t.nodes x)/\∀y∈L,bT t.nodes y=18:=by
    rcases k with k|k
    ·obtain⟨x,y,hx,hy,hl|⟨z,hl,hz⟩⟩:=sh.lC k
     ·exact⟨x,[y],hl,hx,fun u hu=>by rw[List.mem_singleton.1 hu];exact hy⟩
     ·exact⟨x,[y,z],hl,hx,fun u hu=>by
       rcases List.mem_cons.1 hu with rfl|hu
       ·exact hy
       ·rw[List.mem_singleton.1 hu];exact hz⟩
    ·obtain⟨x,y,hl,hx,hy⟩:=sh.dP k;exact⟨x,[y],hl,hx,fun u hu=>by rw[List.mem_singleton.1 hu];exact hy⟩
   obtain⟨x,L,hl,Vq,hL⟩:=Y2;have Vi:(c.af a).aC a 0=x:=by rw[kd,hl];rfl
   rw[e]at he ⊢;rw[p',hl,Vi]at he ⊢;have he:(dh (eH (bF n)) ((ay n (c.af a) x).1.ao (decide ((ay n (c.af a) x).2=2)) a) L).e=0:=he;show fG t lo (a.toNat+1) c (dh (eH (bF n)) ((ay n (c.af a) x).1.ao (decide ((ay n (c.af a) x).2=2)) a) L)/\dr (dh (eH (bF n)) ((ay n (c.af a) x).1.ao (decide ((ay n (c.af a) x).2=2)) a) L);have ex:=(fa n (c.af a) x).trans (jd _ (decide ((ay n (c.af a) x).2=2)) a);have Wb:=h'.ev ex;have hsb:∀(q:Ck) b,bz q->q.e=0->Sv q (eH (bF n) q b):=fun q b hq _=>(pE (mD n) hq b).1
   have e1:=(rX hsb L _ Wb).e0 he;obtain⟨b1,b2⟩:=jX e1;rw[hl]at T';obtain⟨c1,c2,c3,c4,c5,c6⟩:=kV T';have r1:=xY ht n (c.af a) x lo h' VV Ve c1 c2 jB (.inl Vq) c5 b2;obtain⟨r2,v2⟩:=CV hsb (C:=fun k=>k=18) (n:=n) (fun q b l g1 g2 g3 _ g5 g6 g7 g8 g9 g10=>KH ht hs q b l g1 g2 g3 g5 g6 jB g8 g9 g10) L _ (x.toNat+1) a.toNat Wb (ex.aa.trans VV) (Ve.ev ex) jB hL c6 he;exact⟨((kr r1.ao).seq jB jB r2).node (Vd jB),v2⟩
theorem JK(body:Int):∀(ps:List bp) (c:Ck) (i:Int),dr c->c.size=i->dr (eD body c ps i)/\(eD body c ps i).slots=c.slots/\(eD body c ps i).size=i+ps.length
 |[],c,i,h,hi=>by unfold eD;exact⟨h,rfl,by simp;exact hi⟩
 |p::ps,c,i,h,hi=>by
  have fin:∀c1:Ck,Ev c c1->c1.slots=c.slots->dr (eD body (mN c1 ⟨p.name,p.ty,i⟩) ps (i+1))/\(eD body (mN c1 ⟨p.name,p.ty,i⟩) ps (i+1)).slots=c.slots/\(eD body (mN c1 ⟨p.name,p.ty,i⟩) ps (i+1)).size=i+(p::ps).length:=fun c1 s e=>by
   have hz:=s.size;have h1:=h.ev s;have h0:=h.1;obtain⟨a,b,d⟩:=JK body ps (mN c1 ⟨p.name,p.ty,i⟩) (i+1) ⟨by show 0<=c1.size+1;omega,fun v hv=>by
    have hv:v∈c1.vars++[(⟨p.name,p.ty,i⟩:ba)]:=hv;show 0<=v.slot/\v.slot<c1.size+1;rcases List.mem_append.1 hv with hv|hv
    ·have:=h1.2 v hv;omega
    ·rw[List.mem_singleton.1 hv];show 0<=i/\i<_;omega⟩ (by show c1.size+1=i+1;omega)
   exact⟨a,b.trans e,by rw[d,List.length_cons];omega⟩
  unfold eD;simp only;split
  ·exact fin _ (nR c jC body) (KG _ _ _).1
  ·exact fin _ (.refl c) rfl
structure sM(t:aB)(sl:List Int)(k lo:Nat)(z:Int):Prop where
 xR:((nth t.ak k).params.length:Int)<=z
 hi:z<=24
 all:∀i,lo<=i->i<(nth t.ak k).body.toNat+1->ju (nth t.nodes i).kind->0<=nth sl i/\nth sl i<z
 chain:aI t.nodes lo (nth t.nodes (nth t.ak k).body.toNat).l (nth t.ak k).body.toNat
def sM.aU{sl sl':UU}{z:Int}(h:sM t sl k lo z)(e:∀i,i<(nth t.ak k).body.toNat+1->nth sl' i=nth sl i):sM t sl' k lo z:=⟨h.xR,h.hi,fun i h1 h2 h3=>by rw[e i h2];exact h.all i h1 h2 h3,h.chain⟩
def Tg(ht:aM t){c:Ck}(h:fM c)(hc:c.aa=t)(hk:k<t.ak.length)(Vb:c.aJ.length<6)(T':aI t.nodes lo (nth t.nodes (nth t.ak k).body.toNat).l (nth t.ak k).body.toNat)(he:(gf c k).e=0) :
  (∀i,(i<lo\/(nth t.ak k).body.toNat+1<=i)->nth (gf c k).slots i=nth c.slots i)/\sM t (gf c k).slots k lo (gf c k).size/\(gf c k).aJ=c.aJ++[(gf c k).size]:=by
 have Vn:k<c.aa.ak.length:=by rw[hc];exact hk
 have hp3:=h.aa.fn _ (cV Vn);have Xi:bz { c with fn:=(k:Int),vars:=[],more:=[],size:=0 }:=⟨h.aa,h.types,h.slots,h.ak,by show c.aJ.length<=6;omega,by show(0:Int)<=k;omega,by show(k:Int)<(c.aa.ak.length:Int);omega,by show((0:Nat):Int)<=0;omega,by show(0:Int)<=25;omega,fun _=>by show(0:Int)<=24;omega⟩;obtain⟨a,b,d⟩:=xN (nth c.aa.ak k).body (nth c.aa.ak k).params _ 0 Xi (by show(0:Int)+_<=20;omega);obtain⟨a',b',d'⟩:=JK (nth c.aa.ak k).body (nth c.aa.ak k).params { c with fn:=(k:Int),vars:=[],more:=[],size:=0 } 0 ⟨by show(0:Int)<=0;omega,fun v hv=>by simp at hv⟩ rfl;have Wa:=ou ht hk;have X2:=ht.body _ (cV hk);unfold gf at he ⊢;simp only at he ⊢;rw[hc]at he ⊢;rw[hc]at a b d a' b' d';split at he
 ·rename_i e1;rw[if_pos e1];have sv:=(pE (mD t.nodes.length) a (nth t.ak k).body).1;obtain⟨r,_⟩:=KH ht (Ec ht t.nodes.length) _ (nth t.ak k).body lo a (b.trans (by rfl)) a' Wa.1 Wa.2 (by have:=Wa.2;have:=Wa.1;omega) X2 T' he;have q:=fG.size r;have We:=sv.inv.room he;refine⟨fun i hi=>(r.sw i hi).trans (by rw[b']),⟨?_,We,r.all,T'⟩,?_⟩
  ·show _<=(eH _ _ _).size;rw[d']at q;omega
  ·show(eH _ _ _).aJ++[_]=_;rw[sv.aJ,d]
 ·rename_i e1;exact(e1 he).elim
def kW(t:aB)(k:Nat):Nat:=if k=0 then 0 else(nth t.ak (k-1)).body.toNat+1
theorem It{t:aB}(ht:aM t):∀(n i lo:Nat) (c:Ck),fM c->c.aa=t->c.aJ.length=i->i+n=t.ak.length->lo=kW t i->aI t.nodes lo ((t.ak.drop i).map (·.body)) t.nodes.length->(∀j,j<i->sM t c.slots j (kW t j) (nth c.aJ j)/\(nth t.ak j).body.toNat<lo)->(fS c i n).e=0->
  ∀j,j<t.ak.length->sM t (fS c i n).slots j (kW t j) (nth (fS c i n).aJ j)
 |0,i,lo,c,h,hc,hs,hi,P',T',hA,he=>by unfold fS;exact fun j hj=>(hA j jB).1
 |n+1,i,lo,c,h,hc,hs,hi,P',T',hA,he=>by
  have h6:=ht.ak;unfold fS at he ⊢;by_cases e0:c.e=0
  ·rw[if_pos e0]at he ⊢;have hk:i<t.ak.length:=jB;rw[kX hk]at T';obtain⟨c1,c2,c3,c4,c5,c6⟩:=kV (a:=(nth t.ak i).body) T';obtain⟨f1,f2,f3⟩:=Ac h (by rw[hc];exact hk) (by omega:c.aJ.length<6);have e1:(gf c i).e=0:=by
    cases n with
    |zero=>unfold fS at he;exact he
    |succ m=>
     unfold fS at he;split at he
     ·assumption
     ·exact he
   obtain⟨r1,r2,r3⟩:=Tg ht h hc hk jB c5 e1;refine It ht n (i+1) ((nth t.ak i).body.toNat+1) (gf c i) f1 (f2.trans hc) jB jB (by unfold kW;rw[jN];rfl) c6 (fun j hj=>?_) he;by_cases WN:j<i
   ·obtain⟨g1,g2⟩:=hA j WN;have hz:nth (gf c i).aJ j=nth c.aJ j:=by rw[r3,qf jB]
    rw[hz];exact⟨g1.aU fun q hq=>r1 q (.inl jB),jB⟩
   ·have:j=i:=jB;subst this;have hz:nth (gf c j).aJ j=(gf c j).size:=by rw[r3,<-hs];exact qM _ _
    rw[hz,<-P'];exact⟨r2,jB⟩
  ·rw[if_neg e0]at he;exact(e0 he).elim
theorem IJ{x:aV}:∀(l:List aV) (c:Ck),(kY x c l).e=0->c.e=0/\∀f∈l,f.name≠x.name
 |[],c,h=>⟨by unfold kY at h;exact h,fun f hf=>by simp at hf⟩
 |f::l,c,h=>by
  unfold kY at h;obtain⟨h1,h2⟩:=IJ l _ h;obtain⟨h3,h4⟩:=xe jC h1;rw[h4]at h1;exact⟨h1,fun g hg=>by
   rcases List.mem_cons.1 hg with rfl|hg
   ·exact h3
   ·exact h2 g hg⟩
theorem E9(ak:List aV):∀(n i:Nat) (c:Ck) (m:Bool),i+n=ak.length->(j9 ak c m i n).1.e=0->c.e=0/\(∀j,i<=j->j<ak.length->∀f∈ak.take j,f.name≠(nth ak j).name)/\((j9 ak c m i n).2=true->m=true\/∃j,j<ak.length/\ws (nth ak j)=true)
 |0,i,c,m,hi,h=>by unfold j9 at h ⊢;exact⟨h,fun j h1 h2=>jB,fun h=>.inl h⟩
 |n+1,i,c,m,hi,h=>by
  unfold j9 at h ⊢;obtain⟨h1,h2,h3⟩:=E9 ak n (i+1) _ _ jB h;obtain⟨h4,h5⟩:=IJ _ _ h1;refine⟨h4,fun j g1 g2=>?_,fun hm=>?_⟩
  ·by_cases e:j=i
   ·subst e;exact h5
   ·exact h2 j jB g2
  ·rcases h3 hm with h|h
   ·rcases Bool.or_eq_true _ _ |>.mp h with h|h
    ·exact .inl h
    ·exact .inr ⟨i,jB,h⟩
   ·exact .inr h
structure DJ(t:aB):Prop where
 one:∀i j,i<j->j<t.ak.length->(nth t.ak i).name≠(nth t.ak j).name
 main:∃j,j<t.ak.length/\ws (nth t.ak j)=true
def RY{c:Ck}(h:(iV c).e=0):c.e=0/\DJ c.aa:=by
 unfold iV at h;simp only at h;split at h
 ·rename_i hm;obtain⟨h1,h2,h3⟩:=E9 c.aa.ak c.aa.ak.length 0 c false jB h;refine⟨h1,⟨fun i j hi hj=>h2 j jB hj _ ?_,?_⟩⟩
  ·rw[ee jB];exact List.mem_take_iff_getElem.2 ⟨i,jB,rfl⟩
  ·rcases h3 hm with h|h
   ·cases h
   ·exact h
 ·exact(qE jC h).elim
theorem EH(f:aV->UX)(nm:UX):∀(l:List aV) (i k:Int),(∀a b,a<b->b<l.length->f (nth l a)≠f (nth l b))->(∃v∈l,f v=nm)->jT f nm l i k=jx f nm l i
 |[],i,k,h,hx=>by obtain⟨v,hv,_⟩:=hx;simp at hv
 |v::l,i,k,h,hx=>by
  unfold jT jx;have hl:∀a b,a<b->b<l.length->f (nth l a)≠f (nth l b):=fun a b h1 h2=>h (a+1) (b+1) jB (by rw[List.length_cons];omega)
  by_cases hv:f v=nm
  ·rw[if_pos hv,if_pos hv];have hn:∀u∈l,f u≠nm:=fun u hu hh=>by
    obtain⟨q,hq,rfl⟩:=List.mem_iff_getElem.1 hu;exact h 0 (q+1) jB (by rw[List.length_cons];omega) (by rw[show nth (v::l) 0=v from rfl,show nth (v::l) (q+1)=l[q] from by rw[ee (by rw[List.length_cons];omega)];rfl,hv,hh])
   have:∀(l:List aV) (i k:Int),(∀u∈l,f u≠nm)->jT f nm l i k=k:=fun l=>by
    induction l with
    |nil=>intro i k _;rfl
    |cons u l ih=> intro i k hu;unfold jT;rw[if_neg (hu u jE),ih (i+1) k fun w hw=>hu w (by simp[hw])]
   exact this l _ _ hn
  ·rw[if_neg hv,if_neg hv];exact EH f nm l (i+1) k hl (by
    obtain⟨u,hu,hh⟩:=hx;rcases List.mem_cons.1 hu with rfl|hu
    ·exact(hv hh).elim
    ·exact⟨u,hu,hh⟩)
structure gF(p:ah):Prop where
 ok:nC p
 ak:∀j,j<p.aa.ak.length->sM p.aa p.slots j (kW p.aa j) (nth p.size j)
 names:DJ p.aa
def NX(ht:aM t)(he:(gm t).2.2=0):gF (gm t).1:=by
 have hp:=(Am ht he).1;unfold gm at he hp ⊢;split at he
 ·rename_i h;exact(h he).elim
 rename_i h;rw[if_neg h]at hp ⊢;have h:(ik t).e=0:=jB;obtain⟨i1,i2,i3⟩:=DH ht;have q:=It ht t.ak.length 0 0 (iV (jM t)) i1 i2 (by rw[i3];rfl) jB rfl (by rw[List.drop_zero];exact ht.chain) (fun j hj=>jB) h;obtain⟨_,q1,_⟩:=DM ht t.ak.length 0 0 (iV (jM t)) i1 i2 (by rw[i3];rfl) jB (by rw[List.drop_zero];exact ht.chain) h;have he:(ik t).aa=t:=q1;have h0:(iV (jM t)).e=0:=by
  have VK:=h;unfold ik at VK;cases hn:t.ak.length with
  |zero=>rw[hn]at VK;unfold fS at VK;exact VK
  |succ m=>
   rw[hn]at VK;unfold fS at VK;split at VK
   ·assumption
   ·exact VK
 refine⟨hp,?_,?_⟩
 ·show∀j,j<(ik t).aa.ak.length->sM (ik t).aa (ik t).slots j (kW (ik t).aa j) (nth (ik t).aJ j);rw[he];exact q
 ·show DJ (ik t).aa;rw[he];exact(RY h0).2
def y9{s:UX}(he:(fI s).2.2=0):gF (fI s).1:=by
 unfold fI at he ⊢;split at he
 ·rename_i h;exact(h he).elim
 rename_i h;rw[if_neg h];have h:(gu s).2.2=0:=jB;simp only at he ⊢;split at he
 ·cases he
 rename_i h2;split at he
 ·rename_i h3;exact(h3 he).elim
 rename_i h3;rw[if_neg h2,if_neg h3];exact NX (tp h) jB
def Db{t:List bk}(h:aI t lo L hi):lo+L.length<=hi:=by
 induction h with
 |nil=>simp
 |@cons lo c hi L hc h1 h2 i1 i2=> have:=h1.le;simp only[List.length_cons];omega
def RR{l:List α}{i:Nat}{x y:α}(h:x∈l.set i y):x=y\/x∈l:=by
 rcases List.mem_or_eq_of_mem_set h with h|h
 ·exact .inr h
 ·exact .inl h
theorem AN{α:Type}[Inhabited α](f:α->UX)(nm:UX):∀(l:List α) (i:Int),(∃v∈l,f v=nm)->i<=jx f nm l i/\jx f nm l i<i+l.length/\f (nth l (jx f nm l i-i).toNat)=nm
 |[],_,h=>by obtain⟨v,hv,_⟩:=h;simp at hv
 |v::l,i,h=>by
  unfold jx;by_cases hv:f v=nm
  ·rw[if_pos hv];refine⟨Int.le_refl _,by simp;omega,?_⟩;rw[show(i-i).toNat=0 from jB];exact hv
  ·rw[if_neg hv];obtain⟨u,hu,hh⟩:=h;have hu:u∈l:=by
    rcases List.mem_cons.1 hu with rfl|hu
    ·exact(hv hh).elim
    ·exact hu
   obtain⟨a,b,c⟩:=AN f nm l (i+1) ⟨u,hu,hh⟩;refine⟨jB,by simp;omega,?_⟩;rw[show(jx f nm l (i+1)-i).toNat=(jx f nm l (i+1)-(i+1)).toNat+1 from jB];exact c
theorem ED{α:Type}(f:α->UX)(nm:UX):∀(l:List α) (i k:Int),jT f nm l i k≠k->∃v∈l,f v=nm
 |[],_,_,h=>(h rfl).elim
 |v::l,i,k,h=>by
  unfold jT at h;by_cases hv:f v=nm
  ·exact⟨v,jE,hv⟩
  ·rw[if_neg hv]at h;obtain⟨u,hu,hh⟩:=ED f nm l _ _ h;exact⟨u,by simp[hu],hh⟩
structure Callee(p:ah)(a:Int)(k:Nat):Prop where
 lt:k<p.aa.ak.length
 at_:jx aV.name (ap p a).name p.aa.ak 0=k
 last:jT aV.name (ap p a).name p.aa.ak 0 (-1)=k
 name:(nth p.aa.ak k).name=(ap p a).name
 args:(ap p a).l.length=(nth p.aa.ak k).params.length
 CF:(ap p a).l.length<=3
variable{p:ah}
def callee(h:gF p)(h0:a.toNat<p.aa.nodes.length)(hk:(ap p a).kind=21):∃k,Callee p a k:=by
 obtain⟨h1,h2⟩:=(h.ok.ty a.toNat jB h0).call hk;have hx:=ED aV.name (ap p a).name p.aa.ak 0 (-1) (by show jT aV.name (nth p.aa.nodes a.toNat).name p.aa.ak 0 (-1)≠-1;omega);have e:=EH aV.name (ap p a).name p.aa.ak 0 (-1) (fun a b=>h.names.one a b) hx;obtain⟨f1,f2,f3⟩:=AN aV.name (ap p a).name p.aa.ak 0 hx;refine⟨(jx aV.name (ap p a).name p.aa.ak 0).toNat,jB,jB,jB,?_,?_,?_⟩
 ·rwa [Int.sub_zero]at f3
 ·unfold ap at e ⊢;rw[<-e];exact h2
 ·have hm:=(h.ok.aa.fn _ (cV (l:=p.aa.ak) (k:=(jx aV.name (ap p a).name p.aa.ak 0).toNat) jB)).2;unfold ap at e hm ⊢;rw[<-e]at hm;rw[h2];exact hm
def CZ(l:UU):ma 0 l=l.length:=by simp[ma]
theorem nT:∀(h:UT) (n:Int),h.foldl ma n=n+h.foldl ma (0:Int)
 |[],n=>by simp[List.foldl]
 |x::h,n=>by simp only[List.foldl_cons];rw[nT h (ma n x),nT h (ma 0 x)];unfold ma;omega
def Hy(h:UT)(x:UU):gz (h++[x])=gz h+x.length+1:=by unfold gz;rw[List.foldl_append,List.foldl_cons,List.foldl_nil,List.length_append,nT h _,nT h (h.length:Int)];unfold ma;simp;omega
theorem Du:∀(h:UT),0<=h.foldl ma (0:Int)
 |[]=>by simp
 |x::h=>by simp only[List.foldl_cons];rw[nT,CZ];have:=Du h;omega
def PS(h:UT):(h.length:Int)<=gz h:=by unfold gz;rw[nT];have:=Du h;omega
theorem Kk:∀(h:UT) (i:Nat) (x:UU),i<h.length->x.length=(nth h i).length->(h.set i x).foldl ma (0:Int)=h.foldl ma 0
 |[],i,x,hi,_=>by simp at hi
 |y::h,0,x,_,e=>by have e:x.length=y.length:=e;simp only[List.set_cons_zero,List.foldl_cons,ma,e]
 |y::h,i+1,x,hi,e=>by simp only[List.set_cons_succ,List.foldl_cons];rw[nT (h.set i x) (ma 0 y),nT h (ma 0 y),Kk h i x (by simpa using hi) e]
def Iw(h:UT)(i:Nat)(x:UU)(hi:i<h.length)(e:x.length=(nth h i).length):gz (h.set i x)=gz h:=by unfold gz;rw[List.length_set,nT (h.set i x) (h.length:Int),nT h (h.length:Int),Kk h i x hi e]
theorem Gb:∀(h:UT) (i:Nat),i<h.length->((nth h i).length:Int)<=h.foldl ma 0
 |[],i,hi=>by simp at hi
 |y::h,0,_=>by simp only[List.foldl_cons];rw[nT,CZ];have:=Du h;show(y.length:Int)<=_;omega
 |y::h,i+1,hi=>by simp only[List.foldl_cons];rw[nT,CZ];have:=Gb h i (by simpa using hi);show((nth h i).length:Int)<=_;omega
def Lz(h:UT)(i:Nat)(hi:i<h.length):((nth h i).length:Int)+h.length<=gz h:=by unfold gz;rw[nT];have:=Gb h i hi;omega
def gN[Inhabited α](l:List α)(n k:Nat)(h:k<n):nth (l.take n) k=nth l k:=by unfold nth;rw[List.getD_eq_getElem?_getD,List.getElem?_take,if_pos h,List.getD_eq_getElem?_getD]
def Fs{v:aj}(hm:lS v=true):v.s.size<=40:=by
 unfold lS at hm;split at hm
 ·have:v.s=sE:=by simpa using hm
  rw[this];decide
 split at hm
 ·simp only[Bool.and_eq_true,decide_eq_true_eq]at hm;rw[hm.1];decide
 split at hm
 ·simp only[Bool.and_eq_true,decide_eq_true_eq]at hm;omega
 split at hm
 ·simp only[Bool.and_eq_true,decide_eq_true_eq]at hm;rw[hm.1];decide
 ·cases hm
def xT(n:Int):bG (IntKind.i64.wrap n):=by unfold bG;rw[IntKind.wrap_i64];omega
def th:bG 0:=by unfold bG;omega
def IS(b:Bool):bG (vB b).n:=by cases b<;>(show bG _;unfold vB bG;simp)
def PE{b:Int}(h:bG a):bG (a.tmod b):=by
 unfold bG at*;by_cases h0:0<=a
 ·have h1:0<=a.tmod b:=Int.tmod_nonneg b h0;have h2:a.tmod b<=a:=by
   have:=Int.mul_tdiv_add_tmod a b;by_cases hb:b=0
   ·subst hb;simp
   ·have hn:=Int.natAbs_tmod a b;have:(a.tmod b).natAbs<=a.natAbs:=by rw[hn];exact Nat.mod_le _ _
    omega
  omega
 ·have hn:=Int.natAbs_tmod a b;have:(a.tmod b).natAbs<=a.natAbs:=by rw[hn];exact Nat.mod_le _ _
  have h3:a.tmod b<=0:=by have:=Int.tmod_nonneg b (a:=-a) jB;rw[Int.neg_tmod]at this;omega
  omega
def Sn(s:UX)(a:aj):bG (nj s a).n:=by
 unfold nj
 (repeat' split)<;>first|exact xT _|exact th|exact IS _
def nk(l:List aj):Prop:=∀v∈l,bG v.n
def pU(h:UT):Prop:=∀l∈h,∀x∈l,bG x
def Lm(p:ah):Prop:=∀k,k<p.aa.nodes.length->(nth p.aa.nodes k).kind=1->bG (nth p.aa.nodes k).n
theorem nC.bG{p:ah}(h:nC p):Lm p:=fun k hk h1=>by
 obtain⟨s,hs,e⟩:=(h.aa.shape k hk).1.num h1;have Vj:=FY hs;have Zu:qv s=(kU s.data.toList 0:Nat):=by unfold qv;rw[CB s hs.2.2 _ jl,List.take_of_length_le jE]
 rw[e,Zu];unfold Go.Gd.bG;omega
def AR{l:List aj}(h:nk l)(k t:Int):bG (dq l k t).n:=by
 unfold dq
 (repeat' split)<;>first|exact th|exact h _ (cV jB)
def Bm[Inhabited α](l:List α)(k:Nat):nth l k∈l\/nth l k=default:=by
 by_cases h:k<l.length
 ·exact .inl (cV h)
 ·right;unfold nth;rw[List.getD_eq_getElem?_getD,List.getElem?_eq_none jB];rfl
def JE{l:List aj}(h:nk l)(k:Nat){v:aj}(hv:bG v.n):nk (l.set k v):=fun x hx=>by
 rcases RR hx with rfl|hx
 ·exact hv
 ·exact h x hx
def E6(hs:gF p):∃m:Nat,m<p.aa.ak.length/\j4 p=(m:Int)/\(nth p.aa.ak m).name=(⟨#[109,97,105,110]⟩:UX)/\(nth p.aa.ak m).params.length=0:=by
 obtain⟨j,hj,Y3⟩:=hs.names.main;unfold ws at Y3;simp only[Bool.and_eq_true,decide_eq_true_eq]at Y3;obtain⟨⟨g1,g2⟩,_⟩:=Y3;obtain⟨f1,f2,f3⟩:=AN aV.name (⟨#[109,97,105,110]⟩:UX) p.aa.ak 0 ⟨_,cV hj,g1⟩;have e:(jx aV.name (⟨#[109,97,105,110]⟩:UX) p.aa.ak 0-0).toNat=(j4 p).toNat:=by unfold j4;simp
 rw[e]at f3;have P':0<=j4 p:=f1;have XS:j4 p<0+p.aa.ak.length:=f2;have hm:(j4 p).toNat<p.aa.ak.length:=jB;have hjm:j=(j4 p).toNat:=by
  rcases Nat.lt_trichotomy j (j4 p).toNat with h|h|h
  ·exact(hs.names.one _ _ h hm (by rw[g1,f3])).elim
  ·exact h
  ·exact(hs.names.one _ _ h hj (by rw[g1,f3])).elim
 exact⟨(j4 p).toNat,hm,jB,f3,by rw[<-hjm];omega⟩
structure mb(p:ah)(fn:Int)(x:fT):Prop where
 b0:0<=x.block
 lo:kW p.aa fn.toNat<=x.block.toNat
 hi:x.block.toNat<=(nth p.aa.ak fn.toNat).body.toNat
 kind:bT p.aa.nodes x.block=18
 a0:0<=x.at_
 a1:x.at_<=(wP p x.block).length
structure Bn(p:ah)(f:fy):Prop where
 f0:0<=f.fn
 f1:f.fn<p.aa.ak.length
 sl:(f.slots.length:Int)=nth p.size f.fn.toNat
 pl:∀x∈f.path,mb p f.fn x
 dec:(f.path.map (·.block)).Pairwise fun a b=>b<a
def IC(p:ah)(f:fy):Prop:=f.path≠[]/\f.pl.at_<(wP p f.pl.block).length
def mb.in_(h:gF p){fn:Int}(f0:0<=fn)(f1:fn<p.aa.ak.length){x:fT}(hx:mb p fn x):x.block.toNat<p.aa.nodes.length:=by have:=ou h.ok.aa (k:=fn.toNat) jB;have h1:=this.1;have h2:=this.2;have h3:=hx.hi;omega
def mb.aC(h:gF p){fn:Int}(f0:0<=fn)(f1:fn<p.aa.ak.length){x:fT}(hx:mb p fn x)(ha:a∈wP p x.block):0<=a/\a.toNat<x.block.toNat/\kW p.aa fn.toNat<=a.toNat/\fu (bT p.aa.nodes a):=by
 have hi:=hx.in_ h f0 f1;have sh:=h.ok.aa.shape x.block.toNat hi;have h1:=sh.2.1 a ha;refine⟨h1.1,h1.2,?_,sh.1.block hx.kind a ha⟩;have hc:=(h.ak fn.toNat jB).chain;by_cases e:x.block.toNat<(nth p.aa.ak fn.toNat).body.toNat
 ·exact hc.closed _ hx.lo e a ha
 ·have e:x.block.toNat=(nth p.aa.ak fn.toNat).body.toNat:=by have:=hx.hi;omega
  have ha:a∈(nth p.aa.nodes x.block.toNat).l:=ha;rw[e]at ha;exact(hc.mem a ha).2.1
structure BI(p:ah)(R:RS):Prop where
 ok:R.Ok
 gw:R.gw.length<=8
 fr:∀k,k<R.nf->Bn p (nth R.gw k)
 busy:∀k,k+1<R.nf->IC p (nth R.gw k)
 go:R.status≠2->1<=R.nf
end Go.Proofs.YtjpcgmjaipfgdaaGreatDoor
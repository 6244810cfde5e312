/- Lemmas. No conditions. -/
import Derived.Test.YtghoellpinmenaaGreatDoorCk8
set_option linter.all false
set_option maxHeartbeats 4000000
set_option maxRecDepth 10000
namespace Go.Gd
open Go
def bQ{α:Type}[Inhabited α](l:List α)(i k:Nat)(v:α)(h:i<l.length):nth (l.set i v) k=if k=i then v else nth l k:=by
 unfold nth;rw[List.getD_eq_getElem?_getD,List.getElem?_set,List.getD_eq_getElem?_getD];by_cases e:i=k
 ·subst e;simp[h]
 ·rw[if_neg e,if_neg (fun h=>e h.symm)]
theorem jc:∀(l m:PV) (i:Nat),aB (l++m) i=(aB l i).or (aB m i)
 |[],m,i=>by simp[aB]
 |(j,r)::l,m,i=>by
  show(if i=j then some r else aB (l++m) i)=((if i=j then some r else aB l i):Option Row).or _;split
  ·rfl
  ·exact jc l m i
theorem iu:∀(l:PV) (i:Nat),i∈ids l<->aB l i≠none
 |[],i=>by simp[ids,aB]
 |(j,r)::l,i=>by
  have:=iu l i;simp only[ids,List.map_cons,List.mem_cons,aB]at this ⊢;by_cases e:i=j
  ·simp[e]
  ·rw[if_neg e];simp only[e,false_or];exact this
variable{l:PV}
def mo{i:Nat}{r:Row}(h:aB l i=some r):(ids l).contains i=true:=List.contains_iff_mem.2 ((iu l i).2 (by rw[h];simp))
theorem uO(q:P5):∀(l m:PW),aU q (l++m)=(aU q l && aU q m)
 |[],m=>by simp[aU]
 |a::l,m=>by simp only[List.cons_append,aU,uO q l m,Bool.and_assoc]
def tM{q:P5}{l:PU}(h:QL q l):aU q l.flatten=true:=by
 induction l with
 |nil=>rfl
 |cons x l ih=>rw[List.flatten_cons,uO,h x jE,ih fun y hy=>h y (by simp[hy])];rfl
theorem pJ(D:P5):∀(l m:PV),dq D (l++m)=dq D l++dq D m
 |[],m=>rfl
 |(j,r)::l,m=>by show(bif D j then dq D (l++m)else(j,r)::dq D (l++m))=(bif D j then dq D l else(j,r)::dq D l)++_;rw[pJ D l m];cases D j<;>rfl
theorem oL(D:P5):∀(l:PV),(∀i∈ids l,D i=false)->dq D l=l
 |[],_=>rfl
 |(j,r)::l,h=>by show(bif D j then dq D l else(j,r)::dq D l)=_;rw[h j (by simp[ids]),oL D l fun i hi=>h i (by simp[ids]at hi ⊢;exact .inr hi)];rfl
theorem tL(D:P5):∀(l:PV),(∀i∈ids l,D i=true)->dq D l=[]
 |[],_=>rfl
 |(j,r)::l,h=>by show(bif D j then dq D l else(j,r)::dq D l)=_;rw[h j (by simp[ids]),tL D l fun i hi=>h i (by simp[ids]at hi ⊢;exact .inr hi)];rfl
theorem pV(D:P5):∀(l m:PV),eL D l->eL D m->eL D (l++m)
 |[],m,_,h=>h
 |(j,r)::l,m,h,k=>⟨h.1,pV D l m h.2 k⟩
theorem sP(D:P5):∀(l:PV),(∀i∈ids l,D i=true)->eL D l
 |[],_=>trivial
 |(j,r)::l,h=>⟨.inl (h j (by simp[ids])),sP D l fun i hi=>h i (by simp[ids]at hi ⊢;exact .inr hi)⟩
theorem Ec{q:P5}:∀{l:PU},aU q l.flatten=true->QL q l
 |[],_,x,hx=>by simp at hx
 |a::l,h,x,hx=>by
  rw[List.flatten_cons,yt,Bool.and_eq_true]at h;rcases List.mem_cons.1 hx with rfl|hx
  ·exact h.1
  ·exact Ec h.2 x hx
def zC{q:P5}:∀{r:Row},aU q r.cells=true->nq q r
 |.var _ _,h=>h
 |.aG _ _ _,h=>Ec h
 |.mp _ _,h=>h
theorem oZ(D:P5):∀(l:PV),(ids l).Nodup->(∀i r,aB l i=some r->aU (df D) r.cells=true)->eL D l
 |[],_,_=>trivial
 |(j,r)::l,hn,h=>by
  have Yy:=List.nodup_cons.1 hn;refine⟨.inr (zC (h j r (by simp[aB]))),oZ D l Yy.2 fun i r' hi=>h i r' ?_⟩;have:i≠j:=fun e=>by subst e;exact Yy.1 ((iu l i).2 (by rw[hi];simp))
  simp only[aB,if_neg this];exact hi
def ir(p:ae)(b:Int):PY:=(nth p.aa.nodes b.toNat).l
def mB(p:ae):Int:=gP bg.name (⟨#[109,97,105,110]⟩:P0) p.aa.av 0
def gb(n:Int)(l:PY):Int:=n+l.length
def fj(h:PX):Int:=h.foldl gb (h.length:Int)
def aJ(p:ae)(a:Int):bl:=nth p.aa.nodes a.toNat
def xl(n:Int):P0:=⟨(Lib.itoa n).toArray⟩
def kn(v:ai):P0:=
 if v.ty=1 then xl v.n
 else if v.ty=2 then(if v.n=1 then(⟨#[116,114,117,101]⟩:P0)else(⟨#[102,97,108,115,101]⟩:P0))
 else if v.ty=3 then v.s
 else if v.ty=4 then(⟨#[108,105,115,116]⟩:P0)
 else sE
def bn(n:Int):Prop:=-9223372036854775808<=n/\n<=9223372036854775807
structure RS where
 ak:List aP
 nf:Nat
 jp:List (List cU)
 heap:List (List Int)
 in_:Int
 aS:List ByteArray
 status:Int
 bL:Int
 time:Int
namespace RS
def st(R:RS):aw:=⟨R.ak.take R.nf,R.heap,R.in_,R.aS,R.status,R.bL,R.time⟩
structure Ok(R:RS):Prop where
 nf:R.nf<=R.ak.length
 jp:R.jp.length=R.ak.length
def fr(R:RS)(k:Nat):PW:=[.raw (.int .i64 (nth R.ak k).fn),.rs (bj 0 k) (nth R.ak k).ab.length 3 (nth R.ak k).ab.length,.rs (bj 1 k) ((nth R.ak k).path.length+(nth R.jp k).length) 2 (nth R.ak k).path.length]
def sl(R:RS)(k:Nat):Row:=.aG 50 3 ((nth R.ak k).ab.map bk)
def pt(R:RS)(k:Nat):Row:=.aG 89 2 (((nth R.ak k).path++nth R.jp k).map ej)
def hp(R:RS)(k:Nat):Row:=.aG 3 1 ((nth R.heap k).map eI)
def c(R:RS):PW:=[.rs 1 R.ak.length 3 R.nf,.rs 2 R.heap.length 1 R.heap.length,.raw (.int .i64 R.in_),.rs 3 R.aS.length 1 R.aS.length,.raw (.int .i64 R.status),.raw (.int .i64 R.bL),.raw (.int .i64 R.time)]
def e(t:P1)(pre post:PW)(R:RS)(tl:PV):PV:=
 (0,.var t (pre++R.c++post))::(1,.aG 87 3 (dh R.ak.length R.fr))::(2,.aG 22 1 (dh R.heap.length fun k=>[.rs (bj 2 k) (nth R.heap k).length 1 (nth R.heap k).length]))::(3,.aG 9 1 (R.aS.map eS)) ::
  bE 0 R.ak.length R.sl (bE 1 R.ak.length R.pt (bE 2 R.heap.length R.hp tl))
end RS
attribute [go_sem] RS.fr RS.sl RS.pt RS.hp RS.c RS.e
variable{t:P1}{R:RS}{tl:PV}{c0:PW}{n:Nat}{s:P7}
def RS.mR{pre post:PW}{tl':PV}{n1 n2 nh nh':Nat}{fr hr:Nat->PW}{o:PU}{p q:P7}
  (hc:c0=pre++R.c++post) (hn:n=R.ak.length) (hf:∀k,k<n->fr k=R.fr k) (hh:nh=R.heap.length) (Zk:∀k,k<nh->hr k=[.rs (bj 2 k) (nth R.heap k).length 1 (nth R.heap k).length]) (ho:o=R.aS.map eS)
  (h1:n1=n) (h2:n2=n) (h3:nh'=nh) (hs:∀k,k<n->s k=R.sl k) (hp:∀k,k<n->p k=R.pt k) (hq:∀k,k<nh->q k=R.hp k) (ht:tl=tl') :
  (0,.var t c0)::(1,.aG 87 3 (dh n fr))::(2,.aG 22 1 (dh nh hr))::(3,.aG 9 1 o)::bE 0 n1 s (bE 1 n2 p (bE 2 nh' q tl))=R.e t pre post tl':=by
 subst hc ho h1 h2 h3 ht;unfold RS.e;rw[oM hn hf,oM hh Zk,wc hn hs (wc hn hp (wc hh hq rfl))]
variable{H:Hp}
def db.lF{D:P5}{dd:PW}{i sz m:Nat}{e:P1}{α:Type}{enc:α->PW}[he:cu enc sz](l more:List α)(hD:D i=true)(hi:H.get i=some (.aG e sz ((l++more).map enc)))(hm:m=l.length+more.length)(hn:n=l.length):db D H (.rs i m sz n) (.sl false sz (l.map enc) dd):=
 .uv dd i sz m n e _ _ hD hi jF jB jF (fun ds RX=>by obtain⟨x,_,rfl⟩:=List.mem_map.1 RX;exact he.len x) (iW l) fun k j c d hk h1 h2=>by
  have O':k<l.length:=jB;have e1:((l++more).map enc).getD k []=enc l[k]:=by rw[List.map_append,List.getD_eq_getElem?_getD,List.getElem?_append_left (by simpa using O')];simp[O']
  have e2:(l.map enc).getD k []=enc l[k]:=by simp[O']
  rw[e1]at h1;rw[e2,h1]at h2;cases h2;exact .same c (pF (fun _ h=>by cases h) _ (lA (he.free _) h1))
def RS.lS{pre post:PW}:aB (R.e t pre post tl) 0=some (.var t (pre++R.c++post)):=rfl
def RS.mT{pre post:PW}:aB (R.e t pre post tl) 1=some (.aG 87 3 (dh R.ak.length R.fr)):=rfl
def RS.lH{pre post:PW}:aB (R.e t pre post tl) 2=some (.aG 22 1 (dh R.heap.length fun k=>[.rs (bj 2 k) (nth R.heap k).length 1 (nth R.heap k).length])):=rfl
def RS.mz{pre post:PW}:aB (R.e t pre post tl) 3=some (.aG 9 1 (R.aS.map eS)):=rfl
def RS.n5{pre post:PW}(i:Nat)(h:1000<=i):aB (R.e t pre post tl) i=aB (bE 0 R.ak.length R.sl (bE 1 R.ak.length R.pt (bE 2 R.heap.length R.hp tl))) i:=by unfold RS.e;simp only[aB];rw[jN,jN,jN,jN]
variable{k:Nat}
def RS.nG{pre post:PW}(h:k<R.ak.length):aB (R.e t pre post tl) (bj 0 k)=some (R.sl k):=by rw[RS.n5 _ (gW _ _),rR _ _ _ _ _ jB h]
def RS.qU{pre post:PW}(h:k<R.ak.length):aB (R.e t pre post tl) (bj 1 k)=some (R.pt k):=by rw[RS.n5 _ (gW _ _),nu _ _ _ _ _ _ jB jB jB,rR _ _ _ _ _ jB h]
def RS.o0{pre post:PW}(h:k<R.heap.length):aB (R.e t pre post tl) (bj 2 k)=some (R.hp k):=by rw[RS.n5 _ (gW _ _),nu _ _ _ _ _ _ jB jB jB,nu _ _ _ _ _ _ jB jB jB,rR _ _ _ _ _ jB h]
def vF(n:Nat)(f:Nat->PW)(k:Nat)(h:k<n):(dh n f).getD k []=f k:=KH n f k [] h
variable{B:PZ}
def RS.qo{D:P5}{pre post:PW}(h:R.Ok)(hD:∀i,D i=true):bc D ⟨B,R.e t pre post tl⟩ R.c (bv R.st):=by
 have Qy:=h.nf;refine⟨?_,?_,.same _ rfl,?_,.same _ rfl,.same _ rfl,.same _ rfl,jI⟩
 ·refine .uv _ 1 3 _ _ 87 _ _ (hD _) RS.mT (by simp[go_sem]) Qy (by show(List.map _ (R.ak.take R.nf)).length=_;simp;omega) (fun ds RX=>?_) (iW (enc:=fa) (sz:=3) _) fun k j c d hk h1 h2=>?_
  ·obtain⟨x,_,rfl⟩:=List.mem_map.1 RX;rfl
  ·rw[vF _ _ _ jB]at h1;have O':k<(R.ak.take R.nf).length:=by simp;omega
   have e2:(List.map fa (R.ak.take R.nf)).getD k []=fa (nth R.ak k):=by rw[tH _ _ _ O',gD O',gD jB];simp
   have h2:((List.map fa (R.ak.take R.nf)).getD k [])[j]?=some d:=h2;rw[e2]at h2;unfold RS.fr at h1;match j with
   |0=>cases h1;cases h2;exact .same _ rfl
   |1=>cases h1;cases h2;exact .row _ (hD _) (RS.nG jB) rfl
   |2=>cases h1;cases h2;exact .lF _ _ (hD _) (RS.qU jB) rfl rfl
   |j+3=>simp at h1
 ·refine .rs _ 2 1 _ 22 _ _ (hD _) RS.lH (by simp[go_sem]) (by simp[go_sem];rfl) (fun ds RX=>?_) (iW (enc:=gu) (sz:=1) _) fun k j c d hk h1 h2=>?_
  ·obtain⟨x,_,rfl⟩:=List.mem_map.1 RX;rfl
  ·have hk:k<R.heap.length:=by simpa[go_sem]using hk
   rw[vF _ _ _ hk]at h1;have h2:((List.map gu R.heap).getD k [])[j]?=some d:=h2;rw[tH _ _ _ hk]at h2;match j with
   |0=>cases h1;cases h2;exact .row _ (hD _) (RS.o0 hk) rfl
   |j+1=>simp at h1
 ·exact .row _ (hD _) RS.mz rfl
theorem D4(a:Nat)(f:P7)(l m:PV):∀(n k:Nat),fi a f k n (l++m)=fi a f k n l++m
 |0,k=>rfl
 |n+1,k=>by unfold fi;rw[D4 a f l m n (k+1)];rfl
def pQ(a n:Nat)(f:P7)(l m:PV):bE a n f (l++m)=bE a n f l++m:=D4 a f l m n 0
def RS.cA{pre post:PW}(tl:PV):R.e t pre post tl=R.e t pre post []++tl:=by unfold RS.e;rw[show tl=[]++tl from rfl,pQ,pQ,pQ];rfl
def RS.no{pre post:PW}(i:Nat)(h:4<=i)(h':i<1000):aB (R.e t pre post []) i=none:=by unfold RS.e;simp only[aB];rw[jN,jN,jN,jN,pj _ _ _ _ _ h',pj _ _ _ _ _ h',pj _ _ _ _ _ h'];rfl
def low(tl:PV):Prop:=∀i r,aB tl i=some r->4<=i/\i<1000
def RS.iJ{pre post:PW}(h:low tl):Lays (fun tl=>R.e t pre post tl) tl:=⟨fun i=>by rw[RS.cA,jc],fun i r hi=>RS.no i (h i r hi).1 (h i r hi).2⟩
variable{pre' post':PW}{R':RS}
def RS.size{pre post:PW}(h1:R.ak.length<=R'.ak.length)(h2:R.heap.length<=R'.heap.length)(i:Nat)(h:aB (R.e t pre post []) i≠none):aB (R'.e t pre' post' []) i≠none:=by
 by_cases h0:i=0
 ·subst h0;rw[RS.lS];simp
 by_cases Uh:i=1
 ·subst Uh;rw[RS.mT];simp
 by_cases XJ:i=2
 ·subst XJ;rw[RS.lH];simp
 by_cases XK:i=3
 ·subst XK;rw[RS.mz];simp
 by_cases h4:i<1000
 ·exact(h (RS.no i jB h4)).elim
 rw[RS.n5 i jB]at h ⊢;rcases sF 0 R.ak.length jB R.sl (bE 1 R.ak.length R.pt (bE 2 R.heap.length R.hp [])) i with⟨k,hk,rfl,e⟩|⟨_,e⟩
 ·rw[rR _ _ _ _ _ jB jB];simp
 rw[e]at h;rcases sF 1 R.ak.length jB R.pt (bE 2 R.heap.length R.hp []) i with⟨k,hk,rfl,e⟩|⟨_,e⟩
 ·rw[nu _ _ _ _ _ _ jB jB jB,rR _ _ _ _ _ jB jB];simp
 rw[e]at h;rcases sF 2 R.heap.length jB R.hp [] i with⟨k,hk,rfl,e⟩|⟨_,e⟩
 ·rw[nu _ _ _ _ _ _ jB jB jB,nu _ _ _ _ _ _ jB jB jB,rR _ _ _ _ _ jB jB];simp
 rw[e]at h;exact(h rfl).elim
theorem Dc(a:Nat)(f:P7)(l:PV):∀(n k:Nat),ids (fi a f k n l)=(List.range' k n).map (bj a)++ids l
 |0,k=>rfl
 |n+1,k=>by unfold fi;rw[List.range'_succ];show bj a k::ids (fi a f (k+1) n l)=_;rw[Dc a f l n (k+1)];rfl
def z7{a:Nat}{f:P7}(ha:a<8)(h:(ids l).Nodup)(hl:∀k,k<n->aB l (bj a k)=Option.none):(ids (bE a n f l)).Nodup:=by
 unfold bE;rw[Dc,List.nodup_append];refine⟨?_,h,fun x hx y hy e=>?_⟩
 ·refine List.Pairwise.map _ (fun x y VO e=>?_) (List.nodup_range' (step:=1) (s:=0) (n:=n) jB);exact VO (nz ha ha e).2
 ·obtain⟨k,hk,rfl⟩:=List.mem_map.1 hx;subst e;exact(iu _ _).1 hy (hl k (by simp at hk;omega))
theorem nodup_cons{l:PV}{i:Nat}{r:Row}(h:(ids l).Nodup)(hl:aB l i=Option.none):(ids ((i,r)::l)).Nodup:=List.nodup_cons.2 ⟨fun hm=>(iu _ _).1 hm hl,h⟩
def RS.nodup{pre post:PW}:(ids (R.e t pre post [])).Nodup:=by
 have f2:∀i,i<1000->aB (bE 0 R.ak.length R.sl (bE 1 R.ak.length R.pt (bE 2 R.heap.length R.hp []))) i=Option.none:=fun i h=>by rw[pj _ _ _ _ _ h,pj _ _ _ _ _ h,pj _ _ _ _ _ h];rfl
 unfold RS.e;refine nodup_cons (nodup_cons (nodup_cons (nodup_cons (z7 jB (z7 jB (z7 jB List.nodup_nil (fun k _=>rfl)) fun k _=>?_) fun k _=>?_) ?_) ?_) ?_) ?_
 ·rw[nu _ _ _ _ _ _ jB jB jB];rfl
 ·rw[nu _ _ _ _ _ _ jB jB jB,nu _ _ _ _ _ _ jB jB jB];rfl
 ·exact f2 3 jB
 ·show(if(2:Nat)=3 then _ else _)=_;rw[jN];exact f2 2 jB
 ·show(if(1:Nat)=2 then _ else if(1:Nat)=3 then _ else _)=_;rw[jN,jN];exact f2 1 jB
 ·show(if(0:Nat)=1 then _ else if(0:Nat)=2 then _ else if(0:Nat)=3 then _ else _)=_;rw[jN,jN,jN];exact f2 0 jB
def RS.closed{pre post:PW}(h1:aU cV pre=true)(h2:aU cV post=true):∀i r,aB (R.e t pre post []) i=some r->aU (fun i=>(ids (R.e t pre post [])).contains i) r.cells=true:=fun i r h=>by
 have up:∀{l},aU cV l=true->aU (fun i=>(ids (R.e t pre post [])).contains i) l=true:=fun h=>iN (fun _ h=>by cases h) _ h
 have c1:=mo (RS.mT (t:=t) (pre:=pre) (post:=post) (R:=R) (tl:=[]));have c2:=mo (RS.lH (t:=t) (pre:=pre) (post:=post) (R:=R) (tl:=[]));have c3:=mo (RS.mz (t:=t) (pre:=pre) (post:=post) (R:=R) (tl:=[]));by_cases h0:i=0
 ·subst h0;rw[RS.lS]at h;cases h;show aU _ (pre++R.c++post)=true;rw[uO,uO,up h1,up h2];simp only[RS.c,aU,AV.all,c1,c2,c3,Bool.and_self]
 by_cases Uh:i=1
 ·subst Uh;rw[RS.mT]at h;cases h;exact tM (qj fun k hk=>by have a:=mo (RS.nG (t:=t) (pre:=pre) (post:=post) (R:=R) (tl:=[]) hk);have b:=mo (RS.qU (t:=t) (pre:=pre) (post:=post) (R:=R) (tl:=[]) hk);simp only[RS.fr,aU,AV.all,a,b,Bool.and_self])
 by_cases XJ:i=2
 ·subst XJ;rw[RS.lH]at h;cases h;exact tM (qj fun k hk=>by have a:=mo (RS.o0 (t:=t) (pre:=pre) (post:=post) (R:=R) (tl:=[]) hk);simp only[aU,AV.all,a,Bool.and_self])
 by_cases XK:i=3
 ·subst XK;rw[RS.mz]at h;cases h;exact up (tM (iW (enc:=eS) (sz:=1) _))
 by_cases h4:i<1000
 ·rw[RS.no i jB h4]at h;cases h
 rw[RS.n5 i jB]at h;rcases sF 0 R.ak.length jB R.sl (bE 1 R.ak.length R.pt (bE 2 R.heap.length R.hp [])) i with⟨k,hk,rfl,e⟩|⟨_,e⟩
 ·rw[e]at h;cases h;exact up (tM (iW (enc:=bk) (sz:=3) _))
 rw[e]at h;rcases sF 1 R.ak.length jB R.pt (bE 2 R.heap.length R.hp []) i with⟨k,hk,rfl,e⟩|⟨_,e⟩
 ·rw[e]at h;cases h;exact up (tM (iW (enc:=ej) (sz:=2) _))
 rw[e]at h;rcases sF 2 R.heap.length jB R.hp [] i with⟨k,hk,rfl,e⟩|⟨_,e⟩
 ·rw[e]at h;cases h;exact up (tM (iW (enc:=eI) (sz:=1) _))
 rw[e]at h;cases h
variable{P:P6}{K:PT}{r0:AV}
def cE{f:FuncId}{args:PW}{pre post:PW}(hc:af P f args (R.e t pre post []) fun r l'=>r=r0/\l'=R'.e t pre' post' [])(hH:H=⟨B,R.e t pre post tl⟩)
  (h1:R.ak.length<=R'.ak.length) (h2:R.heap.length<=R'.heap.length) (hp:aU cV pre=true) (hq:aU cV post=true) (hl:low tl) (ha:aU (fun i=>decide (i=0)) args=true) (h0:aQ P f=true) (k:K r0 ⟨B,R'.e t pre' post' tl⟩):dp P (.raw (.func (.func f) #[] #[])) args H K:=by
 subst hH;refine ko h0 (tJ (E:=fun tl=>R.e t pre post tl) (E':=fun tl=>R'.e t pre' post' tl) hc (RS.iJ hl) (RS.iJ hl) RS.nodup (iN (fun i hi=>?_) _ ha) (RS.closed hp hq) k (RS.size h1 h2));have:i=0:=of_decide_eq_true hi;subst this;exact mo RS.lS
def dn:P5:=fun i=>decide (4<=i/\i<1000)
theorem RS.dn{t:P1}{pre post:PW}{R:RS}{i:Nat}(h:i∈ids (R.e t pre post [])):dn i=false:=by
 unfold Go.Gd.dn;refine decide_eq_false fun h'=>?_
 exact(iu _ _).1 h (RS.no i h'.1 h'.2)
def RS.free{t':P1}{pre post:PW}(hB:ids (R.e t pre post [])=B)(hl:low tl)(hp:aU cV pre'=true)(hq:aU cV post'=true) :
  B.all (df Go.Gd.dn)=true/\eL Go.Gd.dn (R'.e t' pre' post' tl)/\dq Go.Gd.dn (R'.e t' pre' post' tl)=R'.e t' pre' post' []:=by
 have RL:∀i∈ids tl,Go.Gd.dn i=true:=fun i hi=>by obtain⟨r,hr⟩:=Option.ne_none_iff_exists'.1 ((iu _ _).1 hi);exact decide_eq_true (hl i r hr)
 refine⟨?_,?_,?_⟩
 ·rw[List.all_eq_true];intro i hi;rw[<-hB]at hi;unfold df;rw[RS.dn hi];rfl
 ·rw[RS.cA];refine pV _ _ _ (oZ _ _ RS.nodup fun i r hi=>iN (fun j hj=>?_) _ (RS.closed hp hq i r hi)) (sP _ _ RL);unfold df;rw[RS.dn (List.contains_iff_mem.1 hj)];rfl
 ·rw[RS.cA,pJ,oL _ _ (fun i hi=>RS.dn hi),tL _ _ RL,List.append_nil]
def c7{fn:Func}{F:PW}{out:PW}{e:Exit}{t':P1}{pre post:PW}(hH:H=⟨B,R'.e t' pre' post' tl⟩)(hB:ids (R.e t pre post [])=B)(rs:List ResultVar)(hl:low tl)(hp:aU cV pre'=true)(hq:aU cV post'=true)(hr:r0.all cV=true)
  (RB:fn.results.toList=rs:=by rfl) (he:e=.normal\/e=.ret:=by first|exact Or.inr rfl|exact Or.inl rfl|fail) (ho:fP P H F rs=some out:=by first|rfl|(simp(disch:=first|omega|fail) only[go_sem,↓reduceIte,Nat.reduceEqDiff,Nat.reduceLeDiff,Nat.reduceSub,Nat.reduceAdd];rfl)) (hok:gx P H F rs:=by first|exact jI|(simp(disch:=first|omega|fail) only[go_sem,↓reduceIte,Nat.reduceEqDiff,Nat.reduceLeDiff,Nat.reduceSub,Nat.reduceAdd])) (hv:fZ out=r0:=by first|rfl|(simp only[go_sem];done)):hU P fn (fun r l=>r=r0/\l=R'.e t' pre' post' []) e F H:=by
 subst RB hH;obtain⟨h1,h2,h3⟩:=RS.free (R':=R') (t':=t') (pre':=pre') (post':=post') hB hl hp hq;exact uc Go.Gd.dn he ho hok h1 h2 (p5 hv (pF (fun _ h=>by cases h) _ (hv ▸ hr))) h3
def RS.dY(R:RS)(k:Nat)(f:aP):RS:={ R with ak:=R.ak.set k f }
theorem RS.bQ{R:RS}{k:Nat}(h:k<R.ak.length)(f:aP)(j:Nat):nth (R.dY k f).ak j=if j=k then f else nth R.ak j:=Go.Gd.bQ _ _ _ _ h
def RS.l6{f:aP}:(R.dY k f).c=R.c:=by simp[RS.c,RS.dY]
def RS.aT{f:aP}:R.ak.length=(R.dY k f).ak.length:=by simp[RS.dY]
def RS.iq{pre post:PW}(hk:k<R.ak.length){l:List ai}(hl:l.length=(nth R.ak k).ab.length)(hc:c0=pre++R.c++post)(h1:∀j,s j=if j=k then .aG 50 3 (l.map bk)else R.sl j) :
  (0,.var t c0)::(1,.aG 87 3 (dh R.ak.length R.fr))::(2,.aG 22 1 (dh R.heap.length fun k=>[.rs (bj 2 k) (nth R.heap k).length 1 (nth R.heap k).length]))::(3,.aG 9 1 (R.aS.map eS)) ::
   bE 0 R.ak.length s (bE 1 R.ak.length R.pt (bE 2 R.heap.length R.hp tl))=(R.dY k { nth R.ak k with ab:=l }).e t pre post tl:=by
 have hu:=RS.bQ hk { nth R.ak k with ab:=l };refine RS.mR (by rw[hc,RS.l6]) RS.aT (fun j hj=>?_) rfl (fun _ _=>rfl) rfl rfl rfl rfl (fun j hj=>?_) (fun j hj=>?_) (fun _ _=>rfl) rfl
 ·simp only[RS.fr,hu];split
  ·rename_i e;subst e;simp[hl,RS.dY]
  ·rfl
 ·rw[h1];simp only[RS.sl,hu];split<;>rfl
 ·simp only[RS.pt,hu];split
  ·rename_i e;subst e;rfl
  ·rfl
def RS.lQ{pre post:PW}(hk:k<R.ak.length){l:List cU}(hl:l.length=(nth R.ak k).path.length)(hc:c0=pre++R.c++post)(h1:∀j,s j=if j=k then .aG 89 2 ((l++nth R.jp k).map ej)else R.pt j) :
  (0,.var t c0)::(1,.aG 87 3 (dh R.ak.length R.fr))::(2,.aG 22 1 (dh R.heap.length fun k=>[.rs (bj 2 k) (nth R.heap k).length 1 (nth R.heap k).length]))::(3,.aG 9 1 (R.aS.map eS)) ::
   bE 0 R.ak.length R.sl (bE 1 R.ak.length s (bE 2 R.heap.length R.hp tl))=(R.dY k { nth R.ak k with path:=l }).e t pre post tl:=by
 have hu:=RS.bQ hk { nth R.ak k with path:=l };refine RS.mR (by rw[hc,RS.l6]) RS.aT (fun j hj=>?_) rfl (fun _ _=>rfl) rfl rfl rfl rfl (fun j hj=>?_) (fun j hj=>?_) (fun _ _=>rfl) rfl
 ·simp only[RS.fr,hu];split
  ·rename_i e;subst e;simp[hl,RS.dY]
  ·rfl
 ·simp only[RS.sl,hu];split
  ·rename_i e;subst e;rfl
  ·rfl
 ·rw[h1];simp only[RS.pt,hu];split
  ·rename_i e;subst e;rfl
  ·rfl
def aw.cC(s:aw):aP:=nth s.ah (s.ah.length-1)
def aP.pl(f:aP):cU:=nth f.path (f.path.length-1)
def aW(p:ae)(s:aw):Int:=nth (ir p s.cC.pl.block) s.cC.pl.at_.toNat
def nN(f:aP):aP:={ f with path:=f.path.set (f.path.length-1) ⟨(nth f.path (f.path.length-1)).block,(nth f.path (f.path.length-1)).at_+1⟩ }
def RS.on(R:RS):RS:=R.dY (R.nf-1) (nN (nth R.ak (R.nf-1)))
structure gv(R:RS):Prop where
 ok:R.Ok
 nf:1<=R.nf
 ak:R.ak.length<=1000
 pa:1<=(nth R.ak (R.nf-1)).path.length
 gV:(nth R.ak (R.nf-1)).path.length<=1000
 a0:0<=(nth R.ak (R.nf-1)).pl.at_
 a1:(nth R.ak (R.nf-1)).pl.at_<=1000000
theorem gv.dY{R:RS}(h:gv R){f:aP}(e:f.path=(nth R.ak (R.nf-1)).path):gv (R.dY (R.nf-1) f):=by
 have hu:nth (R.dY (R.nf-1) f).ak ((R.dY (R.nf-1) f).nf-1)=f:=by have h1:=h.nf;have h2:=h.ok.nf;show nth (R.dY (R.nf-1) f).ak (R.nf-1)=f;rw[RS.bQ jB,if_pos rfl]
 have hl:(R.dY (R.nf-1) f).ak.length=R.ak.length:=RS.aT.symm;refine⟨⟨by rw[hl];exact h.ok.nf,by rw[hl];exact h.ok.jp⟩,h.nf,by rw[hl];exact h.ak,by rw[hu,e];exact h.pa,by rw[hu,e];exact h.gV,?_,?_⟩
 ·rw[hu];unfold aP.pl;rw[e];exact h.a0
 ·rw[hu];unfold aP.pl;rw[e];exact h.a1
variable{args':PW}
def mM{f:FuncId}{args:PW}{R:AV->Prop}(hc:aA P f args' r0)(hv:bc (fun _=>true) H args args')(hr:r0.flat=true)(h0:aQ P f=true)(k:R r0) :
  ∃r,(dp P (.raw (.func (.func f) #[] #[])) args H fun r' H'=>r'=r/\H'=H)/\R r:=⟨r0,ko h0 (Cm hc hv hr ⟨rfl,rfl⟩),k⟩
def cL{f:FuncId}{args:PW}(hc:aA P f args' r0)(hv:bc (fun _=>true) H args args')(hr:r0.flat=true)(h0:aQ P f=true)(k:K r0 H) :
  dp P (.raw (.func (.func f) #[] #[])) args H K:=ko h0 (Cm hc hv hr k)
def gg(p:ae)(node:Int):Prop:=(nth p.aa.nodes node.toNat).kind=10\/(nth p.aa.nodes node.toNat).kind=11
instance (p:ae)(node:Int):Decidable (gg p node):=by unfold gg;infer_instance
structure ka(p:ae)(s:aw):Prop where
 fr:1<=s.ah.length
 ak:s.ah.length<=1000
 pa:1<=s.cC.path.length
 gV:s.cC.path.length<=1000
 b0:0<=s.cC.pl.block
 b1:s.cC.pl.block<p.aa.nodes.length
 a0:0<=s.cC.pl.at_
 a1:s.cC.pl.at_<(ir p s.cC.pl.block).length
 uW:s.cC.pl.at_<=1000000
 n0:0<=aW p s
 n1:aW p s<p.aa.nodes.length
 sl:p.ab.length=p.aa.nodes.length
 s0:gg p (aW p s)->0<=nth p.ab (aW p s).toNat/\nth p.ab (aW p s).toNat<s.cC.ab.length
def RS.pop(R:RS):RS:={ R with nf:=R.nf-1 }
def RS.br(R:RS)(p:ae)(node:Int)(v:ai):RS:=R.dY (R.nf-1) { nth R.ak (R.nf-1)with ab:=(nth R.ak (R.nf-1)).ab.set (nth p.ab node.toNat).toNat v }
def RS.bh(R:RS)(p:ae)(v:ai):RS:=
 if R.nf<=1 then{ R.pop with status:=2 }
 else if gg p (aW p R.pop.st)then(R.pop.br p (aW p R.pop.st) v).on else R.pop.on
theorem RS.cC{R:RS}(h:R.Ok)(h1:1<=R.nf):R.st.cC=nth R.ak (R.nf-1):=by
 have:=h.nf;unfold RS.st aw.cC;simp only;have hl:(R.ak.take R.nf).length=R.nf:=by simp;omega
 rw[hl,gD jB,gD jB];simp
def RS.aF(R:RS):aP:=nth R.ak (R.nf-1)
def RS.cut(R:RS):RS:={ R with ak:=R.ak.set (R.nf-1) { R.aF with path:=R.aF.path.take (R.aF.path.length-1) },jp:=R.jp.set (R.nf-1) (R.aF.pl::nth R.jp (R.nf-1)) }
def n4(f:Nat->Nat):Nat->Nat
 |0=>0
 |n+1=>n4 f n+f n
theorem yQ{f g:Nat->Nat}:∀{n:Nat},(∀k,k<n->f k=g k)->n4 f n=n4 g n
 |0,_=>rfl
 |n+1,h=>by unfold n4;rw[yQ (n:=n) fun k hk=>h k jB,h n jB]
def RS.left(R:RS):Nat:=n4 (fun k=>(nth R.ak k).path.length+1) R.nf
def io(p:ae):Nat->RS->RS
 |0,R=>R
 |n+1,R=>
  if R.status=2 then R
  else if R.aF.path.length=0 then io p n (R.bh p (vZ (nth p.aa.av R.aF.fn.toNat).ret))
  else if R.aF.pl.at_<(ir p R.aF.pl.block).length then R
  else io p n R.cut
def RS.settle(R:RS)(p:ae):RS:=io p (R.left+1) R
def RS.of(s:aw):RS:=⟨s.ah,s.ah.length,s.ah.map fun _=>[],s.heap,s.in_,s.aS,s.status,s.bL,s.time⟩
def RS.push(R:RS)(f:aP):RS:={ R with ak:=R.ak++[f],nf:=R.nf+1,jp:=R.jp++[[]] }
def RS.store(R:RS)(p:ae)(node:Int)(v:ai):RS:=(R.br p node v).on
def RS.aZ(R:RS)(block:Int):RS:=R.dY (R.nf-1) { R.aF with path:=R.aF.path++[⟨block,0⟩] }
def fk(p:ae)(fn:Int)(args:List ai):aP:=⟨fn,args++List.replicate ((nth p.size fn.toNat)-args.length).toNat v0,[⟨(nth p.aa.av fn.toNat).body,0⟩]⟩
def qJ:aw:=⟨[],[],0,[],0,0,0⟩
def dx(p:ae):aw:=((RS.of { qJ with ah:=[fk p (mB p) []] }).settle p).st
def bq(p:ae)(s:aw):Int:=if s.status=2\/s.status=3 then -1 else aW p s
def RS.val(R:RS)(p:ae)(node:Int):ai×Int:=da p R.aF.ab R.heap p.aa.nodes.length node
def RS.args(R:RS)(p:ae):PY->List ai->List ai×Int
 |[],a=>(a,0)
 |x::l,a=>if(R.val p x).2≠0 then(a,(R.val p x).2)else R.args p l (a++[(R.val p x).1])
def RS.call(R:RS)(p:ae)(node:Int):RS×Int:=
 let a:=R.args p (aJ p node).l []
 if a.2≠0 then(R,a.2)
 else if 8<=R.nf then(R,3)
 else(R.push (fk p (gP bg.name (aJ p node).name p.aa.av 0) a.1),0)
def RS.fresh(R:RS)(p:ae)(node:Int):RS×ai×Int:=
 let v:=R.val p (nth (aJ p node).l 0)
 if v.2≠0 then(R,v0,v.2)
 else if v.1.n<0\/16<v.1.n then(R,v0,7)
 else if 40<fj R.heap+v.1.n+1 then(R,v0,4)
 else({ R with heap:=R.heap++[List.replicate v.1.n.toNat 0] },⟨4,R.heap.length+1,sE⟩,0)
def RS.right(R:RS)(p:ae)(node:Int)(inp:PY):RS×Int:=
 let x:=nth (aJ p node).l 0
 let k:=(aJ p x).kind
 if k=21 then R.call p x
 else if k=19 then(({ R with in_:=R.in_+1 }:RS).store p node (vI (nth inp R.in_.toNat)),0)
 else if k=20 then
  let r:=R.fresh p x
  if r.2.2=0 then(r.1.store p node r.2.1,0)else(r.1,r.2.2)
 else
  let v:=R.val p x
  if v.2=0 then(R.store p node v.1,0)else(R,v.2)
def RS.put(R:RS)(p:ae)(node:Int):RS×Int:=
 let x:=R.val p (nth (aJ p node).l 0)
 let y:=R.val p (nth (aJ p node).l 1)
 let v:=gA R.aF.ab (nth p.ab node.toNat) 4
 if x.2≠0 then(R,x.2)
 else if y.2≠0 then(R,y.2)
 else if x.1.n<0\/((fq R.heap v).length:Int)<=x.1.n then(R,2)
 else(({ R with heap:=R.heap.set (v.n-1).toNat ((nth R.heap (v.n-1).toNat).set x.1.n.toNat y.1.n) }:RS).on,0)
def RS.bF(R:RS)(p:ae)(node:Int)(inp:PY):RS×Int:=
 let n:=aJ p node
 let v:=R.val p (nth n.l 0)
 if n.kind=10\/n.kind=11 then R.right p node inp
 else if n.kind=13 then R.call p (nth n.l 0)
 else if n.kind=12 then R.put p node
 else if n.kind=17 then
  (if n.l.length=0 then(R.bh p v0,0)
  else if v.2≠0 then(R,v.2)else(R.bh p v.1,0))
 else if v.2≠0 then(R,v.2)
 else if n.kind=14 then
  (if 24<=R.aS.length then(R,5)else(({ R with aS:=R.aS++[kn v.1] }:RS).on,0))
 else if n.kind=15 then
  (if v.1.n=1 then(R.on.aZ (nth n.l 1),0)
  else if n.l.length=3 then(R.on.aZ (nth n.l 2),0)else(R.on,0))
 else if n.kind=16 then
  (if v.1.n=1 then(R.aZ (nth n.l 1),0)else(R.on,0))
 else(R,0)
def ik(p:ae)(s:aw)(node:Int)(inp:PY):Prop:=gg p node/\(aJ p (nth (aJ p node).l 0)).kind=19/\(inp.length:Int)<=s.in_
instance (p:ae)(s:aw)(node:Int)(inp:List Int):Decidable (ik p s node inp):=by unfold ik;infer_instance
def dO(p:ae)(s:aw)(inp:PY):aw:=
 if bq p s<0 then s
 else if ik p s (bq p s) inp then{ s with status:=1 }
 else
  let r:=(RS.of { s with status:=0 }).bF p (bq p s) inp
  if r.2≠0 then{ s with status:=3,bL:=r.2,time:=s.time+1 }
  else(({ r.1 with time:=s.time+1 }:RS).settle p).st
def oz(p:ae)(inp:PY):Nat->aw
 |0=>dx p
 |n+1=>dO p (oz p inp n) inp
end Go.Gd
namespace Go.Proofs.YtghoellpinmenaaGreatDoor
open Go Go.Gd Tryz
def fA(t:aE)(a:Int):Prop:=0<=a/\a<t.nodes.length
def xy(c:Ck):Prop:=c.e=0\/c.e=44\/fA c.aa c.at_
def Kp(t:aE)(c c':Ck):Prop:=c.aa=t->c'.aa=t/\(xy c->xy c')
def Kp.refl(t:aE)(c:Ck):Kp t c c:=fun h=>⟨h,id⟩
variable{t:aE}{b:Ck}
def Kp.trans{a c:Ck}(h:Kp t a b)(k:Kp t b c):Kp t a c:=fun e=>⟨(k (h e).1).1,fun x=>(k (h e).1).2 ((h e).2 x)⟩
variable{c':Ck}
def nM{c:Ck}(h1:c'.aa=c.aa)(h2:c'.e=c.e)(h3:c'.at_=c.at_):Kp t c c':=fun e=>⟨h1.trans e,fun h=>by unfold xy at*;rw[h1,h2,h3];exact h⟩
variable{a:Int}
def py(c:Ck)(e:Int)(ha:fA t a):Kp t c (c.aD e a):=fun ht=>by
 unfold Ck.aD;split
 ·refine⟨ht,fun _=>.inr (.inr ?_)⟩;show fA c.aa a;rw[ht];exact ha
 ·exact⟨ht,id⟩
def ov(c:Ck)(b:Bool)(ha:fA t a):Kp t c (c.ar b a):=by
 unfold Ck.ar;split
 ·exact .refl t c
 ·exact py c 42 ha
def wL(c:Ck)(ha:fA t a):Kp t c (c.named a).1:=by
 unfold Ck.named;split
 ·exact py c 40 ha
 ·exact nM rfl rfl rfl
variable{α:Type}{i:Nat}
def Cs[Inhabited α]{l:List α}(h:l.length<=i):nth l i=default:=by simp[nth,List.getD_eq_getElem?_getD,List.getElem?_eq_none h]
def tO(h:aX t){c:Ck}(hc:c.aa=t)(ha:fA t a)(i:Nat):fA t (c.aC a i):=by
 obtain⟨h0,h1⟩:=ha;unfold Ck.aC Ck.node;rw[hc];by_cases hi:i<(nth t.nodes a.toNat).l.length
 ·have:=(h.shape a.toNat jB).2.1 _ (dZ hi);unfold fA;omega
 ·have:nth (nth t.nodes a.toNat).l i=0:=Cs (Nat.le_of_not_lt hi);rw[this];unfold fA;omega
def xC(h:aX t){c:Ck}(hc:c.aa=t)(ha:fA t a):∀x∈(c.node a).l,fA t x:=fun x hx=>by obtain⟨h0,h1⟩:=ha;unfold Ck.node at hx;rw[hc]at hx;have:=(h.shape a.toNat jB).2.1 _ hx;unfold fA;omega
theorem z6{t:aE}{ex:Ck->Int->Ck×Int}(hex:∀c a,fA t a->Kp t c (ex c a).1):∀(l:PY) (c:Ck) (ts:PY),(∀x∈l,fA t x)->Kp t c (fR ex c l ts).1
 |[],c,ts,_=>by unfold fR;exact .refl t c
 |a::l,c,ts,hl=>by
  unfold fR;split
  ·exact(hex c a (hl a jE)).trans (z6 hex l _ _ fun x hx=>hl x (by simp[hx]))
  ·exact .refl t c
theorem E7{t:aE}{a:Int}(ha:fA t a):∀(ts:PY) (ps:List bM) (c:Ck),Kp t c (gH a c ts ps)
 |[],ps,c=>by rw[r7];exact .refl t c
 |_::_,[],c=>by rw[ua];exact .refl t c
 |x::ts,p::ps,c=>by
  unfold gH;split
  ·exact(ov c _ ha).trans (E7 ha ts ps _)
  ·exact .refl t c
variable{ex:Ck->Int->Ck×Int}
def Hz(h:aX t)(hex:∀c a,fA t a->Kp t c (ex c a).1)(c:Ck)(ha:fA t a):Kp t c (iv ex c a).1:=fun hc=>by
 refine(show Kp t c (iv ex c a).1 from ?_) hc;unfold iv;split
 ·exact py c 40 ha
 ·refine Kp.trans ?_ (E7 ha _ _ _);split
  ·exact(z6 hex _ _ _ (xC h hc ha)).trans (py _ 43 ha)
  ·exact z6 hex _ _ _ (xC h hc ha)
def N2(h:aX t)(hex:∀c a,fA t a->Kp t c (ex c a).1)(c:Ck)(ha:fA t a):Kp t c (bW ex c a).1:=fun hc=>by
 have k0:=tO h hc ha 0;have k1:=tO h hc ha 1;refine(show Kp t c (bW ex c a).1 from ?_) hc;unfold bW;simp only;repeat' split
 all_goals first
  |exact .refl t c
  |exact wL c ha
  |exact Hz h hex c ha
  |exact((wL c ha).trans (hex _ _ k0)).trans (ov _ _ ha)
  |exact((hex c _ k0).trans (hex _ _ k1)).trans (ov _ _ ha)
  |exact(hex c _ k0).trans (ov _ _ ha)
theorem EO{t:aE}(h:aX t):∀(n:Nat) (c:Ck) (a:Int),fA t a->Kp t c (ay n c a).1
 |0,c,a,ha=>by unfold ay;exact .refl t c
 |n+1,c,a,ha=>by
  unfold ay;split
  ·exact .refl t c
  ·exact(N2 h (EO h n) c ha).trans (nM rfl rfl rfl)
def Pr(h:aX t)(hex:∀c a,fA t a->Kp t c (ex c a).1)(c:Ck)(ha:fA t a):Kp t c (nC ex c a):=fun hc=>by
 have k0:=tO h hc ha 0;refine(show Kp t c (nC ex c a) from ?_) hc;rw[sC];have kA:Kp t c (gO ex c a):=(hex c _ k0).trans (ov _ _ ha);have kB:Kp t c (iV ex c a):=by
  unfold iV;split
  ·exact kA.trans (py _ 41 ha)
  ·exact kA
 have kC:Kp t c (ee ex c a):=by
  unfold ee;split
  ·exact kB.trans (py _ 4 ha)
  ·exact kB
 exact kC.trans (nM rfl rfl rfl)
def IK(h:aX t)(hex:∀c a,fA t a->Kp t c (ex c a).1)(c:Ck)(ha:fA t a):Kp t c (jS ex c a):=fun hc=>by
 have k0:=tO h hc ha 0;refine(show Kp t c (jS ex c a) from ?_) hc;unfold jS;simp only;split
 ·exact py c 43 ha
 split
 ·exact(hex c _ k0).trans (ov _ _ ha)
 ·exact .refl t c
theorem Ay{t:aE}{st:Ck->Int->Ck}(J':∀c a,fA t a->Kp t c (st c a)):∀(l:PY) (c:Ck),(∀x∈l,fA t x)->Kp t c (dN st c l)
 |[],c,_=>by unfold dN;exact .refl t c
 |a::l,c,hl=>by
  unfold dN;split
  ·exact(J' c a (hl a jE)).trans (Ay J' l _ fun x hx=>hl x (by simp[hx]))
  ·exact .refl t c
def Du(h:aX t){st:Ck->Int->Ck}(J':∀c a,fA t a->Kp t c (st c a))(c:Ck)(ha:fA t a):Kp t c (eE st c a):=fun hc=>by refine(show Kp t c (eE st c a) from ?_) hc;have h1:Kp t c (c.aj a):=nM rfl rfl rfl;exact(h1.trans (Ay J' _ _ (xC h hc ha))).trans (nM rfl rfl rfl)
theorem EQ{t:aE}(h:aX t):∀(n:Nat) (c:Ck) (a:Int),fA t a->Kp t c (bP n c a)
 |0,c,a,ha=>by unfold bP;exact .refl t c
 |n+1,c,a,ha=>fun hc=>by
  have k0:=tO h hc ha 0;have k1:=tO h hc ha 1;have kl:=xC h hc ha;refine(show Kp t c (bP (n+1) c a) from ?_) hc;have e0:Kp t c (c.aj a):=nM rfl rfl rfl;have hx:=EO h n;unfold bP;simp only;refine e0.trans ?_;repeat' split
  ·exact Pr h hx _ ha
  ·exact((wL _ ha).trans (hx _ _ k0)).trans (ov _ _ ha)
  ·exact(((wL _ ha).trans (hx _ _ k0)).trans (hx _ _ k1)).trans (ov _ _ ha)
  ·exact hx _ _ k0
  ·exact(hx _ _ k0).trans (ov _ _ ha)
  ·exact IK h hx _ ha
  ·exact((hx _ _ k0).trans (ov _ _ ha)).trans (Ay (fun c a ha=>Du h (EQ h n) c ha) _ _ fun x Qg=>kl x (List.mem_of_mem_drop Qg))
theorem Gg{t:aE}{body:Int}(hb:fA t body):∀(ps:List bM) (c:Ck) (i:Int),Kp t c (eP body c ps i)
 |[],c,i=>by unfold eP;exact .refl t c
 |p::ps,c,i=>by
  unfold eP;simp only;refine Kp.trans ?_ (Gg hb ps _ _);split
  ·exact(py c 41 hb).trans (nM rfl rfl rfl)
  ·exact nM rfl rfl rfl
variable{k:Nat}
def px(h:aX t)(hk:k<t.av.length):fA t (nth t.av k).body:=by have:=h.chain.mem (nth t.av k).body (List.mem_map.2 ⟨_,dZ hk,rfl⟩);unfold fA;omega
def Mu(h:aX t)(c:Ck)(hk:k<t.av.length):Kp t c (fY c k):=fun hc=>by
 refine(show Kp t c (fY c k) from ?_) hc;have hb:fA t (nth c.aa.av k).body:=by rw[hc];exact px h hk
 have h1:Kp t c (eP (nth c.aa.av k).body { c with fn:=(k:Int),vars:=[],more:=[],size:=0 } (nth c.aa.av k).params 0):=Kp.trans (b:={ c with fn:=(k:Int),vars:=[],more:=[],size:=0 }) (nM rfl rfl rfl) (Gg hb _ _ _);unfold fY;simp only;split
 ·exact(h1.trans (Du h (EQ h _) _ hb)).trans (nM rfl rfl rfl)
 ·exact h1.trans (nM rfl rfl rfl)
theorem Ct{t:aE}(h:aX t):∀(n:Nat) (c:Ck) (i:Nat),i+n<=t.av.length->Kp t c (fX c i n)
 |0,c,i,_=>by unfold fX;exact .refl t c
 |n+1,c,i,hi=>by
  unfold fX;split
  ·exact(Mu h c jB).trans (Ct h n _ _ jB)
  ·exact .refl t c
theorem F4{t:aE}{x:bg}(hx:fA t x.body):∀(l:List bg) (c:Ck),Kp t c (kG x c l)
 |[],c=>by unfold kG;exact .refl t c
 |f::l,c=>by
  unfold kG;refine Kp.trans ?_ (F4 hx l _);split
  ·exact py c 41 hx
  ·exact .refl t c
theorem DN{t:aE}(h:aX t):∀(n:Nat) (c:Ck) (m:Bool) (i:Nat),i+n<=t.av.length->Kp t c (jO t.av c m i n).1
 |0,c,m,i,_=>by unfold jO;exact .refl t c
 |n+1,c,m,i,hi=>by unfold jO;exact(F4 (px h jB) _ _).trans (DN h n _ _ _ jB)
def NK(h:aX t)(c:Ck):Kp t c (iB c):=fun hc=>by
 have h1:Kp t c (jO c.aa.av c false 0 c.aa.av.length).1:=by rw[hc];exact DN h _ _ _ _ jB
 refine(show Kp t c (iB c) from ?_) hc;unfold iB;simp only;split
 ·exact h1
 ·refine h1.trans fun hq=>?_
  unfold Ck.aD;split
  ·exact⟨hq,fun _=>.inr (.inl rfl)⟩
  ·exact⟨hq,id⟩
def Hm(h:aX t):xy (gS t)/\(gS t).aa=t:=by have k:Kp t (iQ t) (gS t):=(NK h (iQ t)).trans (Ct h _ _ _ jB);exact⟨(k rfl).2 (.inl rfl),(k rfl).1⟩
def J6(h:aX t):(gC t).2.2=0\/(gC t).2.2=44\/fA t (gC t).2.1:=by
 obtain⟨a,b⟩:=Hm h;unfold gC;split
 ·rcases a with a|a|a
  ·exact .inl a
  ·exact .inr (.inl a)
  ·rw[b]at a;exact .inr (.inr a)
 ·exact .inl rfl
def te(s:P0)(hs:s.size<=1000000):aA prog 10 [rS s] (.bt [.agg (bp (fJ s).1),rI (fJ s).2.1,rI (fJ s).2.2]):=by
 have hp:=Pj s hs;by_cases h1:(fO s).2.2=0
 ·have ht:=vM h1;have hk:=HY (fO s).1 ht;have QF:=J6 ht;by_cases h2:(gC (fO s).1).2.2=44
  ·have e:fJ s=(jr,0,44):=by unfold fJ;rw[if_neg (fun h=>h h1)];simp only;rw[if_pos h2]
   rw[e];refine bI func10 ntmps10 ?_
   (have W:=jA h1 h2;repeat' (first|refine aq fun K hK=>?_|refine am ?_|(with_reducible refine gR 8 ?_);refine dA 8 [0] (au 0 11) mixed ?_|(refine hK _ _ ?_;clear hK K)|(refine ao ?_ ?_<;>intro hc<;>try exact jz)|refine cp (hp) ?_|refine cp (hk) ?_|refine ap ?_|exact jI|(clear hK K)))
   refine jf [.cell 2 29,.tmp 3,.tmp 4] ?_;refine bc.bt (ds:=[.agg (bp jr),rI _,rI _]) ?_;refine jA (bc.agg (ds:=bp jr) ?_) (jA (.same _ rfl) (jA (.same _ rfl) trivial));simp only[bp,jr];exact gJ
  ·by_cases h3:(gC (fO s).1).2.2=0
   ·have e:fJ s=((gC (fO s).1).1,0,0):=by unfold fJ;rw[if_neg (fun h=>h h1)];simp only;rw[if_neg h2,if_neg (fun h=>h h3)]
    rw[e];refine bI func10 ntmps10 ?_
    (have W:=jA h1 h3;repeat' (first|refine aq fun K hK=>?_|refine am ?_|(with_reducible refine gR 8 ?_);refine dA 8 [0] (au 0 11) mixed ?_|(refine hK _ _ ?_;clear hK K)|(refine ao ?_ ?_<;>intro hc<;>try exact jz)|refine cp (hp) ?_|refine cp (hk) ?_|refine ap ?_|exact jI|(clear hK K)))
    (refine aY [.cell 2 29,.tmp 3,.tmp 4] ?_;try simp only[go_sem])
   ·have e:fJ s=(jr,(nth (fO s).1.nodes (gC (fO s).1).2.1.toNat).cv,(gC (fO s).1).2.2):=by unfold fJ;rw[if_neg (fun h=>h h1)];simp only;rw[if_neg h2,if_pos h3]
    obtain⟨Rw,S3⟩:=(QF.resolve_left h3).resolve_left h2;rw[e];refine bI func10 ntmps10 ?_
    (have W:=jA h1 (jA h2 (h3));repeat' (first|refine aq fun K hK=>?_|refine am ?_|(with_reducible refine gR 8 ?_);refine dA 8 [0] (au 0 11) mixed ?_|(refine hK _ _ ?_;clear hK K)|(refine ao ?_ ?_<;>intro hc<;>try exact jz)|refine cp (hp) ?_|refine cp (hk) ?_|refine ap ?_|exact jI|(clear hK K)))
    refine jf [.cell 2 29,.tmp 3,.tmp 4] ?_;refine bc.bt (ds:=[.agg (bp jr),rI _,rI _]) ?_;refine jA (bc.agg (ds:=bp jr) ?_) (jA (.same _ rfl) (jA (.same _ rfl) trivial));simp only[bp,jr];exact gJ
 ·have e:fJ s=(jr,(fO s).2.1,(fO s).2.2):=by unfold fJ;rw[if_pos h1]
  rw[e];refine bI func10 ntmps10 ?_
  (have W:=h1;repeat' (first|refine aq fun K hK=>?_|refine am ?_|(with_reducible refine gR 8 ?_);refine dA 8 [0] (au 0 11) mixed ?_|(refine hK _ _ ?_;clear hK K)|(refine ao ?_ ?_<;>intro hc<;>try exact jz)|refine cp (hp) ?_|refine ap ?_|exact jI|(clear hK K)))
  refine jf [.cell 2 29,.tmp 3,.tmp 4] ?_;refine bc.bt (ds:=[.agg (bp jr),rI _,rI _]) ?_;refine jA (bc.agg (ds:=bp jr) ?_) (jA (.same _ rfl) (jA (.same _ rfl) trivial));simp only[bp,jr];exact gJ
def uJ[Inhabited α](l:List α)(i k:Nat)(v:α):nth (l.set i v) k=if i=k/\k<l.length then v else nth l k:=by
 unfold nth;rw[List.getD_eq_getElem?_getD,List.getElem?_set,List.getD_eq_getElem?_getD];by_cases h:i=k
 ·subst h;by_cases hi:i<l.length
  ·simp[hi]
  ·simp[hi]
 ·simp[h]
structure rZ(t:aE)(ty:List Int)(k:Nat):Prop where
 int:(nth t.nodes k).kind=1->nth ty k=1
 bool:(nth t.nodes k).kind=2->nth ty k=2
 text:(nth t.nodes k).kind=3->nth ty k=3
 var:(nth t.nodes k).kind=4->1<=nth ty k/\nth ty k<=4
 index:(nth t.nodes k).kind=5->nth ty k=1/\nth ty (nth (nth t.nodes k).l 0).toNat=1
 len:(nth t.nodes k).kind=6->nth ty k=1/\(nth ty (nth (nth t.nodes k).l 0).toNat=3\/nth ty (nth (nth t.nodes k).l 0).toNat=4)
 neg:(nth t.nodes k).kind=7->nth ty k=1/\nth ty (nth (nth t.nodes k).l 0).toNat=1
 not:(nth t.nodes k).kind=8->nth ty k=2/\nth ty (nth (nth t.nodes k).l 0).toNat=2
 zn:(nth t.nodes k).kind=9->nth ty k=gQ (nth t.nodes k).name (nth ty (nth (nth t.nodes k).l 0).toNat) (nth ty (nth (nth t.nodes k).l 1).toNat)/\nth ty k≠0
 cond:(nth t.nodes k).kind=15\/(nth t.nodes k).kind=16->nth ty (nth (nth t.nodes k).l 0).toNat=2
 call:(nth t.nodes k).kind=21->0<=iG bg.name (nth t.nodes k).name t.av 0 (-1)/\(nth t.nodes k).l.length=(nth t.av (iG bg.name (nth t.nodes k).name t.av 0 (-1)).toNat).params.length
 in_:(nth t.nodes k).kind=19->nth ty k=1
 new:(nth t.nodes k).kind=20->nth ty k=4
 Ap:(nth t.nodes k).kind=10->1<=nth ty (nth (nth t.nodes k).l 0).toNat/\nth ty (nth (nth t.nodes k).l 0).toNat<=4
def fh(t:aE)(ty:PY)(lo hi:Nat):Prop:=∀k,lo<=k->k<hi->rZ t ty k
def Tw(lo hi:Nat)(c c':Ck):Prop:=∀k,(k<lo\/hi<=k)->nth c'.types k=nth c.types k
variable{lo hi:Nat}{L:PY}
def _root_.Go.Gd.aR.closed{t:List bl}(h:aR t lo L hi):∀k,lo<=k->k<hi->∀a∈(nth t k).l,lo<=a.toNat:=by
 induction h with
 |nil=>intro k h1 h2;omega
 |@cons lo c hi L hc h1 h2 i1 i2=>
  intro k Qt Qf a ha;have l1:=h1.le;by_cases h:k<c
  ·exact i1 k Qt h a ha
  by_cases h':k=c
  ·subst h';exact(h1.mem a ha).2.1
  ·have:=i2 k jB Qf a ha;omega
variable{ty:PY}
def rZ.bS(h:aX t){ty':PY}(hk:k<t.nodes.length)(QU:lo<=k)(hc:∀a∈(nth t.nodes k).l,lo<=a.toNat)(he:∀i,lo<=i->i<=k->nth ty' i=nth ty i)(x:rZ t ty k):rZ t ty' k:=by
 have hm:=(h.shape k hk).2.1;have sh:=(h.shape k hk).1;have e0:=he k QU jl;have ea:∀i,i<(nth t.nodes k).l.length->nth ty' (nth (nth t.nodes k).l i).toNat=nth ty (nth (nth t.nodes k).l i).toNat:=fun i hi=>by have QW:=dZ hi;have:=hm _ QW;exact he _ (hc _ QW) jB
 refine⟨fun e=>by rw[e0];exact x.int e,fun e=>by rw[e0];exact x.bool e,fun e=>by rw[e0];exact x.text e,fun e=>by rw[e0];exact x.var e,fun e=>?_,fun e=>?_,fun e=>?_,fun e=>?_,fun e=>?_,fun e=>?_,x.call,fun e=>by rw[e0];exact x.in_ e,fun e=>by rw[e0];exact x.new e,fun e=>?_⟩
 ·obtain⟨a,hl,_⟩:=sh.one jB;rw[e0,ea 0 (by rw[hl];simp)];exact x.index e
 ·obtain⟨a,hl,_⟩:=sh.one jB;rw[e0,ea 0 (by rw[hl];simp)];exact x.len e
 ·obtain⟨a,hl,_⟩:=sh.one jB;rw[e0,ea 0 (by rw[hl];simp)];exact x.neg e
 ·obtain⟨a,hl,_⟩:=sh.one jB;rw[e0,ea 0 (by rw[hl];simp)];exact x.not e
 ·obtain⟨a,b,hl,_⟩:=sh.two jB;rw[e0,ea 0 (by rw[hl];simp),ea 1 (by rw[hl];simp)];exact x.zn e
 ·have hl:0<(nth t.nodes k).l.length:=by
   rcases e with e|e
   ·obtain⟨a,b,_,_,hl|⟨d,hl,_⟩⟩:=sh.jM e<;>rw[hl]<;>simp
   ·obtain⟨a,b,hl,_⟩:=sh.dH e;rw[hl];simp
  rw[ea 0 hl];exact x.cond e
 ·obtain⟨a,hl,_⟩:=sh.right jB;rw[ea 0 (by rw[hl];simp)];exact x.Ap e
theorem fh.bS{t:aE}(h:aX t){ty ty':PY}{lo hi:Nat}{L:PY}(hc:aR t.nodes lo L hi)(hl:hi<=t.nodes.length)(he:∀i,lo<=i->i<hi->nth ty' i=nth ty i)(x:fh t ty lo hi):fh t ty' lo hi:=fun k h1 h2=> (x k h1 h2).bS h jB h1 (hc.closed k h1 h2) fun i g1 g2=>he i g1 jB
variable{mid:Nat}
def fh.join(x:fh t ty lo mid)(y:fh t ty mid hi):fh t ty lo hi:=fun k h1 h2=>by
 by_cases h:k<mid
 ·exact x k h1 h
 ·exact y k jB h2
def fh.none:fh t ty lo lo:=fun k h1 h2=>jB
def Tw.refl(lo hi:Nat)(c:Ck):Tw lo hi c c:=fun _ _=>rfl
def Tw.same{c:Ck}(h:c'.types=c.types):Tw lo hi c c':=fun _ _=>by rw[h]
theorem Tw.trans{lo hi:Nat}{a b c:Ck}(h:Tw lo hi a b)(k:Tw lo hi b c):Tw lo hi a c:=fun i hi=>(k i hi).trans (h i hi)
def Tw.mono{lo' R8:Nat}{a:Ck}(h:Tw lo hi a b)(h1:lo'<=lo)(h2:hi<=R8):Tw lo' R8 a b:=fun i hi=>h i jB
def AT(c:Ck)(e a:Int):(c.aD e a).types=c.types:=by unfold Ck.aD;split<;>rfl
def jZ(c:Ck)(b:Bool)(a:Int):(c.ar b a).types=c.types:=by unfold Ck.ar;split;rfl;exact AT _ _ _
def ie{c:Ck}{b:Bool}(h:(c.ar b a).e=0):b=true/\c.e=0:=by
 unfold Ck.ar at h;split at h
 ·exact⟨by assumption,h⟩
 ·exfalso;unfold Ck.aD at h;split at h
  ·cases h
  ·contradiction
def oH{c:Ck}{e:Int}(he:e≠0)(h:(c.aD e a).e=0):False:=by
 unfold Ck.aD at h;split at h
 ·exact he h
 ·contradiction
def xk(c:Ck)(a:Int):(c.named a).1.types=c.types:=by unfold Ck.named;split;exact AT _ _ _;rfl
def cD(c:Ck):Prop:=∀v∈c.vars,1<=v.ty/\v.ty<=4
def cD.ev{c:Ck}(h:cD c)(s:Ev c c'):cD c':=by unfold cD;rw[s.vars];exact h
def PN{c:Ck}(h:cD c)(he:(c.named a).1.e=0):1<=(c.named a).2/\(c.named a).2<=4:=by
 unfold Ck.named at he ⊢;split
 ·rename_i hf;rw[if_pos hf]at he;exact(oH jC he).elim
 ·rename_i hf;rcases wE bH.name (c.node a).name c.vars 0 jB with⟨h1,_⟩|h1
  ·exact(hf (by show gP bH.name (c.node a).name c.vars 0<0;rw[h1];decide)).elim
  ·exact h _ (dZ (by show(gP bH.name (c.node a).name c.vars 0).toNat<_;omega))
def Ev.e0{c:Ck}(s:Ev c c')(h:c'.e=0):c.e=0:=Classical.byContradiction fun e=>s.err e h
structure fp(t:aE)(lo hi:Nat)(c c':Ck):Prop where
 tw:Tw lo hi c c'
 all:fh t c'.types lo hi
def fp.post{a c:Ck}(h:fp t lo hi a b)(e:c.types=b.types):fp t lo hi a c:=⟨h.tw.trans (.same e),by rw[e];exact h.all⟩
def fp.pre{a c:Ck}(e:b.types=a.types)(h:fp t lo hi b c):fp t lo hi a c:=⟨(Tw.same e).trans h.tw,h.all⟩
def fp.seq(ht:aX t){a c:Ck}(hc:aR t.nodes lo L mid)(hl:mid<=t.nodes.length)(h1:mid<=hi)(h:fp t lo mid a b)(k:fp t mid hi b c):fp t lo hi a c:=
 ⟨(h.tw.mono jl h1).trans (k.tw.mono hc.le jl),(h.all.bS ht hc hl fun i _ h2=>k.tw i (.inl h2)).join k.all⟩
def Bn(t:aE)(n:Nat):Prop:=∀(c:Ck) (a:Int) (lo:Nat),bD c->c.aa=t->cD c->0<=a->a<t.nodes.length->a.toNat<n->ff (bJ t.nodes a)->aR t.nodes lo (nth t.nodes a.toNat).l a.toNat->(ay n c a).1.e=0->
 fp t lo (a.toNat+1) c (ay n c a).1/\nth (ay n c a).1.types a.toNat=(ay n c a).2/\0<=(ay n c a).2/\(ay n c a).2<=4
variable{t:List bl}
def pS(h:aR t lo [a] hi):0<=a/\a<t.length/\lo<=a.toNat/\hi=a.toNat+1/\aR t lo (nth t a.toNat).l a.toNat:=by
 cases h with
 |cons hc h1 h2=> cases h2;exact⟨jB,jB,by have:=h1.le;simpa using this,jE,by simpa using h1⟩
def nv(h:aR t lo (a::L) hi):0<=a/\a<t.length/\lo<=a.toNat/\a.toNat+1<=hi/\aR t lo (nth t a.toNat).l a.toNat/\aR t (a.toNat+1) L hi:=by
 cases h with
 |cons hc h1 h2=>exact⟨jB,jB,by have:=h1.le;simpa using this,by have:=h2.le;simpa using this,by simpa using h1,by simpa using h2⟩
def aR.mE(h0:0<=a)(h1:a<t.length)(h:aR t lo (nth t a.toNat).l a.toNat):aR t lo [a] (a.toNat+1):=by have e:a=((a.toNat:Nat):Int):=jB;rw[e];exact aR.one jB (by simpa using h)
theorem BF{t:aE}(ht:aX t){n:Nat}(hx:Bn t n):∀(L:PY) (c:Ck) (ts:PY) (lo hi:Nat),bD c->c.aa=t->cD c->hi<=n->hi<=t.nodes.length->(∀x∈L,ff (bJ t.nodes x))->aR t.nodes lo L hi->(fR (ay n) c L ts).1.e=0->fp t lo hi c (fR (ay n) c L ts).1
 |[],c,ts,lo,hi,h,hc,hv,hn,hl,hr,Qb,he=>by cases Qb;unfold fR;exact⟨.refl _ _ _,.none⟩
 |a::L,c,ts,lo,hi,h,hc,hv,hn,hl,hr,Qb,he=>by have e0:=(rD (eo n) (a::L) c ts).e0 he;unfold fR at he ⊢;rw[if_pos e0]at he ⊢;obtain⟨c1,c2,c3,c4,c5,c6⟩:=nv Qb;have ev:=eo n c a;have e1:=(rD (eo n) L _ _).e0 he;have r1:=(hx c a lo h hc hv c1 c2 jB (hr a jE) c5 e1).1;exact r1.seq ht (aR.mE c1 c2 c5) jB jB (BF ht hx L _ _ _ hi (h.ev ev) (ev.aa.trans hc) (hv.ev ev) hn hl (fun x hx=>hr x (by simp[hx])) c6 he)
theorem En(a:Int):∀(ts:PY) (ps:List bM) (c:Ck),(gH a c ts ps).types=c.types
 |[],ps,c=>by rw[r7]
 |_::_,[],c=>by rw[ua]
 |x::ts,p::ps,c=>by
  unfold gH;split
  ·rw[En a ts ps _];exact jZ _ _ _
  ·rfl
variable{t:aE}{n:Nat}
def MP(ht:aX t)(hx:Bn t n){c:Ck}(h:bD c)(hc:c.aa=t)(hv:cD c)(h0:0<=a)(h1:a<t.nodes.length)(hn:a.toNat<=n)(hk:(nth t.nodes a.toNat).kind=21)(Qb:aR t.nodes lo (nth t.nodes a.toNat).l a.toNat)(he:(iv (ay n) c a).1.e=0) :
  fp t lo a.toNat c (iv (ay n) c a).1/\(0<=(iv (ay n) c a).2/\(iv (ay n) c a).2<=4)/\0<=iG bg.name (nth t.nodes a.toNat).name t.av 0 (-1)/\(nth t.nodes a.toNat).l.length=(nth t.av (iG bg.name (nth t.nodes a.toNat).name t.av 0 (-1)).toNat).params.length:=by
 have D':c.node a=nth t.nodes a.toNat:=by unfold Ck.node;rw[hc]
 have Qq:=(ht.shape a.toNat jB).1.call hk;unfold iv at he ⊢;split at he
 ·exact(oH jC he).elim
 rename_i hf;rw[if_neg hf];simp only at he ⊢;have e1:=(wU a _ _ _).e0 he;split at e1
 ·exact(oH jC e1).elim
 rename_i hl;rw[if_neg hl];have r:=BF ht hx (c.node a).l c [] lo a.toNat h hc hv hn jB (fun x Qg=>.inl (Qq x (by rw[<-D'];exact Qg))) (by rw[D'];exact Qb) e1;have QY:eQ c a=iG bg.name (nth t.nodes a.toNat).name t.av 0 (-1):=by unfold eQ;rw[D',hc]
 refine⟨r.post (En _ _ _ _),?_,by rw[<-QY];omega,by rw[<-QY,<-D',<-hc];omega⟩;have Q5:(nth c.aa.av (eQ c a).toNat)∈c.aa.av\/(nth c.aa.av (eQ c a).toNat)=default:=by
  by_cases hi:(eQ c a).toNat<c.aa.av.length
  ·exact .inl (dZ hi)
  ·exact .inr (Cs (Nat.le_of_not_lt hi))
 rcases Q5 with Q5|Q5
 ·exact(ht.fn _ (by rw[<-hc];exact Q5)).1.ret
 ·rw[Q5];decide
def OV(s:P0)(a b:Int):0<=gQ s a b/\gQ s a b<=4:=by
 unfold gQ;repeat' split
 all_goals omega
def KF(ht:aX t){c:Ck}{T:Int}(hl:c'.types.length=t.nodes.length)(h0:0<=a)(h1:a<t.nodes.length)(Qb:aR t.nodes lo (nth t.nodes a.toNat).l a.toNat)(r:fp t lo a.toNat c c')(hT:rZ t (c'.types.set a.toNat T) a.toNat) :
  fp t lo (a.toNat+1) c (c'.note a T)/\nth (c'.note a T).types a.toNat=T:=by
 have hs:∀k,nth (c'.note a T).types k=if a.toNat=k/\k<c'.types.length then T else nth c'.types k:=fun k=>uJ _ _ _ _
 refine⟨⟨fun k hk=>?_,?_⟩,by rw[hs,if_pos ⟨rfl,jB⟩]⟩
 ·have QU:=Qb.le;rw[hs,jN];exact r.tw k jB
 ·refine(r.all.bS ht Qb jB fun i _ h2=>by rw[hs,jN]).join fun k g1 g2=>?_
  have:k=a.toNat:=jB;subst this;exact hT
theorem uu{t:aE}(ht:aX t):∀n,Bn t n
 |0=>fun c a lo h hc hv h0 h1 hn=>by omega
 |n+1=>fun c a lo h hc hv h0 h1 hn hr Qb he=>by
  have hx:=uu ht n;have e0:=(eo (n+1) c a).e0 he;unfold ay at he ⊢;rw[jN]at he ⊢;simp only at he ⊢;have he:(bW (ay n) c a).1.e=0:=he;have D':c.node a=nth t.nodes a.toNat:=by unfold Ck.node;rw[hc]
  have sh:=(ht.shape a.toNat jB).1;have g':(bW (ay n) c a).1.types.length=t.nodes.length:=by rw[(At (eo n) c a).types,h.types,hc]
  -- what is to be shown of the node itself
  suffices hs:fp t lo a.toNat c (bW (ay n) c a).1/\rZ t ((bW (ay n) c a).1.types.set a.toNat (bW (ay n) c a).2) a.toNat/\0<=(bW (ay n) c a).2/\(bW (ay n) c a).2<=4 by obtain⟨s1,s2,s3⟩:=hs;obtain⟨g1,g2⟩:=KF ht g' h0 h1 Qb s1 s2;exact⟨g1,g2,s3⟩
  have N':∀T,nth ((bW (ay n) c a).1.types.set a.toNat T) a.toNat=T:=fun T=>by rw[uJ,if_pos ⟨rfl,jB⟩]
  have QQ:∀T k,k≠a.toNat->nth ((bW (ay n) c a).1.types.set a.toNat T) k=nth (bW (ay n) c a).1.types k:=fun T k hk=>by rw[uJ,jN]
  have leaf:(nth t.nodes a.toNat).l=[]->∀c',c'.types=c.types->fp t lo a.toNat c c':=fun hl c' e=>by
   rw[hl]at Qb;have:lo=a.toNat:=by cases Qb;rfl
   subst this;exact⟨.same e,.none⟩
  have kid1:∀c0 x,bD c0->c0.aa=t->cD c0->c0.types=c.types->(nth t.nodes a.toNat).l=[x]->ff (bJ t.nodes x)->(ay n c0 x).1.e=0->fp t lo a.toNat c (ay n c0 x).1/\nth (ay n c0 x).1.types x.toNat=(ay n c0 x).2/\x.toNat≠a.toNat:=fun c0 x g1 g2 g3 g4 hl SD Qs=>by rw[hl]at Qb;obtain⟨c1,c2,c3,c4,c5⟩:=pS Qb;obtain⟨r1,r2,_⟩:=hx c0 x lo g1 g2 g3 c1 c2 jB SD c5 Qs;rw[c4];exact⟨r1.pre g4,r2,jB⟩
  have kd:∀i,c.aC a i=nth (nth t.nodes a.toNat).l i:=fun i=>by unfold Ck.aC;rw[D']
  have Tx:(nth t.nodes a.toNat).kind=1\/(nth t.nodes a.toNat).kind=2\/(nth t.nodes a.toNat).kind=3\/(nth t.nodes a.toNat).kind=4\/(nth t.nodes a.toNat).kind=5\/(nth t.nodes a.toNat).kind=6\/(nth t.nodes a.toNat).kind=7\/(nth t.nodes a.toNat).kind=8\/(nth t.nodes a.toNat).kind=9\/(nth t.nodes a.toNat).kind=19\/(nth t.nodes a.toNat).kind=20\/(nth t.nodes a.toNat).kind=21:=by have:ff (nth t.nodes a.toNat).kind:=hr;unfold ff cr at this;omega
  rcases Tx with k|k|k|k|k|k|k|k|k|k|k|k
  ·have e:bW (ay n) c a=(c,1):=by unfold bW;simp only;rw[D',k];rfl
   rw[e]at N' ⊢;refine⟨leaf (sh.zero jB) _ rfl,?_,jE,jE⟩;constructor<;>intro k'<;>first|omega|exact N' _
  ·have e:bW (ay n) c a=(c,2):=by unfold bW;simp only;rw[D',k];rfl
   rw[e]at N' ⊢;refine⟨leaf (sh.zero jB) _ rfl,?_,jE,jE⟩;constructor<;>intro k'<;>first|omega|exact N' _
  ·have e:bW (ay n) c a=(c,3):=by unfold bW;simp only;rw[D',k];rfl
   rw[e]at N' ⊢;refine⟨leaf (sh.zero jB) _ rfl,?_,jE,jE⟩;constructor<;>intro k'<;>first|omega|exact N' _
  ·have e:bW (ay n) c a=c.named a:=by unfold bW;simp only;rw[D',k];rfl
   rw[e]at N' he ⊢;have Sy:=PN hv he;refine⟨leaf (sh.zero jB) _ (xk c a),?_,jB,jB⟩;constructor<;>intro k'<;>first|omega|(rw[N'];exact Sy)
  ·have e:bW (ay n) c a=((ay n (c.named a).1 (c.aC a 0)).1.ar (decide ((c.named a).2=4) && decide ((ay n (c.named a).1 (c.aC a 0)).2=1)) a,1):=by unfold bW;simp only;rw[D',k];rfl
   obtain⟨x,hl,Qs⟩:=sh.one jB;have Ql:c.aC a 0=x:=by rw[kd,hl];rfl
   rw[e]at N' QQ he ⊢;rw[Ql]at N' QQ he ⊢;obtain⟨b1,b2⟩:=ie he;simp only[Bool.and_eq_true,decide_eq_true_eq]at b1;have ev:=l7 c a;obtain⟨r1,r2,r3⟩:=kid1 (c.named a).1 x (h.ev ev) (ev.aa.trans hc) (hv.ev ev) (xk c a) hl (.inl Qs) b2;refine⟨r1.post (jZ _ _ _),?_,jE,jE⟩;constructor<;>intro k'<;>first|omega|skip
   refine⟨N' _,?_⟩;rw[hl];show nth (List.set _ _ _) x.toNat=1;rw[QQ _ _ r3];show nth (Ck.ar _ _ _).types x.toNat=1;rw[jZ,r2];exact b1.2
  ·have e:bW (ay n) c a=((ay n c (c.aC a 0)).1.ar (decide ((ay n c (c.aC a 0)).2=3) || decide ((ay n c (c.aC a 0)).2=4)) a,1):=by unfold bW;simp only;rw[D',k];rfl
   obtain⟨x,hl,Qs⟩:=sh.one jB;have Ql:c.aC a 0=x:=by rw[kd,hl];rfl
   rw[e]at N' QQ he ⊢;rw[Ql]at N' QQ he ⊢;obtain⟨b1,b2⟩:=ie he;simp only[Bool.or_eq_true,decide_eq_true_eq]at b1;obtain⟨r1,r2,r3⟩:=kid1 c x h hc hv rfl hl (.inl Qs) b2;refine⟨r1.post (jZ _ _ _),?_,jE,jE⟩;constructor<;>intro k'<;>first|omega|skip
   refine⟨N' _,?_⟩;rw[hl];show nth (List.set _ _ _) x.toNat=3\/nth (List.set _ _ _) x.toNat=4;rw[QQ _ _ r3];show nth (Ck.ar _ _ _).types x.toNat=3\/nth (Ck.ar _ _ _).types x.toNat=4;rw[jZ,r2];exact b1
  ·have e:bW (ay n) c a=((ay n c (c.aC a 0)).1.ar (decide ((ay n c (c.aC a 0)).2=1)) a,1):=by unfold bW;simp only;rw[D',k];rfl
   obtain⟨x,hl,Qs⟩:=sh.one jB;have Ql:c.aC a 0=x:=by rw[kd,hl];rfl
   rw[e]at N' QQ he ⊢;rw[Ql]at N' QQ he ⊢;obtain⟨b1,b2⟩:=ie he;simp only[decide_eq_true_eq]at b1;obtain⟨r1,r2,r3⟩:=kid1 c x h hc hv rfl hl (.inl Qs) b2;refine⟨r1.post (jZ _ _ _),?_,jE,jE⟩;constructor<;>intro k'<;>first|omega|skip
   refine⟨N' _,?_⟩;rw[hl];show nth (List.set _ _ _) x.toNat=1;rw[QQ _ _ r3];show nth (Ck.ar _ _ _).types x.toNat=1;rw[jZ,r2];exact b1
  ·have e:bW (ay n) c a=((ay n c (c.aC a 0)).1.ar (decide ((ay n c (c.aC a 0)).2=2)) a,2):=by unfold bW;simp only;rw[D',k];rfl
   obtain⟨x,hl,Qs⟩:=sh.one jB;have Ql:c.aC a 0=x:=by rw[kd,hl];rfl
   rw[e]at N' QQ he ⊢;rw[Ql]at N' QQ he ⊢;obtain⟨b1,b2⟩:=ie he;simp only[decide_eq_true_eq]at b1;obtain⟨r1,r2,r3⟩:=kid1 c x h hc hv rfl hl (.inl Qs) b2;refine⟨r1.post (jZ _ _ _),?_,jE,jE⟩;constructor<;>intro k'<;>first|omega|skip
   refine⟨N' _,?_⟩;rw[hl];show nth (List.set _ _ _) x.toNat=2;rw[QQ _ _ r3];show nth (Ck.ar _ _ _).types x.toNat=2;rw[jZ,r2];exact b1
  ·have e:bW (ay n) c a=((ay n (ay n c (c.aC a 0)).1 (c.aC a 1)).1.ar (!decide (gQ (c.node a).name (ay n c (c.aC a 0)).2 (ay n (ay n c (c.aC a 0)).1 (c.aC a 1)).2=0)) a,gQ (c.node a).name (ay n c (c.aC a 0)).2 (ay n (ay n c (c.aC a 0)).1 (c.aC a 1)).2):=by unfold bW;simp only;rw[D',k];rfl
   obtain⟨x,y,hl,Qs,Tl⟩:=sh.two jB;have Ql:c.aC a 0=x:=by rw[kd,hl];rfl
   have Qt:c.aC a 1=y:=by rw[kd,hl];rfl
   rw[e]at N' QQ he ⊢;rw[Ql,Qt]at N' QQ he ⊢;obtain⟨b1,b2⟩:=ie he;simp only[Bool.not_eq_true',decide_eq_false_iff_not]at b1;have ev:=eo n c x;have b0:(ay n c x).1.e=0:=(eo n _ y).e0 b2;rw[hl]at Qb;obtain⟨c1,c2,c3,c4,c5,c6⟩:=nv Qb;obtain⟨d1,d2,d3,d4,d5⟩:=pS c6;obtain⟨r1,r2,_⟩:=hx c x lo h hc hv c1 c2 jB (.inl Qs) c5 b0;obtain⟨q1,q2,_⟩:=hx (ay n c x).1 y (x.toNat+1) (h.ev ev) (ev.aa.trans hc) (hv.ev ev) d1 d2 jB (.inl Tl) d5 b2;have rr:=r1.seq ht (aR.mE c1 c2 c5) jB jB q1;rw[d4];refine⟨rr.post (jZ _ _ _),?_,OV _ _ _⟩;rw[d4]at N' QQ;rw[<-d4];rw[<-d4]at N' QQ;have ex:nth ((ay n (ay n c x).1 y).1.types) x.toNat=(ay n c x).2:=by rw[q1.tw _ jB,r2]
   constructor<;>intro k'<;>first|omega|skip
   have g0:=N' (gQ (c.node a).name (ay n c x).2 (ay n (ay n c x).1 y).2);have g1:=QQ (gQ (c.node a).name (ay n c x).2 (ay n (ay n c x).1 y).2) x.toNat jB;have g2:=QQ (gQ (c.node a).name (ay n c x).2 (ay n (ay n c x).1 y).2) y.toNat jB;simp only[jZ]at g0 g1 g2 ⊢;rw[hl];show _=gQ _ (nth _ x.toNat) (nth _ y.toNat)/\_;rw[g0,g1,g2,ex,q2,<-D'];exact⟨rfl,b1⟩
  ·have e:bW (ay n) c a=(c,1):=by unfold bW;simp only;rw[D',k];rfl
   rw[e]at N' ⊢;refine⟨leaf (sh.zero jB) _ rfl,?_,jE,jE⟩;constructor<;>intro k'<;>first|omega|exact N' _
  ·have e:bW (ay n) c a=((ay n c (c.aC a 0)).1.ar (decide ((ay n c (c.aC a 0)).2=1)) a,4):=by unfold bW;simp only;rw[D',k];rfl
   obtain⟨x,hl,Qs⟩:=sh.one jB;have Ql:c.aC a 0=x:=by rw[kd,hl];rfl
   rw[e]at N' he ⊢;rw[Ql]at N' he ⊢;obtain⟨b1,b2⟩:=ie he;obtain⟨r1,r2,r3⟩:=kid1 c x h hc hv rfl hl (.inl Qs) b2;refine⟨r1.post (jZ _ _ _),?_,jE,jE⟩;constructor<;>intro k'<;>first|omega|exact N' _
  ·have e:bW (ay n) c a=iv (ay n) c a:=by unfold bW;simp only;rw[D',k];rfl
   rw[e]at he ⊢;obtain⟨r1,r2,r3⟩:=MP ht hx h hc hv h0 h1 jB k Qb he;refine⟨r1,?_,r2⟩;constructor<;>intro k'<;>first|omega|exact r3
def fp.skip{c:Ck}(hk:fB (bJ t.nodes a)\/bJ t.nodes a=18)(Yz:(nth t.nodes a.toNat).kind=15\/(nth t.nodes a.toNat).kind=16\/(nth t.nodes a.toNat).kind=10->((nth t.nodes a.toNat).kind=10\/nth c'.types (nth (nth t.nodes a.toNat).l 0).toNat=2)/\1<=nth c'.types (nth (nth t.nodes a.toNat).l 0).toNat/\nth c'.types (nth (nth t.nodes a.toNat).l 0).toNat<=4)(r:fp t lo a.toNat c c'):fp t lo (a.toNat+1) c c':=by
 refine⟨r.tw.mono jl jB,fun k h1 h2=>?_⟩;by_cases h:k<a.toNat
 ·exact r.all k h1 h
 ·have:k=a.toNat:=jB;subst this;have hk:fB (nth t.nodes a.toNat).kind\/(nth t.nodes a.toNat).kind=18:=hk;unfold fB at hk;constructor<;>intro k'<;>first|omega|exact(Yz jB).1.resolve_left jB|exact(Yz jB).2
def Dx(t:aE)(n:Nat):Prop:=∀(c:Ck) (a:Int) (lo:Nat),bD c->c.aa=t->cD c->c.e=0->0<=a->a<t.nodes.length->a.toNat<n->fB (bJ t.nodes a)->aR t.nodes lo (nth t.nodes a.toNat).l a.toNat->(bP n c a).e=0->
 fp t lo (a.toNat+1) c (bP n c a)/\cD (bP n c a)
def Sv.e0{c:Ck}(s:Sv c c')(h:c'.e=0):c.e=0:=Classical.byContradiction fun e=>s.err e h
theorem zN{t:aE}(ht:aX t){st:Ck->Int->Ck}{C:Int->Prop}{n:Nat}(hs:∀c a,bD c->c.e=0->Sv c (st c a))
  (J':∀(c:Ck) (a:Int) (lo:Nat),bD c->c.aa=t->cD c->c.e=0->0<=a->a<t.nodes.length->a.toNat<n->C (bJ t.nodes a)->aR t.nodes lo (nth t.nodes a.toNat).l a.toNat->(st c a).e=0->fp t lo (a.toNat+1) c (st c a)/\cD (st c a)) :
  ∀(L:PY) (c:Ck) (lo hi:Nat),bD c->c.aa=t->cD c->hi<=n->hi<=t.nodes.length->(∀x∈L,C (bJ t.nodes x))->aR t.nodes lo L hi->(dN st c L).e=0->fp t lo hi c (dN st c L)/\cD (dN st c L)
 |[],c,lo,hi,h,hc,hv,hn,hl,hr,Qb,he=>by cases Qb;unfold dN;exact⟨⟨.refl _ _ _,.none⟩,hv⟩
 |a::L,c,lo,hi,h,hc,hv,hn,hl,hr,Qb,he=>by have e0:=(p3 hs (a::L) c h).e0 he;unfold dN at he ⊢;rw[if_pos e0]at he ⊢;obtain⟨c1,c2,c3,c4,c5,c6⟩:=nv Qb;have s:=hs c a h e0;have e1:=(p3 hs L _ s.inv).e0 he;obtain⟨r1,v1⟩:=J' c a lo h hc hv e0 c1 c2 jB (hr a jE) c5 e1;obtain⟨r2,v2⟩:=zN ht hs J' L _ _ hi s.inv (s.aa.trans hc) v1 hn hl (fun x hx=>hr x (by simp[hx])) c6 he;exact⟨r1.seq ht (aR.mE c1 c2 c5) jB jB r2,v2⟩
def Cy(ht:aX t)(J':Dx t n)(c:Ck)(a:Int)(lo:Nat)(h:bD c)(hc:c.aa=t)(hv:cD c)(h0:0<=a)(h1:a<t.nodes.length)(hn:a.toNat<=n)(hk:bJ t.nodes a=18)(Qb:aR t.nodes lo (nth t.nodes a.toNat).l a.toNat)(he:(eE (bP n) c a).e=0) :
  fp t lo (a.toNat+1) c (eE (bP n) c a)/\cD (eE (bP n) c a):=by
 have sv:=oJ (mH n) h a;have D':c.node a=nth t.nodes a.toNat:=by unfold Ck.node;rw[hc]
 have hb:=(ht.shape a.toNat jB).1.block hk;have ev:=pg c a;obtain⟨r,_⟩:=zN ht (mH n) (C:=fB) J' (c.node a).l (c.aj a) lo a.toNat (h.ev ev) (ev.aa.trans hc) (hv.ev ev) hn jB (fun x hx=>hb x (by rw[<-D'];exact hx)) (by rw[D'];exact Qb) he;have r:fp t lo a.toNat c (eE (bP n) c a):=fp.post (b:=dN (bP n) (c.aj a) (c.node a).l) (fp.pre (a:=c) (b:=c.aj a) rfl r) rfl;have XL:(nth t.nodes a.toNat).kind=18:=hk;refine⟨r.skip (.inr hk) (fun h=>jB),?_⟩;unfold cD;rw[sv.2];exact hv
variable{c0:Ck}{x:Int}
def u9(ht:aX t){c:Ck}(h:bD c0)(hc:c0.aa=t)(hv:cD c0)(Sy:c0.types=c.types)(hn:a.toNat<=n)(hl:(nth t.nodes a.toNat).l=[x])(hx:ff (bJ t.nodes x))(Qb:aR t.nodes lo (nth t.nodes a.toNat).l a.toNat)(he:(ay n c0 x).1.e=0) :
  fp t lo a.toNat c (ay n c0 x).1/\0<=(ay n c0 x).2/\(ay n c0 x).2<=4/\nth (ay n c0 x).1.types x.toNat=(ay n c0 x).2:=by
 rw[hl]at Qb;obtain⟨c1,c2,c3,c4,c5⟩:=pS Qb;obtain⟨r1,r2,r3⟩:=uu ht n c0 x lo h hc hv c1 c2 jB hx c5 he;rw[c4];exact⟨r1.pre Sy,r3.1,r3.2,r2⟩
def Lp(ht:aX t){c:Ck}{y:Int}(h:bD c0)(hc:c0.aa=t)(hv:cD c0)(Sy:c0.types=c.types)(hn:a.toNat<=n)(hl:(nth t.nodes a.toNat).l=[x,y])(hx:cr (bJ t.nodes x))(hy:cr (bJ t.nodes y))(Qb:aR t.nodes lo (nth t.nodes a.toNat).l a.toNat)(P':a.toNat<=t.nodes.length)(he:(ay n (ay n c0 x).1 y).1.e=0) :
  fp t lo a.toNat c (ay n (ay n c0 x).1 y).1:=by
 rw[hl]at Qb;obtain⟨c1,c2,c3,c4,c5,c6⟩:=nv Qb;obtain⟨d1,d2,d3,d4,d5⟩:=pS c6;have ev:=eo n c0 x;obtain⟨r1,_⟩:=uu ht n c0 x lo h hc hv c1 c2 jB (.inl hx) c5 ((eo n _ y).e0 he);obtain⟨q1,_⟩:=uu ht n (ay n c0 x).1 y (x.toNat+1) (h.ev ev) (ev.aa.trans hc) (hv.ev ev) d1 d2 jB (.inl hy) d5 he;rw[d4];exact(r1.seq ht (aR.mE c1 c2 c5) jB jB q1).pre Sy
def vm{c:Ck}{p:Prop}[Decidable p]{e:Int}(he:e≠0)(h:(if p then c.aD e a else c).e=0):¬p/\(if p then c.aD e a else c)=c:=by
 split at h
 ·exact(oH he h).elim
 ·rename_i hp;exact⟨hp,if_neg hp⟩
theorem Dl{t:aE}(ht:aX t):∀n,Dx t n
 |0=>fun c a lo h hc hv e0 h0 h1 hn=>by omega
 |n+1=>fun c a lo h hc hv e0 h0 h1 hn hr Qb he=>by
  have hs:=Dl ht n;have D':(c.aj a).node a=nth t.nodes a.toNat:=by unfold Ck.node;show nth c.aa.nodes _=_;rw[hc]
  have sh:=(ht.shape a.toNat jB).1;have kd:∀i,(c.aj a).aC a i=nth (nth t.nodes a.toNat).l i:=fun i=>by unfold Ck.aC;rw[D']
  have ev:=pg c a;have h':=h.ev ev;have Rj:=ev.aa.trans hc;have Qm:=hv.ev ev;suffices XM:fp t lo a.toNat c (bP (n+1) c a)/\cD (bP (n+1) c a)/\((nth t.nodes a.toNat).kind=15\/(nth t.nodes a.toNat).kind=16\/(nth t.nodes a.toNat).kind=10->((nth t.nodes a.toNat).kind=10\/nth (bP (n+1) c a).types (nth (nth t.nodes a.toNat).l 0).toNat=2)/\1<=nth (bP (n+1) c a).types (nth (nth t.nodes a.toNat).l 0).toNat/\nth (bP (n+1) c a).types (nth (nth t.nodes a.toNat).l 0).toNat<=4) from⟨XM.1.skip (.inl hr) XM.2.2,XM.2.1⟩
  have Tx:(nth t.nodes a.toNat).kind=10\/(nth t.nodes a.toNat).kind=11\/(nth t.nodes a.toNat).kind=12\/(nth t.nodes a.toNat).kind=13\/(nth t.nodes a.toNat).kind=14\/(nth t.nodes a.toNat).kind=17\/(nth t.nodes a.toNat).kind=15\/(nth t.nodes a.toNat).kind=16:=by have:fB (nth t.nodes a.toNat).kind:=hr;unfold fB at this;omega
  rcases Tx with k|k|k|k|k|k|k
  ·have e:bP (n+1) c a=nC (ay n) (c.aj a) a:=by unfold bP;simp only;rw[D',k];rfl
   obtain⟨x,hl,SD⟩:=sh.right jB;have Ql:(c.aj a).aC a 0=x:=by rw[kd,hl];rfl
   rw[e]at he ⊢;rw[sC]at he ⊢;have he:(ee (ay n) (c.aj a) a).e=0:=he;obtain⟨_,q1⟩:=vm jC he;have q1:ee (ay n) (c.aj a) a=iV (ay n) (c.aj a) a:=q1;rw[q1]at he;obtain⟨_,q2⟩:=vm jC he;have q2:iV (ay n) (c.aj a) a=gO (ay n) (c.aj a) a:=q2;rw[q2]at he;unfold gO at he;rw[Ql]at he;obtain⟨b1,b2⟩:=ie he;simp only[Bool.not_eq_true',decide_eq_false_iff_not]at b1;obtain⟨r1,r2,r3,r4⟩:=u9 (c:=c) ht h' Rj Qm rfl jB hl SD Qb b2;have Sy:(ee (ay n) (c.aj a) a).types=(ay n (c.aj a) x).1.types:=by rw[q1,q2];unfold gO;rw[Ql,jZ]
   refine⟨r1.post Sy,fun v Uw=>?_,fun _=>⟨.inl k,by rw[hl];show 1<=nth (ee (ay n) (c.aj a) a).types x.toNat/\nth (ee (ay n) (c.aj a) a).types x.toNat<=4;rw[Sy,r4];omega⟩⟩
   have Uw:v∈(ee (ay n) (c.aj a) a).vars++[(⟨((c.aj a).node a).name,(ay n (c.aj a) ((c.aj a).aC a 0)).2,(ee (ay n) (c.aj a) a).size⟩:bH)]:=Uw;rcases List.mem_append.1 Uw with hm|hm
   ·rw[(xJ (eo n) (c.aj a) a).vars]at hm;exact Qm v hm
   ·rw[List.mem_singleton.1 hm];show 1<=(ay n (c.aj a) ((c.aj a).aC a 0)).2/\(ay n (c.aj a) ((c.aj a).aC a 0)).2<=4;rw[Ql];omega
  ·have e:bP (n+1) c a=(ay n ((c.aj a).named a).1 ((c.aj a).aC a 0)).1.ar (decide (((c.aj a).named a).2=(ay n ((c.aj a).named a).1 ((c.aj a).aC a 0)).2)) a:=by unfold bP;simp only;rw[D',k];rfl
   obtain⟨x,hl,SD⟩:=sh.right jB;have Ql:(c.aj a).aC a 0=x:=by rw[kd,hl];rfl
   rw[e]at he ⊢;rw[Ql]at he ⊢;obtain⟨b1,b2⟩:=ie he;have en:=l7 (c.aj a) a;obtain⟨r1,_⟩:=u9 (c:=c) ht (h'.ev en) (en.aa.trans Rj) (Qm.ev en) (xk _ _) jB hl SD Qb b2;exact⟨r1.post (jZ _ _ _),(Qm.ev en).ev ((eo n _ _).trans (jb _ _ _)),fun h=>jB⟩
  ·have e:bP (n+1) c a=(ay n (ay n ((c.aj a).named a).1 ((c.aj a).aC a 0)).1 ((c.aj a).aC a 1)).1.ar (decide (((c.aj a).named a).2=4) && decide ((ay n ((c.aj a).named a).1 ((c.aj a).aC a 0)).2=1) && decide ((ay n (ay n ((c.aj a).named a).1 ((c.aj a).aC a 0)).1 ((c.aj a).aC a 1)).2=1)) a:=by unfold bP;simp only;rw[D',k];rfl
   obtain⟨x,y,hl,Qs,Tl⟩:=sh.two jB;have Ql:(c.aj a).aC a 0=x:=by rw[kd,hl];rfl
   have Qt:(c.aj a).aC a 1=y:=by rw[kd,hl];rfl
   rw[e]at he ⊢;rw[Ql,Qt]at he ⊢;obtain⟨b1,b2⟩:=ie he;have en:=l7 (c.aj a) a;have r1:=Lp (c:=c) ht (h'.ev en) (en.aa.trans Rj) (Qm.ev en) (xk _ _) jB hl Qs Tl Qb jB b2;exact⟨r1.post (jZ _ _ _),(Qm.ev en).ev (((eo n _ _).trans (eo n _ _)).trans (jb _ _ _)),fun h=>jB⟩
  ·have e:bP (n+1) c a=(ay n (c.aj a) ((c.aj a).aC a 0)).1:=by unfold bP;simp only;rw[D',k];rfl
   obtain⟨x,hl,XN⟩:=sh.oN k;have Ql:(c.aj a).aC a 0=x:=by rw[kd,hl];rfl
   rw[e]at he ⊢;rw[Ql]at he ⊢;obtain⟨r1,_⟩:=u9 (c:=c) ht h' Rj Qm rfl jB hl (by rw[XN];unfold ff;omega) Qb he;exact⟨r1,Qm.ev (eo n _ _),fun h=>jB⟩
  ·have e:bP (n+1) c a=(ay n (c.aj a) ((c.aj a).aC a 0)).1.ar (!decide ((ay n (c.aj a) ((c.aj a).aC a 0)).2=4)) a:=by unfold bP;simp only;rw[D',k];rfl
   obtain⟨x,hl,Qs⟩:=sh.one jB;have Ql:(c.aj a).aC a 0=x:=by rw[kd,hl];rfl
   rw[e]at he ⊢;rw[Ql]at he ⊢;obtain⟨b1,b2⟩:=ie he;obtain⟨r1,_⟩:=u9 (c:=c) ht h' Rj Qm rfl jB hl (.inl Qs) Qb b2;exact⟨r1.post (jZ _ _ _),Qm.ev ((eo n _ _).trans (jb _ _ _)),fun h=>jB⟩
  ·have e:bP (n+1) c a=jS (ay n) (c.aj a) a:=by unfold bP;simp only;rw[D',k];rfl
   rw[e]at he ⊢;unfold jS at he ⊢;rw[D']at he ⊢;simp only at he ⊢;split at he
   ·exact(oH jC he).elim
   rename_i hf;rw[if_neg hf];rcases sh.ret k with hl|⟨x,hl,Qs⟩
   ·rw[hl];rw[if_neg jC];rw[hl]at Qb;have:lo=a.toNat:=by cases Qb;rfl
    subst this;exact⟨⟨.same rfl,.none⟩,Qm,fun h=>jB⟩
   ·have Ql:(c.aj a).aC a 0=x:=by rw[kd,hl];rfl
    have QC:(nth t.nodes a.toNat).l.length=1:=by rw[hl];rfl
    rw[if_pos QC]at he ⊢;rw[Ql]at he ⊢;obtain⟨b1,b2⟩:=ie he;obtain⟨r1,_⟩:=u9 (c:=c) ht h' Rj Qm rfl jB hl (.inl Qs) Qb b2;exact⟨r1.post (jZ _ _ _),Qm.ev ((eo n _ _).trans (jb _ _ _)),fun h=>jB⟩
  ·have e:bP (n+1) c a=dN (eE (bP n)) ((ay n (c.aj a) ((c.aj a).aC a 0)).1.ar (decide ((ay n (c.aj a) ((c.aj a).aC a 0)).2=2)) a) (((c.aj a).node a).l.drop 1):=by
    unfold bP;simp only;rw[D'];rcases k with k|k<;>rw[k]<;>rfl
   have TZ:∃x L,(nth t.nodes a.toNat).l=x::L/\cr (bJ t.nodes x)/\∀y∈L,bJ t.nodes y=18:=by
    rcases k with k|k
    ·obtain⟨x,y,hx,hy,hl|⟨z,hl,hz⟩⟩:=sh.jM k
     ·exact⟨x,[y],hl,hx,fun u hu=>by rw[List.mem_singleton.1 hu];exact hy⟩
     ·exact⟨x,[y,z],hl,hx,fun u hu=>by
       rcases List.mem_cons.1 hu with rfl|hu
       ·exact hy
       ·rw[List.mem_singleton.1 hu];exact hz⟩
    ·obtain⟨x,y,hl,hx,hy⟩:=sh.dH k;exact⟨x,[y],hl,hx,fun u hu=>by rw[List.mem_singleton.1 hu];exact hy⟩
   obtain⟨x,L,hl,Qs,hL⟩:=TZ;have Ql:(c.aj a).aC a 0=x:=by rw[kd,hl];rfl
   rw[e]at he ⊢;rw[D',hl,Ql]at he ⊢;have he:(dN (eE (bP n)) ((ay n (c.aj a) x).1.ar (decide ((ay n (c.aj a) x).2=2)) a) L).e=0:=he;show fp t lo a.toNat c (dN (eE (bP n)) ((ay n (c.aj a) x).1.ar (decide ((ay n (c.aj a) x).2=2)) a) L)/\cD (dN (eE (bP n)) ((ay n (c.aj a) x).1.ar (decide ((ay n (c.aj a) x).2=2)) a) L)/\((nth t.nodes a.toNat).kind=15\/(nth t.nodes a.toNat).kind=16\/(nth t.nodes a.toNat).kind=10->((nth t.nodes a.toNat).kind=10\/nth (dN (eE (bP n)) ((ay n (c.aj a) x).1.ar (decide ((ay n (c.aj a) x).2=2)) a) L).types (nth (x::L) 0).toNat=2)/\1<=nth (dN (eE (bP n)) ((ay n (c.aj a) x).1.ar (decide ((ay n (c.aj a) x).2=2)) a) L).types (nth (x::L) 0).toNat/\nth (dN (eE (bP n)) ((ay n (c.aj a) x).1.ar (decide ((ay n (c.aj a) x).2=2)) a) L).types (nth (x::L) 0).toNat<=4);have ex:=(eo n (c.aj a) x).trans (jb _ (decide ((ay n (c.aj a) x).2=2)) a);have Ra:=h'.ev ex;have Wl:∀(q:Ck) b,bD q->q.e=0->Sv q (eE (bP n) q b):=fun q b hq _=>(oJ (mH n) hq b).1
   have e1:=(p3 Wl L _ Ra).e0 he;obtain⟨b1,b2⟩:=ie e1;rw[hl]at Qb;obtain⟨c1,c2,c3,c4,c5,c6⟩:=nv Qb;obtain⟨r1,r1b,_⟩:=uu ht n (c.aj a) x lo h' Rj Qm c1 c2 jB (.inl Qs) c5 b2;obtain⟨r2,v2⟩:=zN ht Wl (C:=fun k=>k=18) (n:=n) (fun q b l g1 g2 g3 _ g5 g6 g7 g8 g9 g10=>Cy ht hs q b l g1 g2 g3 g5 g6 jB g8 g9 g10) L _ (x.toNat+1) a.toNat Ra (ex.aa.trans Rj) (Qm.ev ex) jB jB hL c6 he;exact⟨((fp.pre (a:=c) (b:=c.aj a) rfl r1).post (jZ _ _ _)).seq ht (aR.mE c1 c2 c5) jB jB r2,v2,fun _=>by show(_\/nth _ x.toNat=2)/\1<=nth _ x.toNat/\nth _ x.toNat<=4;rw[r2.tw x.toNat (.inl jB),jZ,r1b];have:=of_decide_eq_true b1;omega⟩
theorem EI{t:aE}(body:Int):∀(ps:List bM) (c:Ck) (i:Int),cD c->(∀p∈ps,1<=p.ty/\p.ty<=4)->cD (eP body c ps i)/\(eP body c ps i).types=c.types/\((eP body c ps i).e=0->c.e=0)
 |[],c,i,h,hp=>by unfold eP;exact⟨h,rfl,id⟩
 |p::ps,c,i,h,hp=>by
  have fin:∀c1:Ck,Ev c c1->c1.types=c.types->cD (eP body (lj c1 ⟨p.name,p.ty,i⟩) ps (i+1))/\(eP body (lj c1 ⟨p.name,p.ty,i⟩) ps (i+1)).types=c.types/\((eP body (lj c1 ⟨p.name,p.ty,i⟩) ps (i+1)).e=0->c.e=0):=fun c1 s e=>by
   obtain⟨a,b,d⟩:=EI (t:=t) body ps (lj c1 ⟨p.name,p.ty,i⟩) (i+1) (fun v hv=>by
    have hv:v∈c1.vars++[(⟨p.name,p.ty,i⟩:bH)]:=hv;rcases List.mem_append.1 hv with hv|hv
    ·exact h.ev s v hv
    ·rw[List.mem_singleton.1 hv];exact hp p jE) (fun q hq=>hp q (by simp[hq]))
   exact⟨a,b.trans e,fun hh=>s.e0 (d hh)⟩
  unfold eP;simp only;split
  ·exact fin _ (mu c jC body) (AT _ _ _)
  ·exact fin _ (.refl c) rfl
def Ph(ht:aX t){c:Ck}(h:fw c)(hc:c.aa=t)(hk:k<t.av.length)(Qh:c.aL.length<6)(Qb:aR t.nodes lo (nth t.nodes (nth t.av k).body.toNat).l (nth t.av k).body.toNat)(he:(fY c k).e=0) :
  fp t lo ((nth t.av k).body.toNat+1) c (fY c k)/\c.e=0:=by
 have O':k<c.aa.av.length:=by rw[hc];exact hk
 have W2:=h.aa.fn _ (dZ O');have Sr:bD { c with fn:=(k:Int),vars:=[],more:=[],size:=0 }:=⟨h.aa,h.types,h.ab,h.av,by show c.aL.length<=6;omega,by show(0:Int)<=k;omega,by show(k:Int)<(c.aa.av.length:Int);omega,by show((0:Nat):Int)<=0;omega,by show(0:Int)<=25;omega,fun _=>by show(0:Int)<=24;omega⟩;obtain⟨a,b,d⟩:=xh (nth c.aa.av k).body (nth c.aa.av k).params _ 0 Sr (by show(0:Int)+_<=20;omega);obtain⟨a',b',d'⟩:=EI (t:=t) (nth c.aa.av k).body (nth c.aa.av k).params { c with fn:=(k:Int),vars:=[],more:=[],size:=0 } 0 (fun v hv=>by simp at hv) W2.1.ps;have Sa:=px ht hk;have Vm:=ht.body _ (dZ hk);unfold fY at he ⊢;simp only at he ⊢;rw[hc]at he ⊢;rw[hc]at a b d a' b' d';split at he
 ·rename_i e1;rw[if_pos e1];obtain⟨r,_⟩:=Cy ht (Dl ht t.nodes.length) _ (nth t.av k).body lo a (b.trans (by rfl)) a' Sa.1 Sa.2 (by have:=Sa.2;have:=Sa.1;omega) Vm Qb he;have q:=fp.pre (a:=c) b' r;exact⟨⟨fun k hk=>q.tw k hk,q.all⟩,d' e1⟩
 ·rename_i e1;exact(e1 he).elim
theorem A1{t:aE}(ht:aX t):∀(n i lo:Nat) (c:Ck),fw c->c.aa=t->c.aL.length=i->i+n=t.av.length->aR t.nodes lo ((t.av.drop i).map (·.body)) t.nodes.length->(fX c i n).e=0->
  fp t lo t.nodes.length c (fX c i n)/\(fX c i n).aa=t/\fw (fX c i n)/\(fX c i n).aL.length=t.av.length
 |0,i,lo,c,h,hc,hs,hi,Qb,he=>by
  unfold fX;rw[List.drop_eq_nil_of_le jB]at Qb;have:lo=t.nodes.length:=by cases Qb;rfl
  subst this;exact⟨⟨.refl _ _ _,.none⟩,hc,h,jB⟩
 |n+1,i,lo,c,h,hc,hs,hi,Qb,he=>by
  have h6:=ht.av;unfold fX at he ⊢;by_cases e0:c.e=0
  ·rw[if_pos e0]at he ⊢;have hk:i<t.av.length:=jB;rw[jh hk]at Qb;obtain⟨c1,c2,c3,c4,c5,c6⟩:=nv (a:=(nth t.av i).body) Qb;obtain⟨f1,f2,f3⟩:=zW h (by rw[hc];exact hk) (by omega:c.aL.length<6);have e1:(fY c i).e=0:=by
    cases n with
    |zero=>unfold fX at he;exact he
    |succ m=>
     unfold fX at he;split at he
     ·assumption
     ·exact he
   obtain⟨r1,_⟩:=Ph ht h hc hk jB c5 e1;obtain⟨r2,q1,q2,q3⟩:=A1 ht n (i+1) ((nth t.av i).body.toNat+1) (fY c i) f1 (f2.trans hc) jB jB c6 he;exact⟨r1.seq ht (aR.mE c1 c2 c5) jB jB r2,q1,q2,q3⟩
  ·rw[if_neg e0]at he;exact(e0 he).elim
structure iY(p:ae):Prop where
 aa:aX p.aa
 types:p.types.length=p.aa.nodes.length
 ab:p.ab.length=p.aa.nodes.length
 fn:p.fn.length=p.aa.nodes.length
 size:p.size.length=p.aa.av.length
 ty:fh p.aa p.types 0 p.aa.nodes.length
def GA(ht:aX t):fw (iB (iQ t))/\(iB (iQ t)).aa=t/\(iB (iQ t)).aL=[]:=by
 have ev:=Dr (iQ t);refine⟨⟨by rw[ev.aa];exact ht,?_,?_,?_⟩,ev.aa,ev.aL⟩
 ·rw[ev.types,ev.aa];show(t.nodes.map _).length=t.nodes.length;simp
 ·rw[ev.ab,ev.aa];show(t.nodes.map _).length=t.nodes.length;simp
 ·rw[ev.av,ev.aa];show(t.nodes.map _).length=t.nodes.length;simp
def AE(ht:aX t)(he:(gC t).2.2=0):iY (gC t).1/\(gC t).1.aa=t:=by
 unfold gC at he ⊢;split at he
 ·rename_i h;exact(h he).elim
 rename_i h;rw[if_neg h];have h:(gS t).e=0:=jB;obtain⟨i1,i2,i3⟩:=GA ht;obtain⟨r,q1,q2,q3⟩:=A1 ht t.av.length 0 0 (iB (iQ t)) i1 i2 (by rw[i3];rfl) jB (by rw[List.drop_zero];exact ht.chain) h;refine⟨⟨q2.aa,q2.types,q2.ab,q2.av,?_,?_⟩,q1⟩
 ·show(gS t).aL.length=(gS t).aa.av.length;have e:(gS t).aa=t:=q1;rw[e];exact q3
 ·show fh (gS t).aa (gS t).types 0 (gS t).aa.nodes.length;have e:(gS t).aa=t:=q1;rw[e];exact r.all
def Mw{s:P0}(he:(fJ s).2.2=0):iY (fJ s).1:=by
 unfold fJ at he ⊢;split at he
 ·rename_i h;exact(h he).elim
 rename_i h;rw[if_neg h];have h:(fO s).2.2=0:=jB;simp only at he ⊢;split at he
 ·cases he
 rename_i h2;split at he
 ·rename_i h3;exact(h3 he).elim
 rename_i h3;rw[if_neg h2,if_neg h3];exact(AE (vM h) jB).1
def oV(k:Int):Prop:=k=4\/k=5\/k=10\/k=11\/k=12
def cZ(c:Ck):Prop:=0<=c.size/\∀v∈c.vars,0<=v.slot/\v.slot<c.size
structure eT(t:aE)(lo hi:Nat)(c c':Ck):Prop where
 sw:∀k,(k<lo\/hi<=k)->nth c'.ab k=nth c.ab k
 all:∀k,lo<=k->k<hi->oV (nth t.nodes k).kind->0<=nth c'.ab k/\nth c'.ab k<c'.size
 size:c.size<=c'.size
def eT.post{a c:Ck}(h:eT t lo hi a b)(e:c.ab=b.ab)(z:c.size=b.size):eT t lo hi a c:=⟨fun k hk=>by rw[e];exact h.sw k hk,fun k h1 h2 h3=>by rw[e,z];exact h.all k h1 h2 h3,by rw[z];exact h.size⟩
def eT.pre{a c:Ck}(e:b.ab=a.ab)(z:b.size=a.size)(h:eT t lo hi b c):eT t lo hi a c:=⟨fun k hk=>by rw[<-e];exact h.sw k hk,h.all,by rw[<-z];exact h.size⟩
def eT.refl(t:aE)(lo:Nat)(c:Ck):eT t lo lo c c:=⟨fun _ _=>rfl,fun k h1 h2=>jB,Int.le_refl _⟩
def eT.seq{a c:Ck}(h0:lo<=mid)(h1:mid<=hi)(h:eT t lo mid a b)(k:eT t mid hi b c):eT t lo hi a c:=by
 have:=k.size;refine⟨fun i R8=>(k.sw i jB).trans (h.sw i jB),fun i g1 g2 g3=>?_,by have:=h.size;omega⟩;by_cases e:i<mid
 ·rw[k.sw i (.inl e)];have:=h.all i g1 e g3;omega
 ·exact k.all i jB g2 g3
def eT.node{c:Ck}(h:eT t lo n c c')(hn:oV (nth t.nodes n).kind->0<=nth c'.ab n/\nth c'.ab n<c'.size):eT t lo (n+1) c c':=
 ⟨fun k hk=>h.sw k jB,fun k h1 h2 h3=>by
  by_cases e:k<n
  ·exact h.all k h1 e h3
  ·have:k=n:=jB;subst this;exact hn h3,h.size⟩
def EL(c:Ck)(e a:Int):(c.aD e a).ab=c.ab/\(c.aD e a).size=c.size:=by unfold Ck.aD;split<;>exact⟨rfl,rfl⟩
def r9(c:Ck)(b:Bool)(a:Int):(c.ar b a).ab=c.ab/\(c.ar b a).size=c.size:=by unfold Ck.ar;split;exact⟨rfl,rfl⟩;exact EL _ _ _
theorem eT.ar{t:aE}{lo hi:Nat}{a c:Ck}{b:Bool}{x:Int}(h:eT t lo hi a c):eT t lo hi a (c.ar b x):=h.post (r9 c b x).1 (r9 c b x).2
def cZ.ev{c:Ck}(h:cZ c)(s:Ev c c'):cZ c':=by unfold cZ;rw[s.vars,s.size];exact h
def yJ{c:Ck}(h:cZ c)(hn:a.toNat=n)(hl:n<c.ab.length)(he:(c.named a).1.e=0):(∀k,k≠n->nth (c.named a).1.ab k=nth c.ab k)/\0<=nth (c.named a).1.ab n/\nth (c.named a).1.ab n<c.size:=by
 unfold Ck.named at he ⊢;split
 ·rename_i hf;rw[if_pos hf]at he;exact(oH jC he).elim
 ·rename_i hf;have hv:nth c.vars (c.find (c.node a).name).toNat∈c.vars:=by
   rcases wE bH.name (c.node a).name c.vars 0 jB with⟨h1,_⟩|h1
   ·exact(hf (by show gP bH.name (c.node a).name c.vars 0<0;rw[h1];decide)).elim
   ·exact dZ (by show(gP bH.name (c.node a).name c.vars 0).toNat<_;omega)
  have hs:∀k,nth (c.slot a (nth c.vars (c.find (c.node a).name).toNat).slot).ab k=if n=k/\k<c.ab.length then(nth c.vars (c.find (c.node a).name).toNat).slot else nth c.ab k:=fun k=>by show nth (c.ab.set a.toNat _) k=_;rw[uJ,hn]
  refine⟨fun k hk=>by show nth (c.slot a _).ab k=_;rw[hs,jN],?_⟩;show 0<=nth (c.slot a _).ab n/\nth (c.slot a _).ab n<_;rw[hs,if_pos ⟨rfl,hl⟩];exact h.2 _ hv
def G1(t:aE)(n:Nat):Prop:=∀(c:Ck) (a:Int) (lo:Nat),bD c->c.aa=t->cZ c->0<=a->a<t.nodes.length->a.toNat<n->ff (bJ t.nodes a)->aR t.nodes lo (nth t.nodes a.toNat).l a.toNat->(ay n c a).1.e=0->eT t lo (a.toNat+1) c (ay n c a).1
theorem CE{t:aE}{n:Nat}(hx:G1 t n):∀(L:PY) (c:Ck) (ts:PY) (lo hi:Nat),bD c->c.aa=t->cZ c->hi<=n->(∀x∈L,ff (bJ t.nodes x))->aR t.nodes lo L hi->(fR (ay n) c L ts).1.e=0->eT t lo hi c (fR (ay n) c L ts).1
 |[],c,ts,lo,hi,h,hc,hv,hn,hr,Qb,he=>by cases Qb;unfold fR;exact .refl _ _ _
 |a::L,c,ts,lo,hi,h,hc,hv,hn,hr,Qb,he=>by have e0:=(rD (eo n) (a::L) c ts).e0 he;unfold fR at he ⊢;rw[if_pos e0]at he ⊢;obtain⟨c1,c2,c3,c4,c5,c6⟩:=nv Qb;have ev:=eo n c a;have e1:=(rD (eo n) L _ _).e0 he;have r1:=hx c a lo h hc hv c1 c2 jB (hr a jE) c5 e1;exact r1.seq jB jB (CE hx L _ _ _ hi (h.ev ev) (ev.aa.trans hc) (hv.ev ev) hn (fun x hx=>hr x (by simp[hx])) c6 he)
theorem Fj(a:Int):∀(ts:PY) (ps:List bM) (c:Ck),(gH a c ts ps).ab=c.ab/\(gH a c ts ps).size=c.size
 |[],ps,c=>by rw[r7];exact⟨rfl,rfl⟩
 |_::_,[],c=>by rw[ua];exact⟨rfl,rfl⟩
 |x::ts,p::ps,c=>by
  unfold gH;split
  ·have:=Fj a ts ps (c.ar (decide (x=p.ty)) a);exact⟨this.1.trans (r9 _ _ _).1,this.2.trans (r9 _ _ _).2⟩
  ·exact⟨rfl,rfl⟩
theorem un{t:aE}(ht:aX t):∀n,G1 t n
 |0=>fun c a lo h hc hv h0 h1 hn=>by omega
 |n+1=>fun c a lo h hc hv h0 h1 hn hr Qb he=>by
  have hx:=un ht n;have e0:=(eo (n+1) c a).e0 he;unfold ay at he ⊢;rw[jN]at he ⊢;simp only at he ⊢;have he:(bW (ay n) c a).1.e=0:=he;have D':c.node a=nth t.nodes a.toNat:=by unfold Ck.node;rw[hc]
  have sh:=(ht.shape a.toNat jB).1;suffices hs:eT t lo (a.toNat+1) c (bW (ay n) c a).1 from hs.post rfl rfl
  have QU:=Qb.le;have leaf:(nth t.nodes a.toNat).l=[]->eT t lo a.toNat c c:=fun hl=>by
   rw[hl]at Qb;have:lo=a.toNat:=by cases Qb;rfl
   subst this;exact .refl _ _ _
  have kid1:∀x,(nth t.nodes a.toNat).l=[x]->ff (bJ t.nodes x)->(ay n c x).1.e=0->eT t lo a.toNat c (ay n c x).1:=fun x hl SD Qs=>by rw[hl]at Qb;obtain⟨c1,c2,c3,c4,c5⟩:=pS Qb;rw[c4];exact hx c x lo h hc hv c1 c2 jB SD c5 Qs
  have kd:∀i,c.aC a i=nth (nth t.nodes a.toNat).l i:=fun i=>by unfold Ck.aC;rw[D']
  have Tx:(nth t.nodes a.toNat).kind=1\/(nth t.nodes a.toNat).kind=2\/(nth t.nodes a.toNat).kind=3\/(nth t.nodes a.toNat).kind=4\/(nth t.nodes a.toNat).kind=5\/(nth t.nodes a.toNat).kind=6\/(nth t.nodes a.toNat).kind=7\/(nth t.nodes a.toNat).kind=8\/(nth t.nodes a.toNat).kind=9\/(nth t.nodes a.toNat).kind=19\/(nth t.nodes a.toNat).kind=20\/(nth t.nodes a.toNat).kind=21:=by have:ff (nth t.nodes a.toNat).kind:=hr;unfold ff cr at this;omega
  have Qe:∀{q:Prop},¬((nth t.nodes a.toNat).kind=4\/(nth t.nodes a.toNat).kind=5)->oV (nth t.nodes a.toNat).kind->q:=fun h1 h2=>by unfold oV at h2;have:ff (nth t.nodes a.toNat).kind:=hr;unfold ff cr at this;omega
  have QH:a.toNat<c.ab.length:=by rw[h.ab,hc];omega
  rcases Tx with k|k|k|k|k|k|k|k|k|k|k|k
  ·have e:bW (ay n) c a=(c,1):=by unfold bW;simp only;rw[D',k];rfl
   rw[e];exact(leaf (sh.zero jB)).node (Qe jB)
  ·have e:bW (ay n) c a=(c,2):=by unfold bW;simp only;rw[D',k];rfl
   rw[e];exact(leaf (sh.zero jB)).node (Qe jB)
  ·have e:bW (ay n) c a=(c,3):=by unfold bW;simp only;rw[D',k];rfl
   rw[e];exact(leaf (sh.zero jB)).node (Qe jB)
  ·have e:bW (ay n) c a=c.named a:=by unfold bW;simp only;rw[D',k];rfl
   rw[e]at he ⊢;obtain⟨g1,g2⟩:=yJ hv rfl QH he;have hz:=(l7 c a).size;have hl:=sh.zero jB;rw[hl]at Qb;have:lo=a.toNat:=by cases Qb;rfl
   subst this;exact⟨fun k hk=>g1 k jB,fun k h1 h2 _=>by have:k=a.toNat:=jB;subst this;rw[hz];exact g2,by rw[hz];exact Int.le_refl _⟩
  ·have e:bW (ay n) c a=((ay n (c.named a).1 (c.aC a 0)).1.ar (decide ((c.named a).2=4) && decide ((ay n (c.named a).1 (c.aC a 0)).2=1)) a,1):=by unfold bW;simp only;rw[D',k];rfl
   obtain⟨x,hl,Qs⟩:=sh.one jB;have Ql:c.aC a 0=x:=by rw[kd,hl];rfl
   rw[e]at he ⊢;rw[Ql]at he ⊢;obtain⟨b1,b2⟩:=ie he;have en:=l7 c a;obtain⟨g1,g2⟩:=yJ hv rfl QH ((eo n _ x).e0 b2);rw[hl]at Qb;obtain⟨c1,c2,c3,c4,c5⟩:=pS Qb;have r:=hx (c.named a).1 x lo (h.ev en) (en.aa.trans hc) (hv.ev en) c1 c2 jB (.inl Qs) c5 b2;have hz:=en.size;have Zl:=r.size;rw[<-c4]at r;refine eT.ar ⟨fun k hk=>(r.sw k jB).trans (g1 k jB),fun k h1 h2 h3=>?_,jB⟩;by_cases V1:k<a.toNat
   ·exact r.all k h1 V1 h3
   ·have:k=a.toNat:=jB;subst this;rw[r.sw _ (.inr jB)];omega
  ·have e:bW (ay n) c a=((ay n c (c.aC a 0)).1.ar (decide ((ay n c (c.aC a 0)).2=3) || decide ((ay n c (c.aC a 0)).2=4)) a,1):=by unfold bW;simp only;rw[D',k];rfl
   obtain⟨x,hl,Qs⟩:=sh.one jB;have Ql:c.aC a 0=x:=by rw[kd,hl];rfl
   rw[e]at he ⊢;rw[Ql]at he ⊢;exact((kid1 x hl (.inl Qs) (ie he).2).ar).node (Qe jB)
  ·have e:bW (ay n) c a=((ay n c (c.aC a 0)).1.ar (decide ((ay n c (c.aC a 0)).2=1)) a,1):=by unfold bW;simp only;rw[D',k];rfl
   obtain⟨x,hl,Qs⟩:=sh.one jB;have Ql:c.aC a 0=x:=by rw[kd,hl];rfl
   rw[e]at he ⊢;rw[Ql]at he ⊢;exact((kid1 x hl (.inl Qs) (ie he).2).ar).node (Qe jB)
  ·have e:bW (ay n) c a=((ay n c (c.aC a 0)).1.ar (decide ((ay n c (c.aC a 0)).2=2)) a,2):=by unfold bW;simp only;rw[D',k];rfl
   obtain⟨x,hl,Qs⟩:=sh.one jB;have Ql:c.aC a 0=x:=by rw[kd,hl];rfl
   rw[e]at he ⊢;rw[Ql]at he ⊢;exact((kid1 x hl (.inl Qs) (ie he).2).ar).node (Qe jB)
  ·have e:bW (ay n) c a=((ay n (ay n c (c.aC a 0)).1 (c.aC a 1)).1.ar (!decide (gQ (c.node a).name (ay n c (c.aC a 0)).2 (ay n (ay n c (c.aC a 0)).1 (c.aC a 1)).2=0)) a,gQ (c.node a).name (ay n c (c.aC a 0)).2 (ay n (ay n c (c.aC a 0)).1 (c.aC a 1)).2):=by unfold bW;simp only;rw[D',k];rfl
   obtain⟨x,y,hl,Qs,Tl⟩:=sh.two jB;have Ql:c.aC a 0=x:=by rw[kd,hl];rfl
   have Qt:c.aC a 1=y:=by rw[kd,hl];rfl
   rw[e]at he ⊢;rw[Ql,Qt]at he ⊢;obtain⟨b1,b2⟩:=ie he;have ev:=eo n c x;rw[hl]at Qb;obtain⟨c1,c2,c3,c4,c5,c6⟩:=nv Qb;obtain⟨d1,d2,d3,d4,d5⟩:=pS c6;have r1:=hx c x lo h hc hv c1 c2 jB (.inl Qs) c5 ((eo n _ y).e0 b2);have r2:=hx (ay n c x).1 y (x.toNat+1) (h.ev ev) (ev.aa.trans hc) (hv.ev ev) d1 d2 jB (.inl Tl) d5 b2;rw[<-d4]at r2;exact((r1.seq jB jB r2).ar).node (Qe jB)
  ·have e:bW (ay n) c a=(c,1):=by unfold bW;simp only;rw[D',k];rfl
   rw[e];exact(leaf (sh.zero jB)).node (Qe jB)
  ·have e:bW (ay n) c a=((ay n c (c.aC a 0)).1.ar (decide ((ay n c (c.aC a 0)).2=1)) a,4):=by unfold bW;simp only;rw[D',k];rfl
   obtain⟨x,hl,Qs⟩:=sh.one jB;have Ql:c.aC a 0=x:=by rw[kd,hl];rfl
   rw[e]at he ⊢;rw[Ql]at he ⊢;exact((kid1 x hl (.inl Qs) (ie he).2).ar).node (Qe jB)
  ·have e:bW (ay n) c a=iv (ay n) c a:=by unfold bW;simp only;rw[D',k];rfl
   rw[e]at he ⊢;have Qq:=sh.call k;unfold iv at he ⊢;split at he
   ·exact(oH jC he).elim
   rename_i hf;rw[if_neg hf];simp only at he ⊢;have e1:=(wU a _ _ _).e0 he;split at e1
   ·exact(oH jC e1).elim
   rename_i hl;rw[if_neg hl];have r:=CE hx (c.node a).l c [] lo a.toNat h hc hv jB (fun x Qg=>.inl (Qq x (by rw[<-D'];exact Qg))) (by rw[D'];exact Qb) e1;have q:=Fj a (fR (ay n) c (c.node a).l []).2 (nth c.aa.av (eQ c a).toNat).params (fR (ay n) c (c.node a).l []).1;exact(r.post q.1 q.2).node (Qe jB)
def DC(t:aE)(n:Nat):Prop:=∀(c:Ck) (a:Int) (lo:Nat),bD c->c.aa=t->cZ c->c.e=0->0<=a->a<t.nodes.length->a.toNat<n->fB (bJ t.nodes a)->aR t.nodes lo (nth t.nodes a.toNat).l a.toNat->(bP n c a).e=0->
 eT t lo (a.toNat+1) c (bP n c a)/\cZ (bP n c a)
theorem zR{t:aE}{st:Ck->Int->Ck}{C:Int->Prop}{n:Nat}(hs:∀c a,bD c->c.e=0->Sv c (st c a))
  (J':∀(c:Ck) (a:Int) (lo:Nat),bD c->c.aa=t->cZ c->c.e=0->0<=a->a<t.nodes.length->a.toNat<n->C (bJ t.nodes a)->aR t.nodes lo (nth t.nodes a.toNat).l a.toNat->(st c a).e=0->eT t lo (a.toNat+1) c (st c a)/\cZ (st c a)) :
  ∀(L:PY) (c:Ck) (lo hi:Nat),bD c->c.aa=t->cZ c->hi<=n->(∀x∈L,C (bJ t.nodes x))->aR t.nodes lo L hi->(dN st c L).e=0->eT t lo hi c (dN st c L)/\cZ (dN st c L)
 |[],c,lo,hi,h,hc,hv,hn,hr,Qb,he=>by cases Qb;unfold dN;exact⟨.refl _ _ _,hv⟩
 |a::L,c,lo,hi,h,hc,hv,hn,hr,Qb,he=>by have e0:=(p3 hs (a::L) c h).e0 he;unfold dN at he ⊢;rw[if_pos e0]at he ⊢;obtain⟨c1,c2,c3,c4,c5,c6⟩:=nv Qb;have s:=hs c a h e0;have e1:=(p3 hs L _ s.inv).e0 he;obtain⟨r1,v1⟩:=J' c a lo h hc hv e0 c1 c2 jB (hr a jE) c5 e1;obtain⟨r2,v2⟩:=zR hs J' L _ _ hi s.inv (s.aa.trans hc) v1 hn (fun x hx=>hr x (by simp[hx])) c6 he;exact⟨r1.seq jB jB r2,v2⟩
def CW(ht:aX t)(J':DC t n)(c:Ck)(a:Int)(lo:Nat)(h:bD c)(hc:c.aa=t)(hv:cZ c)(h0:0<=a)(h1:a<t.nodes.length)(hn:a.toNat<=n)(hk:bJ t.nodes a=18)(Qb:aR t.nodes lo (nth t.nodes a.toNat).l a.toNat)(he:(eE (bP n) c a).e=0) :
  eT t lo (a.toNat+1) c (eE (bP n) c a)/\cZ (eE (bP n) c a):=by
 have sv:=oJ (mH n) h a;have D':c.node a=nth t.nodes a.toNat:=by unfold Ck.node;rw[hc]
 have hb:=(ht.shape a.toNat jB).1.block hk;have ev:=pg c a;obtain⟨r,_⟩:=zR (mH n) (C:=fB) J' (c.node a).l (c.aj a) lo a.toNat (h.ev ev) (ev.aa.trans hc) (hv.ev ev) hn (fun x hx=>hb x (by rw[<-D'];exact hx)) (by rw[D'];exact Qb) he;have r:eT t lo a.toNat c (eE (bP n) c a):=eT.post (b:=dN (bP n) (c.aj a) (c.node a).l) (eT.pre (a:=c) (b:=c.aj a) rfl rfl r) rfl rfl;have XL:(nth t.nodes a.toNat).kind=18:=hk;refine⟨r.node (fun h=>by unfold oV at h;omega),?_⟩;have hz:=r.size;refine⟨by have:=hv.1;omega,fun v Qm=>?_⟩;rw[sv.2]at Qm;have:=hv.2 v Qm;omega
def uo(ht:aX t)(h:bD c0)(hc:c0.aa=t)(hv:cZ c0)(hn:a.toNat<=n)(hl:(nth t.nodes a.toNat).l=[x])(hx:ff (bJ t.nodes x))(Qb:aR t.nodes lo (nth t.nodes a.toNat).l a.toNat)(he:(ay n c0 x).1.e=0) :
  eT t lo a.toNat c0 (ay n c0 x).1:=by
 rw[hl]at Qb;obtain⟨c1,c2,c3,c4,c5⟩:=pS Qb;rw[c4];exact un ht n c0 x lo h hc hv c1 c2 jB hx c5 he
def Jq(ht:aX t){y:Int}(h:bD c0)(hc:c0.aa=t)(hv:cZ c0)(hn:a.toNat<=n)(hl:(nth t.nodes a.toNat).l=[x,y])(hx:cr (bJ t.nodes x))(hy:cr (bJ t.nodes y))(Qb:aR t.nodes lo (nth t.nodes a.toNat).l a.toNat)(he:(ay n (ay n c0 x).1 y).1.e=0) :
  eT t lo a.toNat c0 (ay n (ay n c0 x).1 y).1:=by
 rw[hl]at Qb;obtain⟨c1,c2,c3,c4,c5,c6⟩:=nv Qb;obtain⟨d1,d2,d3,d4,d5⟩:=pS c6;have ev:=eo n c0 x;have r1:=un ht n c0 x lo h hc hv c1 c2 jB (.inl hx) c5 ((eo n _ y).e0 he);have q1:=un ht n (ay n c0 x).1 y (x.toNat+1) (h.ev ev) (ev.aa.trans hc) (hv.ev ev) d1 d2 jB (.inl hy) d5 he;rw[d4];exact r1.seq jB jB q1
def FM{c:Ck}(h:bD c)(hc:c.aa=t)(hv:cZ c)(h1:a<t.nodes.length)(h0:0<=a)(QU:lo<=a.toNat)(he:(c.named a).1.e=0)(r:eT t lo a.toNat (c.named a).1 c'):eT t lo (a.toNat+1) c c':=by
 have QH:a.toNat<c.ab.length:=by rw[h.ab,hc];omega
 obtain⟨g1,g2⟩:=yJ hv rfl QH he;have hz:=(l7 c a).size;have Zl:=r.size;refine⟨fun k hk=>(r.sw k jB).trans (g1 k jB),fun k h1 h2 h3=>?_,jB⟩;by_cases V1:k<a.toNat
 ·exact r.all k h1 V1 h3
 ·have:k=a.toNat:=jB;subst this;rw[r.sw _ (.inr jB)];omega
theorem Gi{t:aE}(ht:aX t):∀n,DC t n
 |0=>fun c a lo h hc hv e0 h0 h1 hn=>by omega
 |n+1=>fun c a lo h hc hv e0 h0 h1 hn hr Qb he=>by
  have hs:=Gi ht n;have D':(c.aj a).node a=nth t.nodes a.toNat:=by unfold Ck.node;show nth c.aa.nodes _=_;rw[hc]
  have sh:=(ht.shape a.toNat jB).1;have kd:∀i,(c.aj a).aC a i=nth (nth t.nodes a.toNat).l i:=fun i=>by unfold Ck.aC;rw[D']
  have ev:=pg c a;have h':=h.ev ev;have Rj:=ev.aa.trans hc;have Qm:=hv.ev ev;have QU:=Qb.le;have kr:∀{hi:Nat} {c':Ck},eT t lo hi (c.aj a) c'->eT t lo hi c c':=fun r=>eT.pre (a:=c) (b:=c.aj a) rfl rfl r
  have Qe:∀{q:Prop},¬((nth t.nodes a.toNat).kind=10\/(nth t.nodes a.toNat).kind=11\/(nth t.nodes a.toNat).kind=12)->oV (nth t.nodes a.toNat).kind->q:=fun h1 h2=>by unfold oV at h2;have:fB (nth t.nodes a.toNat).kind:=hr;unfold fB at this;omega
  have Tx:(nth t.nodes a.toNat).kind=10\/(nth t.nodes a.toNat).kind=11\/(nth t.nodes a.toNat).kind=12\/(nth t.nodes a.toNat).kind=13\/(nth t.nodes a.toNat).kind=14\/(nth t.nodes a.toNat).kind=17\/(nth t.nodes a.toNat).kind=15\/(nth t.nodes a.toNat).kind=16:=by have:fB (nth t.nodes a.toNat).kind:=hr;unfold fB at this;omega
  rcases Tx with k|k|k|k|k|k|k
  ·have e:bP (n+1) c a=nC (ay n) (c.aj a) a:=by unfold bP;simp only;rw[D',k];rfl
   obtain⟨x,hl,SD⟩:=sh.right jB;have Ql:(c.aj a).aC a 0=x:=by rw[kd,hl];rfl
   rw[e]at he ⊢;rw[sC]at he ⊢;have he:(ee (ay n) (c.aj a) a).e=0:=he;have S2:=xJ (eo n) (c.aj a) a;have Ra:=h'.ev S2;have Us:=Qm.ev S2;obtain⟨_,q1⟩:=vm jC he;have q1:ee (ay n) (c.aj a) a=iV (ay n) (c.aj a) a:=q1;rw[q1]at he;obtain⟨_,q2⟩:=vm jC he;have q2:iV (ay n) (c.aj a) a=gO (ay n) (c.aj a) a:=q2;rw[q2]at he;unfold gO at he;rw[Ql]at he;obtain⟨b1,b2⟩:=ie he;have r1:=(uo ht h' Rj Qm jB hl SD Qb b2);have Sy:(ee (ay n) (c.aj a) a).ab=(ay n (c.aj a) x).1.ab:=by rw[q1,q2];unfold gO;rw[Ql];exact(r9 _ _ _).1
   have Qh:(ee (ay n) (c.aj a) a).size=(ay n (c.aj a) x).1.size:=by rw[q1,q2];unfold gO;rw[Ql];exact(r9 _ _ _).2
   have r2:=kr (r1.post Sy Qh);have QH:a.toNat<(ee (ay n) (c.aj a) a).ab.length:=by rw[Ra.ab,S2.aa,Rj];omega
   have h0z:=Us.1;have Ur:∀i,nth ((ee (ay n) (c.aj a) a).ab.set a.toNat (ee (ay n) (c.aj a) a).size) i=if a.toNat=i/\i<(ee (ay n) (c.aj a) a).ab.length then(ee (ay n) (c.aj a) a).size else nth (ee (ay n) (c.aj a) a).ab i:=fun i=>uJ _ _ _ _
   refine⟨⟨fun i hi=>?_,fun i h1 h2 h3=>?_,?_⟩,?_,fun v Uw=>?_⟩
   ·show nth ((ee (ay n) (c.aj a) a).ab.set a.toNat _) i=_;rw[Ur,jN];exact r2.sw i jB
   ·show 0<=nth ((ee (ay n) (c.aj a) a).ab.set a.toNat _) i/\nth ((ee (ay n) (c.aj a) a).ab.set a.toNat _) i<(ee (ay n) (c.aj a) a).size+1;rw[Ur];by_cases Zm:i<a.toNat
    ·rw[jN];have:=r2.all i h1 Zm h3;omega
    ·rw[if_pos ⟨jB,jB⟩];omega
   ·show _<=(ee (ay n) (c.aj a) a).size+1;have:=r2.size;omega
   ·show 0<=(ee (ay n) (c.aj a) a).size+1;omega
   ·show 0<=v.slot/\v.slot<(ee (ay n) (c.aj a) a).size+1;have Uw:v∈(ee (ay n) (c.aj a) a).vars++[(⟨((c.aj a).node a).name,(ay n (c.aj a) ((c.aj a).aC a 0)).2,(ee (ay n) (c.aj a) a).size⟩:bH)]:=Uw;rcases List.mem_append.1 Uw with hm|hm
    ·have:=Us.2 v hm;omega
    ·rw[List.mem_singleton.1 hm];show 0<=(ee (ay n) (c.aj a) a).size/\(ee (ay n) (c.aj a) a).size<_;omega
  ·have e:bP (n+1) c a=(ay n ((c.aj a).named a).1 ((c.aj a).aC a 0)).1.ar (decide (((c.aj a).named a).2=(ay n ((c.aj a).named a).1 ((c.aj a).aC a 0)).2)) a:=by unfold bP;simp only;rw[D',k];rfl
   obtain⟨x,hl,SD⟩:=sh.right jB;have Ql:(c.aj a).aC a 0=x:=by rw[kd,hl];rfl
   rw[e]at he ⊢;rw[Ql]at he ⊢;obtain⟨b1,b2⟩:=ie he;have en:=l7 (c.aj a) a;have r1:=uo ht (h'.ev en) (en.aa.trans Rj) (Qm.ev en) jB hl SD Qb b2;exact⟨kr ((FM h' Rj Qm h1 h0 QU ((eo n _ x).e0 b2) r1).ar),(Qm.ev en).ev ((eo n _ _).trans (jb _ _ _))⟩
  ·have e:bP (n+1) c a=(ay n (ay n ((c.aj a).named a).1 ((c.aj a).aC a 0)).1 ((c.aj a).aC a 1)).1.ar (decide (((c.aj a).named a).2=4) && decide ((ay n ((c.aj a).named a).1 ((c.aj a).aC a 0)).2=1) && decide ((ay n (ay n ((c.aj a).named a).1 ((c.aj a).aC a 0)).1 ((c.aj a).aC a 1)).2=1)) a:=by unfold bP;simp only;rw[D',k];rfl
   obtain⟨x,y,hl,Qs,Tl⟩:=sh.two jB;have Ql:(c.aj a).aC a 0=x:=by rw[kd,hl];rfl
   have Qt:(c.aj a).aC a 1=y:=by rw[kd,hl];rfl
   rw[e]at he ⊢;rw[Ql,Qt]at he ⊢;obtain⟨b1,b2⟩:=ie he;have en:=l7 (c.aj a) a;have r1:=Jq ht (h'.ev en) (en.aa.trans Rj) (Qm.ev en) jB hl Qs Tl Qb b2;exact⟨kr ((FM h' Rj Qm h1 h0 QU ((eo n _ x).e0 ((eo n _ y).e0 b2)) r1).ar),(Qm.ev en).ev (((eo n _ _).trans (eo n _ _)).trans (jb _ _ _))⟩
  ·have e:bP (n+1) c a=(ay n (c.aj a) ((c.aj a).aC a 0)).1:=by unfold bP;simp only;rw[D',k];rfl
   obtain⟨x,hl,XN⟩:=sh.oN k;have Ql:(c.aj a).aC a 0=x:=by rw[kd,hl];rfl
   rw[e]at he ⊢;rw[Ql]at he ⊢;have r1:=uo ht h' Rj Qm jB hl (by rw[XN];unfold ff;omega) Qb he;exact⟨(kr r1).node (Qe jB),Qm.ev (eo n _ _)⟩
  ·have e:bP (n+1) c a=(ay n (c.aj a) ((c.aj a).aC a 0)).1.ar (!decide ((ay n (c.aj a) ((c.aj a).aC a 0)).2=4)) a:=by unfold bP;simp only;rw[D',k];rfl
   obtain⟨x,hl,Qs⟩:=sh.one jB;have Ql:(c.aj a).aC a 0=x:=by rw[kd,hl];rfl
   rw[e]at he ⊢;rw[Ql]at he ⊢;obtain⟨b1,b2⟩:=ie he;have r1:=uo ht h' Rj Qm jB hl (.inl Qs) Qb b2;exact⟨((kr r1).ar).node (Qe jB),Qm.ev ((eo n _ _).trans (jb _ _ _))⟩
  ·have e:bP (n+1) c a=jS (ay n) (c.aj a) a:=by unfold bP;simp only;rw[D',k];rfl
   rw[e]at he ⊢;unfold jS at he ⊢;rw[D']at he ⊢;simp only at he ⊢;split at he
   ·exact(oH jC he).elim
   rename_i hf;rw[if_neg hf];rcases sh.ret k with hl|⟨x,hl,Qs⟩
   ·rw[hl];rw[if_neg jC];rw[hl]at Qb;have:lo=a.toNat:=by cases Qb;rfl
    subst this;exact⟨(kr (eT.refl t a.toNat (c.aj a))).node (Qe jB),Qm⟩
   ·have Ql:(c.aj a).aC a 0=x:=by rw[kd,hl];rfl
    have QC:(nth t.nodes a.toNat).l.length=1:=by rw[hl];rfl
    rw[if_pos QC]at he ⊢;rw[Ql]at he ⊢;obtain⟨b1,b2⟩:=ie he;have r1:=uo ht h' Rj Qm jB hl (.inl Qs) Qb b2;exact⟨((kr r1).ar).node (Qe jB),Qm.ev ((eo n _ _).trans (jb _ _ _))⟩
  ·have e:bP (n+1) c a=dN (eE (bP n)) ((ay n (c.aj a) ((c.aj a).aC a 0)).1.ar (decide ((ay n (c.aj a) ((c.aj a).aC a 0)).2=2)) a) (((c.aj a).node a).l.drop 1):=by
    unfold bP;simp only;rw[D'];rcases k with k|k<;>rw[k]<;>rfl
   have TZ:∃x L,(nth t.nodes a.toNat).l=x::L/\cr (bJ t.nodes x)/\∀y∈L,bJ t.nodes y=18:=by
    rcases k with k|k
    ·obtain⟨x,y,hx,hy,hl|⟨z,hl,hz⟩⟩:=sh.jM k
     ·exact⟨x,[y],hl,hx,fun u hu=>by rw[List.mem_singleton.1 hu];exact hy⟩
     ·exact⟨x,[y,z],hl,hx,fun u hu=>by
       rcases List.mem_cons.1 hu with rfl|hu
       ·exact hy
       ·rw[List.mem_singleton.1 hu];exact hz⟩
    ·obtain⟨x,y,hl,hx,hy⟩:=sh.dH k;exact⟨x,[y],hl,hx,fun u hu=>by rw[List.mem_singleton.1 hu];exact hy⟩
   obtain⟨x,L,hl,Qs,hL⟩:=TZ;have Ql:(c.aj a).aC a 0=x:=by rw[kd,hl];rfl
   rw[e]at he ⊢;rw[D',hl,Ql]at he ⊢;have he:(dN (eE (bP n)) ((ay n (c.aj a) x).1.ar (decide ((ay n (c.aj a) x).2=2)) a) L).e=0:=he;show eT t lo (a.toNat+1) c (dN (eE (bP n)) ((ay n (c.aj a) x).1.ar (decide ((ay n (c.aj a) x).2=2)) a) L)/\cZ (dN (eE (bP n)) ((ay n (c.aj a) x).1.ar (decide ((ay n (c.aj a) x).2=2)) a) L);have ex:=(eo n (c.aj a) x).trans (jb _ (decide ((ay n (c.aj a) x).2=2)) a);have Ra:=h'.ev ex;have Wl:∀(q:Ck) b,bD q->q.e=0->Sv q (eE (bP n) q b):=fun q b hq _=>(oJ (mH n) hq b).1
   have e1:=(p3 Wl L _ Ra).e0 he;obtain⟨b1,b2⟩:=ie e1;rw[hl]at Qb;obtain⟨c1,c2,c3,c4,c5,c6⟩:=nv Qb;have r1:=un ht n (c.aj a) x lo h' Rj Qm c1 c2 jB (.inl Qs) c5 b2;obtain⟨r2,v2⟩:=zR Wl (C:=fun k=>k=18) (n:=n) (fun q b l g1 g2 g3 _ g5 g6 g7 g8 g9 g10=>CW ht hs q b l g1 g2 g3 g5 g6 jB g8 g9 g10) L _ (x.toNat+1) a.toNat Ra (ex.aa.trans Rj) (Qm.ev ex) jB hL c6 he;exact⟨((kr r1.ar).seq jB jB r2).node (Qe jB),v2⟩
theorem BN(body:Int):∀(ps:List bM) (c:Ck) (i:Int),cZ c->c.size=i->cZ (eP body c ps i)/\(eP body c ps i).ab=c.ab/\(eP body c ps i).size=i+ps.length
 |[],c,i,h,hi=>by unfold eP;exact⟨h,rfl,by simp;exact hi⟩
 |p::ps,c,i,h,hi=>by
  have fin:∀c1:Ck,Ev c c1->c1.ab=c.ab->cZ (eP body (lj c1 ⟨p.name,p.ty,i⟩) ps (i+1))/\(eP body (lj c1 ⟨p.name,p.ty,i⟩) ps (i+1)).ab=c.ab/\(eP body (lj c1 ⟨p.name,p.ty,i⟩) ps (i+1)).size=i+(p::ps).length:=fun c1 s e=>by
   have hz:=s.size;have h1:=h.ev s;have h0:=h.1;obtain⟨a,b,d⟩:=BN body ps (lj c1 ⟨p.name,p.ty,i⟩) (i+1) ⟨by show 0<=c1.size+1;omega,fun v hv=>by
    have hv:v∈c1.vars++[(⟨p.name,p.ty,i⟩:bH)]:=hv;show 0<=v.slot/\v.slot<c1.size+1;rcases List.mem_append.1 hv with hv|hv
    ·have:=h1.2 v hv;omega
    ·rw[List.mem_singleton.1 hv];show 0<=i/\i<_;omega⟩ (by show c1.size+1=i+1;omega)
   exact⟨a,b.trans e,by rw[d,List.length_cons];omega⟩
  unfold eP;simp only;split
  ·exact fin _ (mu c jC body) (EL _ _ _).1
  ·exact fin _ (.refl c) rfl
structure qs(t:aE)(sl:List Int)(k lo:Nat)(z:Int):Prop where
 wy:((nth t.av k).params.length:Int)<=z
 hi:z<=24
 all:∀i,lo<=i->i<(nth t.av k).body.toNat+1->oV (nth t.nodes i).kind->0<=nth sl i/\nth sl i<z
 chain:aR t.nodes lo (nth t.nodes (nth t.av k).body.toNat).l (nth t.av k).body.toNat
def qs.bS{sl sl':PY}{z:Int}(h:qs t sl k lo z)(e:∀i,i<(nth t.av k).body.toNat+1->nth sl' i=nth sl i):qs t sl' k lo z:=⟨h.wy,h.hi,fun i h1 h2 h3=>by rw[e i h2];exact h.all i h1 h2 h3,h.chain⟩
def Mn(ht:aX t){c:Ck}(h:fw c)(hc:c.aa=t)(hk:k<t.av.length)(Qh:c.aL.length<6)(Qb:aR t.nodes lo (nth t.nodes (nth t.av k).body.toNat).l (nth t.av k).body.toNat)(he:(fY c k).e=0) :
  (∀i,(i<lo\/(nth t.av k).body.toNat+1<=i)->nth (fY c k).ab i=nth c.ab i)/\qs t (fY c k).ab k lo (fY c k).size/\(fY c k).aL=c.aL++[(fY c k).size]:=by
 have O':k<c.aa.av.length:=by rw[hc];exact hk
 have W2:=h.aa.fn _ (dZ O');have Sr:bD { c with fn:=(k:Int),vars:=[],more:=[],size:=0 }:=⟨h.aa,h.types,h.ab,h.av,by show c.aL.length<=6;omega,by show(0:Int)<=k;omega,by show(k:Int)<(c.aa.av.length:Int);omega,by show((0:Nat):Int)<=0;omega,by show(0:Int)<=25;omega,fun _=>by show(0:Int)<=24;omega⟩;obtain⟨a,b,d⟩:=xh (nth c.aa.av k).body (nth c.aa.av k).params _ 0 Sr (by show(0:Int)+_<=20;omega);obtain⟨a',b',d'⟩:=BN (nth c.aa.av k).body (nth c.aa.av k).params { c with fn:=(k:Int),vars:=[],more:=[],size:=0 } 0 ⟨by show(0:Int)<=0;omega,fun v hv=>by simp at hv⟩ rfl;have Sa:=px ht hk;have Vm:=ht.body _ (dZ hk);unfold fY at he ⊢;simp only at he ⊢;rw[hc]at he ⊢;rw[hc]at a b d a' b' d';split at he
 ·rename_i e1;rw[if_pos e1];have sv:=(oJ (mH t.nodes.length) a (nth t.av k).body).1;obtain⟨r,_⟩:=CW ht (Gi ht t.nodes.length) _ (nth t.av k).body lo a (b.trans (by rfl)) a' Sa.1 Sa.2 (by have:=Sa.2;have:=Sa.1;omega) Vm Qb he;have q:=eT.size r;have RR:=sv.inv.room he;refine⟨fun i hi=>(r.sw i hi).trans (by rw[b']),⟨?_,RR,r.all,Qb⟩,?_⟩
  ·show _<=(eE _ _ _).size;rw[d']at q;omega
  ·show(eE _ _ _).aL++[_]=_;rw[sv.aL,d]
 ·rename_i e1;exact(e1 he).elim
def js(t:aE)(k:Nat):Nat:=if k=0 then 0 else(nth t.av (k-1)).body.toNat+1
theorem F8{t:aE}(ht:aX t):∀(n i lo:Nat) (c:Ck),fw c->c.aa=t->c.aL.length=i->i+n=t.av.length->lo=js t i->aR t.nodes lo ((t.av.drop i).map (·.body)) t.nodes.length->(∀j,j<i->qs t c.ab j (js t j) (nth c.aL j)/\(nth t.av j).body.toNat<lo)->(fX c i n).e=0->
  ∀j,j<t.av.length->qs t (fX c i n).ab j (js t j) (nth (fX c i n).aL j)
 |0,i,lo,c,h,hc,hs,hi,QU,Qb,hA,he=>by unfold fX;exact fun j hj=>(hA j jB).1
 |n+1,i,lo,c,h,hc,hs,hi,QU,Qb,hA,he=>by
  have h6:=ht.av;unfold fX at he ⊢;by_cases e0:c.e=0
  ·rw[if_pos e0]at he ⊢;have hk:i<t.av.length:=jB;rw[jh hk]at Qb;obtain⟨c1,c2,c3,c4,c5,c6⟩:=nv (a:=(nth t.av i).body) Qb;obtain⟨f1,f2,f3⟩:=zW h (by rw[hc];exact hk) (by omega:c.aL.length<6);have e1:(fY c i).e=0:=by
    cases n with
    |zero=>unfold fX at he;exact he
    |succ m=>
     unfold fX at he;split at he
     ·assumption
     ·exact he
   obtain⟨r1,r2,r3⟩:=Mn ht h hc hk jB c5 e1;refine F8 ht n (i+1) ((nth t.av i).body.toNat+1) (fY c i) f1 (f2.trans hc) jB jB (by unfold js;rw[jN];rfl) c6 (fun j hj=>?_) he;by_cases Sl:j<i
   ·obtain⟨g1,g2⟩:=hA j Sl;have hz:nth (fY c i).aL j=nth c.aL j:=by rw[r3,lB jB]
    rw[hz];exact⟨g1.bS fun q hq=>r1 q (.inl jB),jB⟩
   ·have:j=i:=jB;subst this;have hz:nth (fY c j).aL j=(fY c j).size:=by rw[r3,<-hs];exact oE _ _
    rw[hz,<-QU];exact⟨r2,jB⟩
  ·rw[if_neg e0]at he;exact(e0 he).elim
theorem CP{x:bg}:∀(l:List bg) (c:Ck),(kG x c l).e=0->c.e=0/\∀f∈l,f.name≠x.name
 |[],c,h=>⟨by unfold kG at h;exact h,fun f hf=>by simp at hf⟩
 |f::l,c,h=>by
  unfold kG at h;obtain⟨h1,h2⟩:=CP l _ h;obtain⟨h3,h4⟩:=vm jC h1;rw[h4]at h1;exact⟨h1,fun g hg=>by
   rcases List.mem_cons.1 hg with rfl|hg
   ·exact h3
   ·exact h2 g hg⟩
theorem Ei(av:List bg):∀(n i:Nat) (c:Ck) (m:Bool),i+n=av.length->(jO av c m i n).1.e=0->c.e=0/\(∀j,i<=j->j<av.length->∀f∈av.take j,f.name≠(nth av j).name)/\((jO av c m i n).2=true->m=true\/∃j,j<av.length/\tq (nth av j)=true)
 |0,i,c,m,hi,h=>by unfold jO at h ⊢;exact⟨h,fun j h1 h2=>jB,fun h=>.inl h⟩
 |n+1,i,c,m,hi,h=>by
  unfold jO at h ⊢;obtain⟨h1,h2,h3⟩:=Ei av n (i+1) _ _ jB h;obtain⟨h4,h5⟩:=CP _ _ h1;refine⟨h4,fun j g1 g2=>?_,fun hm=>?_⟩
  ·by_cases e:j=i
   ·subst e;exact h5
   ·exact h2 j jB g2
  ·rcases h3 hm with h|h
   ·rcases Bool.or_eq_true _ _ |>.mp h with h|h
    ·exact .inl h
    ·exact .inr ⟨i,jB,h⟩
   ·exact .inr h
structure zw(t:aE):Prop where
 one:∀i j,i<j->j<t.av.length->(nth t.av i).name≠(nth t.av j).name
 main:∃j,j<t.av.length/\tq (nth t.av j)=true
def Hi{c:Ck}(h:(iB c).e=0):c.e=0/\zw c.aa:=by
 unfold iB at h;simp only at h;split at h
 ·rename_i hm;obtain⟨h1,h2,h3⟩:=Ei c.aa.av c.aa.av.length 0 c false jB h;refine⟨h1,⟨fun i j hi hj=>h2 j jB hj _ ?_,?_⟩⟩
  ·rw[gD jB];exact List.mem_take_iff_getElem.2 ⟨i,jB,rfl⟩
  ·rcases h3 hm with h|h
   ·cases h
   ·exact h
 ·exact(oH jC h).elim
theorem DH(f:bg->P0)(nm:P0):∀(l:List bg) (i k:Int),(∀a b,a<b->b<l.length->f (nth l a)≠f (nth l b))->(∃v∈l,f v=nm)->iG f nm l i k=gP f nm l i
 |[],i,k,h,hx=>by obtain⟨v,hv,_⟩:=hx;simp at hv
 |v::l,i,k,h,hx=>by
  unfold iG gP;have hl:∀a b,a<b->b<l.length->f (nth l a)≠f (nth l b):=fun a b h1 h2=>h (a+1) (b+1) jB (by rw[List.length_cons];omega)
  by_cases hv:f v=nm
  ·rw[if_pos hv,if_pos hv];have hn:∀u∈l,f u≠nm:=fun u hu hh=>by
    obtain⟨q,hq,rfl⟩:=List.mem_iff_getElem.1 hu;exact h 0 (q+1) jB (by rw[List.length_cons];omega) (by rw[show nth (v::l) 0=v from rfl,show nth (v::l) (q+1)=l[q] from by rw[gD (by rw[List.length_cons];omega)];rfl,hv,hh])
   have:∀(l:List bg) (i k:Int),(∀u∈l,f u≠nm)->iG f nm l i k=k:=fun l=>by
    induction l with
    |nil=>intro i k _;rfl
    |cons u l ih=> intro i k hu;unfold iG;rw[if_neg (hu u jE),ih (i+1) k fun w hw=>hu w (by simp[hw])]
   exact this l _ _ hn
  ·rw[if_neg hv,if_neg hv];exact DH f nm l (i+1) k hl (by
    obtain⟨u,hu,hh⟩:=hx;rcases List.mem_cons.1 hu with rfl|hu
    ·exact(hv hh).elim
    ·exact⟨u,hu,hh⟩)
structure bY(p:ae):Prop where
 ok:iY p
 av:∀j,j<p.aa.av.length->qs p.aa p.ab j (js p.aa j) (nth p.size j)
 names:zw p.aa
def JH(ht:aX t)(he:(gC t).2.2=0):bY (gC t).1:=by
 have hp:=(AE ht he).1;unfold gC at he hp ⊢;split at he
 ·rename_i h;exact(h he).elim
 rename_i h;rw[if_neg h]at hp ⊢;have h:(gS t).e=0:=jB;obtain⟨i1,i2,i3⟩:=GA ht;have q:=F8 ht t.av.length 0 0 (iB (iQ t)) i1 i2 (by rw[i3];rfl) jB rfl (by rw[List.drop_zero];exact ht.chain) (fun j hj=>jB) h;obtain⟨_,q1,_⟩:=A1 ht t.av.length 0 0 (iB (iQ t)) i1 i2 (by rw[i3];rfl) jB (by rw[List.drop_zero];exact ht.chain) h;have he:(gS t).aa=t:=q1;have h0:(iB (iQ t)).e=0:=by
  have Rl:=h;unfold gS at Rl;cases hn:t.av.length with
  |zero=>rw[hn]at Rl;unfold fX at Rl;exact Rl
  |succ m=>
   rw[hn]at Rl;unfold fX at Rl;split at Rl
   ·assumption
   ·exact Rl
 refine⟨hp,?_,?_⟩
 ·show∀j,j<(gS t).aa.av.length->qs (gS t).aa (gS t).ab j (js (gS t).aa j) (nth (gS t).aL j);rw[he];exact q
 ·show zw (gS t).aa;rw[he];exact(Hi h0).2
def CA{s:P0}(he:(fJ s).2.2=0):bY (fJ s).1:=by
 unfold fJ at he ⊢;split at he
 ·rename_i h;exact(h he).elim
 rename_i h;rw[if_neg h];have h:(fO s).2.2=0:=jB;simp only at he ⊢;split at he
 ·cases he
 rename_i h2;split at he
 ·rename_i h3;exact(h3 he).elim
 rename_i h3;rw[if_neg h2,if_neg h3];exact JH (vM h) jB
def Dy{t:List bl}(h:aR t lo L hi):lo+L.length<=hi:=by
 induction h with
 |nil=>simp
 |@cons lo c hi L hc h1 h2 i1 i2=> have:=h1.le;simp only[List.length_cons];omega
def qT{l:List α}{x y:α}(h:x∈l.set i y):x=y\/x∈l:=by
 rcases List.mem_or_eq_of_mem_set h with h|h
 ·exact .inr h
 ·exact .inl h
theorem zM{α:Type}[Inhabited α](f:α->P0)(nm:P0):∀(l:List α) (i:Int),(∃v∈l,f v=nm)->i<=gP f nm l i/\gP f nm l i<i+l.length/\f (nth l (gP f nm l i-i).toNat)=nm
 |[],_,h=>by obtain⟨v,hv,_⟩:=h;simp at hv
 |v::l,i,h=>by
  unfold gP;by_cases hv:f v=nm
  ·rw[if_pos hv];refine⟨Int.le_refl _,by simp;omega,?_⟩;rw[show(i-i).toNat=0 from jB];exact hv
  ·rw[if_neg hv];obtain⟨u,hu,hh⟩:=h;have hu:u∈l:=by
    rcases List.mem_cons.1 hu with rfl|hu
    ·exact(hv hh).elim
    ·exact hu
   obtain⟨a,b,c⟩:=zM f nm l (i+1) ⟨u,hu,hh⟩;refine⟨jB,by simp;omega,?_⟩;rw[show(gP f nm l (i+1)-i).toNat=(gP f nm l (i+1)-(i+1)).toNat+1 from jB];exact c
theorem C3{α:Type}(f:α->P0)(nm:P0):∀(l:List α) (i k:Int),iG f nm l i k≠k->∃v∈l,f v=nm
 |[],_,_,h=>(h rfl).elim
 |v::l,i,k,h=>by
  unfold iG at h;by_cases hv:f v=nm
  ·exact⟨v,jE,hv⟩
  ·rw[if_neg hv]at h;obtain⟨u,hu,hh⟩:=C3 f nm l _ _ h;exact⟨u,by simp[hu],hh⟩
structure Callee(p:ae)(a:Int)(k:Nat):Prop where
 lt:k<p.aa.av.length
 at_:gP bg.name (aJ p a).name p.aa.av 0=k
 last:iG bg.name (aJ p a).name p.aa.av 0 (-1)=k
 name:(nth p.aa.av k).name=(aJ p a).name
 args:(aJ p a).l.length=(nth p.aa.av k).params.length
 Gy:(aJ p a).l.length<=3
variable{p:ae}
def callee(h:bY p)(h0:a.toNat<p.aa.nodes.length)(hk:(aJ p a).kind=21):∃k,Callee p a k:=by
 obtain⟨h1,h2⟩:=(h.ok.ty a.toNat jB h0).call hk;have hx:=C3 bg.name (aJ p a).name p.aa.av 0 (-1) (by show iG bg.name (nth p.aa.nodes a.toNat).name p.aa.av 0 (-1)≠-1;omega);have e:=DH bg.name (aJ p a).name p.aa.av 0 (-1) (fun a b=>h.names.one a b) hx;obtain⟨f1,f2,f3⟩:=zM bg.name (aJ p a).name p.aa.av 0 hx;refine⟨(gP bg.name (aJ p a).name p.aa.av 0).toNat,jB,jB,jB,?_,?_,?_⟩
 ·rwa [Int.sub_zero]at f3
 ·unfold aJ at e ⊢;rw[<-e];exact h2
 ·have hm:=(h.ok.aa.fn _ (dZ (l:=p.aa.av) (k:=(gP bg.name (aJ p a).name p.aa.av 0).toNat) jB)).2;unfold aJ at e hm ⊢;rw[<-e]at hm;rw[h2];exact hm
def zI(l:PY):gb 0 l=l.length:=by simp[gb]
theorem kY:∀(h:PX) (n:Int),h.foldl gb n=n+h.foldl gb (0:Int)
 |[],n=>by simp[List.foldl]
 |x::h,n=>by simp only[List.foldl_cons];rw[kY h (gb n x),kY h (gb 0 x)];unfold gb;omega
def NX(h:PX)(x:PY):fj (h++[x])=fj h+x.length+1:=by unfold fj;rw[List.foldl_append,List.foldl_cons,List.foldl_nil,List.length_append,kY h _,kY h (h.length:Int)];unfold gb;simp;omega
theorem rM:∀(h:PX),0<=h.foldl gb (0:Int)
 |[]=>by simp
 |x::h=>by simp only[List.foldl_cons];rw[kY,zI];have:=rM h;omega
def gX(h:PX):(h.length:Int)<=fj h:=by unfold fj;rw[kY];have:=rM h;omega
theorem G8:∀(h:PX) (i:Nat) (x:PY),i<h.length->x.length=(nth h i).length->(h.set i x).foldl gb (0:Int)=h.foldl gb 0
 |[],i,x,hi,_=>by simp at hi
 |y::h,0,x,_,e=>by have e:x.length=y.length:=e;simp only[List.set_cons_zero,List.foldl_cons,gb,e]
 |y::h,i+1,x,hi,e=>by simp only[List.set_cons_succ,List.foldl_cons];rw[kY (h.set i x) (gb 0 y),kY h (gb 0 y),G8 h i x (by simpa using hi) e]
def HS(h:PX)(i:Nat)(x:PY)(hi:i<h.length)(e:x.length=(nth h i).length):fj (h.set i x)=fj h:=by unfold fj;rw[List.length_set,kY (h.set i x) (h.length:Int),kY h (h.length:Int),G8 h i x hi e]
theorem Ey:∀(h:PX) (i:Nat),i<h.length->((nth h i).length:Int)<=h.foldl gb 0
 |[],i,hi=>by simp at hi
 |y::h,0,_=>by simp only[List.foldl_cons];rw[kY,zI];have:=rM h;show(y.length:Int)<=_;omega
 |y::h,i+1,hi=>by simp only[List.foldl_cons];rw[kY,zI];have:=Ey h i (by simpa using hi);show((nth h i).length:Int)<=_;omega
def sZ(h:PX)(i:Nat)(hi:i<h.length):((nth h i).length:Int)+h.length<=fj h:=by unfold fj;rw[kY];have:=Ey h i hi;omega
def zP[Inhabited α](l:List α)(n k:Nat)(h:k<n):nth (l.take n) k=nth l k:=by unfold nth;rw[List.getD_eq_getElem?_getD,List.getElem?_take,if_pos h,List.getD_eq_getElem?_getD]
def Jt{v:ai}(hm:fT v=true):v.s.size<=40:=by
 unfold fT at hm;split at hm
 ·have:v.s=sE:=by simpa using hm
  rw[this];decide
 split at hm
 ·simp only[Bool.and_eq_true,decide_eq_true_eq]at hm;rw[hm.1];decide
 split at hm
 ·simp only[Bool.and_eq_true,decide_eq_true_eq]at hm;omega
 split at hm
 ·simp only[Bool.and_eq_true,decide_eq_true_eq]at hm;rw[hm.1];decide
 ·cases hm
def Ft(n:Int):bn (IntKind.i64.wrap n):=by unfold bn;rw[IntKind.wrap_i64];omega
def mg:bn 0:=by unfold bn;omega
def yl(b:Bool):bn (vB b).n:=by cases b<;>(show bn _;unfold vB bn;simp)
def Pp{b:Int}(h:bn a):bn (a.tmod b):=by
 unfold bn at*;by_cases h0:0<=a
 ·have h1:0<=a.tmod b:=Int.tmod_nonneg b h0;have h2:a.tmod b<=a:=by
   have:=Int.mul_tdiv_add_tmod a b;by_cases hb:b=0
   ·subst hb;simp
   ·have hn:=Int.natAbs_tmod a b;have:(a.tmod b).natAbs<=a.natAbs:=by rw[hn];exact Nat.mod_le _ _
    omega
  omega
 ·have hn:=Int.natAbs_tmod a b;have:(a.tmod b).natAbs<=a.natAbs:=by rw[hn];exact Nat.mod_le _ _
  have h3:a.tmod b<=0:=by have:=Int.tmod_nonneg b (a:=-a) jB;rw[Int.neg_tmod]at this;omega
  omega
def C6(s:P0)(a:ai):bn (ku s a).n:=by
 unfold ku
 (repeat' split)<;>first|exact Ft _|exact mg|exact yl _
def mZ(l:List ai):Prop:=∀v∈l,bn v.n
def Ac(h:PX):Prop:=∀l∈h,∀x∈l,bn x
def Oe(p:ae):Prop:=∀k,k<p.aa.nodes.length->(nth p.aa.nodes k).kind=1->bn (nth p.aa.nodes k).n
theorem iY.bn{p:ae}(h:iY p):Oe p:=fun k hk h1=>by
 obtain⟨s,hs,e⟩:=(h.aa.shape k hk).1.num h1;have P':=EX hs;have Ux:nB s=(iP s.data.toList 0:Nat):=by unfold nB;rw[zJ s hs.2.2 _ jl,List.take_of_length_le jE]
 rw[e,Ux];unfold Go.Gd.bn;omega
def L4{l:List ai}(h:mZ l)(k t:Int):bn (gA l k t).n:=by
 unfold gA
 (repeat' split)<;>first|exact mg|exact h _ (dZ jB)
def zy[Inhabited α](l:List α)(k:Nat):nth l k∈l\/nth l k=default:=by
 by_cases h:k<l.length
 ·exact .inl (dZ h)
 ·right;unfold nth;rw[List.getD_eq_getElem?_getD,List.getElem?_eq_none jB];rfl
def Ds{l:List ai}(h:mZ l)(k:Nat){v:ai}(hv:bn v.n):mZ (l.set k v):=fun x hx=>by
 rcases qT hx with rfl|hx
 ·exact hv
 ·exact h x hx
def yY(hs:bY p):∃m:Nat,m<p.aa.av.length/\mB p=(m:Int)/\(nth p.aa.av m).name=(⟨#[109,97,105,110]⟩:P0)/\(nth p.aa.av m).params.length=0:=by
 obtain⟨j,hj,T0⟩:=hs.names.main;unfold tq at T0;simp only[Bool.and_eq_true,decide_eq_true_eq]at T0;obtain⟨⟨g1,g2⟩,_⟩:=T0;obtain⟨f1,f2,f3⟩:=zM bg.name (⟨#[109,97,105,110]⟩:P0) p.aa.av 0 ⟨_,dZ hj,g1⟩;have e:(gP bg.name (⟨#[109,97,105,110]⟩:P0) p.aa.av 0-0).toNat=(mB p).toNat:=by unfold mB;simp
 rw[e]at f3;have QU:0<=mB p:=f1;have TP:mB p<0+p.aa.av.length:=f2;have hm:(mB p).toNat<p.aa.av.length:=jB;have Zn:j=(mB p).toNat:=by
  rcases Nat.lt_trichotomy j (mB p).toNat with h|h|h
  ·exact(hs.names.one _ _ h hm (by rw[g1,f3])).elim
  ·exact h
  ·exact(hs.names.one _ _ h hj (by rw[g1,f3])).elim
 exact⟨(mB p).toNat,hm,jB,f3,by rw[<-Zn];omega⟩
def rF(R:RS)(ho:gv R) :
  af prog 69 [.pt 0 0 0 0] (R.e 39 [] [] []) (fun v l=>v=.bt []/\l=R.on.e 39 [] [] []):=by
 have Qy:=ho.ok.nf;have RM:=ho.ok.jp;have h1:=ho.nf;have h2:=ho.pa;have h3:=ho.a0;have h4:=ho.a1;have h5:=ho.ak;have h6:=ho.gV;unfold aP.pl at h3 h4;refine aO func69 ntmps69 ?_;generalize hB:ids (R.e 39 [] [] [])=B;generalize hE:R.on.e 39 [] [] []=E;refine S ?_
 (repeat' (first|refine aq fun K hK=>?_|refine am ?_|(with_reducible refine gR 0 ?_);refine dE 0 (au 0 12) mixed ?_|(with_reducible refine gR 1 ?_);refine dE 1 (au 0 17) mixed ?_|(refine hK _ _ ?_;clear hK K)|(refine ao ?_ ?_<;>intro hc<;>try exact jz)|refine ap ?_|exact jI|(clear hK K)))
 (refine cj [] ?_ ?_<;>(try simp only[go_sem]))
 subst hE;refine RS.lQ jB jE (by simp[RS.c]) fun j=>?_
 split
 ·rename_i e;subst e;show Row.aG _ _ _=Row.aG _ _ _;rw[<-List.map_append,<-List.map_set];congr 2
  exact List.set_append_left _ _ jB
 ·rw[List.map_append.symm];rfl
def Eh(p:ae)(s:aw)(h1:1<=s.ah.length)(h2:s.ah.length<=1000)(h3:1<=s.cC.path.length)(h4:s.cC.path.length<=1000)(h5:0<=s.cC.pl.block)(h6:s.cC.pl.block<p.aa.nodes.length)(h7:0<=s.cC.pl.at_)(h8:s.cC.pl.at_<(ir p s.cC.pl.block).length) :
  aA prog 62 [.agg (bp p),.agg (bv s)] (.raw (.int .i64 (aW p s))):=by
 unfold aw.cC at h3 h4 h5 h6 h7 h8;unfold aP.pl at h5 h6 h7 h8;unfold ir at h8;refine bI func62 ntmps62 ?_
 (repeat' (first|refine aq fun K hK=>?_|refine am ?_|(with_reducible refine gR 3 ?_);refine dE 3 (au 0 13) mixed ?_|(refine hK _ _ ?_;clear hK K)|(refine ao ?_ ?_<;>intro hc<;>try exact jz)|refine ap ?_|exact jI|(clear hK K)))
 (refine aY [.tmp 4] ?_;try simp only[go_sem])
 rfl
def s8{j:Nat}{r s:Row}(hi:4<=i/\i<1000)(hj:4<=j/\j<1000):low [(i,r),(j,s)]:=fun k x hk=>by have hk:k∈ids [(i,r),(j,s)]:=(iu _ _).2 (by rw[hk];simp);simp[ids]at hk;omega
def Cg{j:Nat}{r s u:Row}(hi:4<=i/\i<1000)(hj:4<=j/\j<1000)(hk:4<=k/\k<1000):low [(i,r),(j,s),(k,u)]:=fun q x hq=>by have hq:q∈ids [(i,r),(j,s),(k,u)]:=(iu _ _).2 (by rw[hq];simp);simp[ids]at hq;omega
def B7(p:ae)(v:ai)(R:RS)(h:R.Ok)(h1:1<=R.nf)(h4:R.ak.length<=1000)(ha:2<=R.nf->ka p R.pop.st) :
  af prog 67 [.agg (bp p),.pt 0 0 0 0,.agg (bk v)] (R.e 39 [] [] []) (fun r l=>r=.bt []/\l=(R.bh p v).e 39 [] [] []):=by
 have Qy:=h.nf;have RM:=h.jp;have Sf:R.pop.Ok:=⟨by show R.nf-1<=R.ak.length;omega,RM⟩;rcases Nat.lt_or_ge R.nf 2 with h2|h2
 ·have e:R.bh p v={ R.pop with status:=2 }:=by unfold RS.bh;rw[jP]
  rw[e];have h0:R.nf-1=0:=jB;refine aO func67 ntmps67 ?_;generalize hB:ids (R.e 39 [] [] [])=B;generalize hE:({ R.pop with status:=2 }:RS).e 39 [] [] []=E;refine S ?_
  (repeat' (first|refine aq fun K hK=>?_|refine am ?_|(with_reducible refine gR 1 ?_);refine dE 1 (au 0 15) mixed ?_|(with_reducible refine gR 4 ?_);refine dE 4 (au 0 6) mixed ?_|(with_reducible refine gR 7 ?_);refine dE 7 (au 0 21) mixed ?_|(refine hK _ _ ?_;clear hK K)|(refine ao ?_ ?_<;>intro hc<;>try exact jz)|refine bz 4 ?_|refine bz 5 ?_|refine ap ?_|exact jI|(clear hK K)))
  subst hE;exact c7 (R':={ R.pop with status:=2 }) (tl:=[(4,.var 29 (bp p)),(5,.var 50 (bk v))]) rfl hB [] (s8 jB jB) rfl rfl rfl
 ·have hA:=ha h2;have VL:=hA.n0;have Rw:=hA.n1;have QH:=hA.sl;have QJ:=RS.cC Sf (by show 1<=R.nf-1;omega);have YA:=Eh p R.pop.st hA.fr hA.ak hA.pa hA.gV hA.b0 hA.b1 hA.a0 hA.a1;have RH:=hA.s0;rw[QJ]at RH;have QN:gv R.pop:=⟨Sf,by show 1<=R.nf-1;omega,h4,by rw[<-QJ];exact hA.pa,by rw[<-QJ];exact hA.gV,by rw[<-QJ];exact hA.a0,by rw[<-QJ];exact hA.uW⟩;have Ri:∀(x y z:Row),low [(4,x),(5,y),(6,z)]:=fun x y z=>Cg jB jB jB
  have hk:R.nf-1-1<R.ak.length:=jB;generalize D':aW p R.pop.st=node at*;by_cases Qr:gg p node
  ·have e:R.bh p v=(R.pop.br p node v).on:=by unfold RS.bh;rw[jN,D',if_pos Qr]
   rw[e];have Tm:=RH Qr;unfold gg at Qr;have VN:nth p.ab node.toNat<((nth R.ak (R.nf-1-1)).ab.length:Int):=Tm.2;have YB:=Tm.1;have QN:=rF (R.pop.br p node v) (QN.dY rfl);have hj:∀j,(if j=R.nf-1-1 then Row.aG 50 3 ((List.map bk (nth R.ak (R.nf-1-1)).ab).set (nth p.ab node.toNat).toNat (bk v++List.drop 3 (bk (nth (nth R.ak (R.nf-1-1)).ab (nth p.ab node.toNat).toNat))))else Row.aG 50 3 (List.map bk (nth R.ak j).ab))=if j=R.nf-1-1 then .aG 50 3 (((nth R.ak (R.nf-1-1)).ab.set (nth p.ab node.toNat).toNat v).map bk)else R.pop.sl j:=fun j=>by
    by_cases e:j=R.nf-1-1
    ·rw[if_pos e,if_pos e,List.map_set];rfl
    ·rw[if_neg e,if_neg e];rfl
   refine aO func67 ntmps67 ?_;generalize hB:ids (R.e 39 [] [] [])=B;generalize hE:(R.pop.br p node v).on.e 39 [] [] []=E;refine S ?_
   (have W:=Qr;repeat' (first|refine aq fun K hK=>?_|refine am ?_|(with_reducible refine gR 1 ?_);refine dE 1 (au 0 15) mixed ?_|(with_reducible refine gR 4 ?_);refine dE 4 (au 0 6) mixed ?_|(with_reducible refine gR 7 ?_);refine dE 7 (au 0 21) mixed ?_|(refine hK _ _ ?_;clear hK K)|(refine ao ?_ ?_<;>intro hc<;>try exact jz)|refine bz 4 ?_|refine bz 5 ?_|refine bf 6 ?_|(refine cL (args':=[.agg (bp p),.agg (bv R.pop.st)]) YA (show bc _ ⟨B,R.pop.e 39 [] [] _⟩ [.agg (bp p),.agg R.pop.c] _ from⟨.same _ rfl,(RS.qo Sf fun _=>rfl).agg,trivial⟩) rfl jD ?_;refine S ?_)|(refine cE (R:=R.pop.br p node v) (R':=(R.pop.br p node v).on) (pre:=[]) (post:=[]) (pre':=[]) (post':=[]) QN (congrArg (Hp.mk B) (RS.iq (R:=R.pop) (k:=R.nf-1-1) hk (List.length_set ..) rfl hj)) (Nat.le_of_eq RS.aT) jl rfl rfl (Ri _ _ _) rfl jD ?_;refine S ?_)|refine ap ?_|exact jI|(clear hK K)))
   subst hE;exact c7 (R':=(R.pop.br p node v).on) (tl:=[(4,.var 29 (bp p)),(5,.var 50 (bk v)),(6,.var 78 (bX (nth p.aa.nodes node.toNat)))]) rfl hB [] (Ri _ _ _) rfl rfl rfl
  ·have e:R.bh p v=R.pop.on:=by unfold RS.bh;rw[jN,D',if_neg Qr]
   rw[e];have QN:=rF R.pop QN;unfold gg at Qr;refine aO func67 ntmps67 ?_;generalize hB:ids (R.e 39 [] [] [])=B;generalize hE:R.pop.on.e 39 [] [] []=E;refine S ?_
   (have W:=Qr;repeat' (first|refine aq fun K hK=>?_|refine am ?_|(with_reducible refine gR 1 ?_);refine dE 1 (au 0 15) mixed ?_|(with_reducible refine gR 4 ?_);refine dE 4 (au 0 6) mixed ?_|(with_reducible refine gR 7 ?_);refine dE 7 (au 0 21) mixed ?_|(refine hK _ _ ?_;clear hK K)|(refine ao ?_ ?_<;>intro hc<;>try exact jz)|refine bz 4 ?_|refine bz 5 ?_|refine bf 6 ?_|(refine cL (args':=[.agg (bp p),.agg (bv R.pop.st)]) YA (show bc _ ⟨B,R.pop.e 39 [] [] _⟩ [.agg (bp p),.agg R.pop.c] _ from⟨.same _ rfl,(RS.qo Sf fun _=>rfl).agg,trivial⟩) rfl jD ?_;refine S ?_)|(refine cE (R:=R.pop) (R':=R.pop.on) (pre:=[]) (post:=[]) (pre':=[]) (post':=[]) QN rfl (Nat.le_of_eq RS.aT) jl rfl rfl (Ri _ _ _) rfl jD ?_;refine S ?_)|refine ap ?_|exact jI|(clear hK K)))
   subst hE;exact c7 (R':=R.pop.on) (tl:=[(4,.var 29 (bp p)),(5,.var 50 (bk v)),(6,.var 78 (bX (nth p.aa.nodes node.toNat)))]) rfl hB [] (Ri _ _ _) rfl rfl rfl
structure hP(p:ae)(fn:Int)(x:cU):Prop where
 b0:0<=x.block
 lo:js p.aa fn.toNat<=x.block.toNat
 hi:x.block.toNat<=(nth p.aa.av fn.toNat).body.toNat
 kind:bJ p.aa.nodes x.block=18
 a0:0<=x.at_
 a1:x.at_<=(ir p x.block).length
structure dM(p:ae)(f:aP):Prop where
 f0:0<=f.fn
 f1:f.fn<p.aa.av.length
 sl:(f.ab.length:Int)=nth p.size f.fn.toNat
 pl:∀x∈f.path,hP p f.fn x
 dec:(f.path.map (·.block)).Pairwise fun a b=>b<a
def nX(p:ae)(f:aP):Prop:=f.path≠[]/\f.pl.at_<(ir p f.pl.block).length
variable{f:aP}
def uM(h:f.path≠[]):f.pl∈f.path:=dZ (by have:=List.length_pos_iff.2 h;omega)
theorem GO:∀(l:List cU) (n:Nat),(l.Pairwise fun a b=>b.block<a.block)->(∀x∈l,0<=x.block/\x.block<n)->l.length<=n
 |[],n,_,_=>Nat.zero_le _
 |x::l,n,h,hb=>by
  have hx:=hb x jE;have:=GO l x.block.toNat (List.pairwise_cons.1 h).2 fun y hy=>⟨(hb y (by simp[hy])).1,by have:=(List.pairwise_cons.1 h).1 y hy;omega⟩
  simp only[List.length_cons];omega
variable{fn:Int}
def hP.in_(h:bY p)(f0:0<=fn)(f1:fn<p.aa.av.length){x:cU}(hx:hP p fn x):x.block.toNat<p.aa.nodes.length:=by have:=px h.ok.aa (k:=fn.toNat) jB;have h1:=this.1;have h2:=this.2;have h3:=hx.hi;omega
def hP.aC(h:bY p)(f0:0<=fn)(f1:fn<p.aa.av.length){x:cU}(hx:hP p fn x)(ha:a∈ir p x.block):0<=a/\a.toNat<x.block.toNat/\js p.aa fn.toNat<=a.toNat/\fB (bJ p.aa.nodes a):=by
 have hi:=hx.in_ h f0 f1;have sh:=h.ok.aa.shape x.block.toNat hi;have h1:=sh.2.1 a ha;refine⟨h1.1,h1.2,?_,sh.1.block hx.kind a ha⟩;have hc:=(h.av fn.toNat jB).chain;by_cases e:x.block.toNat<(nth p.aa.av fn.toNat).body.toNat
 ·exact hc.closed _ hx.lo e a ha
 ·have e:x.block.toNat=(nth p.aa.av fn.toNat).body.toNat:=by have:=hx.hi;omega
  have ha:a∈(nth p.aa.nodes x.block.toNat).l:=ha;rw[e]at ha;exact(hc.mem a ha).2.1
def dM.len(h:bY p)(hf:dM p f):f.path.length<=300:=by
 have:=GO f.path p.aa.nodes.length (List.pairwise_map.1 hf.dec) fun x hx=>⟨(hf.pl x hx).b0,by have:=(hf.pl x hx).in_ h hf.f0 hf.f1;have:=(hf.pl x hx).b0;omega⟩
 have:=h.ok.aa.many;omega
def hP.vK(h:bY p)(f0:0<=fn)(f1:fn<p.aa.av.length){x:cU}(hx:hP p fn x):x.at_<=300:=by have hi:=hx.in_ h f0 f1;obtain⟨lo,hc⟩:=(h.ok.aa.shape x.block.toNat hi).2.2;have:=Dy hc;have:=h.ok.aa.many;have:=hx.a1;unfold ir at this;omega
def Gw(h:bY p){s:aw}(h1:1<=s.ah.length)(h2:s.ah.length<=8)(hf:dM p s.cC)(hb:nX p s.cC):ka p s:=by have hx:=hf.pl _ (uM hb.1);have hi:=hx.in_ h hf.f0 hf.f1;have Zo:=hb.2;have Rx:=hx.a0;have UA:=hx.b0;have hm:aW p s∈ir p s.cC.pl.block:=dZ jB;obtain⟨k0,k1,k2,k3⟩:=hx.aC h hf.f0 hf.f1 hm;have hl:=hf.len h;have QF:=hx.vK h hf.f0 hf.f1;refine⟨h1,jB,List.length_pos_iff.2 hb.1,jB,UA,jB,Rx,Zo,jB,k0,jB,h.ok.ab,fun Qr=>?_⟩;have:=(h.av s.cC.fn.toNat (by have:=hf.f0;have:=hf.f1;omega)).all (aW p s).toNat k2 (by have:=hx.hi;omega) (by unfold gg at Qr;unfold oV;omega);have:=hf.sl;omega
structure cO(p:ae)(R:RS):Prop where
 ok:R.Ok
 ak:R.ak.length<=8
 fr:∀k,k<R.nf->dM p (nth R.ak k)
 busy:∀k,k+1<R.nf->nX p (nth R.ak k)
 go:R.status≠2->1<=R.nf
def wu(h:dM p f)(hb:nX p f):dM p (nN f):=by
 have hx:=h.pl _ (uM hb.1);have VP:=hb.2;have Rx:=hx.a0;refine⟨h.f0,h.f1,h.sl,fun x hm=>?_,?_⟩
 ·rcases qT hm with rfl|hm
  ·exact⟨hx.b0,hx.lo,hx.hi,hx.kind,by show 0<=f.pl.at_+1;omega,by show f.pl.at_+1<=_;show _<=((ir p f.pl.block).length:Int);omega⟩
  ·exact h.pl x hm
 ·have e:(nN f).path.map (·.block)=f.path.map (·.block):=by
   have hl:f.path.length-1<f.path.length:=by have:=List.length_pos_iff.2 hb.1;omega
   show(f.path.set (f.path.length-1) _).map _=_;rw[List.map_set];apply List.ext_getElem jE;intro i h1 h2;rw[List.getElem_set];split
   ·rename_i e;subst e;show(nth f.path (f.path.length-1)).block=_;rw[gD hl];simp
   ·rfl
  rw[e];exact h.dec
def I0(h:dM p f)(n:Nat):dM p { f with path:=f.path.take n }:=
 ⟨h.f0,h.f1,h.sl,fun x hx=>h.pl x (List.mem_of_mem_take hx),by show((f.path.take n).map _).Pairwise _;rw[List.map_take];exact h.dec.sublist (List.take_sublist _ _)⟩
def Gc(h:dM p f)(i:Nat)(v:ai):dM p { f with ab:=f.ab.set i v }:=⟨h.f0,h.f1,by show((f.ab.set i v).length:Int)=_;rw[List.length_set];exact h.sl,h.pl,h.dec⟩
theorem cO.cut{p:ae}{R:RS}(h:cO p R)(h1:1<=R.nf)(hp:R.aF.path.length≠0):cO p R.cut/\R.cut.left+1=R.left:=by
 have Qy:=h.ok.nf;have RM:=h.ok.jp;have hu:∀k,nth R.cut.ak k=if k=R.nf-1 then{ R.aF with path:=R.aF.path.take (R.aF.path.length-1) }else nth R.ak k:=fun k=>Go.Gd.bQ _ _ _ _ jB
 refine⟨⟨⟨by show R.nf<=(R.ak.set _ _).length;rw[List.length_set];exact Qy,by show(R.jp.set _ _).length=(R.ak.set _ _).length;rw[List.length_set,List.length_set];exact RM⟩,by show(R.ak.set _ _).length<=8;rw[List.length_set];exact h.ak,fun k hk=>?_,fun k hk=>?_,h.go⟩,?_⟩
 ·rw[hu];split
  ·exact I0 (h.fr _ jB) _
  ·exact h.fr k hk
 ·have hk:k+1<R.nf:=hk;rw[hu,jN];exact h.busy k hk
 ·obtain⟨m,hm⟩:∃m,R.nf=m+1:=⟨R.nf-1,jB⟩;show n4 _ R.nf+1=n4 _ R.nf;have XO:R.nf-1=m:=jB;have ht:(nth R.ak m).path.length≠0:=by unfold RS.aF at hp;rw[XO]at hp;exact hp
  rw[hm];unfold n4;rw[yQ (n:=m) (g:=fun k=>(nth R.ak k).path.length+1) fun k hk=>by rw[hu,jN]];rw[hu,if_pos XO.symm];show _+((R.aF.path.take (R.aF.path.length-1)).length+1)+1=_+((nth R.ak m).path.length+1);have:R.aF=nth R.ak m:=by unfold RS.aF;rw[XO]
  rw[this,List.length_take];omega
theorem cO.bh{p:ae}{R:RS}(h:cO p R)(h1:1<=R.nf)(v:ai):cO p (R.bh p v)/\(R.bh p v).left<R.left/\(R.bh p v).nf=R.nf-1:=by
 have Qy:=h.ok.nf;have RM:=h.ok.jp;obtain⟨m,hm⟩:∃m,R.nf=m+1:=⟨R.nf-1,jB⟩;have Qh:n4 (fun k=>(nth R.ak k).path.length+1) m<R.left:=by unfold RS.left;rw[hm];show _<n4 (fun k=>(nth R.ak k).path.length+1) m+((nth R.ak m).path.length+1);omega
 unfold RS.bh;split
 ·rename_i h2;refine⟨⟨⟨by show R.nf-1<=R.ak.length;omega,RM⟩,h.ak,fun k hk=>?_,fun k hk=>?_,fun e=>(e rfl).elim⟩,?_,rfl⟩
  ·exact h.fr k (by have hk:k<R.nf-1:=hk;omega)
  ·exact h.busy k (by have hk:k+1<R.nf-1:=hk;omega)
  ·show n4 _ (R.nf-1)<_;rw[show R.nf-1=m from jB];exact Qh
 ·rename_i h2;have hb:=h.busy (R.nf-1-1) jB;have hf:=h.fr (R.nf-1-1) jB;have key:∀Q:RS,Q.nf=R.nf-1->Q.ak.length=R.ak.length->Q.jp=R.jp->(∀k,k≠R.nf-1-1->nth Q.ak k=nth R.ak k)->dM p (nth Q.ak (R.nf-1-1))->(nth Q.ak (R.nf-1-1)).path.length=(nth R.ak (R.nf-1-1)).path.length->cO p Q/\Q.left<R.left/\Q.nf=R.nf-1:=fun Q q1 q2 q3 q4 q5 q6=>by
   refine⟨⟨⟨jB,by rw[q3,q2];exact RM⟩,by rw[q2];exact h.ak,fun k hk=>?_,fun k hk=>?_,fun _=>jB⟩,?_,q1⟩
   ·by_cases e:k=R.nf-1-1
    ·subst e;exact q5
    ·rw[q4 k e];exact h.fr k jB
   ·rw[q4 k jB];exact h.busy k jB
   ·unfold RS.left;rw[q1,show R.nf-1=m from jB,yQ (g:=fun k=>(nth R.ak k).path.length+1) fun k hk=>?_]
    ·exact Qh
    ·by_cases e:k=R.nf-1-1
     ·subst e;show _+1=_+1;rw[q6]
     ·show _+1=_+1;rw[q4 k e]
  have hk:R.nf-1-1<R.ak.length:=jB;split
  ·have hu:∀k,nth (R.pop.br p (aW p R.pop.st) v).ak k=if k=R.nf-1-1 then{ nth R.ak (R.nf-1-1)with ab:=(nth R.ak (R.nf-1-1)).ab.set (nth p.ab (aW p R.pop.st).toNat).toNat v }else nth R.ak k:=fun k=>RS.bQ (R:=R.pop) hk _ k
   have hl:(R.pop.br p (aW p R.pop.st) v).ak.length=R.ak.length:=RS.aT.symm;have Vo:∀k,nth (R.pop.br p (aW p R.pop.st) v).on.ak k=if k=R.nf-1-1 then nN (nth (R.pop.br p (aW p R.pop.st) v).ak (R.nf-1-1))else nth (R.pop.br p (aW p R.pop.st) v).ak k:=fun k=>RS.bQ (by rw[hl];exact hk) _ k
   refine key _ rfl (RS.aT.symm.trans hl) rfl (fun k O'=>by rw[Vo,if_neg O',hu,if_neg O']) ?_ ?_
   ·rw[Vo,if_pos rfl,hu,if_pos rfl];exact wu (Gc hf _ _) hb
   ·rw[Vo,if_pos rfl,hu,if_pos rfl];simp[nN]
  ·have Vo:∀k,nth R.pop.on.ak k=if k=R.nf-1-1 then nN (nth R.ak (R.nf-1-1))else nth R.ak k:=fun k=>RS.bQ (R:=R.pop) hk _ k
   refine key _ rfl RS.aT.symm rfl (fun k O'=>by rw[Vo,if_neg O']) ?_ ?_
   ·rw[Vo,if_pos rfl];exact wu hf hb
   ·rw[Vo,if_pos rfl];simp[nN]
theorem th{p:ae}:∀(n m:Nat) (R:RS),cO p R->R.left<n->R.left<m->io p n R=io p m R
 |0,_,R,_,h,_=>by omega
 |n+1,0,R,_,_,h=>jB
 |n+1,m+1,R,hI,h1,h2=>by
  unfold io;by_cases e:R.status=2
  ·rw[if_pos e,if_pos e]
  rw[if_neg e,if_neg e];have hg:=hI.go e;by_cases e1:R.aF.path.length=0
  ·rw[if_pos e1,if_pos e1];obtain⟨a,b,_⟩:=hI.bh hg (vZ (nth p.aa.av R.aF.fn.toNat).ret);exact th n m _ a jB jB
  rw[if_neg e1,if_neg e1];by_cases e2:R.aF.pl.at_<(ir p R.aF.pl.block).length
  ·rw[if_pos e2,if_pos e2]
  rw[if_neg e2,if_neg e2];obtain⟨a,b⟩:=hI.cut hg e1;exact th n m _ a jB jB
end Go.Proofs.YtghoellpinmenaaGreatDoor
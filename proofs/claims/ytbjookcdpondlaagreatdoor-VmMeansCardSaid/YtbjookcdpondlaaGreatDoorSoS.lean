/- Lemmas. No conditions. -/
import Derived.Test.YtbjookcdpondlaaGreatDoorCk8
set_option linter.all false
set_option maxHeartbeats 4000000
set_option maxRecDepth 10000
namespace Go.Gd
open Go
structure RS where
 aw:List aH
 nf:Nat
 jp:List (List bk)
 heap:List (List Int)
 in_:Int
 aC:List ByteArray
 status:Int
 bp:Int
 time:Int
namespace RS
def st(R:RS):aM:=⟨R.aw.take R.nf,R.heap,R.in_,R.aC,R.status,R.bp,R.time⟩
structure Ok(R:RS):Prop where
 nf:R.nf<=R.aw.length
 jp:R.jp.length=R.aw.length
def fr(R:RS)(k:Nat):SG:=[.raw (.int .i64 (nth R.aw k).fn),.rs (bJ 0 k) (nth R.aw k).slots.length 3 (nth R.aw k).slots.length,.rs (bJ 1 k) ((nth R.aw k).path.length+(nth R.jp k).length) 2 (nth R.aw k).path.length]
def sl(R:RS)(k:Nat):Row:=.aK 82 3 ((nth R.aw k).slots.map bM)
def pt(R:RS)(k:Nat):Row:=.aK 94 2 (((nth R.aw k).path++nth R.jp k).map iU)
def hp(R:RS)(k:Nat):Row:=.aK 3 1 ((nth R.heap k).map eI)
def c(R:RS):SG:=[.rs 1 R.aw.length 3 R.nf,.rs 2 R.heap.length 1 R.heap.length,.raw (.int .i64 R.in_),.rs 3 R.aC.length 1 R.aC.length,.raw (.int .i64 R.status),.raw (.int .i64 R.bp),.raw (.int .i64 R.time)]
def e(t:SL)(pre post:SG)(R:RS)(tl:SF):SF:=
 (0,.var t (pre++R.c++post))::(1,.aK 76 3 (eT R.aw.length R.fr))::(2,.aK 22 1 (eT R.heap.length fun k=>[.rs (bJ 2 k) (nth R.heap k).length 1 (nth R.heap k).length]))::(3,.aK 9 1 (R.aC.map eS)) ::
  bX 0 R.aw.length R.sl (bX 1 R.aw.length R.pt (bX 2 R.heap.length R.hp tl))
end RS
attribute [go_sem] RS.fr RS.sl RS.pt RS.hp RS.c RS.e
variable{t:SL}{R:RS}{tl:SF}{c0:SG}{n:Nat}{s:SR}
def RS.oM{pre post:SG}{tl':SF}{n1 n2 nh nh':Nat}{fr hr:Nat->SG}{o:SE}{p q:SR}
  (hc:c0=pre++R.c++post) (hn:n=R.aw.length) (hf:∀k,k<n->fr k=R.fr k) (hh:nh=R.heap.length) (Vj:∀k,k<nh->hr k=[.rs (bJ 2 k) (nth R.heap k).length 1 (nth R.heap k).length]) (ho:o=R.aC.map eS)
  (h1:n1=n) (h2:n2=n) (h3:nh'=nh) (hs:∀k,k<n->s k=R.sl k) (hp:∀k,k<n->p k=R.pt k) (hq:∀k,k<nh->q k=R.hp k) (ht:tl=tl') :
  (0,.var t c0)::(1,.aK 76 3 (eT n fr))::(2,.aK 22 1 (eT nh hr))::(3,.aK 9 1 o)::bX 0 n1 s (bX 1 n2 p (bX 2 nh' q tl))=R.e t pre post tl':=by
 subst hc ho h1 h2 h3 ht;unfold RS.e;rw[vM hn hf,vM hh Vj,zw hn hs (zw hn hp (zw hh hq rfl))]
def aY{α:Type}[Inhabited α](l:List α)(i k:Nat)(v:α)(h:i<l.length):nth (l.set i v) k=if k=i then v else nth l k:=by
 unfold nth;rw[List.getD_eq_getElem?_getD,List.getElem?_set,List.getD_eq_getElem?_getD];by_cases e:i=k
 ·subst e;simp[h]
 ·rw[if_neg e,if_neg (fun h=>e h.symm)]
variable{H:Hp}
def dM.qa{D:SP}{dd:SG}{i sz m:Nat}{e:SL}{α:Type}{enc:α->SG}[he:cc enc sz](l more:List α)(hD:D i=true)(hi:H.get i=some (.aK e sz ((l++more).map enc)))(hm:m=l.length+more.length)(hn:n=l.length):dM D H (.rs i m sz n) (.sl false sz (l.map enc) dd):=
 .wM dd i sz m n e _ _ hD hi jF jB jF (fun ds U5=>by obtain⟨x,_,rfl⟩:=List.mem_map.1 U5;exact he.len x) (jo l) fun k j c d hk h1 h2=>by
  have SW:k<l.length:=jB;have e1:((l++more).map enc).getD k []=enc l[k]:=by rw[List.map_append,List.getD_eq_getElem?_getD,List.getElem?_append_left (by simpa using SW)];simp[SW]
  have e2:(l.map enc).getD k []=enc l[k]:=by simp[SW]
  rw[e1]at h1;rw[e2,h1]at h2;cases h2;exact .same c (qB (fun _ h=>by cases h) _ (nb (he.free _) h1))
def RS.oB{pre post:SG}:aD (R.e t pre post tl) 0=some (.var t (pre++R.c++post)):=rfl
def RS.oF{pre post:SG}:aD (R.e t pre post tl) 1=some (.aK 76 3 (eT R.aw.length R.fr)):=rfl
def RS.nE{pre post:SG}:aD (R.e t pre post tl) 2=some (.aK 22 1 (eT R.heap.length fun k=>[.rs (bJ 2 k) (nth R.heap k).length 1 (nth R.heap k).length])):=rfl
def RS.oV{pre post:SG}:aD (R.e t pre post tl) 3=some (.aK 9 1 (R.aC.map eS)):=rfl
def RS.pJ{pre post:SG}(i:Nat)(h:1000<=i):aD (R.e t pre post tl) i=aD (bX 0 R.aw.length R.sl (bX 1 R.aw.length R.pt (bX 2 R.heap.length R.hp tl))) i:=by unfold RS.e;simp only[aD];rw[jN,jN,jN,jN]
variable{k:Nat}
def RS.mD{pre post:SG}(h:k<R.aw.length):aD (R.e t pre post tl) (bJ 0 k)=some (R.sl k):=by rw[RS.pJ _ (lK _ _),tY _ _ _ _ _ jB h]
def RS.uK{pre post:SG}(h:k<R.aw.length):aD (R.e t pre post tl) (bJ 1 k)=some (R.pt k):=by rw[RS.pJ _ (lK _ _),pj _ _ _ _ _ _ jB jB jB,tY _ _ _ _ _ jB h]
def RS.rl{pre post:SG}(h:k<R.heap.length):aD (R.e t pre post tl) (bJ 2 k)=some (R.hp k):=by rw[RS.pJ _ (lK _ _),pj _ _ _ _ _ _ jB jB jB,pj _ _ _ _ _ _ jB jB jB,tY _ _ _ _ _ jB h]
def wZ(n:Nat)(f:Nat->SG)(k:Nat)(h:k<n):(eT n f).getD k []=f k:=Nj n f k [] h
variable{B:SJ}
def RS.xI{D:SP}{pre post:SG}(h:R.Ok)(hD:∀i,D i=true):bK D ⟨B,R.e t pre post tl⟩ R.c (dD R.st):=by
 have TB:=h.nf;refine⟨?_,?_,.same _ rfl,?_,.same _ rfl,.same _ rfl,.same _ rfl,jI⟩
 ·refine .wM _ 1 3 _ _ 76 _ _ (hD _) RS.oF (by simp[go_sem]) TB (by show(List.map _ (R.aw.take R.nf)).length=_;simp;omega) (fun ds U5=>?_) (jo (enc:=kS) (sz:=3) _) fun k j c d hk h1 h2=>?_
  ·obtain⟨x,_,rfl⟩:=List.mem_map.1 U5;rfl
  ·rw[wZ _ _ _ jB]at h1;have SW:k<(R.aw.take R.nf).length:=by simp;omega
   have e2:(List.map kS (R.aw.take R.nf)).getD k []=kS (nth R.aw k):=by rw[ye _ _ _ SW,dV SW,dV jB];simp
   have h2:((List.map kS (R.aw.take R.nf)).getD k [])[j]?=some d:=h2;rw[e2]at h2;unfold RS.fr at h1;match j with
   |0=>cases h1;cases h2;exact .same _ rfl
   |1=>cases h1;cases h2;exact .row _ (hD _) (RS.mD jB) rfl
   |2=>cases h1;cases h2;exact .qa _ _ (hD _) (RS.uK jB) rfl rfl
   |j+3=>simp at h1
 ·refine .rs _ 2 1 _ 22 _ _ (hD _) RS.nE (by simp[go_sem]) (by simp[go_sem];rfl) (fun ds U5=>?_) (jo (enc:=kg) (sz:=1) _) fun k j c d hk h1 h2=>?_
  ·obtain⟨x,_,rfl⟩:=List.mem_map.1 U5;rfl
  ·have hk:k<R.heap.length:=by simpa[go_sem]using hk
   rw[wZ _ _ _ hk]at h1;have h2:((List.map kg R.heap).getD k [])[j]?=some d:=h2;rw[ye _ _ _ hk]at h2;match j with
   |0=>cases h1;cases h2;exact .row _ (hD _) (RS.rl hk) rfl
   |j+1=>simp at h1
 ·exact .row _ (hD _) RS.oV rfl
theorem Fl(a:Nat)(f:SR)(l m:SF):∀(n k:Nat),gl a f k n (l++m)=gl a f k n l++m
 |0,k=>rfl
 |n+1,k=>by unfold gl;rw[Fl a f l m n (k+1)];rfl
def sf(a n:Nat)(f:SR)(l m:SF):bX a n f (l++m)=bX a n f l++m:=Fl a f l m n 0
theorem oR:∀(l m:SF) (i:Nat),aD (l++m) i=(aD l i).or (aD m i)
 |[],m,i=>by simp[aD]
 |(j,r)::l,m,i=>by
  show(if i=j then some r else aD (l++m) i)=((if i=j then some r else aD l i):Option Row).or _;split
  ·rfl
  ·exact oR l m i
def RS.hJ{pre post:SG}(tl:SF):R.e t pre post tl=R.e t pre post []++tl:=by unfold RS.e;rw[show tl=[]++tl from rfl,sf,sf,sf];rfl
def RS.no{pre post:SG}(i:Nat)(h:4<=i)(h':i<1000):aD (R.e t pre post []) i=none:=by unfold RS.e;simp only[aD];rw[jN,jN,jN,jN,si _ _ _ _ _ h',si _ _ _ _ _ h',si _ _ _ _ _ h'];rfl
def low(tl:SF):Prop:=∀i r,aD tl i=some r->4<=i/\i<1000
def RS.bz{pre post:SG}(h:low tl):Lays (fun tl=>R.e t pre post tl) tl:=⟨fun i=>by rw[RS.hJ,oR],fun i r hi=>RS.no i (h i r hi).1 (h i r hi).2⟩
variable{pre' post':SG}{R':RS}
def RS.size{pre post:SG}(h1:R.aw.length<=R'.aw.length)(h2:R.heap.length<=R'.heap.length)(i:Nat)(h:aD (R.e t pre post []) i≠none):aD (R'.e t pre' post' []) i≠none:=by
 by_cases h0:i=0
 ·subst h0;rw[RS.oB];simp
 by_cases WM:i=1
 ·subst WM;rw[RS.oF];simp
 by_cases XE:i=2
 ·subst XE;rw[RS.nE];simp
 by_cases h3':i=3
 ·subst h3';rw[RS.oV];simp
 by_cases h4:i<1000
 ·exact(h (RS.no i jB h4)).elim
 rw[RS.pJ i jB]at h ⊢;rcases vy 0 R.aw.length jB R.sl (bX 1 R.aw.length R.pt (bX 2 R.heap.length R.hp [])) i with⟨k,hk,rfl,e⟩|⟨_,e⟩
 ·rw[tY _ _ _ _ _ jB jB];simp
 rw[e]at h;rcases vy 1 R.aw.length jB R.pt (bX 2 R.heap.length R.hp []) i with⟨k,hk,rfl,e⟩|⟨_,e⟩
 ·rw[pj _ _ _ _ _ _ jB jB jB,tY _ _ _ _ _ jB jB];simp
 rw[e]at h;rcases vy 2 R.heap.length jB R.hp [] i with⟨k,hk,rfl,e⟩|⟨_,e⟩
 ·rw[pj _ _ _ _ _ _ jB jB jB,pj _ _ _ _ _ _ jB jB jB,tY _ _ _ _ _ jB jB];simp
 rw[e]at h;exact(h rfl).elim
theorem kz:∀(l:SF) (i:Nat),i∈ids l<->aD l i≠none
 |[],i=>by simp[ids,aD]
 |(j,r)::l,i=>by
  have:=kz l i;simp only[ids,List.map_cons,List.mem_cons,aD]at this ⊢;by_cases e:i=j
  ·simp[e]
  ·rw[if_neg e];simp only[e,false_or];exact this
variable{l:SF}
def gq{i:Nat}{r:Row}(h:aD l i=some r):(ids l).contains i=true:=List.contains_iff_mem.2 ((kz l i).2 (by rw[h];simp))
theorem FV(a:Nat)(f:SR)(l:SF):∀(n k:Nat),ids (gl a f k n l)=(List.range' k n).map (bJ a)++ids l
 |0,k=>rfl
 |n+1,k=>by unfold gl;rw[List.range'_succ];show bJ a k::ids (gl a f (k+1) n l)=_;rw[FV a f l n (k+1)];rfl
def Dk{a:Nat}{f:SR}(ha:a<8)(h:(ids l).Nodup)(hl:∀k,k<n->aD l (bJ a k)=Option.none):(ids (bX a n f l)).Nodup:=by
 unfold bX;rw[FV,List.nodup_append];refine⟨?_,h,fun x hx y hy e=>?_⟩
 ·refine List.Pairwise.map _ (fun x y YT e=>?_) (List.nodup_range' (step:=1) (s:=0) (n:=n) jB);exact YT (sk ha ha e).2
 ·obtain⟨k,hk,rfl⟩:=List.mem_map.1 hx;subst e;exact(kz _ _).1 hy (hl k (by simp at hk;omega))
theorem nodup_cons{l:SF}{i:Nat}{r:Row}(h:(ids l).Nodup)(hl:aD l i=Option.none):(ids ((i,r)::l)).Nodup:=List.nodup_cons.2 ⟨fun hm=>(kz _ _).1 hm hl,h⟩
def RS.nodup{pre post:SG}:(ids (R.e t pre post [])).Nodup:=by
 have f2:∀i,i<1000->aD (bX 0 R.aw.length R.sl (bX 1 R.aw.length R.pt (bX 2 R.heap.length R.hp []))) i=Option.none:=fun i h=>by rw[si _ _ _ _ _ h,si _ _ _ _ _ h,si _ _ _ _ _ h];rfl
 unfold RS.e;refine nodup_cons (nodup_cons (nodup_cons (nodup_cons (Dk jB (Dk jB (Dk jB List.nodup_nil (fun k _=>rfl)) fun k _=>?_) fun k _=>?_) ?_) ?_) ?_) ?_
 ·rw[pj _ _ _ _ _ _ jB jB jB];rfl
 ·rw[pj _ _ _ _ _ _ jB jB jB,pj _ _ _ _ _ _ jB jB jB];rfl
 ·exact f2 3 jB
 ·show(if(2:Nat)=3 then _ else _)=_;rw[jN];exact f2 2 jB
 ·show(if(1:Nat)=2 then _ else if(1:Nat)=3 then _ else _)=_;rw[jN,jN];exact f2 1 jB
 ·show(if(0:Nat)=1 then _ else if(0:Nat)=2 then _ else if(0:Nat)=3 then _ else _)=_;rw[jN,jN,jN];exact f2 0 jB
theorem um(q:SP):∀(l m:SG),ba q (l++m)=(ba q l && ba q m)
 |[],m=>by simp[ba]
 |a::l,m=>by simp only[List.cons_append,ba,um q l m,Bool.and_assoc]
def pq{q:SP}{l:SE}(h:QL q l):ba q l.flatten=true:=by
 induction l with
 |nil=>rfl
 |cons x l ih=>rw[List.flatten_cons,um,h x jE,ih fun y hy=>h y (by simp[hy])];rfl
def RS.closed{pre post:SG}(h1:ba cZ pre=true)(h2:ba cZ post=true):∀i r,aD (R.e t pre post []) i=some r->ba (fun i=>(ids (R.e t pre post [])).contains i) r.cells=true:=fun i r h=>by
 have up:∀{l},ba cZ l=true->ba (fun i=>(ids (R.e t pre post [])).contains i) l=true:=fun h=>fM (fun _ h=>by cases h) _ h
 have c1:=gq (RS.oF (t:=t) (pre:=pre) (post:=post) (R:=R) (tl:=[]));have c2:=gq (RS.nE (t:=t) (pre:=pre) (post:=post) (R:=R) (tl:=[]));have c3:=gq (RS.oV (t:=t) (pre:=pre) (post:=post) (R:=R) (tl:=[]));by_cases h0:i=0
 ·subst h0;rw[RS.oB]at h;cases h;show ba _ (pre++R.c++post)=true;rw[um,um,up h1,up h2];simp only[RS.c,ba,AV.all,c1,c2,c3,Bool.and_self]
 by_cases WM:i=1
 ·subst WM;rw[RS.oF]at h;cases h;exact pq (yj fun k hk=>by have a:=gq (RS.mD (t:=t) (pre:=pre) (post:=post) (R:=R) (tl:=[]) hk);have b:=gq (RS.uK (t:=t) (pre:=pre) (post:=post) (R:=R) (tl:=[]) hk);simp only[RS.fr,ba,AV.all,a,b,Bool.and_self])
 by_cases XE:i=2
 ·subst XE;rw[RS.nE]at h;cases h;exact pq (yj fun k hk=>by have a:=gq (RS.rl (t:=t) (pre:=pre) (post:=post) (R:=R) (tl:=[]) hk);simp only[ba,AV.all,a,Bool.and_self])
 by_cases h3':i=3
 ·subst h3';rw[RS.oV]at h;cases h;exact up (pq (jo (enc:=eS) (sz:=1) _))
 by_cases h4:i<1000
 ·rw[RS.no i jB h4]at h;cases h
 rw[RS.pJ i jB]at h;rcases vy 0 R.aw.length jB R.sl (bX 1 R.aw.length R.pt (bX 2 R.heap.length R.hp [])) i with⟨k,hk,rfl,e⟩|⟨_,e⟩
 ·rw[e]at h;cases h;exact up (pq (jo (enc:=bM) (sz:=3) _))
 rw[e]at h;rcases vy 1 R.aw.length jB R.pt (bX 2 R.heap.length R.hp []) i with⟨k,hk,rfl,e⟩|⟨_,e⟩
 ·rw[e]at h;cases h;exact up (pq (jo (enc:=iU) (sz:=2) _))
 rw[e]at h;rcases vy 2 R.heap.length jB R.hp [] i with⟨k,hk,rfl,e⟩|⟨_,e⟩
 ·rw[e]at h;cases h;exact up (pq (jo (enc:=eI) (sz:=1) _))
 rw[e]at h;cases h
variable{P:SQ}{K:SD}{r0:AV}
def cE{f:FuncId}{args:SG}{pre post:SG}(hc:ai P f args (R.e t pre post []) fun r l'=>r=r0/\l'=R'.e t pre' post' [])(hH:H=⟨B,R.e t pre post tl⟩)
  (h1:R.aw.length<=R'.aw.length) (h2:R.heap.length<=R'.heap.length) (hp:ba cZ pre=true) (hq:ba cZ post=true) (hl:low tl) (ha:ba (fun i=>decide (i=0)) args=true) (h0:bn P f=true) (k:K r0 ⟨B,R'.e t pre' post' tl⟩):fz P (.raw (.func (.func f) #[] #[])) args H K:=by
 subst hH;refine mZ h0 (zI (E:=fun tl=>R.e t pre post tl) (E':=fun tl=>R'.e t pre' post' tl) hc (RS.bz hl) (RS.bz hl) RS.nodup (fM (fun i hi=>?_) _ ha) (RS.closed hp hq) k (RS.size h1 h2));have:i=0:=of_decide_eq_true hi;subst this;exact gq RS.oB
theorem wl(D:SP):∀(l m:SF),eP D (l++m)=eP D l++eP D m
 |[],m=>rfl
 |(j,r)::l,m=>by show(bif D j then eP D (l++m)else(j,r)::eP D (l++m))=(bif D j then eP D l else(j,r)::eP D l)++_;rw[wl D l m];cases D j<;>rfl
theorem vW(D:SP):∀(l:SF),(∀i∈ids l,D i=false)->eP D l=l
 |[],_=>rfl
 |(j,r)::l,h=>by show(bif D j then eP D l else(j,r)::eP D l)=_;rw[h j (by simp[ids]),vW D l fun i hi=>h i (by simp[ids]at hi ⊢;exact .inr hi)];rfl
theorem yF(D:SP):∀(l:SF),(∀i∈ids l,D i=true)->eP D l=[]
 |[],_=>rfl
 |(j,r)::l,h=>by show(bif D j then eP D l else(j,r)::eP D l)=_;rw[h j (by simp[ids]),yF D l fun i hi=>h i (by simp[ids]at hi ⊢;exact .inr hi)];rfl
theorem vS(D:SP):∀(l m:SF),gp D l->gp D m->gp D (l++m)
 |[],m,_,h=>h
 |(j,r)::l,m,h,k=>⟨h.1,vS D l m h.2 k⟩
theorem yu(D:SP):∀(l:SF),(∀i∈ids l,D i=true)->gp D l
 |[],_=>trivial
 |(j,r)::l,h=>⟨.inl (h j (by simp[ids])),yu D l fun i hi=>h i (by simp[ids]at hi ⊢;exact .inr hi)⟩
theorem B4{q:SP}:∀{l:SE},ba q l.flatten=true->QL q l
 |[],_,x,hx=>by simp at hx
 |a::l,h,x,hx=>by
  rw[List.flatten_cons,Cc,Bool.and_eq_true]at h;rcases List.mem_cons.1 hx with rfl|hx
  ·exact h.1
  ·exact B4 h.2 x hx
def QD{q:SP}:∀{r:Row},ba q r.cells=true->qE q r
 |.var _ _,h=>h
 |.aK _ _ _,h=>B4 h
 |.mp _ _,h=>h
theorem vo(D:SP):∀(l:SF),(ids l).Nodup->(∀i r,aD l i=some r->ba (fu D) r.cells=true)->gp D l
 |[],_,_=>trivial
 |(j,r)::l,hn,h=>by
  have hn':=List.nodup_cons.1 hn;refine⟨.inr (QD (h j r (by simp[aD]))),vo D l hn'.2 fun i r' hi=>h i r' ?_⟩;have:i≠j:=fun e=>by subst e;exact hn'.1 ((kz l i).2 (by rw[hi];simp))
  simp only[aD,if_neg this];exact hi
def fe:SP:=fun i=>decide (4<=i/\i<1000)
theorem RS.fe{t:SL}{pre post:SG}{R:RS}{i:Nat}(h:i∈ids (R.e t pre post [])):fe i=false:=by
 unfold Go.Gd.fe;refine decide_eq_false fun h'=>?_
 exact(kz _ _).1 h (RS.no i h'.1 h'.2)
def RS.free{t':SL}{pre post:SG}(hB:ids (R.e t pre post [])=B)(hl:low tl)(hp:ba cZ pre'=true)(hq:ba cZ post'=true) :
  B.all (fu Go.Gd.fe)=true/\gp Go.Gd.fe (R'.e t' pre' post' tl)/\eP Go.Gd.fe (R'.e t' pre' post' tl)=R'.e t' pre' post' []:=by
 have V8:∀i∈ids tl,Go.Gd.fe i=true:=fun i hi=>by obtain⟨r,hr⟩:=Option.ne_none_iff_exists'.1 ((kz _ _).1 hi);exact decide_eq_true (hl i r hr)
 refine⟨?_,?_,?_⟩
 ·rw[List.all_eq_true];intro i hi;rw[<-hB]at hi;unfold fu;rw[RS.fe hi];rfl
 ·rw[RS.hJ];refine vS _ _ _ (vo _ _ RS.nodup fun i r hi=>fM (fun j hj=>?_) _ (RS.closed hp hq i r hi)) (yu _ _ V8);unfold fu;rw[RS.fe (List.contains_iff_mem.1 hj)];rfl
 ·rw[RS.hJ,wl,vW _ _ (fun i hi=>RS.fe hi),yF _ _ V8,List.append_nil]
def gA{fn:Func}{F:SG}{out:SG}{e:Exit}{t':SL}{pre post:SG}(hH:H=⟨B,R'.e t' pre' post' tl⟩)(hB:ids (R.e t pre post [])=B)(rs:List ResultVar)(hl:low tl)(hp:ba cZ pre'=true)(hq:ba cZ post'=true)(hr:r0.all cZ=true)
  (UI:fn.results.toList=rs:=by rfl) (he:e=.normal\/e=.ret:=by first|exact Or.inr rfl|exact Or.inl rfl|fail) (ho:iC P H F rs=some out:=by first|rfl|(simp(disch:=first|omega|fail) only[go_sem,↓reduceIte,Nat.reduceEqDiff,Nat.reduceLeDiff,Nat.reduceSub,Nat.reduceAdd];rfl)) (hok:jb P H F rs:=by first|exact jI|(simp(disch:=first|omega|fail) only[go_sem,↓reduceIte,Nat.reduceEqDiff,Nat.reduceLeDiff,Nat.reduceSub,Nat.reduceAdd])) (hv:iG out=r0:=by first|rfl|(simp only[go_sem];done)):ju P fn (fun r l=>r=r0/\l=R'.e t' pre' post' []) e F H:=by
 subst UI hH;obtain⟨h1,h2,h3⟩:=RS.free (R':=R') (t':=t') (pre':=pre') (post':=post') hB hl hp hq;exact yy Go.Gd.fe he ho hok h1 h2 (tE hv (qB (fun _ h=>by cases h) _ (hv ▸ hr))) h3
def RS.aS(R:RS)(k:Nat)(f:aH):RS:={ R with aw:=R.aw.set k f }
theorem RS.aY{R:RS}{k:Nat}(h:k<R.aw.length)(f:aH)(j:Nat):nth (R.aS k f).aw j=if j=k then f else nth R.aw j:=Go.Gd.aY _ _ _ _ h
def RS.qg{f:aH}:(R.aS k f).c=R.c:=by simp[RS.c,RS.aS]
def RS.aO{f:aH}:R.aw.length=(R.aS k f).aw.length:=by simp[RS.aS]
def RS.nO{pre post:SG}(hk:k<R.aw.length){l:List ak}(hl:l.length=(nth R.aw k).slots.length)(hc:c0=pre++R.c++post)(h1:∀j,s j=if j=k then .aK 82 3 (l.map bM)else R.sl j) :
  (0,.var t c0)::(1,.aK 76 3 (eT R.aw.length R.fr))::(2,.aK 22 1 (eT R.heap.length fun k=>[.rs (bJ 2 k) (nth R.heap k).length 1 (nth R.heap k).length]))::(3,.aK 9 1 (R.aC.map eS)) ::
   bX 0 R.aw.length s (bX 1 R.aw.length R.pt (bX 2 R.heap.length R.hp tl))=(R.aS k { nth R.aw k with slots:=l }).e t pre post tl:=by
 have hu:=RS.aY hk { nth R.aw k with slots:=l };refine RS.oM (by rw[hc,RS.qg]) RS.aO (fun j hj=>?_) rfl (fun _ _=>rfl) rfl rfl rfl rfl (fun j hj=>?_) (fun j hj=>?_) (fun _ _=>rfl) rfl
 ·simp only[RS.fr,hu];split
  ·rename_i e;subst e;simp[hl,RS.aS]
  ·rfl
 ·rw[h1];simp only[RS.sl,hu];split<;>rfl
 ·simp only[RS.pt,hu];split
  ·rename_i e;subst e;rfl
  ·rfl
def RS.uM{pre post:SG}(hk:k<R.aw.length){l:List bk}(hl:l.length=(nth R.aw k).path.length)(hc:c0=pre++R.c++post)(h1:∀j,s j=if j=k then .aK 94 2 ((l++nth R.jp k).map iU)else R.pt j) :
  (0,.var t c0)::(1,.aK 76 3 (eT R.aw.length R.fr))::(2,.aK 22 1 (eT R.heap.length fun k=>[.rs (bJ 2 k) (nth R.heap k).length 1 (nth R.heap k).length]))::(3,.aK 9 1 (R.aC.map eS)) ::
   bX 0 R.aw.length R.sl (bX 1 R.aw.length s (bX 2 R.heap.length R.hp tl))=(R.aS k { nth R.aw k with path:=l }).e t pre post tl:=by
 have hu:=RS.aY hk { nth R.aw k with path:=l };refine RS.oM (by rw[hc,RS.qg]) RS.aO (fun j hj=>?_) rfl (fun _ _=>rfl) rfl rfl rfl rfl (fun j hj=>?_) (fun j hj=>?_) (fun _ _=>rfl) rfl
 ·simp only[RS.fr,hu];split
  ·rename_i e;subst e;simp[hl,RS.aS]
  ·rfl
 ·simp only[RS.sl,hu];split
  ·rename_i e;subst e;rfl
  ·rfl
 ·rw[h1];simp only[RS.pt,hu];split
  ·rename_i e;subst e;rfl
  ·rfl
def dz(p:ab)(b:Int):SI:=(nth p.aa.nodes b.toNat).l
def aM.aj(s:aM):aH:=nth s.ap (s.ap.length-1)
def aH.pl(f:aH):bk:=nth f.path (f.path.length-1)
def bB(p:ab)(s:aM):Int:=nth (dz p s.aj.pl.block) s.aj.pl.at_.toNat
def fN(f:aH):aH:={ f with path:=f.path.set (f.path.length-1) ⟨(nth f.path (f.path.length-1)).block,(nth f.path (f.path.length-1)).at_+1⟩ }
def RS.on(R:RS):RS:=R.aS (R.nf-1) (fN (nth R.aw (R.nf-1)))
structure lO(R:RS):Prop where
 ok:R.Ok
 nf:1<=R.nf
 aw:R.aw.length<=1000
 pa:1<=(nth R.aw (R.nf-1)).path.length
 pc:(nth R.aw (R.nf-1)).path.length<=1000
 a0:0<=(nth R.aw (R.nf-1)).pl.at_
 a1:(nth R.aw (R.nf-1)).pl.at_<=1000000
theorem lO.aS{R:RS}(h:lO R){f:aH}(e:f.path=(nth R.aw (R.nf-1)).path):lO (R.aS (R.nf-1) f):=by
 have hu:nth (R.aS (R.nf-1) f).aw ((R.aS (R.nf-1) f).nf-1)=f:=by have h1:=h.nf;have h2:=h.ok.nf;show nth (R.aS (R.nf-1) f).aw (R.nf-1)=f;rw[RS.aY jB,if_pos rfl]
 have hl:(R.aS (R.nf-1) f).aw.length=R.aw.length:=RS.aO.symm;refine⟨⟨by rw[hl];exact h.ok.nf,by rw[hl];exact h.ok.jp⟩,h.nf,by rw[hl];exact h.aw,by rw[hu,e];exact h.pa,by rw[hu,e];exact h.pc,?_,?_⟩
 ·rw[hu];unfold aH.pl;rw[e];exact h.a0
 ·rw[hu];unfold aH.pl;rw[e];exact h.a1
variable{args':SG}
def Ap{f:FuncId}{args:SG}{R:AV->Prop}(hc:aP P f args' r0)(hv:bK (fun _=>true) H args args')(hr:r0.flat=true)(h0:bn P f=true)(k:R r0) :
  ∃r,(fz P (.raw (.func (.func f) #[] #[])) args H fun r' H'=>r'=r/\H'=H)/\R r:=⟨r0,mZ h0 (F5 hc hv hr ⟨rfl,rfl⟩),k⟩
def cL{f:FuncId}{args:SG}(hc:aP P f args' r0)(hv:bK (fun _=>true) H args args')(hr:r0.flat=true)(h0:bn P f=true)(k:K r0 H) :
  fz P (.raw (.func (.func f) #[] #[])) args H K:=mZ h0 (F5 hc hv hr k)
def jr(p:ab)(node:Int):Prop:=(nth p.aa.nodes node.toNat).kind=10\/(nth p.aa.nodes node.toNat).kind=11
instance (p:ab)(node:Int):Decidable (jr p node):=by unfold jr;infer_instance
structure pT(p:ab)(s:aM):Prop where
 fr:1<=s.ap.length
 aw:s.ap.length<=1000
 pa:1<=s.aj.path.length
 pc:s.aj.path.length<=1000
 b0:0<=s.aj.pl.block
 b1:s.aj.pl.block<p.aa.nodes.length
 a0:0<=s.aj.pl.at_
 a1:s.aj.pl.at_<(dz p s.aj.pl.block).length
 Bn:s.aj.pl.at_<=1000000
 n0:0<=bB p s
 n1:bB p s<p.aa.nodes.length
 sl:p.slots.length=p.aa.nodes.length
 s0:jr p (bB p s)->0<=nth p.slots (bB p s).toNat/\nth p.slots (bB p s).toNat<s.aj.slots.length
def RS.pop(R:RS):RS:={ R with nf:=R.nf-1 }
def RS.dK(R:RS)(p:ab)(node:Int)(v:ak):RS:=R.aS (R.nf-1) { nth R.aw (R.nf-1)with slots:=(nth R.aw (R.nf-1)).slots.set (nth p.slots node.toNat).toNat v }
def RS.bq(R:RS)(p:ab)(v:ak):RS:=
 if R.nf<=1 then{ R.pop with status:=2 }
 else if jr p (bB p R.pop.st)then(R.pop.dK p (bB p R.pop.st) v).on else R.pop.on
theorem RS.aj{R:RS}(h:R.Ok)(h1:1<=R.nf):R.st.aj=nth R.aw (R.nf-1):=by
 have:=h.nf;unfold RS.st aM.aj;simp only;have hl:(R.aw.take R.nf).length=R.nf:=by simp;omega
 rw[hl,dV jB,dV jB];simp
def RS.ah(R:RS):aH:=nth R.aw (R.nf-1)
def RS.cut(R:RS):RS:={ R with aw:=R.aw.set (R.nf-1) { R.ah with path:=R.ah.path.take (R.ah.path.length-1) },jp:=R.jp.set (R.nf-1) (R.ah.pl::nth R.jp (R.nf-1)) }
def pE(f:Nat->Nat):Nat->Nat
 |0=>0
 |n+1=>pE f n+f n
theorem AJ{f g:Nat->Nat}:∀{n:Nat},(∀k,k<n->f k=g k)->pE f n=pE g n
 |0,_=>rfl
 |n+1,h=>by unfold pE;rw[AJ (n:=n) fun k hk=>h k jB,h n jB]
def RS.left(R:RS):Nat:=pE (fun k=>(nth R.aw k).path.length+1) R.nf
def js(p:ab):Nat->RS->RS
 |0,R=>R
 |n+1,R=>
  if R.status=2 then R
  else if R.ah.path.length=0 then js p n (R.bq p (vZ (nth p.aa.aq R.ah.fn.toNat).ret))
  else if R.ah.pl.at_<(dz p R.ah.pl.block).length then R
  else js p n R.cut
def RS.settle(R:RS)(p:ab):RS:=js p (R.left+1) R
def RS.of(s:aM):RS:=⟨s.ap,s.ap.length,s.ap.map fun _=>[],s.heap,s.in_,s.aC,s.status,s.bp,s.time⟩
def RS.push(R:RS)(f:aH):RS:={ R with aw:=R.aw++[f],nf:=R.nf+1,jp:=R.jp++[[]] }
def RS.store(R:RS)(p:ab)(node:Int)(v:ak):RS:=(R.dK p node v).on
def RS.aX(R:RS)(block:Int):RS:=R.aS (R.nf-1) { R.ah with path:=R.ah.path++[⟨block,0⟩] }
def gg(p:ab)(fn:Int)(args:List ak):aH:=⟨fn,args++List.replicate ((nth p.size fn.toNat)-args.length).toNat v0,[⟨(nth p.aa.aq fn.toNat).body,0⟩]⟩
def C3:aM:=⟨[],[],0,[],0,0,0⟩
def kD(p:ab):Int:=gx bg.name (⟨#[109,97,105,110]⟩:SK) p.aa.aq 0
def oe(p:ab):aM:=((RS.of { C3 with ap:=[gg p (kD p) []] }).settle p).st
def dG(p:ab)(s:aM):Int:=if s.status=2\/s.status=3 then -1 else bB p s
def iR(n:Int)(l:SI):Int:=n+l.length
def fF(h:SH):Int:=h.foldl iR (h.length:Int)
def RS.val(R:RS)(p:ab)(node:Int):ak×Int:=de p R.ah.slots R.heap p.aa.nodes.length node
def RS.args(R:RS)(p:ab):SI->List ak->List ak×Int
 |[],a=>(a,0)
 |x::l,a=>if(R.val p x).2≠0 then(a,(R.val p x).2)else R.args p l (a++[(R.val p x).1])
def ao(p:ab)(a:Int):bu:=nth p.aa.nodes a.toNat
def RS.call(R:RS)(p:ab)(node:Int):RS×Int:=
 let a:=R.args p (ao p node).l []
 if a.2≠0 then(R,a.2)
 else if 8<=R.nf then(R,3)
 else(R.push (gg p (gx bg.name (ao p node).name p.aa.aq 0) a.1),0)
def RS.fresh(R:RS)(p:ab)(node:Int):RS×ak×Int:=
 let v:=R.val p (nth (ao p node).l 0)
 if v.2≠0 then(R,v0,v.2)
 else if v.1.n<0\/16<v.1.n then(R,v0,7)
 else if 40<fF R.heap+v.1.n+1 then(R,v0,4)
 else({ R with heap:=R.heap++[List.replicate v.1.n.toNat 0] },⟨4,R.heap.length+1,sE⟩,0)
def RS.right(R:RS)(p:ab)(node:Int)(inp:SI):RS×Int:=
 let x:=nth (ao p node).l 0
 let k:=(ao p x).kind
 if k=21 then R.call p x
 else if k=19 then(({ R with in_:=R.in_+1 }:RS).store p node (vI (nth inp R.in_.toNat)),0)
 else if k=20 then
  let r:=R.fresh p x
  if r.2.2=0 then(r.1.store p node r.2.1,0)else(r.1,r.2.2)
 else
  let v:=R.val p x
  if v.2=0 then(R.store p node v.1,0)else(R,v.2)
def RS.put(R:RS)(p:ab)(node:Int):RS×Int:=
 let x:=R.val p (nth (ao p node).l 0)
 let y:=R.val p (nth (ao p node).l 1)
 let v:=di R.ah.slots (nth p.slots node.toNat) 4
 if x.2≠0 then(R,x.2)
 else if y.2≠0 then(R,y.2)
 else if x.1.n<0\/((gU R.heap v).length:Int)<=x.1.n then(R,2)
 else(({ R with heap:=R.heap.set (v.n-1).toNat ((nth R.heap (v.n-1).toNat).set x.1.n.toNat y.1.n) }:RS).on,0)
def Bx(n:Int):SK:=⟨(Lib.itoa n).toArray⟩
def iN(v:ak):SK:=
 if v.ty=1 then Bx v.n
 else if v.ty=2 then(if v.n=1 then(⟨#[116,114,117,101]⟩:SK)else(⟨#[102,97,108,115,101]⟩:SK))
 else if v.ty=3 then v.s
 else if v.ty=4 then(⟨#[108,105,115,116]⟩:SK)
 else sE
def RS.bO(R:RS)(p:ab)(node:Int)(inp:SI):RS×Int:=
 let n:=ao p node
 let v:=R.val p (nth n.l 0)
 if n.kind=10\/n.kind=11 then R.right p node inp
 else if n.kind=13 then R.call p (nth n.l 0)
 else if n.kind=12 then R.put p node
 else if n.kind=17 then
  (if n.l.length=0 then(R.bq p v0,0)
  else if v.2≠0 then(R,v.2)else(R.bq p v.1,0))
 else if v.2≠0 then(R,v.2)
 else if n.kind=14 then
  (if 24<=R.aC.length then(R,5)else(({ R with aC:=R.aC++[iN v.1] }:RS).on,0))
 else if n.kind=15 then
  (if v.1.n=1 then(R.on.aX (nth n.l 1),0)
  else if n.l.length=3 then(R.on.aX (nth n.l 2),0)else(R.on,0))
 else if n.kind=16 then
  (if v.1.n=1 then(R.aX (nth n.l 1),0)else(R.on,0))
 else(R,0)
def kn(p:ab)(s:aM)(node:Int)(inp:SI):Prop:=jr p node/\(ao p (nth (ao p node).l 0)).kind=19/\(inp.length:Int)<=s.in_
instance (p:ab)(s:aM)(node:Int)(inp:List Int):Decidable (kn p s node inp):=by unfold kn;infer_instance
def gN(p:ab)(s:aM)(inp:SI):aM:=
 if dG p s<0 then s
 else if kn p s (dG p s) inp then{ s with status:=1 }
 else
  let r:=(RS.of { s with status:=0 }).bO p (dG p s) inp
  if r.2≠0 then{ s with status:=3,bp:=r.2,time:=s.time+1 }
  else(({ r.1 with time:=s.time+1 }:RS).settle p).st
def mU(p:ab)(inp:SI):Nat->aM
 |0=>oe p
 |n+1=>gN p (mU p inp n) inp
end Go.Gd
namespace Go.Proofs.YtbjookcdpondlaaGreatDoor
open Go Go.Gd Tryz
def gB(t:aF)(a:Int):Prop:=0<=a/\a<t.nodes.length
def zg(c:Ck):Prop:=c.e=0\/c.e=44\/gB c.aa c.at_
def Kp(t:aF)(c c':Ck):Prop:=c.aa=t->c'.aa=t/\(zg c->zg c')
def Kp.refl(t:aF)(c:Ck):Kp t c c:=fun h=>⟨h,id⟩
variable{t:aF}{b:Ck}
def Kp.trans{a c:Ck}(h:Kp t a b)(k:Kp t b c):Kp t a c:=fun e=>⟨(k (h e).1).1,fun x=>(k (h e).1).2 ((h e).2 x)⟩
variable{c':Ck}
def qj{c:Ck}(h1:c'.aa=c.aa)(h2:c'.e=c.e)(h3:c'.at_=c.at_):Kp t c c':=fun e=>⟨h1.trans e,fun h=>by unfold zg at*;rw[h1,h2,h3];exact h⟩
variable{a:Int}
def rK(c:Ck)(e:Int)(ha:gB t a):Kp t c (c.aG e a):=fun ht=>by
 unfold Ck.aG;split
 ·refine⟨ht,fun _=>.inr (.inr ?_)⟩;show gB c.aa a;rw[ht];exact ha
 ·exact⟨ht,id⟩
def qX(c:Ck)(b:Bool)(ha:gB t a):Kp t c (c.ar b a):=by
 unfold Ck.ar;split
 ·exact .refl t c
 ·exact rK c 42 ha
def yS(c:Ck)(ha:gB t a):Kp t c (c.named a).1:=by
 unfold Ck.named;split
 ·exact rK c 40 ha
 ·exact qj rfl rfl rfl
variable{α:Type}{i:Nat}
def Ht[Inhabited α]{l:List α}(h:l.length<=i):nth l i=default:=by simp[nth,List.getD_eq_getElem?_getD,List.getElem?_eq_none h]
def vl(h:aL t){c:Ck}(hc:c.aa=t)(ha:gB t a)(i:Nat):gB t (c.aE a i):=by
 obtain⟨h0,h1⟩:=ha;unfold Ck.aE Ck.node;rw[hc];by_cases hi:i<(nth t.nodes a.toNat).l.length
 ·have:=(h.shape a.toNat jB).2.1 _ (er hi);unfold gB;omega
 ·have:nth (nth t.nodes a.toNat).l i=0:=Ht (Nat.le_of_not_lt hi);rw[this];unfold gB;omega
def zn(h:aL t){c:Ck}(hc:c.aa=t)(ha:gB t a):∀x∈(c.node a).l,gB t x:=fun x hx=>by obtain⟨h0,h1⟩:=ha;unfold Ck.node at hx;rw[hc]at hx;have:=(h.shape a.toNat jB).2.1 _ hx;unfold gB;omega
theorem Dz{t:aF}{ex:Ck->Int->Ck×Int}(hex:∀c a,gB t a->Kp t c (ex c a).1):∀(l:SI) (c:Ck) (ts:SI),(∀x∈l,gB t x)->Kp t c (fV ex c l ts).1
 |[],c,ts,_=>by unfold fV;exact .refl t c
 |a::l,c,ts,hl=>by
  unfold fV;split
  ·exact(hex c a (hl a jE)).trans (Dz hex l _ _ fun x hx=>hl x (by simp[hx]))
  ·exact .refl t c
theorem Ef{t:aF}{a:Int}(ha:gB t a):∀(ts:SI) (ps:List bQ) (c:Ck),Kp t c (gY a c ts ps)
 |[],ps,c=>by rw[sR];exact .refl t c
 |_::_,[],c=>by rw[sN];exact .refl t c
 |x::ts,p::ps,c=>by
  unfold gY;split
  ·exact(qX c _ ha).trans (Ef ha ts ps _)
  ·exact .refl t c
variable{ex:Ck->Int->Ck×Int}
def KL(h:aL t)(hex:∀c a,gB t a->Kp t c (ex c a).1)(c:Ck)(ha:gB t a):Kp t c (gM ex c a).1:=fun hc=>by
 refine(show Kp t c (gM ex c a).1 from ?_) hc;unfold gM;split
 ·exact rK c 40 ha
 ·refine Kp.trans ?_ (Ef ha _ _ _);split
  ·exact(Dz hex _ _ _ (zn h hc ha)).trans (rK _ 43 ha)
  ·exact Dz hex _ _ _ (zn h hc ha)
def J3(h:aL t)(hex:∀c a,gB t a->Kp t c (ex c a).1)(c:Ck)(ha:gB t a):Kp t c (cn ex c a).1:=fun hc=>by
 have k0:=vl h hc ha 0;have k1:=vl h hc ha 1;refine(show Kp t c (cn ex c a).1 from ?_) hc;unfold cn;simp only;repeat' split
 all_goals first
  |exact .refl t c
  |exact yS c ha
  |exact KL h hex c ha
  |exact((yS c ha).trans (hex _ _ k0)).trans (qX _ _ ha)
  |exact((hex c _ k0).trans (hex _ _ k1)).trans (qX _ _ ha)
  |exact(hex c _ k0).trans (qX _ _ ha)
theorem Il{t:aF}(h:aL t):∀(n:Nat) (c:Ck) (a:Int),gB t a->Kp t c (au n c a).1
 |0,c,a,ha=>by unfold au;exact .refl t c
 |n+1,c,a,ha=>by
  unfold au;split
  ·exact .refl t c
  ·exact(J3 h (Il h n) c ha).trans (qj rfl rfl rfl)
def Pu(h:aL t)(hex:∀c a,gB t a->Kp t c (ex c a).1)(c:Ck)(ha:gB t a):Kp t c (o0 ex c a):=fun hc=>by
 have k0:=vl h hc ha 0;refine(show Kp t c (o0 ex c a) from ?_) hc;rw[tJ];have kA:Kp t c (gC ex c a):=(hex c _ k0).trans (qX _ _ ha);have kB:Kp t c (jf ex c a):=by
  unfold jf;split
  ·exact kA.trans (rK _ 41 ha)
  ·exact kA
 have kC:Kp t c (dP ex c a):=by
  unfold dP;split
  ·exact kB.trans (rK _ 4 ha)
  ·exact kB
 exact kC.trans (qj rfl rfl rfl)
def NI(h:aL t)(hex:∀c a,gB t a->Kp t c (ex c a).1)(c:Ck)(ha:gB t a):Kp t c (ki ex c a):=fun hc=>by
 have k0:=vl h hc ha 0;refine(show Kp t c (ki ex c a) from ?_) hc;unfold ki;simp only;split
 ·exact rK c 43 ha
 split
 ·exact(hex c _ k0).trans (qX _ _ ha)
 ·exact .refl t c
theorem CR{t:aF}{st:Ck->Int->Ck}(P':∀c a,gB t a->Kp t c (st c a)):∀(l:SI) (c:Ck),(∀x∈l,gB t x)->Kp t c (dt st c l)
 |[],c,_=>by unfold dt;exact .refl t c
 |a::l,c,hl=>by
  unfold dt;split
  ·exact(P' c a (hl a jE)).trans (CR P' l _ fun x hx=>hl x (by simp[hx]))
  ·exact .refl t c
def Ir(h:aL t){st:Ck->Int->Ck}(P':∀c a,gB t a->Kp t c (st c a))(c:Ck)(ha:gB t a):Kp t c (eL st c a):=fun hc=>by refine(show Kp t c (eL st c a) from ?_) hc;have h1:Kp t c (c.af a):=qj rfl rfl rfl;exact(h1.trans (CR P' _ _ (zn h hc ha))).trans (qj rfl rfl rfl)
theorem GR{t:aF}(h:aL t):∀(n:Nat) (c:Ck) (a:Int),gB t a->Kp t c (bH n c a)
 |0,c,a,ha=>by unfold bH;exact .refl t c
 |n+1,c,a,ha=>fun hc=>by
  have k0:=vl h hc ha 0;have k1:=vl h hc ha 1;have kl:=zn h hc ha;refine(show Kp t c (bH (n+1) c a) from ?_) hc;have e0:Kp t c (c.af a):=qj rfl rfl rfl;have hx:=Il h n;unfold bH;simp only;refine e0.trans ?_;repeat' split
  ·exact Pu h hx _ ha
  ·exact((yS _ ha).trans (hx _ _ k0)).trans (qX _ _ ha)
  ·exact(((yS _ ha).trans (hx _ _ k0)).trans (hx _ _ k1)).trans (qX _ _ ha)
  ·exact hx _ _ k0
  ·exact(hx _ _ k0).trans (qX _ _ ha)
  ·exact NI h hx _ ha
  ·exact((hx _ _ k0).trans (qX _ _ ha)).trans (CR (fun c a ha=>Ir h (GR h n) c ha) _ _ fun x Tg=>kl x (List.mem_of_mem_drop Tg))
theorem EI{t:aF}{body:Int}(hb:gB t body):∀(ps:List bQ) (c:Ck) (i:Int),Kp t c (eJ body c ps i)
 |[],c,i=>by unfold eJ;exact .refl t c
 |p::ps,c,i=>by
  unfold eJ;simp only;refine Kp.trans ?_ (EI hb ps _ _);split
  ·exact(rK c 41 hb).trans (qj rfl rfl rfl)
  ·exact qj rfl rfl rfl
variable{k:Nat}
def pw(h:aL t)(hk:k<t.aq.length):gB t (nth t.aq k).body:=by have:=h.chain.mem (nth t.aq k).body (List.mem_map.2 ⟨_,er hk,rfl⟩);unfold gB;omega
def PC(h:aL t)(c:Ck)(hk:k<t.aq.length):Kp t c (fJ c k):=fun hc=>by
 refine(show Kp t c (fJ c k) from ?_) hc;have hb:gB t (nth c.aa.aq k).body:=by rw[hc];exact pw h hk
 have h1:Kp t c (eJ (nth c.aa.aq k).body { c with fn:=(k:Int),vars:=[],more:=[],size:=0 } (nth c.aa.aq k).params 0):=Kp.trans (b:={ c with fn:=(k:Int),vars:=[],more:=[],size:=0 }) (qj rfl rfl rfl) (EI hb _ _ _);unfold fJ;simp only;split
 ·exact(h1.trans (Ir h (GR h _) _ hb)).trans (qj rfl rfl rfl)
 ·exact h1.trans (qj rfl rfl rfl)
theorem GI{t:aF}(h:aL t):∀(n:Nat) (c:Ck) (i:Nat),i+n<=t.aq.length->Kp t c (fO c i n)
 |0,c,i,_=>by unfold fO;exact .refl t c
 |n+1,c,i,hi=>by
  unfold fO;split
  ·exact(PC h c jB).trans (GI h n _ _ jB)
  ·exact .refl t c
theorem Ho{t:aF}{x:bg}(hx:gB t x.body):∀(l:List bg) (c:Ck),Kp t c (mi x c l)
 |[],c=>by unfold mi;exact .refl t c
 |f::l,c=>by
  unfold mi;refine Kp.trans ?_ (Ho hx l _);split
  ·exact rK c 41 hx
  ·exact .refl t c
theorem Eu{t:aF}(h:aL t):∀(n:Nat) (c:Ck) (m:Bool) (i:Nat),i+n<=t.aq.length->Kp t c (lf t.aq c m i n).1
 |0,c,m,i,_=>by unfold lf;exact .refl t c
 |n+1,c,m,i,hi=>by unfold lf;exact(Ho (pw h jB) _ _).trans (Eu h n _ _ _ jB)
def M9(h:aL t)(c:Ck):Kp t c (jh c):=fun hc=>by
 have h1:Kp t c (lf c.aa.aq c false 0 c.aa.aq.length).1:=by rw[hc];exact Eu h _ _ _ _ jB
 refine(show Kp t c (jh c) from ?_) hc;unfold jh;simp only;split
 ·exact h1
 ·refine h1.trans fun hq=>?_
  unfold Ck.aG;split
  ·exact⟨hq,fun _=>.inr (.inl rfl)⟩
  ·exact⟨hq,id⟩
def Ql(h:aL t):zg (iu t)/\(iu t).aa=t:=by have k:Kp t (jM t) (iu t):=(M9 h (jM t)).trans (GI h _ _ _ jB);exact⟨(k rfl).2 (.inl rfl),(k rfl).1⟩
def MI(h:aL t):(ij t).2.2=0\/(ij t).2.2=44\/gB t (ij t).2.1:=by
 obtain⟨a,b⟩:=Ql h;unfold ij;split
 ·rcases a with a|a|a
  ·exact .inl a
  ·exact .inr (.inl a)
  ·rw[b]at a;exact .inr (.inr a)
 ·exact .inl rfl
def IA(s:SK)(hs:s.size<=1000000):aP prog 5 [rS s] (.bf [.agg (bV (gy s).1),rI (gy s).2.1,rI (gy s).2.2]):=by
 have hp:=Kx s hs;by_cases h1:(gP s).2.2=0
 ·have ht:=xS h1;have hk:=JR (gP s).1 ht;have Tf:=MI ht;by_cases h2:(ij (gP s).1).2.2=44
  ·have e:gy s=(lI,0,44):=by unfold gy;rw[if_neg (fun h=>h h1)];simp only;rw[if_pos h2]
   rw[e];refine df func5 ntmps5 ?_
   (have W:=jA h1 h2;repeat' (first|refine aA fun K hK=>?_|refine ax ?_|(refine hK _ _ ?_;clear hK K)|(refine az ?_ ?_<;>intro hc<;>try exact jz)|refine cp (hp) ?_|refine cp (hk) ?_|refine ay ?_|exact jI|(clear hK K)))
   refine lW [.cell 2 29,.tmp 3,.tmp 4] ?_;refine bK.bf (ds:=[.agg (bV lI),rI _,rI _]) ?_;refine jA (bK.agg (ds:=bV lI) ?_) (jA (.same _ rfl) (jA (.same _ rfl) trivial));simp only[bV,lI];exact lU
  ·by_cases h3:(ij (gP s).1).2.2=0
   ·have e:gy s=((ij (gP s).1).1,0,0):=by unfold gy;rw[if_neg (fun h=>h h1)];simp only;rw[if_neg h2,if_neg (fun h=>h h3)]
    rw[e];refine df func5 ntmps5 ?_
    (have W:=jA h1 h3;repeat' (first|refine aA fun K hK=>?_|refine ax ?_|(refine hK _ _ ?_;clear hK K)|(refine az ?_ ?_<;>intro hc<;>try exact jz)|refine cp (hp) ?_|refine cp (hk) ?_|refine ay ?_|exact jI|(clear hK K)))
    (refine bG [.cell 2 29,.tmp 3,.tmp 4] ?_;try simp only[go_sem])
   ·have e:gy s=(lI,(nth (gP s).1.nodes (ij (gP s).1).2.1.toNat).cU,(ij (gP s).1).2.2):=by unfold gy;rw[if_neg (fun h=>h h1)];simp only;rw[if_neg h2,if_pos h3]
    obtain⟨TH,U0⟩:=(Tf.resolve_left h3).resolve_left h2;rw[e];refine df func5 ntmps5 ?_
    (have W:=jA h1 (jA h2 (h3));repeat' (first|refine aA fun K hK=>?_|refine ax ?_|(with_reducible refine gR 8 ?_);refine dA 8 [0] (bo 0 11) mixed ?_|(refine hK _ _ ?_;clear hK K)|(refine az ?_ ?_<;>intro hc<;>try exact jz)|refine cp (hp) ?_|refine cp (hk) ?_|refine ay ?_|exact jI|(clear hK K)))
    refine lW [.cell 2 29,.tmp 3,.tmp 4] ?_;refine bK.bf (ds:=[.agg (bV lI),rI _,rI _]) ?_;refine jA (bK.agg (ds:=bV lI) ?_) (jA (.same _ rfl) (jA (.same _ rfl) trivial));simp only[bV,lI];exact lU
 ·have e:gy s=(lI,(gP s).2.1,(gP s).2.2):=by unfold gy;rw[if_pos h1]
  rw[e];refine df func5 ntmps5 ?_
  (have W:=h1;repeat' (first|refine aA fun K hK=>?_|refine ax ?_|(refine hK _ _ ?_;clear hK K)|(refine az ?_ ?_<;>intro hc<;>try exact jz)|refine cp (hp) ?_|refine ay ?_|exact jI|(clear hK K)))
  refine lW [.cell 2 29,.tmp 3,.tmp 4] ?_;refine bK.bf (ds:=[.agg (bV lI),rI _,rI _]) ?_;refine jA (bK.agg (ds:=bV lI) ?_) (jA (.same _ rfl) (jA (.same _ rfl) trivial));simp only[bV,lI];exact lU
def pz[Inhabited α](l:List α)(i k:Nat)(v:α):nth (l.set i v) k=if i=k/\k<l.length then v else nth l k:=by
 unfold nth;rw[List.getD_eq_getElem?_getD,List.getElem?_set,List.getD_eq_getElem?_getD];by_cases h:i=k
 ·subst h;by_cases hi:i<l.length
  ·simp[hi]
  ·simp[hi]
 ·simp[h]
structure vr(t:aF)(ty:List Int)(k:Nat):Prop where
 int:(nth t.nodes k).kind=1->nth ty k=1
 bool:(nth t.nodes k).kind=2->nth ty k=2
 text:(nth t.nodes k).kind=3->nth ty k=3
 var:(nth t.nodes k).kind=4->1<=nth ty k/\nth ty k<=4
 index:(nth t.nodes k).kind=5->nth ty k=1/\nth ty (nth (nth t.nodes k).l 0).toNat=1
 len:(nth t.nodes k).kind=6->nth ty k=1/\(nth ty (nth (nth t.nodes k).l 0).toNat=3\/nth ty (nth (nth t.nodes k).l 0).toNat=4)
 neg:(nth t.nodes k).kind=7->nth ty k=1/\nth ty (nth (nth t.nodes k).l 0).toNat=1
 not:(nth t.nodes k).kind=8->nth ty k=2/\nth ty (nth (nth t.nodes k).l 0).toNat=2
 zf:(nth t.nodes k).kind=9->nth ty k=im (nth t.nodes k).name (nth ty (nth (nth t.nodes k).l 0).toNat) (nth ty (nth (nth t.nodes k).l 1).toNat)/\nth ty k≠0
 cond:(nth t.nodes k).kind=15\/(nth t.nodes k).kind=16->nth ty (nth (nth t.nodes k).l 0).toNat=2
 call:(nth t.nodes k).kind=21->0<=ji bg.name (nth t.nodes k).name t.aq 0 (-1)/\(nth t.nodes k).l.length=(nth t.aq (ji bg.name (nth t.nodes k).name t.aq 0 (-1)).toNat).params.length
 in_:(nth t.nodes k).kind=19->nth ty k=1
 new:(nth t.nodes k).kind=20->nth ty k=4
 pL:(nth t.nodes k).kind=10->1<=nth ty (nth (nth t.nodes k).l 0).toNat/\nth ty (nth (nth t.nodes k).l 0).toNat<=4
def gb(t:aF)(ty:SI)(lo hi:Nat):Prop:=∀k,lo<=k->k<hi->vr t ty k
def Tw(lo hi:Nat)(c c':Ck):Prop:=∀k,(k<lo\/hi<=k)->nth c'.types k=nth c.types k
variable{lo hi:Nat}{L:SI}
def _root_.Go.Gd.aJ.closed{t:List bu}(h:aJ t lo L hi):∀k,lo<=k->k<hi->∀a∈(nth t k).l,lo<=a.toNat:=by
 induction h with
 |nil=>intro k h1 h2;omega
 |@cons lo c hi L hc h1 h2 i1 i2=>
  intro k Te S5 a ha;have l1:=h1.le;by_cases h:k<c
  ·exact i1 k Te h a ha
  by_cases h':k=c
  ·subst h';exact(h1.mem a ha).2.1
  ·have:=i2 k jB S5 a ha;omega
variable{ty:SI}
def vr.bj(h:aL t){ty':SI}(hk:k<t.nodes.length)(SU:lo<=k)(hc:∀a∈(nth t.nodes k).l,lo<=a.toNat)(he:∀i,lo<=i->i<=k->nth ty' i=nth ty i)(x:vr t ty k):vr t ty' k:=by
 have hm:=(h.shape k hk).2.1;have sh:=(h.shape k hk).1;have e0:=he k SU jl;have ea:∀i,i<(nth t.nodes k).l.length->nth ty' (nth (nth t.nodes k).l i).toNat=nth ty (nth (nth t.nodes k).l i).toNat:=fun i hi=>by have TM:=er hi;have:=hm _ TM;exact he _ (hc _ TM) jB
 refine⟨fun e=>by rw[e0];exact x.int e,fun e=>by rw[e0];exact x.bool e,fun e=>by rw[e0];exact x.text e,fun e=>by rw[e0];exact x.var e,fun e=>?_,fun e=>?_,fun e=>?_,fun e=>?_,fun e=>?_,fun e=>?_,x.call,fun e=>by rw[e0];exact x.in_ e,fun e=>by rw[e0];exact x.new e,fun e=>?_⟩
 ·obtain⟨a,hl,_⟩:=sh.one jB;rw[e0,ea 0 (by rw[hl];simp)];exact x.index e
 ·obtain⟨a,hl,_⟩:=sh.one jB;rw[e0,ea 0 (by rw[hl];simp)];exact x.len e
 ·obtain⟨a,hl,_⟩:=sh.one jB;rw[e0,ea 0 (by rw[hl];simp)];exact x.neg e
 ·obtain⟨a,hl,_⟩:=sh.one jB;rw[e0,ea 0 (by rw[hl];simp)];exact x.not e
 ·obtain⟨a,b,hl,_⟩:=sh.two jB;rw[e0,ea 0 (by rw[hl];simp),ea 1 (by rw[hl];simp)];exact x.zf e
 ·have hl:0<(nth t.nodes k).l.length:=by
   rcases e with e|e
   ·obtain⟨a,b,_,_,hl|⟨d,hl,_⟩⟩:=sh.kI e<;>rw[hl]<;>simp
   ·obtain⟨a,b,hl,_⟩:=sh.dS e;rw[hl];simp
  rw[ea 0 hl];exact x.cond e
 ·obtain⟨a,hl,_⟩:=sh.right jB;rw[ea 0 (by rw[hl];simp)];exact x.pL e
theorem gb.bj{t:aF}(h:aL t){ty ty':SI}{lo hi:Nat}{L:SI}(hc:aJ t.nodes lo L hi)(hl:hi<=t.nodes.length)(he:∀i,lo<=i->i<hi->nth ty' i=nth ty i)(x:gb t ty lo hi):gb t ty' lo hi:=fun k h1 h2=> (x k h1 h2).bj h jB h1 (hc.closed k h1 h2) fun i g1 g2=>he i g1 jB
variable{fA:Nat}
def gb.join(x:gb t ty lo fA)(y:gb t ty fA hi):gb t ty lo hi:=fun k h1 h2=>by
 by_cases h:k<fA
 ·exact x k h1 h
 ·exact y k jB h2
def gb.none:gb t ty lo lo:=fun k h1 h2=>jB
def Tw.refl(lo hi:Nat)(c:Ck):Tw lo hi c c:=fun _ _=>rfl
def Tw.same{c:Ck}(h:c'.types=c.types):Tw lo hi c c':=fun _ _=>by rw[h]
theorem Tw.trans{lo hi:Nat}{a b c:Ck}(h:Tw lo hi a b)(k:Tw lo hi b c):Tw lo hi a c:=fun i hi=>(k i hi).trans (h i hi)
def Tw.mono{lo' UN:Nat}{a:Ck}(h:Tw lo hi a b)(h1:lo'<=lo)(h2:hi<=UN):Tw lo' UN a b:=fun i hi=>h i jB
def Bm(c:Ck)(e a:Int):(c.aG e a).types=c.types:=by unfold Ck.aG;split<;>rfl
def kP(c:Ck)(b:Bool)(a:Int):(c.ar b a).types=c.types:=by unfold Ck.ar;split;rfl;exact Bm _ _ _
def iD{c:Ck}{b:Bool}(h:(c.ar b a).e=0):b=true/\c.e=0:=by
 unfold Ck.ar at h;split at h
 ·exact⟨by assumption,h⟩
 ·exfalso;unfold Ck.aG at h;split at h
  ·cases h
  ·contradiction
def mJ{c:Ck}{e:Int}(he:e≠0)(h:(c.aG e a).e=0):False:=by
 unfold Ck.aG at h;split at h
 ·exact he h
 ·contradiction
def zT(c:Ck)(a:Int):(c.named a).1.types=c.types:=by unfold Ck.named;split;exact Bm _ _ _;rfl
def ca(c:Ck):Prop:=∀v∈c.vars,1<=v.ty/\v.ty<=4
def ca.ev{c:Ck}(h:ca c)(s:Ev c c'):ca c':=by unfold ca;rw[s.vars];exact h
def LD{c:Ck}(h:ca c)(he:(c.named a).1.e=0):1<=(c.named a).2/\(c.named a).2<=4:=by
 unfold Ck.named at he ⊢;split
 ·rename_i hf;rw[if_pos hf]at he;exact(mJ jC he).elim
 ·rename_i hf;rcases xO bP.name (c.node a).name c.vars 0 jB with⟨h1,_⟩|h1
  ·exact(hf (by show gx bP.name (c.node a).name c.vars 0<0;rw[h1];decide)).elim
  ·exact h _ (er (by show(gx bP.name (c.node a).name c.vars 0).toNat<_;omega))
def Ev.e0{c:Ck}(s:Ev c c')(h:c'.e=0):c.e=0:=Classical.byContradiction fun e=>s.err e h
structure gk(t:aF)(lo hi:Nat)(c c':Ck):Prop where
 tw:Tw lo hi c c'
 all:gb t c'.types lo hi
def gk.post{a c:Ck}(h:gk t lo hi a b)(e:c.types=b.types):gk t lo hi a c:=⟨h.tw.trans (.same e),by rw[e];exact h.all⟩
def gk.pre{a c:Ck}(e:b.types=a.types)(h:gk t lo hi b c):gk t lo hi a c:=⟨(Tw.same e).trans h.tw,h.all⟩
def gk.seq(ht:aL t){a c:Ck}(hc:aJ t.nodes lo L fA)(hl:fA<=t.nodes.length)(h1:fA<=hi)(h:gk t lo fA a b)(k:gk t fA hi b c):gk t lo hi a c:=
 ⟨(h.tw.mono jl h1).trans (k.tw.mono hc.le jl),(h.all.bj ht hc hl fun i _ h2=>k.tw i (.inl h2)).join k.all⟩
def Dx(t:aF)(n:Nat):Prop:=∀(c:Ck) (a:Int) (lo:Nat),bF c->c.aa=t->ca c->0<=a->a<t.nodes.length->a.toNat<n->eF (bA t.nodes a)->aJ t.nodes lo (nth t.nodes a.toNat).l a.toNat->(au n c a).1.e=0->
 gk t lo (a.toNat+1) c (au n c a).1/\nth (au n c a).1.types a.toNat=(au n c a).2/\0<=(au n c a).2/\(au n c a).2<=4
variable{t:List bu}
def kq(h:aJ t lo [a] hi):0<=a/\a<t.length/\lo<=a.toNat/\hi=a.toNat+1/\aJ t lo (nth t a.toNat).l a.toNat:=by
 cases h with
 |cons hc h1 h2=> cases h2;exact⟨jB,jB,by have:=h1.le;simpa using this,jE,by simpa using h1⟩
def iM(h:aJ t lo (a::L) hi):0<=a/\a<t.length/\lo<=a.toNat/\a.toNat+1<=hi/\aJ t lo (nth t a.toNat).l a.toNat/\aJ t (a.toNat+1) L hi:=by
 cases h with
 |cons hc h1 h2=>exact⟨jB,jB,by have:=h1.le;simpa using this,by have:=h2.le;simpa using this,by simpa using h1,by simpa using h2⟩
def aJ.kT(h0:0<=a)(h1:a<t.length)(h:aJ t lo (nth t a.toNat).l a.toNat):aJ t lo [a] (a.toNat+1):=by have e:a=((a.toNat:Nat):Int):=jB;rw[e];exact aJ.one jB (by simpa using h)
theorem Bf{t:aF}(ht:aL t){n:Nat}(hx:Dx t n):∀(L:SI) (c:Ck) (ts:SI) (lo hi:Nat),bF c->c.aa=t->ca c->hi<=n->hi<=t.nodes.length->(∀x∈L,eF (bA t.nodes x))->aJ t.nodes lo L hi->(fV (au n) c L ts).1.e=0->gk t lo hi c (fV (au n) c L ts).1
 |[],c,ts,lo,hi,h,hc,hv,hn,hl,hr,O',he=>by cases O';unfold fV;exact⟨.refl _ _ _,.none⟩
 |a::L,c,ts,lo,hi,h,hc,hv,hn,hl,hr,O',he=>by have e0:=(rp (dU n) (a::L) c ts).e0 he;unfold fV at he ⊢;rw[if_pos e0]at he ⊢;obtain⟨c1,c2,c3,c4,c5,c6⟩:=iM O';have ev:=dU n c a;have e1:=(rp (dU n) L _ _).e0 he;have r1:=(hx c a lo h hc hv c1 c2 jB (hr a jE) c5 e1).1;exact r1.seq ht (aJ.kT c1 c2 c5) jB jB (Bf ht hx L _ _ _ hi (h.ev ev) (ev.aa.trans hc) (hv.ev ev) hn hl (fun x hx=>hr x (by simp[hx])) c6 he)
theorem Cw(a:Int):∀(ts:SI) (ps:List bQ) (c:Ck),(gY a c ts ps).types=c.types
 |[],ps,c=>by rw[sR]
 |_::_,[],c=>by rw[sN]
 |x::ts,p::ps,c=>by
  unfold gY;split
  ·rw[Cw a ts ps _];exact kP _ _ _
  ·rfl
variable{t:aF}{n:Nat}
def Nt(ht:aL t)(hx:Dx t n){c:Ck}(h:bF c)(hc:c.aa=t)(hv:ca c)(h0:0<=a)(h1:a<t.nodes.length)(hn:a.toNat<=n)(hk:(nth t.nodes a.toNat).kind=21)(O':aJ t.nodes lo (nth t.nodes a.toNat).l a.toNat)(he:(gM (au n) c a).1.e=0) :
  gk t lo a.toNat c (gM (au n) c a).1/\(0<=(gM (au n) c a).2/\(gM (au n) c a).2<=4)/\0<=ji bg.name (nth t.nodes a.toNat).name t.aq 0 (-1)/\(nth t.nodes a.toNat).l.length=(nth t.aq (ji bg.name (nth t.nodes a.toNat).name t.aq 0 (-1)).toNat).params.length:=by
 have u':c.node a=nth t.nodes a.toNat:=by unfold Ck.node;rw[hc]
 have Tn:=(ht.shape a.toNat jB).1.call hk;unfold gM at he ⊢;split at he
 ·exact(mJ jC he).elim
 rename_i hf;rw[if_neg hf];simp only at he ⊢;have e1:=(Ag a _ _ _).e0 he;split at e1
 ·exact(mJ jC e1).elim
 rename_i hl;rw[if_neg hl];have r:=Bf ht hx (c.node a).l c [] lo a.toNat h hc hv hn jB (fun x Tg=>.inl (Tn x (by rw[<-u'];exact Tg))) (by rw[u'];exact O') e1;have Ug:fD c a=ji bg.name (nth t.nodes a.toNat).name t.aq 0 (-1):=by unfold fD;rw[u',hc]
 refine⟨r.post (Cw _ _ _ _),?_,by rw[<-Ug];omega,by rw[<-Ug,<-u',<-hc];omega⟩;have US:(nth c.aa.aq (fD c a).toNat)∈c.aa.aq\/(nth c.aa.aq (fD c a).toNat)=default:=by
  by_cases hi:(fD c a).toNat<c.aa.aq.length
  ·exact .inl (er hi)
  ·exact .inr (Ht (Nat.le_of_not_lt hi))
 rcases US with US|US
 ·exact(ht.fn _ (by rw[<-hc];exact US)).1.ret
 ·rw[US];decide
def Qv(s:SK)(a b:Int):0<=im s a b/\im s a b<=4:=by
 unfold im;repeat' split
 all_goals omega
def K9(ht:aL t){c:Ck}{T:Int}(hl:c'.types.length=t.nodes.length)(h0:0<=a)(h1:a<t.nodes.length)(O':aJ t.nodes lo (nth t.nodes a.toNat).l a.toNat)(r:gk t lo a.toNat c c')(hT:vr t (c'.types.set a.toNat T) a.toNat) :
  gk t lo (a.toNat+1) c (c'.note a T)/\nth (c'.note a T).types a.toNat=T:=by
 have hs:∀k,nth (c'.note a T).types k=if a.toNat=k/\k<c'.types.length then T else nth c'.types k:=fun k=>pz _ _ _ _
 refine⟨⟨fun k hk=>?_,?_⟩,by rw[hs,if_pos ⟨rfl,jB⟩]⟩
 ·have SU:=O'.le;rw[hs,jN];exact r.tw k jB
 ·refine(r.all.bj ht O' jB fun i _ h2=>by rw[hs,jN]).join fun k g1 g2=>?_
  have:k=a.toNat:=jB;subst this;exact hT
theorem tU{t:aF}(ht:aL t):∀n,Dx t n
 |0=>fun c a lo h hc hv h0 h1 hn=>by omega
 |n+1=>fun c a lo h hc hv h0 h1 hn hr O' he=>by
  have hx:=tU ht n;have e0:=(dU (n+1) c a).e0 he;unfold au at he ⊢;rw[jN]at he ⊢;simp only at he ⊢;have he:(cn (au n) c a).1.e=0:=he;have u':c.node a=nth t.nodes a.toNat:=by unfold Ck.node;rw[hc]
  have sh:=(ht.shape a.toNat jB).1;have D':(cn (au n) c a).1.types.length=t.nodes.length:=by rw[(Bg (dU n) c a).types,h.types,hc]
  -- what is to be shown of the node itself
  suffices hs:gk t lo a.toNat c (cn (au n) c a).1/\vr t ((cn (au n) c a).1.types.set a.toNat (cn (au n) c a).2) a.toNat/\0<=(cn (au n) c a).2/\(cn (au n) c a).2<=4 by obtain⟨s1,s2,s3⟩:=hs;obtain⟨g1,g2⟩:=K9 ht D' h0 h1 O' s1 s2;exact⟨g1,g2,s3⟩
  have SV:∀T,nth ((cn (au n) c a).1.types.set a.toNat T) a.toNat=T:=fun T=>by rw[pz,if_pos ⟨rfl,jB⟩]
  have TZ:∀T k,k≠a.toNat->nth ((cn (au n) c a).1.types.set a.toNat T) k=nth (cn (au n) c a).1.types k:=fun T k hk=>by rw[pz,jN]
  have leaf:(nth t.nodes a.toNat).l=[]->∀c',c'.types=c.types->gk t lo a.toNat c c':=fun hl c' e=>by
   rw[hl]at O';have:lo=a.toNat:=by cases O';rfl
   subst this;exact⟨.same e,.none⟩
  have kid1:∀c0 x,bF c0->c0.aa=t->ca c0->c0.types=c.types->(nth t.nodes a.toNat).l=[x]->eF (bA t.nodes x)->(au n c0 x).1.e=0->gk t lo a.toNat c (au n c0 x).1/\nth (au n c0 x).1.types x.toNat=(au n c0 x).2/\x.toNat≠a.toNat:=fun c0 x g1 g2 g3 g4 hl Vk S4=>by rw[hl]at O';obtain⟨c1,c2,c3,c4,c5⟩:=kq O';obtain⟨r1,r2,_⟩:=hx c0 x lo g1 g2 g3 c1 c2 jB Vk c5 S4;rw[c4];exact⟨r1.pre g4,r2,jB⟩
  have kd:∀i,c.aE a i=nth (nth t.nodes a.toNat).l i:=fun i=>by unfold Ck.aE;rw[u']
  have V9:(nth t.nodes a.toNat).kind=1\/(nth t.nodes a.toNat).kind=2\/(nth t.nodes a.toNat).kind=3\/(nth t.nodes a.toNat).kind=4\/(nth t.nodes a.toNat).kind=5\/(nth t.nodes a.toNat).kind=6\/(nth t.nodes a.toNat).kind=7\/(nth t.nodes a.toNat).kind=8\/(nth t.nodes a.toNat).kind=9\/(nth t.nodes a.toNat).kind=19\/(nth t.nodes a.toNat).kind=20\/(nth t.nodes a.toNat).kind=21:=by have:eF (nth t.nodes a.toNat).kind:=hr;unfold eF bT at this;omega
  rcases V9 with k|k|k|k|k|k|k|k|k|k|k|k
  ·have e:cn (au n) c a=(c,1):=by unfold cn;simp only;rw[u',k];rfl
   rw[e]at SV ⊢;refine⟨leaf (sh.zero jB) _ rfl,?_,jE,jE⟩;constructor<;>intro k'<;>first|omega|exact SV _
  ·have e:cn (au n) c a=(c,2):=by unfold cn;simp only;rw[u',k];rfl
   rw[e]at SV ⊢;refine⟨leaf (sh.zero jB) _ rfl,?_,jE,jE⟩;constructor<;>intro k'<;>first|omega|exact SV _
  ·have e:cn (au n) c a=(c,3):=by unfold cn;simp only;rw[u',k];rfl
   rw[e]at SV ⊢;refine⟨leaf (sh.zero jB) _ rfl,?_,jE,jE⟩;constructor<;>intro k'<;>first|omega|exact SV _
  ·have e:cn (au n) c a=c.named a:=by unfold cn;simp only;rw[u',k];rfl
   rw[e]at SV he ⊢;have Uc:=LD hv he;refine⟨leaf (sh.zero jB) _ (zT c a),?_,jB,jB⟩;constructor<;>intro k'<;>first|omega|(rw[SV];exact Uc)
  ·have e:cn (au n) c a=((au n (c.named a).1 (c.aE a 0)).1.ar (decide ((c.named a).2=4) && decide ((au n (c.named a).1 (c.aE a 0)).2=1)) a,1):=by unfold cn;simp only;rw[u',k];rfl
   obtain⟨x,hl,S4⟩:=sh.one jB;have S3:c.aE a 0=x:=by rw[kd,hl];rfl
   rw[e]at SV TZ he ⊢;rw[S3]at SV TZ he ⊢;obtain⟨b1,b2⟩:=iD he;simp only[Bool.and_eq_true,decide_eq_true_eq]at b1;have ev:=ni c a;obtain⟨r1,r2,r3⟩:=kid1 (c.named a).1 x (h.ev ev) (ev.aa.trans hc) (hv.ev ev) (zT c a) hl (.inl S4) b2;refine⟨r1.post (kP _ _ _),?_,jE,jE⟩;constructor<;>intro k'<;>first|omega|skip
   refine⟨SV _,?_⟩;rw[hl];show nth (List.set _ _ _) x.toNat=1;rw[TZ _ _ r3];show nth (Ck.ar _ _ _).types x.toNat=1;rw[kP,r2];exact b1.2
  ·have e:cn (au n) c a=((au n c (c.aE a 0)).1.ar (decide ((au n c (c.aE a 0)).2=3) || decide ((au n c (c.aE a 0)).2=4)) a,1):=by unfold cn;simp only;rw[u',k];rfl
   obtain⟨x,hl,S4⟩:=sh.one jB;have S3:c.aE a 0=x:=by rw[kd,hl];rfl
   rw[e]at SV TZ he ⊢;rw[S3]at SV TZ he ⊢;obtain⟨b1,b2⟩:=iD he;simp only[Bool.or_eq_true,decide_eq_true_eq]at b1;obtain⟨r1,r2,r3⟩:=kid1 c x h hc hv rfl hl (.inl S4) b2;refine⟨r1.post (kP _ _ _),?_,jE,jE⟩;constructor<;>intro k'<;>first|omega|skip
   refine⟨SV _,?_⟩;rw[hl];show nth (List.set _ _ _) x.toNat=3\/nth (List.set _ _ _) x.toNat=4;rw[TZ _ _ r3];show nth (Ck.ar _ _ _).types x.toNat=3\/nth (Ck.ar _ _ _).types x.toNat=4;rw[kP,r2];exact b1
  ·have e:cn (au n) c a=((au n c (c.aE a 0)).1.ar (decide ((au n c (c.aE a 0)).2=1)) a,1):=by unfold cn;simp only;rw[u',k];rfl
   obtain⟨x,hl,S4⟩:=sh.one jB;have S3:c.aE a 0=x:=by rw[kd,hl];rfl
   rw[e]at SV TZ he ⊢;rw[S3]at SV TZ he ⊢;obtain⟨b1,b2⟩:=iD he;simp only[decide_eq_true_eq]at b1;obtain⟨r1,r2,r3⟩:=kid1 c x h hc hv rfl hl (.inl S4) b2;refine⟨r1.post (kP _ _ _),?_,jE,jE⟩;constructor<;>intro k'<;>first|omega|skip
   refine⟨SV _,?_⟩;rw[hl];show nth (List.set _ _ _) x.toNat=1;rw[TZ _ _ r3];show nth (Ck.ar _ _ _).types x.toNat=1;rw[kP,r2];exact b1
  ·have e:cn (au n) c a=((au n c (c.aE a 0)).1.ar (decide ((au n c (c.aE a 0)).2=2)) a,2):=by unfold cn;simp only;rw[u',k];rfl
   obtain⟨x,hl,S4⟩:=sh.one jB;have S3:c.aE a 0=x:=by rw[kd,hl];rfl
   rw[e]at SV TZ he ⊢;rw[S3]at SV TZ he ⊢;obtain⟨b1,b2⟩:=iD he;simp only[decide_eq_true_eq]at b1;obtain⟨r1,r2,r3⟩:=kid1 c x h hc hv rfl hl (.inl S4) b2;refine⟨r1.post (kP _ _ _),?_,jE,jE⟩;constructor<;>intro k'<;>first|omega|skip
   refine⟨SV _,?_⟩;rw[hl];show nth (List.set _ _ _) x.toNat=2;rw[TZ _ _ r3];show nth (Ck.ar _ _ _).types x.toNat=2;rw[kP,r2];exact b1
  ·have e:cn (au n) c a=((au n (au n c (c.aE a 0)).1 (c.aE a 1)).1.ar (!decide (im (c.node a).name (au n c (c.aE a 0)).2 (au n (au n c (c.aE a 0)).1 (c.aE a 1)).2=0)) a,im (c.node a).name (au n c (c.aE a 0)).2 (au n (au n c (c.aE a 0)).1 (c.aE a 1)).2):=by unfold cn;simp only;rw[u',k];rfl
   obtain⟨x,y,hl,S4,Vq⟩:=sh.two jB;have S3:c.aE a 0=x:=by rw[kd,hl];rfl
   have Te:c.aE a 1=y:=by rw[kd,hl];rfl
   rw[e]at SV TZ he ⊢;rw[S3,Te]at SV TZ he ⊢;obtain⟨b1,b2⟩:=iD he;simp only[Bool.not_eq_true',decide_eq_false_iff_not]at b1;have ev:=dU n c x;have b0:(au n c x).1.e=0:=(dU n _ y).e0 b2;rw[hl]at O';obtain⟨c1,c2,c3,c4,c5,c6⟩:=iM O';obtain⟨d1,d2,d3,d4,d5⟩:=kq c6;obtain⟨r1,r2,_⟩:=hx c x lo h hc hv c1 c2 jB (.inl S4) c5 b0;obtain⟨q1,q2,_⟩:=hx (au n c x).1 y (x.toNat+1) (h.ev ev) (ev.aa.trans hc) (hv.ev ev) d1 d2 jB (.inl Vq) d5 b2;have rr:=r1.seq ht (aJ.kT c1 c2 c5) jB jB q1;rw[d4];refine⟨rr.post (kP _ _ _),?_,Qv _ _ _⟩;rw[d4]at SV TZ;rw[<-d4];rw[<-d4]at SV TZ;have ex:nth ((au n (au n c x).1 y).1.types) x.toNat=(au n c x).2:=by rw[q1.tw _ jB,r2]
   constructor<;>intro k'<;>first|omega|skip
   have g0:=SV (im (c.node a).name (au n c x).2 (au n (au n c x).1 y).2);have g1:=TZ (im (c.node a).name (au n c x).2 (au n (au n c x).1 y).2) x.toNat jB;have g2:=TZ (im (c.node a).name (au n c x).2 (au n (au n c x).1 y).2) y.toNat jB;simp only[kP]at g0 g1 g2 ⊢;rw[hl];show _=im _ (nth _ x.toNat) (nth _ y.toNat)/\_;rw[g0,g1,g2,ex,q2,<-u'];exact⟨rfl,b1⟩
  ·have e:cn (au n) c a=(c,1):=by unfold cn;simp only;rw[u',k];rfl
   rw[e]at SV ⊢;refine⟨leaf (sh.zero jB) _ rfl,?_,jE,jE⟩;constructor<;>intro k'<;>first|omega|exact SV _
  ·have e:cn (au n) c a=((au n c (c.aE a 0)).1.ar (decide ((au n c (c.aE a 0)).2=1)) a,4):=by unfold cn;simp only;rw[u',k];rfl
   obtain⟨x,hl,S4⟩:=sh.one jB;have S3:c.aE a 0=x:=by rw[kd,hl];rfl
   rw[e]at SV he ⊢;rw[S3]at SV he ⊢;obtain⟨b1,b2⟩:=iD he;obtain⟨r1,r2,r3⟩:=kid1 c x h hc hv rfl hl (.inl S4) b2;refine⟨r1.post (kP _ _ _),?_,jE,jE⟩;constructor<;>intro k'<;>first|omega|exact SV _
  ·have e:cn (au n) c a=gM (au n) c a:=by unfold cn;simp only;rw[u',k];rfl
   rw[e]at he ⊢;obtain⟨r1,r2,r3⟩:=Nt ht hx h hc hv h0 h1 jB k O' he;refine⟨r1,?_,r2⟩;constructor<;>intro k'<;>first|omega|exact r3
def gk.skip{c:Ck}(hk:eo (bA t.nodes a)\/bA t.nodes a=18)(hcd:(nth t.nodes a.toNat).kind=15\/(nth t.nodes a.toNat).kind=16\/(nth t.nodes a.toNat).kind=10->((nth t.nodes a.toNat).kind=10\/nth c'.types (nth (nth t.nodes a.toNat).l 0).toNat=2)/\1<=nth c'.types (nth (nth t.nodes a.toNat).l 0).toNat/\nth c'.types (nth (nth t.nodes a.toNat).l 0).toNat<=4)(r:gk t lo a.toNat c c'):gk t lo (a.toNat+1) c c':=by
 refine⟨r.tw.mono jl jB,fun k h1 h2=>?_⟩;by_cases h:k<a.toNat
 ·exact r.all k h1 h
 ·have:k=a.toNat:=jB;subst this;have hk:eo (nth t.nodes a.toNat).kind\/(nth t.nodes a.toNat).kind=18:=hk;unfold eo at hk;constructor<;>intro k'<;>first|omega|exact(hcd jB).1.resolve_left jB|exact(hcd jB).2
def HI(t:aF)(n:Nat):Prop:=∀(c:Ck) (a:Int) (lo:Nat),bF c->c.aa=t->ca c->c.e=0->0<=a->a<t.nodes.length->a.toNat<n->eo (bA t.nodes a)->aJ t.nodes lo (nth t.nodes a.toNat).l a.toNat->(bH n c a).e=0->
 gk t lo (a.toNat+1) c (bH n c a)/\ca (bH n c a)
def Sv.e0{c:Ck}(s:Sv c c')(h:c'.e=0):c.e=0:=Classical.byContradiction fun e=>s.err e h
theorem wB{t:aF}(ht:aL t){st:Ck->Int->Ck}{C:Int->Prop}{n:Nat}(hs:∀c a,bF c->c.e=0->Sv c (st c a))
  (P':∀(c:Ck) (a:Int) (lo:Nat),bF c->c.aa=t->ca c->c.e=0->0<=a->a<t.nodes.length->a.toNat<n->C (bA t.nodes a)->aJ t.nodes lo (nth t.nodes a.toNat).l a.toNat->(st c a).e=0->gk t lo (a.toNat+1) c (st c a)/\ca (st c a)) :
  ∀(L:SI) (c:Ck) (lo hi:Nat),bF c->c.aa=t->ca c->hi<=n->hi<=t.nodes.length->(∀x∈L,C (bA t.nodes x))->aJ t.nodes lo L hi->(dt st c L).e=0->gk t lo hi c (dt st c L)/\ca (dt st c L)
 |[],c,lo,hi,h,hc,hv,hn,hl,hr,O',he=>by cases O';unfold dt;exact⟨⟨.refl _ _ _,.none⟩,hv⟩
 |a::L,c,lo,hi,h,hc,hv,hn,hl,hr,O',he=>by have e0:=(oN hs (a::L) c h).e0 he;unfold dt at he ⊢;rw[if_pos e0]at he ⊢;obtain⟨c1,c2,c3,c4,c5,c6⟩:=iM O';have s:=hs c a h e0;have e1:=(oN hs L _ s.inv).e0 he;obtain⟨r1,v1⟩:=P' c a lo h hc hv e0 c1 c2 jB (hr a jE) c5 e1;obtain⟨r2,v2⟩:=wB ht hs P' L _ _ hi s.inv (s.aa.trans hc) v1 hn hl (fun x hx=>hr x (by simp[hx])) c6 he;exact⟨r1.seq ht (aJ.kT c1 c2 c5) jB jB r2,v2⟩
def yv(ht:aL t)(P':HI t n)(c:Ck)(a:Int)(lo:Nat)(h:bF c)(hc:c.aa=t)(hv:ca c)(h0:0<=a)(h1:a<t.nodes.length)(hn:a.toNat<=n)(hk:bA t.nodes a=18)(O':aJ t.nodes lo (nth t.nodes a.toNat).l a.toNat)(he:(eL (bH n) c a).e=0) :
  gk t lo (a.toNat+1) c (eL (bH n) c a)/\ca (eL (bH n) c a):=by
 have sv:=pA (lC n) h a;have u':c.node a=nth t.nodes a.toNat:=by unfold Ck.node;rw[hc]
 have hb:=(ht.shape a.toNat jB).1.block hk;have ev:=qb c a;obtain⟨r,_⟩:=wB ht (lC n) (C:=eo) P' (c.node a).l (c.af a) lo a.toNat (h.ev ev) (ev.aa.trans hc) (hv.ev ev) hn jB (fun x hx=>hb x (by rw[<-u'];exact hx)) (by rw[u'];exact O') he;have r:gk t lo a.toNat c (eL (bH n) c a):=gk.post (b:=dt (bH n) (c.af a) (c.node a).l) (gk.pre (a:=c) (b:=c.af a) rfl r) rfl;have Wu:(nth t.nodes a.toNat).kind=18:=hk;refine⟨r.skip (.inr hk) (fun h=>jB),?_⟩;unfold ca;rw[sv.2];exact hv
variable{c0:Ck}{x:Int}
def xK(ht:aL t){c:Ck}(h:bF c0)(hc:c0.aa=t)(hv:ca c0)(Uc:c0.types=c.types)(hn:a.toNat<=n)(hl:(nth t.nodes a.toNat).l=[x])(hx:eF (bA t.nodes x))(O':aJ t.nodes lo (nth t.nodes a.toNat).l a.toNat)(he:(au n c0 x).1.e=0) :
  gk t lo a.toNat c (au n c0 x).1/\0<=(au n c0 x).2/\(au n c0 x).2<=4/\nth (au n c0 x).1.types x.toNat=(au n c0 x).2:=by
 rw[hl]at O';obtain⟨c1,c2,c3,c4,c5⟩:=kq O';obtain⟨r1,r2,r3⟩:=tU ht n c0 x lo h hc hv c1 c2 jB hx c5 he;rw[c4];exact⟨r1.pre Uc,r3.1,r3.2,r2⟩
def N9(ht:aL t){c:Ck}{y:Int}(h:bF c0)(hc:c0.aa=t)(hv:ca c0)(Uc:c0.types=c.types)(hn:a.toNat<=n)(hl:(nth t.nodes a.toNat).l=[x,y])(hx:bT (bA t.nodes x))(hy:bT (bA t.nodes y))(O':aJ t.nodes lo (nth t.nodes a.toNat).l a.toNat)(Ta:a.toNat<=t.nodes.length)(he:(au n (au n c0 x).1 y).1.e=0) :
  gk t lo a.toNat c (au n (au n c0 x).1 y).1:=by
 rw[hl]at O';obtain⟨c1,c2,c3,c4,c5,c6⟩:=iM O';obtain⟨d1,d2,d3,d4,d5⟩:=kq c6;have ev:=dU n c0 x;obtain⟨r1,_⟩:=tU ht n c0 x lo h hc hv c1 c2 jB (.inl hx) c5 ((dU n _ y).e0 he);obtain⟨q1,_⟩:=tU ht n (au n c0 x).1 y (x.toNat+1) (h.ev ev) (ev.aa.trans hc) (hv.ev ev) d1 d2 jB (.inl hy) d5 he;rw[d4];exact(r1.seq ht (aJ.kT c1 c2 c5) jB jB q1).pre Uc
def tZ{c:Ck}{p:Prop}[Decidable p]{e:Int}(he:e≠0)(h:(if p then c.aG e a else c).e=0):¬p/\(if p then c.aG e a else c)=c:=by
 split at h
 ·exact(mJ he h).elim
 ·rename_i hp;exact⟨hp,if_neg hp⟩
theorem uZ{t:aF}(ht:aL t):∀n,HI t n
 |0=>fun c a lo h hc hv e0 h0 h1 hn=>by omega
 |n+1=>fun c a lo h hc hv e0 h0 h1 hn hr O' he=>by
  have hs:=uZ ht n;have u':(c.af a).node a=nth t.nodes a.toNat:=by unfold Ck.node;show nth c.aa.nodes _=_;rw[hc]
  have sh:=(ht.shape a.toNat jB).1;have kd:∀i,(c.af a).aE a i=nth (nth t.nodes a.toNat).l i:=fun i=>by unfold Ck.aE;rw[u']
  have ev:=qb c a;have h':=h.ev ev;have TD:=ev.aa.trans hc;have Th:=hv.ev ev;suffices hsf:gk t lo a.toNat c (bH (n+1) c a)/\ca (bH (n+1) c a)/\((nth t.nodes a.toNat).kind=15\/(nth t.nodes a.toNat).kind=16\/(nth t.nodes a.toNat).kind=10->((nth t.nodes a.toNat).kind=10\/nth (bH (n+1) c a).types (nth (nth t.nodes a.toNat).l 0).toNat=2)/\1<=nth (bH (n+1) c a).types (nth (nth t.nodes a.toNat).l 0).toNat/\nth (bH (n+1) c a).types (nth (nth t.nodes a.toNat).l 0).toNat<=4) from⟨hsf.1.skip (.inl hr) hsf.2.2,hsf.2.1⟩
  have V9:(nth t.nodes a.toNat).kind=10\/(nth t.nodes a.toNat).kind=11\/(nth t.nodes a.toNat).kind=12\/(nth t.nodes a.toNat).kind=13\/(nth t.nodes a.toNat).kind=14\/(nth t.nodes a.toNat).kind=17\/(nth t.nodes a.toNat).kind=15\/(nth t.nodes a.toNat).kind=16:=by have:eo (nth t.nodes a.toNat).kind:=hr;unfold eo at this;omega
  rcases V9 with k|k|k|k|k|k|k
  ·have e:bH (n+1) c a=o0 (au n) (c.af a) a:=by unfold bH;simp only;rw[u',k];rfl
   obtain⟨x,hl,Vk⟩:=sh.right jB;have S3:(c.af a).aE a 0=x:=by rw[kd,hl];rfl
   rw[e]at he ⊢;rw[tJ]at he ⊢;have he:(dP (au n) (c.af a) a).e=0:=he;obtain⟨_,q1⟩:=tZ jC he;have q1:dP (au n) (c.af a) a=jf (au n) (c.af a) a:=q1;rw[q1]at he;obtain⟨_,q2⟩:=tZ jC he;have q2:jf (au n) (c.af a) a=gC (au n) (c.af a) a:=q2;rw[q2]at he;unfold gC at he;rw[S3]at he;obtain⟨b1,b2⟩:=iD he;simp only[Bool.not_eq_true',decide_eq_false_iff_not]at b1;obtain⟨r1,r2,r3,r4⟩:=xK (c:=c) ht h' TD Th rfl jB hl Vk O' b2;have Uc:(dP (au n) (c.af a) a).types=(au n (c.af a) x).1.types:=by rw[q1,q2];unfold gC;rw[S3,kP]
   refine⟨r1.post Uc,fun v WU=>?_,fun _=>⟨.inl k,by rw[hl];show 1<=nth (dP (au n) (c.af a) a).types x.toNat/\nth (dP (au n) (c.af a) a).types x.toNat<=4;rw[Uc,r4];omega⟩⟩
   have WU:v∈(dP (au n) (c.af a) a).vars++[(⟨((c.af a).node a).name,(au n (c.af a) ((c.af a).aE a 0)).2,(dP (au n) (c.af a) a).size⟩:bP)]:=WU;rcases List.mem_append.1 WU with hm|hm
   ·rw[(wO (dU n) (c.af a) a).vars]at hm;exact Th v hm
   ·rw[List.mem_singleton.1 hm];show 1<=(au n (c.af a) ((c.af a).aE a 0)).2/\(au n (c.af a) ((c.af a).aE a 0)).2<=4;rw[S3];omega
  ·have e:bH (n+1) c a=(au n ((c.af a).named a).1 ((c.af a).aE a 0)).1.ar (decide (((c.af a).named a).2=(au n ((c.af a).named a).1 ((c.af a).aE a 0)).2)) a:=by unfold bH;simp only;rw[u',k];rfl
   obtain⟨x,hl,Vk⟩:=sh.right jB;have S3:(c.af a).aE a 0=x:=by rw[kd,hl];rfl
   rw[e]at he ⊢;rw[S3]at he ⊢;obtain⟨b1,b2⟩:=iD he;have en:=ni (c.af a) a;obtain⟨r1,_⟩:=xK (c:=c) ht (h'.ev en) (en.aa.trans TD) (Th.ev en) (zT _ _) jB hl Vk O' b2;exact⟨r1.post (kP _ _ _),(Th.ev en).ev ((dU n _ _).trans (iW _ _ _)),fun h=>jB⟩
  ·have e:bH (n+1) c a=(au n (au n ((c.af a).named a).1 ((c.af a).aE a 0)).1 ((c.af a).aE a 1)).1.ar (decide (((c.af a).named a).2=4) && decide ((au n ((c.af a).named a).1 ((c.af a).aE a 0)).2=1) && decide ((au n (au n ((c.af a).named a).1 ((c.af a).aE a 0)).1 ((c.af a).aE a 1)).2=1)) a:=by unfold bH;simp only;rw[u',k];rfl
   obtain⟨x,y,hl,S4,Vq⟩:=sh.two jB;have S3:(c.af a).aE a 0=x:=by rw[kd,hl];rfl
   have Te:(c.af a).aE a 1=y:=by rw[kd,hl];rfl
   rw[e]at he ⊢;rw[S3,Te]at he ⊢;obtain⟨b1,b2⟩:=iD he;have en:=ni (c.af a) a;have r1:=N9 (c:=c) ht (h'.ev en) (en.aa.trans TD) (Th.ev en) (zT _ _) jB hl S4 Vq O' jB b2;exact⟨r1.post (kP _ _ _),(Th.ev en).ev (((dU n _ _).trans (dU n _ _)).trans (iW _ _ _)),fun h=>jB⟩
  ·have e:bH (n+1) c a=(au n (c.af a) ((c.af a).aE a 0)).1:=by unfold bH;simp only;rw[u',k];rfl
   obtain⟨x,hl,XU⟩:=sh.nN k;have S3:(c.af a).aE a 0=x:=by rw[kd,hl];rfl
   rw[e]at he ⊢;rw[S3]at he ⊢;obtain⟨r1,_⟩:=xK (c:=c) ht h' TD Th rfl jB hl (by rw[XU];unfold eF;omega) O' he;exact⟨r1,Th.ev (dU n _ _),fun h=>jB⟩
  ·have e:bH (n+1) c a=(au n (c.af a) ((c.af a).aE a 0)).1.ar (!decide ((au n (c.af a) ((c.af a).aE a 0)).2=4)) a:=by unfold bH;simp only;rw[u',k];rfl
   obtain⟨x,hl,S4⟩:=sh.one jB;have S3:(c.af a).aE a 0=x:=by rw[kd,hl];rfl
   rw[e]at he ⊢;rw[S3]at he ⊢;obtain⟨b1,b2⟩:=iD he;obtain⟨r1,_⟩:=xK (c:=c) ht h' TD Th rfl jB hl (.inl S4) O' b2;exact⟨r1.post (kP _ _ _),Th.ev ((dU n _ _).trans (iW _ _ _)),fun h=>jB⟩
  ·have e:bH (n+1) c a=ki (au n) (c.af a) a:=by unfold bH;simp only;rw[u',k];rfl
   rw[e]at he ⊢;unfold ki at he ⊢;rw[u']at he ⊢;simp only at he ⊢;split at he
   ·exact(mJ jC he).elim
   rename_i hf;rw[if_neg hf];rcases sh.ret k with hl|⟨x,hl,S4⟩
   ·rw[hl];rw[if_neg jC];rw[hl]at O';have:lo=a.toNat:=by cases O';rfl
    subst this;exact⟨⟨.same rfl,.none⟩,Th,fun h=>jB⟩
   ·have S3:(c.af a).aE a 0=x:=by rw[kd,hl];rfl
    have Uf:(nth t.nodes a.toNat).l.length=1:=by rw[hl];rfl
    rw[if_pos Uf]at he ⊢;rw[S3]at he ⊢;obtain⟨b1,b2⟩:=iD he;obtain⟨r1,_⟩:=xK (c:=c) ht h' TD Th rfl jB hl (.inl S4) O' b2;exact⟨r1.post (kP _ _ _),Th.ev ((dU n _ _).trans (iW _ _ _)),fun h=>jB⟩
  ·have e:bH (n+1) c a=dt (eL (bH n)) ((au n (c.af a) ((c.af a).aE a 0)).1.ar (decide ((au n (c.af a) ((c.af a).aE a 0)).2=2)) a) (((c.af a).node a).l.drop 1):=by
    unfold bH;simp only;rw[u'];rcases k with k|k<;>rw[k]<;>rfl
   have UY:∃x L,(nth t.nodes a.toNat).l=x::L/\bT (bA t.nodes x)/\∀y∈L,bA t.nodes y=18:=by
    rcases k with k|k
    ·obtain⟨x,y,hx,hy,hl|⟨z,hl,hz⟩⟩:=sh.kI k
     ·exact⟨x,[y],hl,hx,fun u hu=>by rw[List.mem_singleton.1 hu];exact hy⟩
     ·exact⟨x,[y,z],hl,hx,fun u hu=>by
       rcases List.mem_cons.1 hu with rfl|hu
       ·exact hy
       ·rw[List.mem_singleton.1 hu];exact hz⟩
    ·obtain⟨x,y,hl,hx,hy⟩:=sh.dS k;exact⟨x,[y],hl,hx,fun u hu=>by rw[List.mem_singleton.1 hu];exact hy⟩
   obtain⟨x,L,hl,S4,hL⟩:=UY;have S3:(c.af a).aE a 0=x:=by rw[kd,hl];rfl
   rw[e]at he ⊢;rw[u',hl,S3]at he ⊢;have he:(dt (eL (bH n)) ((au n (c.af a) x).1.ar (decide ((au n (c.af a) x).2=2)) a) L).e=0:=he;show gk t lo a.toNat c (dt (eL (bH n)) ((au n (c.af a) x).1.ar (decide ((au n (c.af a) x).2=2)) a) L)/\ca (dt (eL (bH n)) ((au n (c.af a) x).1.ar (decide ((au n (c.af a) x).2=2)) a) L)/\((nth t.nodes a.toNat).kind=15\/(nth t.nodes a.toNat).kind=16\/(nth t.nodes a.toNat).kind=10->((nth t.nodes a.toNat).kind=10\/nth (dt (eL (bH n)) ((au n (c.af a) x).1.ar (decide ((au n (c.af a) x).2=2)) a) L).types (nth (x::L) 0).toNat=2)/\1<=nth (dt (eL (bH n)) ((au n (c.af a) x).1.ar (decide ((au n (c.af a) x).2=2)) a) L).types (nth (x::L) 0).toNat/\nth (dt (eL (bH n)) ((au n (c.af a) x).1.ar (decide ((au n (c.af a) x).2=2)) a) L).types (nth (x::L) 0).toNat<=4);have ex:=(dU n (c.af a) x).trans (iW _ (decide ((au n (c.af a) x).2=2)) a);have TP:=h'.ev ex;have Xn:∀(q:Ck) b,bF q->q.e=0->Sv q (eL (bH n) q b):=fun q b hq _=>(pA (lC n) hq b).1
   have e1:=(oN Xn L _ TP).e0 he;obtain⟨b1,b2⟩:=iD e1;rw[hl]at O';obtain⟨c1,c2,c3,c4,c5,c6⟩:=iM O';obtain⟨r1,r1b,_⟩:=tU ht n (c.af a) x lo h' TD Th c1 c2 jB (.inl S4) c5 b2;obtain⟨r2,v2⟩:=wB ht Xn (C:=fun k=>k=18) (n:=n) (fun q b l g1 g2 g3 _ g5 g6 g7 g8 g9 g10=>yv ht hs q b l g1 g2 g3 g5 g6 jB g8 g9 g10) L _ (x.toNat+1) a.toNat TP (ex.aa.trans TD) (Th.ev ex) jB jB hL c6 he;exact⟨((gk.pre (a:=c) (b:=c.af a) rfl r1).post (kP _ _ _)).seq ht (aJ.kT c1 c2 c5) jB jB r2,v2,fun _=>by show(_\/nth _ x.toNat=2)/\1<=nth _ x.toNat/\nth _ x.toNat<=4;rw[r2.tw x.toNat (.inl jB),kP,r1b];have:=of_decide_eq_true b1;omega⟩
theorem Da{t:aF}(body:Int):∀(ps:List bQ) (c:Ck) (i:Int),ca c->(∀p∈ps,1<=p.ty/\p.ty<=4)->ca (eJ body c ps i)/\(eJ body c ps i).types=c.types/\((eJ body c ps i).e=0->c.e=0)
 |[],c,i,h,hp=>by unfold eJ;exact⟨h,rfl,id⟩
 |p::ps,c,i,h,hp=>by
  have fin:∀c1:Ck,Ev c c1->c1.types=c.types->ca (eJ body (kR c1 ⟨p.name,p.ty,i⟩) ps (i+1))/\(eJ body (kR c1 ⟨p.name,p.ty,i⟩) ps (i+1)).types=c.types/\((eJ body (kR c1 ⟨p.name,p.ty,i⟩) ps (i+1)).e=0->c.e=0):=fun c1 s e=>by
   obtain⟨a,b,d⟩:=Da (t:=t) body ps (kR c1 ⟨p.name,p.ty,i⟩) (i+1) (fun v hv=>by
    have hv:v∈c1.vars++[(⟨p.name,p.ty,i⟩:bP)]:=hv;rcases List.mem_append.1 hv with hv|hv
    ·exact h.ev s v hv
    ·rw[List.mem_singleton.1 hv];exact hp p jE) (fun q hq=>hp q (by simp[hq]))
   exact⟨a,b.trans e,fun hh=>s.e0 (d hh)⟩
  unfold eJ;simp only;split
  ·exact fin _ (mX c jC body) (Bm _ _ _)
  ·exact fin _ (.refl c) rfl
def OB(ht:aL t){c:Ck}(h:fI c)(hc:c.aa=t)(hk:k<t.aq.length)(SY:c.aR.length<6)(O':aJ t.nodes lo (nth t.nodes (nth t.aq k).body.toNat).l (nth t.aq k).body.toNat)(he:(fJ c k).e=0) :
  gk t lo ((nth t.aq k).body.toNat+1) c (fJ c k)/\c.e=0:=by
 have SW:k<c.aa.aq.length:=by rw[hc];exact hk
 have XT:=h.aa.fn _ (er SW);have VI:bF { c with fn:=(k:Int),vars:=[],more:=[],size:=0 }:=⟨h.aa,h.types,h.slots,h.aq,by show c.aR.length<=6;omega,by show(0:Int)<=k;omega,by show(k:Int)<(c.aa.aq.length:Int);omega,by show((0:Nat):Int)<=0;omega,by show(0:Int)<=25;omega,fun _=>by show(0:Int)<=24;omega⟩;obtain⟨a,b,d⟩:=yi (nth c.aa.aq k).body (nth c.aa.aq k).params _ 0 VI (by show(0:Int)+_<=20;omega);obtain⟨a',b',d'⟩:=Da (t:=t) (nth c.aa.aq k).body (nth c.aa.aq k).params { c with fn:=(k:Int),vars:=[],more:=[],size:=0 } 0 (fun v hv=>by simp at hv) XT.1.ps;have Uh:=pw ht hk;have Xm:=ht.body _ (er hk);unfold fJ at he ⊢;simp only at he ⊢;rw[hc]at he ⊢;rw[hc]at a b d a' b' d';split at he
 ·rename_i e1;rw[if_pos e1];obtain⟨r,_⟩:=yv ht (uZ ht t.nodes.length) _ (nth t.aq k).body lo a (b.trans (by rfl)) a' Uh.1 Uh.2 (by have:=Uh.2;have:=Uh.1;omega) Xm O' he;have q:=gk.pre (a:=c) b' r;exact⟨⟨fun k hk=>q.tw k hk,q.all⟩,d' e1⟩
 ·rename_i e1;exact(e1 he).elim
theorem yk{t:aF}(ht:aL t):∀(n i lo:Nat) (c:Ck),fI c->c.aa=t->c.aR.length=i->i+n=t.aq.length->aJ t.nodes lo ((t.aq.drop i).map (·.body)) t.nodes.length->(fO c i n).e=0->
  gk t lo t.nodes.length c (fO c i n)/\(fO c i n).aa=t/\fI (fO c i n)/\(fO c i n).aR.length=t.aq.length
 |0,i,lo,c,h,hc,hs,hi,O',he=>by
  unfold fO;rw[List.drop_eq_nil_of_le jB]at O';have:lo=t.nodes.length:=by cases O';rfl
  subst this;exact⟨⟨.refl _ _ _,.none⟩,hc,h,jB⟩
 |n+1,i,lo,c,h,hc,hs,hi,O',he=>by
  have h6:=ht.aq;unfold fO at he ⊢;by_cases e0:c.e=0
  ·rw[if_pos e0]at he ⊢;have hk:i<t.aq.length:=jB;rw[lG hk]at O';obtain⟨c1,c2,c3,c4,c5,c6⟩:=iM (a:=(nth t.aq i).body) O';obtain⟨f1,f2,f3⟩:=wN h (by rw[hc];exact hk) (by omega:c.aR.length<6);have e1:(fJ c i).e=0:=by
    cases n with
    |zero=>unfold fO at he;exact he
    |succ m=>
     unfold fO at he;split at he
     ·assumption
     ·exact he
   obtain⟨r1,_⟩:=OB ht h hc hk jB c5 e1;obtain⟨r2,q1,q2,q3⟩:=yk ht n (i+1) ((nth t.aq i).body.toNat+1) (fJ c i) f1 (f2.trans hc) jB jB c6 he;exact⟨r1.seq ht (aJ.kT c1 c2 c5) jB jB r2,q1,q2,q3⟩
  ·rw[if_neg e0]at he;exact(e0 he).elim
structure qe(p:ab):Prop where
 aa:aL p.aa
 types:p.types.length=p.aa.nodes.length
 slots:p.slots.length=p.aa.nodes.length
 fn:p.fn.length=p.aa.nodes.length
 size:p.size.length=p.aa.aq.length
 ty:gb p.aa p.types 0 p.aa.nodes.length
def AR(ht:aL t):fI (jh (jM t))/\(jh (jM t)).aa=t/\(jh (jM t)).aR=[]:=by
 have ev:=Eo (jM t);refine⟨⟨by rw[ev.aa];exact ht,?_,?_,?_⟩,ev.aa,ev.aR⟩
 ·rw[ev.types,ev.aa];show(t.nodes.map _).length=t.nodes.length;simp
 ·rw[ev.slots,ev.aa];show(t.nodes.map _).length=t.nodes.length;simp
 ·rw[ev.aq,ev.aa];show(t.nodes.map _).length=t.nodes.length;simp
def AM(ht:aL t)(he:(ij t).2.2=0):qe (ij t).1/\(ij t).1.aa=t:=by
 unfold ij at he ⊢;split at he
 ·rename_i h;exact(h he).elim
 rename_i h;rw[if_neg h];have h:(iu t).e=0:=jB;obtain⟨i1,i2,i3⟩:=AR ht;obtain⟨r,q1,q2,q3⟩:=yk ht t.aq.length 0 0 (jh (jM t)) i1 i2 (by rw[i3];rfl) jB (by rw[List.drop_zero];exact ht.chain) h;refine⟨⟨q2.aa,q2.types,q2.slots,q2.aq,?_,?_⟩,q1⟩
 ·show(iu t).aR.length=(iu t).aa.aq.length;have e:(iu t).aa=t:=q1;rw[e];exact q3
 ·show gb (iu t).aa (iu t).types 0 (iu t).aa.nodes.length;have e:(iu t).aa=t:=q1;rw[e];exact r.all
def KN{s:SK}(he:(gy s).2.2=0):qe (gy s).1:=by
 unfold gy at he ⊢;split at he
 ·rename_i h;exact(h he).elim
 rename_i h;rw[if_neg h];have h:(gP s).2.2=0:=jB;simp only at he ⊢;split at he
 ·cases he
 rename_i h2;split at he
 ·rename_i h3;exact(h3 he).elim
 rename_i h3;rw[if_neg h2,if_neg h3];exact(AM (xS h) jB).1
def iH(k:Int):Prop:=k=4\/k=5\/k=10\/k=11\/k=12
def ct(c:Ck):Prop:=0<=c.size/\∀v∈c.vars,0<=v.slot/\v.slot<c.size
structure fQ(t:aF)(lo hi:Nat)(c c':Ck):Prop where
 sw:∀k,(k<lo\/hi<=k)->nth c'.slots k=nth c.slots k
 all:∀k,lo<=k->k<hi->iH (nth t.nodes k).kind->0<=nth c'.slots k/\nth c'.slots k<c'.size
 size:c.size<=c'.size
def fQ.post{a c:Ck}(h:fQ t lo hi a b)(e:c.slots=b.slots)(z:c.size=b.size):fQ t lo hi a c:=⟨fun k hk=>by rw[e];exact h.sw k hk,fun k h1 h2 h3=>by rw[e,z];exact h.all k h1 h2 h3,by rw[z];exact h.size⟩
def fQ.pre{a c:Ck}(e:b.slots=a.slots)(z:b.size=a.size)(h:fQ t lo hi b c):fQ t lo hi a c:=⟨fun k hk=>by rw[<-e];exact h.sw k hk,h.all,by rw[<-z];exact h.size⟩
def fQ.refl(t:aF)(lo:Nat)(c:Ck):fQ t lo lo c c:=⟨fun _ _=>rfl,fun k h1 h2=>jB,Int.le_refl _⟩
def fQ.seq{a c:Ck}(h0:lo<=fA)(h1:fA<=hi)(h:fQ t lo fA a b)(k:fQ t fA hi b c):fQ t lo hi a c:=by
 have:=k.size;refine⟨fun i UN=>(k.sw i jB).trans (h.sw i jB),fun i g1 g2 g3=>?_,by have:=h.size;omega⟩;by_cases e:i<fA
 ·rw[k.sw i (.inl e)];have:=h.all i g1 e g3;omega
 ·exact k.all i jB g2 g3
def fQ.node{c:Ck}(h:fQ t lo n c c')(hn:iH (nth t.nodes n).kind->0<=nth c'.slots n/\nth c'.slots n<c'.size):fQ t lo (n+1) c c':=
 ⟨fun k hk=>h.sw k jB,fun k h1 h2 h3=>by
  by_cases e:k<n
  ·exact h.all k h1 e h3
  ·have:k=n:=jB;subst this;exact hn h3,h.size⟩
def IN(c:Ck)(e a:Int):(c.aG e a).slots=c.slots/\(c.aG e a).size=c.size:=by unfold Ck.aG;split<;>exact⟨rfl,rfl⟩
def rH(c:Ck)(b:Bool)(a:Int):(c.ar b a).slots=c.slots/\(c.ar b a).size=c.size:=by unfold Ck.ar;split;exact⟨rfl,rfl⟩;exact IN _ _ _
theorem fQ.ar{t:aF}{lo hi:Nat}{a c:Ck}{b:Bool}{x:Int}(h:fQ t lo hi a c):fQ t lo hi a (c.ar b x):=h.post (rH c b x).1 (rH c b x).2
def ct.ev{c:Ck}(h:ct c)(s:Ev c c'):ct c':=by unfold ct;rw[s.vars,s.size];exact h
def Bl{c:Ck}(h:ct c)(hn:a.toNat=n)(hl:n<c.slots.length)(he:(c.named a).1.e=0):(∀k,k≠n->nth (c.named a).1.slots k=nth c.slots k)/\0<=nth (c.named a).1.slots n/\nth (c.named a).1.slots n<c.size:=by
 unfold Ck.named at he ⊢;split
 ·rename_i hf;rw[if_pos hf]at he;exact(mJ jC he).elim
 ·rename_i hf;have hv:nth c.vars (c.find (c.node a).name).toNat∈c.vars:=by
   rcases xO bP.name (c.node a).name c.vars 0 jB with⟨h1,_⟩|h1
   ·exact(hf (by show gx bP.name (c.node a).name c.vars 0<0;rw[h1];decide)).elim
   ·exact er (by show(gx bP.name (c.node a).name c.vars 0).toNat<_;omega)
  have hs:∀k,nth (c.slot a (nth c.vars (c.find (c.node a).name).toNat).slot).slots k=if n=k/\k<c.slots.length then(nth c.vars (c.find (c.node a).name).toNat).slot else nth c.slots k:=fun k=>by show nth (c.slots.set a.toNat _) k=_;rw[pz,hn]
  refine⟨fun k hk=>by show nth (c.slot a _).slots k=_;rw[hs,jN],?_⟩;show 0<=nth (c.slot a _).slots n/\nth (c.slot a _).slots n<_;rw[hs,if_pos ⟨rfl,hl⟩];exact h.2 _ hv
def GK(t:aF)(n:Nat):Prop:=∀(c:Ck) (a:Int) (lo:Nat),bF c->c.aa=t->ct c->0<=a->a<t.nodes.length->a.toNat<n->eF (bA t.nodes a)->aJ t.nodes lo (nth t.nodes a.toNat).l a.toNat->(au n c a).1.e=0->fQ t lo (a.toNat+1) c (au n c a).1
theorem GH{t:aF}{n:Nat}(hx:GK t n):∀(L:SI) (c:Ck) (ts:SI) (lo hi:Nat),bF c->c.aa=t->ct c->hi<=n->(∀x∈L,eF (bA t.nodes x))->aJ t.nodes lo L hi->(fV (au n) c L ts).1.e=0->fQ t lo hi c (fV (au n) c L ts).1
 |[],c,ts,lo,hi,h,hc,hv,hn,hr,O',he=>by cases O';unfold fV;exact .refl _ _ _
 |a::L,c,ts,lo,hi,h,hc,hv,hn,hr,O',he=>by have e0:=(rp (dU n) (a::L) c ts).e0 he;unfold fV at he ⊢;rw[if_pos e0]at he ⊢;obtain⟨c1,c2,c3,c4,c5,c6⟩:=iM O';have ev:=dU n c a;have e1:=(rp (dU n) L _ _).e0 he;have r1:=hx c a lo h hc hv c1 c2 jB (hr a jE) c5 e1;exact r1.seq jB jB (GH hx L _ _ _ hi (h.ev ev) (ev.aa.trans hc) (hv.ev ev) hn (fun x hx=>hr x (by simp[hx])) c6 he)
theorem Fo(a:Int):∀(ts:SI) (ps:List bQ) (c:Ck),(gY a c ts ps).slots=c.slots/\(gY a c ts ps).size=c.size
 |[],ps,c=>by rw[sR];exact⟨rfl,rfl⟩
 |_::_,[],c=>by rw[sN];exact⟨rfl,rfl⟩
 |x::ts,p::ps,c=>by
  unfold gY;split
  ·have:=Fo a ts ps (c.ar (decide (x=p.ty)) a);exact⟨this.1.trans (rH _ _ _).1,this.2.trans (rH _ _ _).2⟩
  ·exact⟨rfl,rfl⟩
theorem wc{t:aF}(ht:aL t):∀n,GK t n
 |0=>fun c a lo h hc hv h0 h1 hn=>by omega
 |n+1=>fun c a lo h hc hv h0 h1 hn hr O' he=>by
  have hx:=wc ht n;have e0:=(dU (n+1) c a).e0 he;unfold au at he ⊢;rw[jN]at he ⊢;simp only at he ⊢;have he:(cn (au n) c a).1.e=0:=he;have u':c.node a=nth t.nodes a.toNat:=by unfold Ck.node;rw[hc]
  have sh:=(ht.shape a.toNat jB).1;suffices hs:fQ t lo (a.toNat+1) c (cn (au n) c a).1 from hs.post rfl rfl
  have SU:=O'.le;have leaf:(nth t.nodes a.toNat).l=[]->fQ t lo a.toNat c c:=fun hl=>by
   rw[hl]at O';have:lo=a.toNat:=by cases O';rfl
   subst this;exact .refl _ _ _
  have kid1:∀x,(nth t.nodes a.toNat).l=[x]->eF (bA t.nodes x)->(au n c x).1.e=0->fQ t lo a.toNat c (au n c x).1:=fun x hl Vk S4=>by rw[hl]at O';obtain⟨c1,c2,c3,c4,c5⟩:=kq O';rw[c4];exact hx c x lo h hc hv c1 c2 jB Vk c5 S4
  have kd:∀i,c.aE a i=nth (nth t.nodes a.toNat).l i:=fun i=>by unfold Ck.aE;rw[u']
  have V9:(nth t.nodes a.toNat).kind=1\/(nth t.nodes a.toNat).kind=2\/(nth t.nodes a.toNat).kind=3\/(nth t.nodes a.toNat).kind=4\/(nth t.nodes a.toNat).kind=5\/(nth t.nodes a.toNat).kind=6\/(nth t.nodes a.toNat).kind=7\/(nth t.nodes a.toNat).kind=8\/(nth t.nodes a.toNat).kind=9\/(nth t.nodes a.toNat).kind=19\/(nth t.nodes a.toNat).kind=20\/(nth t.nodes a.toNat).kind=21:=by have:eF (nth t.nodes a.toNat).kind:=hr;unfold eF bT at this;omega
  have Td:∀{q:Prop},¬((nth t.nodes a.toNat).kind=4\/(nth t.nodes a.toNat).kind=5)->iH (nth t.nodes a.toNat).kind->q:=fun h1 h2=>by unfold iH at h2;have:eF (nth t.nodes a.toNat).kind:=hr;unfold eF bT at this;omega
  have Tr:a.toNat<c.slots.length:=by rw[h.slots,hc];omega
  rcases V9 with k|k|k|k|k|k|k|k|k|k|k|k
  ·have e:cn (au n) c a=(c,1):=by unfold cn;simp only;rw[u',k];rfl
   rw[e];exact(leaf (sh.zero jB)).node (Td jB)
  ·have e:cn (au n) c a=(c,2):=by unfold cn;simp only;rw[u',k];rfl
   rw[e];exact(leaf (sh.zero jB)).node (Td jB)
  ·have e:cn (au n) c a=(c,3):=by unfold cn;simp only;rw[u',k];rfl
   rw[e];exact(leaf (sh.zero jB)).node (Td jB)
  ·have e:cn (au n) c a=c.named a:=by unfold cn;simp only;rw[u',k];rfl
   rw[e]at he ⊢;obtain⟨g1,g2⟩:=Bl hv rfl Tr he;have hz:=(ni c a).size;have hl:=sh.zero jB;rw[hl]at O';have:lo=a.toNat:=by cases O';rfl
   subst this;exact⟨fun k hk=>g1 k jB,fun k h1 h2 _=>by have:k=a.toNat:=jB;subst this;rw[hz];exact g2,by rw[hz];exact Int.le_refl _⟩
  ·have e:cn (au n) c a=((au n (c.named a).1 (c.aE a 0)).1.ar (decide ((c.named a).2=4) && decide ((au n (c.named a).1 (c.aE a 0)).2=1)) a,1):=by unfold cn;simp only;rw[u',k];rfl
   obtain⟨x,hl,S4⟩:=sh.one jB;have S3:c.aE a 0=x:=by rw[kd,hl];rfl
   rw[e]at he ⊢;rw[S3]at he ⊢;obtain⟨b1,b2⟩:=iD he;have en:=ni c a;obtain⟨g1,g2⟩:=Bl hv rfl Tr ((dU n _ x).e0 b2);rw[hl]at O';obtain⟨c1,c2,c3,c4,c5⟩:=kq O';have r:=hx (c.named a).1 x lo (h.ev en) (en.aa.trans hc) (hv.ev en) c1 c2 jB (.inl S4) c5 b2;have hz:=en.size;have hrz:=r.size;rw[<-c4]at r;refine fQ.ar ⟨fun k hk=>(r.sw k jB).trans (g1 k jB),fun k h1 h2 h3=>?_,jB⟩;by_cases Y6:k<a.toNat
   ·exact r.all k h1 Y6 h3
   ·have:k=a.toNat:=jB;subst this;rw[r.sw _ (.inr jB)];omega
  ·have e:cn (au n) c a=((au n c (c.aE a 0)).1.ar (decide ((au n c (c.aE a 0)).2=3) || decide ((au n c (c.aE a 0)).2=4)) a,1):=by unfold cn;simp only;rw[u',k];rfl
   obtain⟨x,hl,S4⟩:=sh.one jB;have S3:c.aE a 0=x:=by rw[kd,hl];rfl
   rw[e]at he ⊢;rw[S3]at he ⊢;exact((kid1 x hl (.inl S4) (iD he).2).ar).node (Td jB)
  ·have e:cn (au n) c a=((au n c (c.aE a 0)).1.ar (decide ((au n c (c.aE a 0)).2=1)) a,1):=by unfold cn;simp only;rw[u',k];rfl
   obtain⟨x,hl,S4⟩:=sh.one jB;have S3:c.aE a 0=x:=by rw[kd,hl];rfl
   rw[e]at he ⊢;rw[S3]at he ⊢;exact((kid1 x hl (.inl S4) (iD he).2).ar).node (Td jB)
  ·have e:cn (au n) c a=((au n c (c.aE a 0)).1.ar (decide ((au n c (c.aE a 0)).2=2)) a,2):=by unfold cn;simp only;rw[u',k];rfl
   obtain⟨x,hl,S4⟩:=sh.one jB;have S3:c.aE a 0=x:=by rw[kd,hl];rfl
   rw[e]at he ⊢;rw[S3]at he ⊢;exact((kid1 x hl (.inl S4) (iD he).2).ar).node (Td jB)
  ·have e:cn (au n) c a=((au n (au n c (c.aE a 0)).1 (c.aE a 1)).1.ar (!decide (im (c.node a).name (au n c (c.aE a 0)).2 (au n (au n c (c.aE a 0)).1 (c.aE a 1)).2=0)) a,im (c.node a).name (au n c (c.aE a 0)).2 (au n (au n c (c.aE a 0)).1 (c.aE a 1)).2):=by unfold cn;simp only;rw[u',k];rfl
   obtain⟨x,y,hl,S4,Vq⟩:=sh.two jB;have S3:c.aE a 0=x:=by rw[kd,hl];rfl
   have Te:c.aE a 1=y:=by rw[kd,hl];rfl
   rw[e]at he ⊢;rw[S3,Te]at he ⊢;obtain⟨b1,b2⟩:=iD he;have ev:=dU n c x;rw[hl]at O';obtain⟨c1,c2,c3,c4,c5,c6⟩:=iM O';obtain⟨d1,d2,d3,d4,d5⟩:=kq c6;have r1:=hx c x lo h hc hv c1 c2 jB (.inl S4) c5 ((dU n _ y).e0 b2);have r2:=hx (au n c x).1 y (x.toNat+1) (h.ev ev) (ev.aa.trans hc) (hv.ev ev) d1 d2 jB (.inl Vq) d5 b2;rw[<-d4]at r2;exact((r1.seq jB jB r2).ar).node (Td jB)
  ·have e:cn (au n) c a=(c,1):=by unfold cn;simp only;rw[u',k];rfl
   rw[e];exact(leaf (sh.zero jB)).node (Td jB)
  ·have e:cn (au n) c a=((au n c (c.aE a 0)).1.ar (decide ((au n c (c.aE a 0)).2=1)) a,4):=by unfold cn;simp only;rw[u',k];rfl
   obtain⟨x,hl,S4⟩:=sh.one jB;have S3:c.aE a 0=x:=by rw[kd,hl];rfl
   rw[e]at he ⊢;rw[S3]at he ⊢;exact((kid1 x hl (.inl S4) (iD he).2).ar).node (Td jB)
  ·have e:cn (au n) c a=gM (au n) c a:=by unfold cn;simp only;rw[u',k];rfl
   rw[e]at he ⊢;have Tn:=sh.call k;unfold gM at he ⊢;split at he
   ·exact(mJ jC he).elim
   rename_i hf;rw[if_neg hf];simp only at he ⊢;have e1:=(Ag a _ _ _).e0 he;split at e1
   ·exact(mJ jC e1).elim
   rename_i hl;rw[if_neg hl];have r:=GH hx (c.node a).l c [] lo a.toNat h hc hv jB (fun x Tg=>.inl (Tn x (by rw[<-u'];exact Tg))) (by rw[u'];exact O') e1;have q:=Fo a (fV (au n) c (c.node a).l []).2 (nth c.aa.aq (fD c a).toNat).params (fV (au n) c (c.node a).l []).1;exact(r.post q.1 q.2).node (Td jB)
def EZ(t:aF)(n:Nat):Prop:=∀(c:Ck) (a:Int) (lo:Nat),bF c->c.aa=t->ct c->c.e=0->0<=a->a<t.nodes.length->a.toNat<n->eo (bA t.nodes a)->aJ t.nodes lo (nth t.nodes a.toNat).l a.toNat->(bH n c a).e=0->
 fQ t lo (a.toNat+1) c (bH n c a)/\ct (bH n c a)
theorem xh{t:aF}{st:Ck->Int->Ck}{C:Int->Prop}{n:Nat}(hs:∀c a,bF c->c.e=0->Sv c (st c a))
  (P':∀(c:Ck) (a:Int) (lo:Nat),bF c->c.aa=t->ct c->c.e=0->0<=a->a<t.nodes.length->a.toNat<n->C (bA t.nodes a)->aJ t.nodes lo (nth t.nodes a.toNat).l a.toNat->(st c a).e=0->fQ t lo (a.toNat+1) c (st c a)/\ct (st c a)) :
  ∀(L:SI) (c:Ck) (lo hi:Nat),bF c->c.aa=t->ct c->hi<=n->(∀x∈L,C (bA t.nodes x))->aJ t.nodes lo L hi->(dt st c L).e=0->fQ t lo hi c (dt st c L)/\ct (dt st c L)
 |[],c,lo,hi,h,hc,hv,hn,hr,O',he=>by cases O';unfold dt;exact⟨.refl _ _ _,hv⟩
 |a::L,c,lo,hi,h,hc,hv,hn,hr,O',he=>by have e0:=(oN hs (a::L) c h).e0 he;unfold dt at he ⊢;rw[if_pos e0]at he ⊢;obtain⟨c1,c2,c3,c4,c5,c6⟩:=iM O';have s:=hs c a h e0;have e1:=(oN hs L _ s.inv).e0 he;obtain⟨r1,v1⟩:=P' c a lo h hc hv e0 c1 c2 jB (hr a jE) c5 e1;obtain⟨r2,v2⟩:=xh hs P' L _ _ hi s.inv (s.aa.trans hc) v1 hn (fun x hx=>hr x (by simp[hx])) c6 he;exact⟨r1.seq jB jB r2,v2⟩
def zX(ht:aL t)(P':EZ t n)(c:Ck)(a:Int)(lo:Nat)(h:bF c)(hc:c.aa=t)(hv:ct c)(h0:0<=a)(h1:a<t.nodes.length)(hn:a.toNat<=n)(hk:bA t.nodes a=18)(O':aJ t.nodes lo (nth t.nodes a.toNat).l a.toNat)(he:(eL (bH n) c a).e=0) :
  fQ t lo (a.toNat+1) c (eL (bH n) c a)/\ct (eL (bH n) c a):=by
 have sv:=pA (lC n) h a;have u':c.node a=nth t.nodes a.toNat:=by unfold Ck.node;rw[hc]
 have hb:=(ht.shape a.toNat jB).1.block hk;have ev:=qb c a;obtain⟨r,_⟩:=xh (lC n) (C:=eo) P' (c.node a).l (c.af a) lo a.toNat (h.ev ev) (ev.aa.trans hc) (hv.ev ev) hn (fun x hx=>hb x (by rw[<-u'];exact hx)) (by rw[u'];exact O') he;have r:fQ t lo a.toNat c (eL (bH n) c a):=fQ.post (b:=dt (bH n) (c.af a) (c.node a).l) (fQ.pre (a:=c) (b:=c.af a) rfl rfl r) rfl rfl;have Wu:(nth t.nodes a.toNat).kind=18:=hk;refine⟨r.node (fun h=>by unfold iH at h;omega),?_⟩;have hz:=r.size;refine⟨by have:=hv.1;omega,fun v Th=>?_⟩;rw[sv.2]at Th;have:=hv.2 v Th;omega
def wE(ht:aL t)(h:bF c0)(hc:c0.aa=t)(hv:ct c0)(hn:a.toNat<=n)(hl:(nth t.nodes a.toNat).l=[x])(hx:eF (bA t.nodes x))(O':aJ t.nodes lo (nth t.nodes a.toNat).l a.toNat)(he:(au n c0 x).1.e=0) :
  fQ t lo a.toNat c0 (au n c0 x).1:=by
 rw[hl]at O';obtain⟨c1,c2,c3,c4,c5⟩:=kq O';rw[c4];exact wc ht n c0 x lo h hc hv c1 c2 jB hx c5 he
def Ie(ht:aL t){y:Int}(h:bF c0)(hc:c0.aa=t)(hv:ct c0)(hn:a.toNat<=n)(hl:(nth t.nodes a.toNat).l=[x,y])(hx:bT (bA t.nodes x))(hy:bT (bA t.nodes y))(O':aJ t.nodes lo (nth t.nodes a.toNat).l a.toNat)(he:(au n (au n c0 x).1 y).1.e=0) :
  fQ t lo a.toNat c0 (au n (au n c0 x).1 y).1:=by
 rw[hl]at O';obtain⟨c1,c2,c3,c4,c5,c6⟩:=iM O';obtain⟨d1,d2,d3,d4,d5⟩:=kq c6;have ev:=dU n c0 x;have r1:=wc ht n c0 x lo h hc hv c1 c2 jB (.inl hx) c5 ((dU n _ y).e0 he);have q1:=wc ht n (au n c0 x).1 y (x.toNat+1) (h.ev ev) (ev.aa.trans hc) (hv.ev ev) d1 d2 jB (.inl hy) d5 he;rw[d4];exact r1.seq jB jB q1
def E5{c:Ck}(h:bF c)(hc:c.aa=t)(hv:ct c)(h1:a<t.nodes.length)(h0:0<=a)(SU:lo<=a.toNat)(he:(c.named a).1.e=0)(r:fQ t lo a.toNat (c.named a).1 c'):fQ t lo (a.toNat+1) c c':=by
 have Tr:a.toNat<c.slots.length:=by rw[h.slots,hc];omega
 obtain⟨g1,g2⟩:=Bl hv rfl Tr he;have hz:=(ni c a).size;have hrz:=r.size;refine⟨fun k hk=>(r.sw k jB).trans (g1 k jB),fun k h1 h2 h3=>?_,jB⟩;by_cases Y6:k<a.toNat
 ·exact r.all k h1 Y6 h3
 ·have:k=a.toNat:=jB;subst this;rw[r.sw _ (.inr jB)];omega
theorem uW{t:aF}(ht:aL t):∀n,EZ t n
 |0=>fun c a lo h hc hv e0 h0 h1 hn=>by omega
 |n+1=>fun c a lo h hc hv e0 h0 h1 hn hr O' he=>by
  have hs:=uW ht n;have u':(c.af a).node a=nth t.nodes a.toNat:=by unfold Ck.node;show nth c.aa.nodes _=_;rw[hc]
  have sh:=(ht.shape a.toNat jB).1;have kd:∀i,(c.af a).aE a i=nth (nth t.nodes a.toNat).l i:=fun i=>by unfold Ck.aE;rw[u']
  have ev:=qb c a;have h':=h.ev ev;have TD:=ev.aa.trans hc;have Th:=hv.ev ev;have SU:=O'.le;have kr:∀{hi:Nat} {c':Ck},fQ t lo hi (c.af a) c'->fQ t lo hi c c':=fun r=>fQ.pre (a:=c) (b:=c.af a) rfl rfl r
  have Td:∀{q:Prop},¬((nth t.nodes a.toNat).kind=10\/(nth t.nodes a.toNat).kind=11\/(nth t.nodes a.toNat).kind=12)->iH (nth t.nodes a.toNat).kind->q:=fun h1 h2=>by unfold iH at h2;have:eo (nth t.nodes a.toNat).kind:=hr;unfold eo at this;omega
  have V9:(nth t.nodes a.toNat).kind=10\/(nth t.nodes a.toNat).kind=11\/(nth t.nodes a.toNat).kind=12\/(nth t.nodes a.toNat).kind=13\/(nth t.nodes a.toNat).kind=14\/(nth t.nodes a.toNat).kind=17\/(nth t.nodes a.toNat).kind=15\/(nth t.nodes a.toNat).kind=16:=by have:eo (nth t.nodes a.toNat).kind:=hr;unfold eo at this;omega
  rcases V9 with k|k|k|k|k|k|k
  ·have e:bH (n+1) c a=o0 (au n) (c.af a) a:=by unfold bH;simp only;rw[u',k];rfl
   obtain⟨x,hl,Vk⟩:=sh.right jB;have S3:(c.af a).aE a 0=x:=by rw[kd,hl];rfl
   rw[e]at he ⊢;rw[tJ]at he ⊢;have he:(dP (au n) (c.af a) a).e=0:=he;have Vh:=wO (dU n) (c.af a) a;have TP:=h'.ev Vh;have Ya:=Th.ev Vh;obtain⟨_,q1⟩:=tZ jC he;have q1:dP (au n) (c.af a) a=jf (au n) (c.af a) a:=q1;rw[q1]at he;obtain⟨_,q2⟩:=tZ jC he;have q2:jf (au n) (c.af a) a=gC (au n) (c.af a) a:=q2;rw[q2]at he;unfold gC at he;rw[S3]at he;obtain⟨b1,b2⟩:=iD he;have r1:=(wE ht h' TD Th jB hl Vk O' b2);have Uc:(dP (au n) (c.af a) a).slots=(au n (c.af a) x).1.slots:=by rw[q1,q2];unfold gC;rw[S3];exact(rH _ _ _).1
   have SY:(dP (au n) (c.af a) a).size=(au n (c.af a) x).1.size:=by rw[q1,q2];unfold gC;rw[S3];exact(rH _ _ _).2
   have r2:=kr (r1.post Uc SY);have Tr:a.toNat<(dP (au n) (c.af a) a).slots.length:=by rw[TP.slots,Vh.aa,TD];omega
   have h0z:=Ya.1;have VT:∀i,nth ((dP (au n) (c.af a) a).slots.set a.toNat (dP (au n) (c.af a) a).size) i=if a.toNat=i/\i<(dP (au n) (c.af a) a).slots.length then(dP (au n) (c.af a) a).size else nth (dP (au n) (c.af a) a).slots i:=fun i=>pz _ _ _ _
   refine⟨⟨fun i hi=>?_,fun i h1 h2 h3=>?_,?_⟩,?_,fun v WU=>?_⟩
   ·show nth ((dP (au n) (c.af a) a).slots.set a.toNat _) i=_;rw[VT,jN];exact r2.sw i jB
   ·show 0<=nth ((dP (au n) (c.af a) a).slots.set a.toNat _) i/\nth ((dP (au n) (c.af a) a).slots.set a.toNat _) i<(dP (au n) (c.af a) a).size+1;rw[VT];by_cases hia:i<a.toNat
    ·rw[jN];have:=r2.all i h1 hia h3;omega
    ·rw[if_pos ⟨jB,jB⟩];omega
   ·show _<=(dP (au n) (c.af a) a).size+1;have:=r2.size;omega
   ·show 0<=(dP (au n) (c.af a) a).size+1;omega
   ·show 0<=v.slot/\v.slot<(dP (au n) (c.af a) a).size+1;have WU:v∈(dP (au n) (c.af a) a).vars++[(⟨((c.af a).node a).name,(au n (c.af a) ((c.af a).aE a 0)).2,(dP (au n) (c.af a) a).size⟩:bP)]:=WU;rcases List.mem_append.1 WU with hm|hm
    ·have:=Ya.2 v hm;omega
    ·rw[List.mem_singleton.1 hm];show 0<=(dP (au n) (c.af a) a).size/\(dP (au n) (c.af a) a).size<_;omega
  ·have e:bH (n+1) c a=(au n ((c.af a).named a).1 ((c.af a).aE a 0)).1.ar (decide (((c.af a).named a).2=(au n ((c.af a).named a).1 ((c.af a).aE a 0)).2)) a:=by unfold bH;simp only;rw[u',k];rfl
   obtain⟨x,hl,Vk⟩:=sh.right jB;have S3:(c.af a).aE a 0=x:=by rw[kd,hl];rfl
   rw[e]at he ⊢;rw[S3]at he ⊢;obtain⟨b1,b2⟩:=iD he;have en:=ni (c.af a) a;have r1:=wE ht (h'.ev en) (en.aa.trans TD) (Th.ev en) jB hl Vk O' b2;exact⟨kr ((E5 h' TD Th h1 h0 SU ((dU n _ x).e0 b2) r1).ar),(Th.ev en).ev ((dU n _ _).trans (iW _ _ _))⟩
  ·have e:bH (n+1) c a=(au n (au n ((c.af a).named a).1 ((c.af a).aE a 0)).1 ((c.af a).aE a 1)).1.ar (decide (((c.af a).named a).2=4) && decide ((au n ((c.af a).named a).1 ((c.af a).aE a 0)).2=1) && decide ((au n (au n ((c.af a).named a).1 ((c.af a).aE a 0)).1 ((c.af a).aE a 1)).2=1)) a:=by unfold bH;simp only;rw[u',k];rfl
   obtain⟨x,y,hl,S4,Vq⟩:=sh.two jB;have S3:(c.af a).aE a 0=x:=by rw[kd,hl];rfl
   have Te:(c.af a).aE a 1=y:=by rw[kd,hl];rfl
   rw[e]at he ⊢;rw[S3,Te]at he ⊢;obtain⟨b1,b2⟩:=iD he;have en:=ni (c.af a) a;have r1:=Ie ht (h'.ev en) (en.aa.trans TD) (Th.ev en) jB hl S4 Vq O' b2;exact⟨kr ((E5 h' TD Th h1 h0 SU ((dU n _ x).e0 ((dU n _ y).e0 b2)) r1).ar),(Th.ev en).ev (((dU n _ _).trans (dU n _ _)).trans (iW _ _ _))⟩
  ·have e:bH (n+1) c a=(au n (c.af a) ((c.af a).aE a 0)).1:=by unfold bH;simp only;rw[u',k];rfl
   obtain⟨x,hl,XU⟩:=sh.nN k;have S3:(c.af a).aE a 0=x:=by rw[kd,hl];rfl
   rw[e]at he ⊢;rw[S3]at he ⊢;have r1:=wE ht h' TD Th jB hl (by rw[XU];unfold eF;omega) O' he;exact⟨(kr r1).node (Td jB),Th.ev (dU n _ _)⟩
  ·have e:bH (n+1) c a=(au n (c.af a) ((c.af a).aE a 0)).1.ar (!decide ((au n (c.af a) ((c.af a).aE a 0)).2=4)) a:=by unfold bH;simp only;rw[u',k];rfl
   obtain⟨x,hl,S4⟩:=sh.one jB;have S3:(c.af a).aE a 0=x:=by rw[kd,hl];rfl
   rw[e]at he ⊢;rw[S3]at he ⊢;obtain⟨b1,b2⟩:=iD he;have r1:=wE ht h' TD Th jB hl (.inl S4) O' b2;exact⟨((kr r1).ar).node (Td jB),Th.ev ((dU n _ _).trans (iW _ _ _))⟩
  ·have e:bH (n+1) c a=ki (au n) (c.af a) a:=by unfold bH;simp only;rw[u',k];rfl
   rw[e]at he ⊢;unfold ki at he ⊢;rw[u']at he ⊢;simp only at he ⊢;split at he
   ·exact(mJ jC he).elim
   rename_i hf;rw[if_neg hf];rcases sh.ret k with hl|⟨x,hl,S4⟩
   ·rw[hl];rw[if_neg jC];rw[hl]at O';have:lo=a.toNat:=by cases O';rfl
    subst this;exact⟨(kr (fQ.refl t a.toNat (c.af a))).node (Td jB),Th⟩
   ·have S3:(c.af a).aE a 0=x:=by rw[kd,hl];rfl
    have Uf:(nth t.nodes a.toNat).l.length=1:=by rw[hl];rfl
    rw[if_pos Uf]at he ⊢;rw[S3]at he ⊢;obtain⟨b1,b2⟩:=iD he;have r1:=wE ht h' TD Th jB hl (.inl S4) O' b2;exact⟨((kr r1).ar).node (Td jB),Th.ev ((dU n _ _).trans (iW _ _ _))⟩
  ·have e:bH (n+1) c a=dt (eL (bH n)) ((au n (c.af a) ((c.af a).aE a 0)).1.ar (decide ((au n (c.af a) ((c.af a).aE a 0)).2=2)) a) (((c.af a).node a).l.drop 1):=by
    unfold bH;simp only;rw[u'];rcases k with k|k<;>rw[k]<;>rfl
   have UY:∃x L,(nth t.nodes a.toNat).l=x::L/\bT (bA t.nodes x)/\∀y∈L,bA t.nodes y=18:=by
    rcases k with k|k
    ·obtain⟨x,y,hx,hy,hl|⟨z,hl,hz⟩⟩:=sh.kI k
     ·exact⟨x,[y],hl,hx,fun u hu=>by rw[List.mem_singleton.1 hu];exact hy⟩
     ·exact⟨x,[y,z],hl,hx,fun u hu=>by
       rcases List.mem_cons.1 hu with rfl|hu
       ·exact hy
       ·rw[List.mem_singleton.1 hu];exact hz⟩
    ·obtain⟨x,y,hl,hx,hy⟩:=sh.dS k;exact⟨x,[y],hl,hx,fun u hu=>by rw[List.mem_singleton.1 hu];exact hy⟩
   obtain⟨x,L,hl,S4,hL⟩:=UY;have S3:(c.af a).aE a 0=x:=by rw[kd,hl];rfl
   rw[e]at he ⊢;rw[u',hl,S3]at he ⊢;have he:(dt (eL (bH n)) ((au n (c.af a) x).1.ar (decide ((au n (c.af a) x).2=2)) a) L).e=0:=he;show fQ t lo (a.toNat+1) c (dt (eL (bH n)) ((au n (c.af a) x).1.ar (decide ((au n (c.af a) x).2=2)) a) L)/\ct (dt (eL (bH n)) ((au n (c.af a) x).1.ar (decide ((au n (c.af a) x).2=2)) a) L);have ex:=(dU n (c.af a) x).trans (iW _ (decide ((au n (c.af a) x).2=2)) a);have TP:=h'.ev ex;have Xn:∀(q:Ck) b,bF q->q.e=0->Sv q (eL (bH n) q b):=fun q b hq _=>(pA (lC n) hq b).1
   have e1:=(oN Xn L _ TP).e0 he;obtain⟨b1,b2⟩:=iD e1;rw[hl]at O';obtain⟨c1,c2,c3,c4,c5,c6⟩:=iM O';have r1:=wc ht n (c.af a) x lo h' TD Th c1 c2 jB (.inl S4) c5 b2;obtain⟨r2,v2⟩:=xh Xn (C:=fun k=>k=18) (n:=n) (fun q b l g1 g2 g3 _ g5 g6 g7 g8 g9 g10=>zX ht hs q b l g1 g2 g3 g5 g6 jB g8 g9 g10) L _ (x.toNat+1) a.toNat TP (ex.aa.trans TD) (Th.ev ex) jB hL c6 he;exact⟨((kr r1.ar).seq jB jB r2).node (Td jB),v2⟩
theorem CF(body:Int):∀(ps:List bQ) (c:Ck) (i:Int),ct c->c.size=i->ct (eJ body c ps i)/\(eJ body c ps i).slots=c.slots/\(eJ body c ps i).size=i+ps.length
 |[],c,i,h,hi=>by unfold eJ;exact⟨h,rfl,by simp;exact hi⟩
 |p::ps,c,i,h,hi=>by
  have fin:∀c1:Ck,Ev c c1->c1.slots=c.slots->ct (eJ body (kR c1 ⟨p.name,p.ty,i⟩) ps (i+1))/\(eJ body (kR c1 ⟨p.name,p.ty,i⟩) ps (i+1)).slots=c.slots/\(eJ body (kR c1 ⟨p.name,p.ty,i⟩) ps (i+1)).size=i+(p::ps).length:=fun c1 s e=>by
   have hz:=s.size;have h1:=h.ev s;have h0:=h.1;obtain⟨a,b,d⟩:=CF body ps (kR c1 ⟨p.name,p.ty,i⟩) (i+1) ⟨by show 0<=c1.size+1;omega,fun v hv=>by
    have hv:v∈c1.vars++[(⟨p.name,p.ty,i⟩:bP)]:=hv;show 0<=v.slot/\v.slot<c1.size+1;rcases List.mem_append.1 hv with hv|hv
    ·have:=h1.2 v hv;omega
    ·rw[List.mem_singleton.1 hv];show 0<=i/\i<_;omega⟩ (by show c1.size+1=i+1;omega)
   exact⟨a,b.trans e,by rw[d,List.length_cons];omega⟩
  unfold eJ;simp only;split
  ·exact fin _ (mX c jC body) (IN _ _ _).1
  ·exact fin _ (.refl c) rfl
structure tA(t:aF)(sl:List Int)(k lo:Nat)(z:Int):Prop where
 vz:((nth t.aq k).params.length:Int)<=z
 hi:z<=24
 all:∀i,lo<=i->i<(nth t.aq k).body.toNat+1->iH (nth t.nodes i).kind->0<=nth sl i/\nth sl i<z
 chain:aJ t.nodes lo (nth t.nodes (nth t.aq k).body.toNat).l (nth t.aq k).body.toNat
def tA.bj{sl sl':SI}{z:Int}(h:tA t sl k lo z)(e:∀i,i<(nth t.aq k).body.toNat+1->nth sl' i=nth sl i):tA t sl' k lo z:=⟨h.vz,h.hi,fun i h1 h2 h3=>by rw[e i h2];exact h.all i h1 h2 h3,h.chain⟩
def E6(ht:aL t){c:Ck}(h:fI c)(hc:c.aa=t)(hk:k<t.aq.length)(SY:c.aR.length<6)(O':aJ t.nodes lo (nth t.nodes (nth t.aq k).body.toNat).l (nth t.aq k).body.toNat)(he:(fJ c k).e=0) :
  (∀i,(i<lo\/(nth t.aq k).body.toNat+1<=i)->nth (fJ c k).slots i=nth c.slots i)/\tA t (fJ c k).slots k lo (fJ c k).size/\(fJ c k).aR=c.aR++[(fJ c k).size]:=by
 have SW:k<c.aa.aq.length:=by rw[hc];exact hk
 have XT:=h.aa.fn _ (er SW);have VI:bF { c with fn:=(k:Int),vars:=[],more:=[],size:=0 }:=⟨h.aa,h.types,h.slots,h.aq,by show c.aR.length<=6;omega,by show(0:Int)<=k;omega,by show(k:Int)<(c.aa.aq.length:Int);omega,by show((0:Nat):Int)<=0;omega,by show(0:Int)<=25;omega,fun _=>by show(0:Int)<=24;omega⟩;obtain⟨a,b,d⟩:=yi (nth c.aa.aq k).body (nth c.aa.aq k).params _ 0 VI (by show(0:Int)+_<=20;omega);obtain⟨a',b',d'⟩:=CF (nth c.aa.aq k).body (nth c.aa.aq k).params { c with fn:=(k:Int),vars:=[],more:=[],size:=0 } 0 ⟨by show(0:Int)<=0;omega,fun v hv=>by simp at hv⟩ rfl;have Uh:=pw ht hk;have Xm:=ht.body _ (er hk);unfold fJ at he ⊢;simp only at he ⊢;rw[hc]at he ⊢;rw[hc]at a b d a' b' d';split at he
 ·rename_i e1;rw[if_pos e1];have sv:=(pA (lC t.nodes.length) a (nth t.aq k).body).1;obtain⟨r,_⟩:=zX ht (uW ht t.nodes.length) _ (nth t.aq k).body lo a (b.trans (by rfl)) a' Uh.1 Uh.2 (by have:=Uh.2;have:=Uh.1;omega) Xm O' he;have q:=fQ.size r;have Ux:=sv.inv.room he;refine⟨fun i hi=>(r.sw i hi).trans (by rw[b']),⟨?_,Ux,r.all,O'⟩,?_⟩
  ·show _<=(eL _ _ _).size;rw[d']at q;omega
  ·show(eL _ _ _).aR++[_]=_;rw[sv.aR,d]
 ·rename_i e1;exact(e1 he).elim
def oK(t:aF)(k:Nat):Nat:=if k=0 then 0 else(nth t.aq (k-1)).body.toNat+1
theorem GN{t:aF}(ht:aL t):∀(n i lo:Nat) (c:Ck),fI c->c.aa=t->c.aR.length=i->i+n=t.aq.length->lo=oK t i->aJ t.nodes lo ((t.aq.drop i).map (·.body)) t.nodes.length->(∀j,j<i->tA t c.slots j (oK t j) (nth c.aR j)/\(nth t.aq j).body.toNat<lo)->(fO c i n).e=0->
  ∀j,j<t.aq.length->tA t (fO c i n).slots j (oK t j) (nth (fO c i n).aR j)
 |0,i,lo,c,h,hc,hs,hi,SU,O',hA,he=>by unfold fO;exact fun j hj=>(hA j jB).1
 |n+1,i,lo,c,h,hc,hs,hi,SU,O',hA,he=>by
  have h6:=ht.aq;unfold fO at he ⊢;by_cases e0:c.e=0
  ·rw[if_pos e0]at he ⊢;have hk:i<t.aq.length:=jB;rw[lG hk]at O';obtain⟨c1,c2,c3,c4,c5,c6⟩:=iM (a:=(nth t.aq i).body) O';obtain⟨f1,f2,f3⟩:=wN h (by rw[hc];exact hk) (by omega:c.aR.length<6);have e1:(fJ c i).e=0:=by
    cases n with
    |zero=>unfold fO at he;exact he
    |succ m=>
     unfold fO at he;split at he
     ·assumption
     ·exact he
   obtain⟨r1,r2,r3⟩:=E6 ht h hc hk jB c5 e1;refine GN ht n (i+1) ((nth t.aq i).body.toNat+1) (fJ c i) f1 (f2.trans hc) jB jB (by unfold oK;rw[jN];rfl) c6 (fun j hj=>?_) he;by_cases U9:j<i
   ·obtain⟨g1,g2⟩:=hA j U9;have hz:nth (fJ c i).aR j=nth c.aR j:=by rw[r3,lM jB]
    rw[hz];exact⟨g1.bj fun q hq=>r1 q (.inl jB),jB⟩
   ·have:j=i:=jB;subst this;have hz:nth (fJ c j).aR j=(fJ c j).size:=by rw[r3,<-hs];exact mn _ _
    rw[hz,<-SU];exact⟨r2,jB⟩
  ·rw[if_neg e0]at he;exact(e0 he).elim
theorem Ec{x:bg}:∀(l:List bg) (c:Ck),(mi x c l).e=0->c.e=0/\∀f∈l,f.name≠x.name
 |[],c,h=>⟨by unfold mi at h;exact h,fun f hf=>by simp at hf⟩
 |f::l,c,h=>by
  unfold mi at h;obtain⟨h1,h2⟩:=Ec l _ h;obtain⟨h3,h4⟩:=tZ jC h1;rw[h4]at h1;exact⟨h1,fun g hg=>by
   rcases List.mem_cons.1 hg with rfl|hg
   ·exact h3
   ·exact h2 g hg⟩
theorem Eb(aq:List bg):∀(n i:Nat) (c:Ck) (m:Bool),i+n=aq.length->(lf aq c m i n).1.e=0->c.e=0/\(∀j,i<=j->j<aq.length->∀f∈aq.take j,f.name≠(nth aq j).name)/\((lf aq c m i n).2=true->m=true\/∃j,j<aq.length/\vL (nth aq j)=true)
 |0,i,c,m,hi,h=>by unfold lf at h ⊢;exact⟨h,fun j h1 h2=>jB,fun h=>.inl h⟩
 |n+1,i,c,m,hi,h=>by
  unfold lf at h ⊢;obtain⟨h1,h2,h3⟩:=Eb aq n (i+1) _ _ jB h;obtain⟨h4,h5⟩:=Ec _ _ h1;refine⟨h4,fun j g1 g2=>?_,fun hm=>?_⟩
  ·by_cases e:j=i
   ·subst e;exact h5
   ·exact h2 j jB g2
  ·rcases h3 hm with h|h
   ·rcases Bool.or_eq_true _ _ |>.mp h with h|h
    ·exact .inl h
    ·exact .inr ⟨i,jB,h⟩
   ·exact .inr h
structure BP(t:aF):Prop where
 one:∀i j,i<j->j<t.aq.length->(nth t.aq i).name≠(nth t.aq j).name
 main:∃j,j<t.aq.length/\vL (nth t.aq j)=true
def PW{c:Ck}(h:(jh c).e=0):c.e=0/\BP c.aa:=by
 unfold jh at h;simp only at h;split at h
 ·rename_i hm;obtain⟨h1,h2,h3⟩:=Eb c.aa.aq c.aa.aq.length 0 c false jB h;refine⟨h1,⟨fun i j hi hj=>h2 j jB hj _ ?_,?_⟩⟩
  ·rw[dV jB];exact List.mem_take_iff_getElem.2 ⟨i,jB,rfl⟩
  ·rcases h3 hm with h|h
   ·cases h
   ·exact h
 ·exact(mJ jC h).elim
theorem GW(f:bg->SK)(nm:SK):∀(l:List bg) (i k:Int),(∀a b,a<b->b<l.length->f (nth l a)≠f (nth l b))->(∃v∈l,f v=nm)->ji f nm l i k=gx f nm l i
 |[],i,k,h,hx=>by obtain⟨v,hv,_⟩:=hx;simp at hv
 |v::l,i,k,h,hx=>by
  unfold ji gx;have hl:∀a b,a<b->b<l.length->f (nth l a)≠f (nth l b):=fun a b h1 h2=>h (a+1) (b+1) jB (by rw[List.length_cons];omega)
  by_cases hv:f v=nm
  ·rw[if_pos hv,if_pos hv];have hn:∀u∈l,f u≠nm:=fun u hu hh=>by
    obtain⟨q,hq,rfl⟩:=List.mem_iff_getElem.1 hu;exact h 0 (q+1) jB (by rw[List.length_cons];omega) (by rw[show nth (v::l) 0=v from rfl,show nth (v::l) (q+1)=l[q] from by rw[dV (by rw[List.length_cons];omega)];rfl,hv,hh])
   have:∀(l:List bg) (i k:Int),(∀u∈l,f u≠nm)->ji f nm l i k=k:=fun l=>by
    induction l with
    |nil=>intro i k _;rfl
    |cons u l ih=> intro i k hu;unfold ji;rw[if_neg (hu u jE),ih (i+1) k fun w hw=>hu w (by simp[hw])]
   exact this l _ _ hn
  ·rw[if_neg hv,if_neg hv];exact GW f nm l (i+1) k hl (by
    obtain⟨u,hu,hh⟩:=hx;rcases List.mem_cons.1 hu with rfl|hu
    ·exact(hv hh).elim
    ·exact⟨u,hu,hh⟩)
structure cY(p:ab):Prop where
 ok:qe p
 aq:∀j,j<p.aa.aq.length->tA p.aa p.slots j (oK p.aa j) (nth p.size j)
 names:BP p.aa
def KQ(ht:aL t)(he:(ij t).2.2=0):cY (ij t).1:=by
 have hp:=(AM ht he).1;unfold ij at he hp ⊢;split at he
 ·rename_i h;exact(h he).elim
 rename_i h;rw[if_neg h]at hp ⊢;have h:(iu t).e=0:=jB;obtain⟨i1,i2,i3⟩:=AR ht;have q:=GN ht t.aq.length 0 0 (jh (jM t)) i1 i2 (by rw[i3];rfl) jB rfl (by rw[List.drop_zero];exact ht.chain) (fun j hj=>jB) h;obtain⟨_,q1,_⟩:=yk ht t.aq.length 0 0 (jh (jM t)) i1 i2 (by rw[i3];rfl) jB (by rw[List.drop_zero];exact ht.chain) h;have he:(iu t).aa=t:=q1;have h0:(jh (jM t)).e=0:=by
  have Tk:=h;unfold iu at Tk;cases hn:t.aq.length with
  |zero=>rw[hn]at Tk;unfold fO at Tk;exact Tk
  |succ m=>
   rw[hn]at Tk;unfold fO at Tk;split at Tk
   ·assumption
   ·exact Tk
 refine⟨hp,?_,?_⟩
 ·show∀j,j<(iu t).aa.aq.length->tA (iu t).aa (iu t).slots j (oK (iu t).aa j) (nth (iu t).aR j);rw[he];exact q
 ·show BP (iu t).aa;rw[he];exact(PW h0).2
def B7{s:SK}(he:(gy s).2.2=0):cY (gy s).1:=by
 unfold gy at he ⊢;split at he
 ·rename_i h;exact(h he).elim
 rename_i h;rw[if_neg h];have h:(gP s).2.2=0:=jB;simp only at he ⊢;split at he
 ·cases he
 rename_i h2;split at he
 ·rename_i h3;exact(h3 he).elim
 rename_i h3;rw[if_neg h2,if_neg h3];exact KQ (xS h) jB
def uA(R:RS)(ho:lO R) :
  ai prog 58 [.pt 0 0 0 0] (R.e 41 [] [] []) (fun v l=>v=.bf []/\l=R.on.e 41 [] [] []):=by
 have TB:=ho.ok.nf;have VO:=ho.ok.jp;have h1:=ho.nf;have h2:=ho.pa;have h3:=ho.a0;have h4:=ho.a1;have h5:=ho.aw;have h6:=ho.pc;unfold aH.pl at h3 h4;refine aU func58 ntmps58 ?_;generalize hB:ids (R.e 41 [] [] [])=B;generalize hE:R.on.e 41 [] [] []=E;refine S ?_
 (repeat' (first|refine aA fun K hK=>?_|refine ax ?_|(with_reducible refine gR 0 ?_);refine dE 0 (bo 0 12) mixed ?_|(with_reducible refine gR 1 ?_);refine dE 1 (bo 0 17) mixed ?_|(refine hK _ _ ?_;clear hK K)|(refine az ?_ ?_<;>intro hc<;>try exact jz)|refine ay ?_|exact jI|(clear hK K)))
 (refine cr [] ?_ ?_<;>(try simp only[go_sem]))
 subst hE;refine RS.uM jB jE (by simp[RS.c]) fun j=>?_
 split
 ·rename_i e;subst e;show Row.aK _ _ _=Row.aK _ _ _;rw[<-List.map_append,<-List.map_set];congr 2
  exact List.set_append_left _ _ jB
 ·rw[List.map_append.symm];rfl
def FN(p:ab)(s:aM)(h1:1<=s.ap.length)(h2:s.ap.length<=1000)(h3:1<=s.aj.path.length)(h4:s.aj.path.length<=1000)(h5:0<=s.aj.pl.block)(h6:s.aj.pl.block<p.aa.nodes.length)(h7:0<=s.aj.pl.at_)(h8:s.aj.pl.at_<(dz p s.aj.pl.block).length) :
  aP prog 52 [.agg (bV p),.agg (dD s)] (.raw (.int .i64 (bB p s))):=by
 unfold aM.aj at h3 h4 h5 h6 h7 h8;unfold aH.pl at h5 h6 h7 h8;unfold dz at h8;refine df func52 ntmps52 ?_
 (repeat' (first|refine aA fun K hK=>?_|refine ax ?_|(with_reducible refine gR 3 ?_);refine dE 3 (bo 0 13) mixed ?_|(refine hK _ _ ?_;clear hK K)|(refine az ?_ ?_<;>intro hc<;>try exact jz)|refine ay ?_|exact jI|(clear hK K)))
 (refine bG [.tmp 4] ?_;try simp only[go_sem])
 rfl
def u9{j:Nat}{r s:Row}(hi:4<=i/\i<1000)(hj:4<=j/\j<1000):low [(i,r),(j,s)]:=fun k x hk=>by have hk:k∈ids [(i,r),(j,s)]:=(kz _ _).2 (by rw[hk];simp);simp[ids]at hk;omega
def DX{j:Nat}{r s u:Row}(hi:4<=i/\i<1000)(hj:4<=j/\j<1000)(hk:4<=k/\k<1000):low [(i,r),(j,s),(k,u)]:=fun q x hq=>by have hq:q∈ids [(i,r),(j,s),(k,u)]:=(kz _ _).2 (by rw[hq];simp);simp[ids]at hq;omega
def Jj(p:ab)(v:ak)(R:RS)(h:R.Ok)(h1:1<=R.nf)(h4:R.aw.length<=1000)(ha:2<=R.nf->pT p R.pop.st) :
  ai prog 47 [.agg (bV p),.pt 0 0 0 0,.agg (bM v)] (R.e 41 [] [] []) (fun r l=>r=.bf []/\l=(R.bq p v).e 41 [] [] []):=by
 have TB:=h.nf;have VO:=h.jp;have Wv:R.pop.Ok:=⟨by show R.nf-1<=R.aw.length;omega,VO⟩;rcases Nat.lt_or_ge R.nf 2 with h2|h2
 ·have e:R.bq p v={ R.pop with status:=2 }:=by unfold RS.bq;rw[jP]
  rw[e];have h0:R.nf-1=0:=jB;refine aU func47 ntmps47 ?_;generalize hB:ids (R.e 41 [] [] [])=B;generalize hE:({ R.pop with status:=2 }:RS).e 41 [] [] []=E;refine S ?_
  (repeat' (first|refine aA fun K hK=>?_|refine ax ?_|(with_reducible refine gR 1 ?_);refine dE 1 (bo 0 15) mixed ?_|(refine hK _ _ ?_;clear hK K)|(refine az ?_ ?_<;>intro hc<;>try exact jz)|refine cz 4 ?_|refine cz 5 ?_|refine ay ?_|exact jI|(clear hK K)))
  subst hE;exact gA (R':={ R.pop with status:=2 }) (tl:=[(4,.var 29 (bV p)),(5,.var 82 (bM v))]) rfl hB [] (u9 jB jB) rfl rfl rfl
 ·have hA:=ha h2;have XA:=hA.n0;have TH:=hA.n1;have Tr:=hA.sl;have T4:=RS.aj Wv (by show 1<=R.nf-1;omega);have hAc:=FN p R.pop.st hA.fr hA.aw hA.pa hA.pc hA.b0 hA.b1 hA.a0 hA.a1;have U4:=hA.s0;rw[T4]at U4;have UB:lO R.pop:=⟨Wv,by show 1<=R.nf-1;omega,h4,by rw[<-T4];exact hA.pa,by rw[<-T4];exact hA.pc,by rw[<-T4];exact hA.a0,by rw[<-T4];exact hA.Bn⟩;have T5:∀(x y z:Row),low [(4,x),(5,y),(6,z)]:=fun x y z=>DX jB jB jB
  have hk:R.nf-1-1<R.aw.length:=jB;generalize u':bB p R.pop.st=node at*;by_cases TK:jr p node
  ·have e:R.bq p v=(R.pop.dK p node v).on:=by unfold RS.bq;rw[jN,u',if_pos TK]
   rw[e];have Yt:=U4 TK;unfold jr at TK;have YS:nth p.slots node.toNat<((nth R.aw (R.nf-1-1)).slots.length:Int):=Yt.2;have hs3:=Yt.1;have UB:=uA (R.pop.dK p node v) (UB.aS rfl);have hj:∀j,(if j=R.nf-1-1 then Row.aK 82 3 ((List.map bM (nth R.aw (R.nf-1-1)).slots).set (nth p.slots node.toNat).toNat (bM v++List.drop 3 (bM (nth (nth R.aw (R.nf-1-1)).slots (nth p.slots node.toNat).toNat))))else Row.aK 82 3 (List.map bM (nth R.aw j).slots))=if j=R.nf-1-1 then .aK 82 3 (((nth R.aw (R.nf-1-1)).slots.set (nth p.slots node.toNat).toNat v).map bM)else R.pop.sl j:=fun j=>by
    by_cases e:j=R.nf-1-1
    ·rw[if_pos e,if_pos e,List.map_set];rfl
    ·rw[if_neg e,if_neg e];rfl
   refine aU func47 ntmps47 ?_;generalize hB:ids (R.e 41 [] [] [])=B;generalize hE:(R.pop.dK p node v).on.e 41 [] [] []=E;refine S ?_
   (have W:=TK;repeat' (first|refine aA fun K hK=>?_|refine ax ?_|(with_reducible refine gR 1 ?_);refine dE 1 (bo 0 15) mixed ?_|(with_reducible refine gR 4 ?_);refine dE 4 (bo 0 6) mixed ?_|(with_reducible refine gR 7 ?_);refine dE 7 (bo 0 21) mixed ?_|(refine hK _ _ ?_;clear hK K)|(refine az ?_ ?_<;>intro hc<;>try exact jz)|refine cz 4 ?_|refine cz 5 ?_|refine cM 6 ?_|(refine cL (args':=[.agg (bV p),.agg (dD R.pop.st)]) hAc (show bK _ ⟨B,R.pop.e 41 [] [] _⟩ [.agg (bV p),.agg R.pop.c] _ from⟨.same _ rfl,(RS.xI Wv fun _=>rfl).agg,trivial⟩) rfl jD ?_;refine S ?_)|(refine cE (R:=R.pop.dK p node v) (R':=(R.pop.dK p node v).on) (pre:=[]) (post:=[]) (pre':=[]) (post':=[]) UB (congrArg (Hp.mk B) (RS.nO (R:=R.pop) (k:=R.nf-1-1) hk (List.length_set ..) rfl hj)) (Nat.le_of_eq RS.aO) jl rfl rfl (T5 _ _ _) rfl jD ?_;refine S ?_)|refine ay ?_|exact jI|(clear hK K)))
   subst hE;exact gA (R':=(R.pop.dK p node v).on) (tl:=[(4,.var 29 (bV p)),(5,.var 82 (bM v)),(6,.var 59 (dO (nth p.aa.nodes node.toNat)))]) rfl hB [] (T5 _ _ _) rfl rfl rfl
  ·have e:R.bq p v=R.pop.on:=by unfold RS.bq;rw[jN,u',if_neg TK]
   rw[e];have UB:=uA R.pop UB;unfold jr at TK;refine aU func47 ntmps47 ?_;generalize hB:ids (R.e 41 [] [] [])=B;generalize hE:R.pop.on.e 41 [] [] []=E;refine S ?_
   (have W:=TK;repeat' (first|refine aA fun K hK=>?_|refine ax ?_|(with_reducible refine gR 1 ?_);refine dE 1 (bo 0 15) mixed ?_|(with_reducible refine gR 4 ?_);refine dE 4 (bo 0 6) mixed ?_|(refine hK _ _ ?_;clear hK K)|(refine az ?_ ?_<;>intro hc<;>try exact jz)|refine cz 4 ?_|refine cz 5 ?_|refine cM 6 ?_|(refine cL (args':=[.agg (bV p),.agg (dD R.pop.st)]) hAc (show bK _ ⟨B,R.pop.e 41 [] [] _⟩ [.agg (bV p),.agg R.pop.c] _ from⟨.same _ rfl,(RS.xI Wv fun _=>rfl).agg,trivial⟩) rfl jD ?_;refine S ?_)|(refine cE (R:=R.pop) (R':=R.pop.on) (pre:=[]) (post:=[]) (pre':=[]) (post':=[]) UB rfl (Nat.le_of_eq RS.aO) jl rfl rfl (T5 _ _ _) rfl jD ?_;refine S ?_)|refine ay ?_|exact jI|(clear hK K)))
   subst hE;exact gA (R':=R.pop.on) (tl:=[(4,.var 29 (bV p)),(5,.var 82 (bM v)),(6,.var 59 (dO (nth p.aa.nodes node.toNat)))]) rfl hB [] (T5 _ _ _) rfl rfl rfl
structure kX(p:ab)(fn:Int)(x:bk):Prop where
 b0:0<=x.block
 lo:oK p.aa fn.toNat<=x.block.toNat
 hi:x.block.toNat<=(nth p.aa.aq fn.toNat).body.toNat
 kind:bA p.aa.nodes x.block=18
 a0:0<=x.at_
 a1:x.at_<=(dz p x.block).length
structure dF(p:ab)(f:aH):Prop where
 f0:0<=f.fn
 f1:f.fn<p.aa.aq.length
 sl:(f.slots.length:Int)=nth p.size f.fn.toNat
 pl:∀x∈f.path,kX p f.fn x
 dec:(f.path.map (·.block)).Pairwise fun a b=>b<a
def mC(p:ab)(f:aH):Prop:=f.path≠[]/\f.pl.at_<(dz p f.pl.block).length
variable{f:aH}
def lJ(h:f.path≠[]):f.pl∈f.path:=er (by have:=List.length_pos_iff.2 h;omega)
def CD{t:List bu}(h:aJ t lo L hi):lo+L.length<=hi:=by
 induction h with
 |nil=>simp
 |@cons lo c hi L hc h1 h2 i1 i2=> have:=h1.le;simp only[List.length_cons];omega
theorem HD:∀(l:List bk) (n:Nat),(l.Pairwise fun a b=>b.block<a.block)->(∀x∈l,0<=x.block/\x.block<n)->l.length<=n
 |[],n,_,_=>Nat.zero_le _
 |x::l,n,h,hb=>by
  have hx:=hb x jE;have:=HD l x.block.toNat (List.pairwise_cons.1 h).2 fun y hy=>⟨(hb y (by simp[hy])).1,by have:=(List.pairwise_cons.1 h).1 y hy;omega⟩
  simp only[List.length_cons];omega
variable{p:ab}{fn:Int}
def kX.in_(h:cY p)(f0:0<=fn)(f1:fn<p.aa.aq.length){x:bk}(hx:kX p fn x):x.block.toNat<p.aa.nodes.length:=by have:=pw h.ok.aa (k:=fn.toNat) jB;have h1:=this.1;have h2:=this.2;have h3:=hx.hi;omega
def kX.aE(h:cY p)(f0:0<=fn)(f1:fn<p.aa.aq.length){x:bk}(hx:kX p fn x)(ha:a∈dz p x.block):0<=a/\a.toNat<x.block.toNat/\oK p.aa fn.toNat<=a.toNat/\eo (bA p.aa.nodes a):=by
 have hi:=hx.in_ h f0 f1;have sh:=h.ok.aa.shape x.block.toNat hi;have h1:=sh.2.1 a ha;refine⟨h1.1,h1.2,?_,sh.1.block hx.kind a ha⟩;have hc:=(h.aq fn.toNat jB).chain;by_cases e:x.block.toNat<(nth p.aa.aq fn.toNat).body.toNat
 ·exact hc.closed _ hx.lo e a ha
 ·have e:x.block.toNat=(nth p.aa.aq fn.toNat).body.toNat:=by have:=hx.hi;omega
  have ha:a∈(nth p.aa.nodes x.block.toNat).l:=ha;rw[e]at ha;exact(hc.mem a ha).2.1
def dF.len(h:cY p)(hf:dF p f):f.path.length<=300:=by
 have:=HD f.path p.aa.nodes.length (List.pairwise_map.1 hf.dec) fun x hx=>⟨(hf.pl x hx).b0,by have:=(hf.pl x hx).in_ h hf.f0 hf.f1;have:=(hf.pl x hx).b0;omega⟩
 have:=h.ok.aa.many;omega
def kX.xj(h:cY p)(f0:0<=fn)(f1:fn<p.aa.aq.length){x:bk}(hx:kX p fn x):x.at_<=300:=by have hi:=hx.in_ h f0 f1;obtain⟨lo,hc⟩:=(h.ok.aa.shape x.block.toNat hi).2.2;have:=CD hc;have:=h.ok.aa.many;have:=hx.a1;unfold dz at this;omega
def Ez(h:cY p){s:aM}(h1:1<=s.ap.length)(h2:s.ap.length<=8)(hf:dF p s.aj)(hb:mC p s.aj):pT p s:=by have hx:=hf.pl _ (lJ hb.1);have hi:=hx.in_ h hf.f0 hf.f1;have U1:=hb.2;have Ua:=hx.a0;have VP:=hx.b0;have hm:bB p s∈dz p s.aj.pl.block:=er jB;obtain⟨k0,k1,k2,k3⟩:=hx.aE h hf.f0 hf.f1 hm;have hl:=hf.len h;have Tf:=hx.xj h hf.f0 hf.f1;refine⟨h1,jB,List.length_pos_iff.2 hb.1,jB,VP,jB,Ua,U1,jB,k0,jB,h.ok.slots,fun TK=>?_⟩;have:=(h.aq s.aj.fn.toNat (by have:=hf.f0;have:=hf.f1;omega)).all (bB p s).toNat k2 (by have:=hx.hi;omega) (by unfold jr at TK;unfold iH;omega);have:=hf.sl;omega
structure da(p:ab)(R:RS):Prop where
 ok:R.Ok
 aw:R.aw.length<=8
 fr:∀k,k<R.nf->dF p (nth R.aw k)
 busy:∀k,k+1<R.nf->mC p (nth R.aw k)
 go:R.status≠2->1<=R.nf
def tV{l:List α}{x y:α}(h:x∈l.set i y):x=y\/x∈l:=by
 rcases List.mem_or_eq_of_mem_set h with h|h
 ·exact .inr h
 ·exact .inl h
def zj(h:dF p f)(hb:mC p f):dF p (fN f):=by
 have hx:=h.pl _ (lJ hb.1);have Us:=hb.2;have Ua:=hx.a0;refine⟨h.f0,h.f1,h.sl,fun x hm=>?_,?_⟩
 ·rcases tV hm with rfl|hm
  ·exact⟨hx.b0,hx.lo,hx.hi,hx.kind,by show 0<=f.pl.at_+1;omega,by show f.pl.at_+1<=_;show _<=((dz p f.pl.block).length:Int);omega⟩
  ·exact h.pl x hm
 ·have e:(fN f).path.map (·.block)=f.path.map (·.block):=by
   have hl:f.path.length-1<f.path.length:=by have:=List.length_pos_iff.2 hb.1;omega
   show(f.path.set (f.path.length-1) _).map _=_;rw[List.map_set];apply List.ext_getElem jE;intro i h1 h2;rw[List.getElem_set];split
   ·rename_i e;subst e;show(nth f.path (f.path.length-1)).block=_;rw[dV hl];simp
   ·rfl
  rw[e];exact h.dec
def KU(h:dF p f)(n:Nat):dF p { f with path:=f.path.take n }:=
 ⟨h.f0,h.f1,h.sl,fun x hx=>h.pl x (List.mem_of_mem_take hx),by show((f.path.take n).map _).Pairwise _;rw[List.map_take];exact h.dec.sublist (List.take_sublist _ _)⟩
def GS(h:dF p f)(i:Nat)(v:ak):dF p { f with slots:=f.slots.set i v }:=⟨h.f0,h.f1,by show((f.slots.set i v).length:Int)=_;rw[List.length_set];exact h.sl,h.pl,h.dec⟩
theorem da.cut{p:ab}{R:RS}(h:da p R)(h1:1<=R.nf)(hp:R.ah.path.length≠0):da p R.cut/\R.cut.left+1=R.left:=by
 have TB:=h.ok.nf;have VO:=h.ok.jp;have hu:∀k,nth R.cut.aw k=if k=R.nf-1 then{ R.ah with path:=R.ah.path.take (R.ah.path.length-1) }else nth R.aw k:=fun k=>Go.Gd.aY _ _ _ _ jB
 refine⟨⟨⟨by show R.nf<=(R.aw.set _ _).length;rw[List.length_set];exact TB,by show(R.jp.set _ _).length=(R.aw.set _ _).length;rw[List.length_set,List.length_set];exact VO⟩,by show(R.aw.set _ _).length<=8;rw[List.length_set];exact h.aw,fun k hk=>?_,fun k hk=>?_,h.go⟩,?_⟩
 ·rw[hu];split
  ·exact KU (h.fr _ jB) _
  ·exact h.fr k hk
 ·have hk:k+1<R.nf:=hk;rw[hu,jN];exact h.busy k hk
 ·obtain⟨m,hm⟩:∃m,R.nf=m+1:=⟨R.nf-1,jB⟩;show pE _ R.nf+1=pE _ R.nf;have hm':R.nf-1=m:=jB;have ht:(nth R.aw m).path.length≠0:=by unfold RS.ah at hp;rw[hm']at hp;exact hp
  rw[hm];unfold pE;rw[AJ (n:=m) (g:=fun k=>(nth R.aw k).path.length+1) fun k hk=>by rw[hu,jN]];rw[hu,if_pos hm'.symm];show _+((R.ah.path.take (R.ah.path.length-1)).length+1)+1=_+((nth R.aw m).path.length+1);have:R.ah=nth R.aw m:=by unfold RS.ah;rw[hm']
  rw[this,List.length_take];omega
theorem da.bq{p:ab}{R:RS}(h:da p R)(h1:1<=R.nf)(v:ak):da p (R.bq p v)/\(R.bq p v).left<R.left/\(R.bq p v).nf=R.nf-1:=by
 have TB:=h.ok.nf;have VO:=h.ok.jp;obtain⟨m,hm⟩:∃m,R.nf=m+1:=⟨R.nf-1,jB⟩;have SY:pE (fun k=>(nth R.aw k).path.length+1) m<R.left:=by unfold RS.left;rw[hm];show _<pE (fun k=>(nth R.aw k).path.length+1) m+((nth R.aw m).path.length+1);omega
 unfold RS.bq;split
 ·rename_i h2;refine⟨⟨⟨by show R.nf-1<=R.aw.length;omega,VO⟩,h.aw,fun k hk=>?_,fun k hk=>?_,fun e=>(e rfl).elim⟩,?_,rfl⟩
  ·exact h.fr k (by have hk:k<R.nf-1:=hk;omega)
  ·exact h.busy k (by have hk:k+1<R.nf-1:=hk;omega)
  ·show pE _ (R.nf-1)<_;rw[show R.nf-1=m from jB];exact SY
 ·rename_i h2;have hb:=h.busy (R.nf-1-1) jB;have hf:=h.fr (R.nf-1-1) jB;have key:∀Q:RS,Q.nf=R.nf-1->Q.aw.length=R.aw.length->Q.jp=R.jp->(∀k,k≠R.nf-1-1->nth Q.aw k=nth R.aw k)->dF p (nth Q.aw (R.nf-1-1))->(nth Q.aw (R.nf-1-1)).path.length=(nth R.aw (R.nf-1-1)).path.length->da p Q/\Q.left<R.left/\Q.nf=R.nf-1:=fun Q q1 q2 q3 q4 q5 q6=>by
   refine⟨⟨⟨jB,by rw[q3,q2];exact VO⟩,by rw[q2];exact h.aw,fun k hk=>?_,fun k hk=>?_,fun _=>jB⟩,?_,q1⟩
   ·by_cases e:k=R.nf-1-1
    ·subst e;exact q5
    ·rw[q4 k e];exact h.fr k jB
   ·rw[q4 k jB];exact h.busy k jB
   ·unfold RS.left;rw[q1,show R.nf-1=m from jB,AJ (g:=fun k=>(nth R.aw k).path.length+1) fun k hk=>?_]
    ·exact SY
    ·by_cases e:k=R.nf-1-1
     ·subst e;show _+1=_+1;rw[q6]
     ·show _+1=_+1;rw[q4 k e]
  have hk:R.nf-1-1<R.aw.length:=jB;split
  ·have hu:∀k,nth (R.pop.dK p (bB p R.pop.st) v).aw k=if k=R.nf-1-1 then{ nth R.aw (R.nf-1-1)with slots:=(nth R.aw (R.nf-1-1)).slots.set (nth p.slots (bB p R.pop.st).toNat).toNat v }else nth R.aw k:=fun k=>RS.aY (R:=R.pop) hk _ k
   have hl:(R.pop.dK p (bB p R.pop.st) v).aw.length=R.aw.length:=RS.aO.symm;have Yu:∀k,nth (R.pop.dK p (bB p R.pop.st) v).on.aw k=if k=R.nf-1-1 then fN (nth (R.pop.dK p (bB p R.pop.st) v).aw (R.nf-1-1))else nth (R.pop.dK p (bB p R.pop.st) v).aw k:=fun k=>RS.aY (by rw[hl];exact hk) _ k
   refine key _ rfl (RS.aO.symm.trans hl) rfl (fun k SW=>by rw[Yu,if_neg SW,hu,if_neg SW]) ?_ ?_
   ·rw[Yu,if_pos rfl,hu,if_pos rfl];exact zj (GS hf _ _) hb
   ·rw[Yu,if_pos rfl,hu,if_pos rfl];simp[fN]
  ·have Yu:∀k,nth R.pop.on.aw k=if k=R.nf-1-1 then fN (nth R.aw (R.nf-1-1))else nth R.aw k:=fun k=>RS.aY (R:=R.pop) hk _ k
   refine key _ rfl RS.aO.symm rfl (fun k SW=>by rw[Yu,if_neg SW]) ?_ ?_
   ·rw[Yu,if_pos rfl];exact zj hf hb
   ·rw[Yu,if_pos rfl];simp[fN]
theorem Ac{p:ab}:∀(n m:Nat) (R:RS),da p R->R.left<n->R.left<m->js p n R=js p m R
 |0,_,R,_,h,_=>by omega
 |n+1,0,R,_,_,h=>jB
 |n+1,m+1,R,hI,h1,h2=>by
  unfold js;by_cases e:R.status=2
  ·rw[if_pos e,if_pos e]
  rw[if_neg e,if_neg e];have hg:=hI.go e;by_cases e1:R.ah.path.length=0
  ·rw[if_pos e1,if_pos e1];obtain⟨a,b,_⟩:=hI.bq hg (vZ (nth p.aa.aq R.ah.fn.toNat).ret);exact Ac n m _ a jB jB
  rw[if_neg e1,if_neg e1];by_cases e2:R.ah.pl.at_<(dz p R.ah.pl.block).length
  ·rw[if_pos e2,if_pos e2]
  rw[if_neg e2,if_neg e2];obtain⟨a,b⟩:=hI.cut hg e1;exact Ac n m _ a jB jB
end Go.Proofs.YtbjookcdpondlaaGreatDoor
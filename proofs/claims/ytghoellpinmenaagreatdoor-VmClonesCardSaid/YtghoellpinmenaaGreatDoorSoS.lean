/- Lemmas. No conditions. -/
import Derived.Test.YtghoellpinmenaaGreatDoorCk8
set_option linter.all false
set_option maxHeartbeats 4000000
set_option maxRecDepth 10000
namespace Go.Gd
open Go
variable{α:Type}
def bI[Inhabited α](l:List α)(i k:Nat)(v:α)(h:i<l.length):nth (l.set i v) k=if k=i then v else nth l k:=by
 unfold nth;rw[List.getD_eq_getElem?_getD,List.getElem?_set,List.getD_eq_getElem?_getD];by_cases e:i=k
 ·subst e;simp[h]
 ·rw[if_neg e,if_neg (fun h=>e h.symm)]
theorem gg:∀(l m:PG) (i:Nat),ak (l++m) i=(ak l i).or (ak m i)
 |[],m,i=>by simp[ak]
 |(j,r)::l,m,i=>by
  show(if i=j then some r else ak (l++m) i)=((if i=j then some r else ak l i):Option Row).or _;split
  ·rfl
  ·exact gg l m i
theorem fO:∀(l:PG) (i:Nat),i∈ids l<->ak l i≠none
 |[],i=>by simp[ids,ak]
 |(j,r)::l,i=>by
  have:=fO l i;simp only[ids,List.map_cons,List.mem_cons,ak]at this ⊢;by_cases e:i=j
  ·simp[e]
  ·rw[if_neg e];simp only[e,false_or];exact this
variable{l:PG}
def fS{i:Nat}{r:Row}(h:ak l i=some r):(ids l).contains i=true:=List.contains_iff_mem.2 ((fO l i).2 (by rw[h];simp))
theorem qF(q:PR):∀(l m:PH),aS q (l++m)=(aS q l && aS q m)
 |[],m=>by simp[aS]
 |a::l,m=>by simp only[List.cons_append,aS,qF q l m,Bool.and_assoc]
def oj{q:PR}{l:PF}(h:QL q l):aS q l.flatten=true:=by
 induction l with
 |nil=>rfl
 |cons x l ih=>rw[List.flatten_cons,qF,h x jE,ih fun y hy=>h y (by simp[hy])];rfl
theorem xt(D:PR):∀(l m:PG),er D (l++m)=er D l++er D m
 |[],m=>rfl
 |(j,r)::l,m=>by show(bif D j then er D (l++m)else(j,r)::er D (l++m))=(bif D j then er D l else(j,r)::er D l)++_;rw[xt D l m];cases D j<;>rfl
theorem xP(D:PR):∀(l:PG),(∀i∈ids l,D i=false)->er D l=l
 |[],_=>rfl
 |(j,r)::l,h=>by show(bif D j then er D l else(j,r)::er D l)=_;rw[h j (by simp[ids]),xP D l fun i hi=>h i (by simp[ids]at hi ⊢;exact .inr hi)];rfl
theorem Ah(D:PR):∀(l:PG),(∀i∈ids l,D i=true)->er D l=[]
 |[],_=>rfl
 |(j,r)::l,h=>by show(bif D j then er D l else(j,r)::er D l)=_;rw[h j (by simp[ids]),Ah D l fun i hi=>h i (by simp[ids]at hi ⊢;exact .inr hi)];rfl
theorem xl(D:PR):∀(l m:PG),gJ D l->gJ D m->gJ D (l++m)
 |[],m,_,h=>h
 |(j,r)::l,m,h,k=>⟨h.1,xl D l m h.2 k⟩
theorem y8(D:PR):∀(l:PG),(∀i∈ids l,D i=true)->gJ D l
 |[],_=>trivial
 |(j,r)::l,h=>⟨.inl (h j (by simp[ids])),y8 D l fun i hi=>h i (by simp[ids]at hi ⊢;exact .inr hi)⟩
theorem Bl{q:PR}:∀{l:PF},aS q l.flatten=true->QL q l
 |[],_,x,hx=>by simp at hx
 |a::l,h,x,hx=>by
  rw[List.flatten_cons,zN,Bool.and_eq_true]at h;rcases List.mem_cons.1 hx with rfl|hx
  ·exact h.1
  ·exact Bl h.2 x hx
def Lz{q:PR}:∀{r:Row},aS q r.cells=true->pF q r
 |.var _ _,h=>h
 |.aE _ _ _,h=>Bl h
 |.mp _ _,h=>h
theorem wO(D:PR):∀(l:PG),(ids l).Nodup->(∀i r,ak l i=some r->aS (fi D) r.cells=true)->gJ D l
 |[],_,_=>trivial
 |(j,r)::l,hn,h=>by
  have XP:=List.nodup_cons.1 hn;refine⟨.inr (Lz (h j r (by simp[ak]))),wO D l XP.2 fun i r' hi=>h i r' ?_⟩;have:i≠j:=fun e=>by subst e;exact XP.1 ((fO l i).2 (by rw[hi];simp))
  simp only[ak,if_neg this];exact hi
def ph(p:ab)(b:Int):PJ:=(nth p.aa.nodes b.toNat).l
def iO(p:ab):Int:=iw aU.name (⟨#[109,97,105,110]⟩:PL) p.aa.au 0
def kH(n:Int)(l:PJ):Int:=n+l.length
def fv(h:PI):Int:=h.foldl kH (h.length:Int)
def ao(p:ab)(a:Int):bg:=nth p.aa.nodes a.toNat
def Bz(n:Int):PL:=⟨(Lib.itoa n).toArray⟩
def kW(v:aj):PL:=
 if v.ty=1 then Bz v.n
 else if v.ty=2 then(if v.n=1 then(⟨#[116,114,117,101]⟩:PL)else(⟨#[102,97,108,115,101]⟩:PL))
 else if v.ty=3 then v.s
 else if v.ty=4 then(⟨#[108,105,115,116]⟩:PL)
 else sE
def cr(n:Int):Prop:=-9223372036854775808<=n/\n<=9223372036854775807
def L8[Inhabited α](l:List α)(i:Nat)(h:i<l.length):l.take (i+1)=l.take i++[nth l i]:=by rw[List.take_succ,List.getElem?_eq_getElem h,dT h];rfl
structure RS where
 bp:List bu
 nf:Nat
 jp:List (List dN)
 heap:List (List Int)
 in_:Int
 aD:List ByteArray
 status:Int
 bs:Int
 time:Int
namespace RS
def st(R:RS):bK:=⟨R.bp.take R.nf,R.heap,R.in_,R.aD,R.status,R.bs,R.time⟩
structure Ok(R:RS):Prop where
 nf:R.nf<=R.bp.length
 jp:R.jp.length=R.bp.length
def fr(R:RS)(k:Nat):PH:=[.raw (.int .i64 (nth R.bp k).fn),.rs (bP 0 k) (nth R.bp k).slots.length 3 (nth R.bp k).slots.length,.rs (bP 1 k) ((nth R.bp k).path.length+(nth R.jp k).length) 2 (nth R.bp k).path.length]
def sl(R:RS)(k:Nat):Row:=.aE 50 3 ((nth R.bp k).slots.map bG)
def pt(R:RS)(k:Nat):Row:=.aE 89 2 (((nth R.bp k).path++nth R.jp k).map pT)
def hp(R:RS)(k:Nat):Row:=.aE 3 1 ((nth R.heap k).map eI)
def c(R:RS):PH:=[.rs 1 R.bp.length 3 R.nf,.rs 2 R.heap.length 1 R.heap.length,.raw (.int .i64 R.in_),.rs 3 R.aD.length 1 R.aD.length,.raw (.int .i64 R.status),.raw (.int .i64 R.bs),.raw (.int .i64 R.time)]
def e(t:PM)(pre post:PH)(R:RS)(tl:PG):PG:=
 (0,.var t (pre++R.c++post))::(1,.aE 87 3 (gU R.bp.length R.fr))::(2,.aE 22 1 (gU R.heap.length fun k=>[.rs (bP 2 k) (nth R.heap k).length 1 (nth R.heap k).length]))::(3,.aE 9 1 (R.aD.map eS)) ::
  cz 0 R.bp.length R.sl (cz 1 R.bp.length R.pt (cz 2 R.heap.length R.hp tl))
end RS
attribute [go_sem] RS.fr RS.sl RS.pt RS.hp RS.c RS.e
def dz.sU{D:PR}{H:Hp}{dd:PH}{i sz m n:Nat}{e:PM}{enc:α->PH}[he:bD enc sz](l more:List α)(hD:D i=true)(hi:H.get i=some (.aE e sz ((l++more).map enc)))(hm:m=l.length+more.length)(hn:n=l.length):dz D H (.rs i m sz n) (.sl false sz (l.map enc) dd):=
 .A5 dd i sz m n e _ _ hD hi jF jB jF (fun ds SV=>by obtain⟨x,_,rfl⟩:=List.mem_map.1 SV;exact he.len x) (la l) fun k j c d hk h1 h2=>by
  have P8:k<l.length:=jB;have e1:((l++more).map enc).getD k []=enc l[k]:=by rw[List.map_append,List.getD_eq_getElem?_getD,List.getElem?_append_left (by simpa using P8)];simp[P8]
  have e2:(l.map enc).getD k []=enc l[k]:=by simp[P8]
  rw[e1]at h1;rw[e2,h1]at h2;cases h2;exact .same c (ql (fun _ h=>by cases h) _ (lZ (he.free _) h1))
variable{t:PM}{R:RS}{tl:PG}
def RS.sY{pre post:PH}:ak (R.e t pre post tl) 0=some (.var t (pre++R.c++post)):=rfl
def RS.tI{pre post:PH}:ak (R.e t pre post tl) 1=some (.aE 87 3 (gU R.bp.length R.fr)):=rfl
def RS.sL{pre post:PH}:ak (R.e t pre post tl) 2=some (.aE 22 1 (gU R.heap.length fun k=>[.rs (bP 2 k) (nth R.heap k).length 1 (nth R.heap k).length])):=rfl
def RS.sO{pre post:PH}:ak (R.e t pre post tl) 3=some (.aE 9 1 (R.aD.map eS)):=rfl
def RS.pg{pre post:PH}(i:Nat)(h:1000<=i):ak (R.e t pre post tl) i=ak (cz 0 R.bp.length R.sl (cz 1 R.bp.length R.pt (cz 2 R.heap.length R.hp tl))) i:=by unfold RS.e;simp only[ak];rw[jN,jN,jN,jN]
variable{k:Nat}
def RS.oC{pre post:PH}(h:k<R.bp.length):ak (R.e t pre post tl) (bP 0 k)=some (R.sl k):=by rw[RS.pg _ (n8 _ _),te _ _ _ _ _ jB h]
def RS.AU{pre post:PH}(h:k<R.bp.length):ak (R.e t pre post tl) (bP 1 k)=some (R.pt k):=by rw[RS.pg _ (n8 _ _),oq _ _ _ _ _ _ jB jB jB,te _ _ _ _ _ jB h]
def RS.zZ{pre post:PH}(h:k<R.heap.length):ak (R.e t pre post tl) (bP 2 k)=some (R.hp k):=by rw[RS.pg _ (n8 _ _),oq _ _ _ _ _ _ jB jB jB,oq _ _ _ _ _ _ jB jB jB,te _ _ _ _ _ jB h]
theorem Dr(a:Nat)(f:PT)(l m:PG):∀(n k:Nat),fT a f k n (l++m)=fT a f k n l++m
 |0,k=>rfl
 |n+1,k=>by unfold fT;rw[Dr a f l m n (k+1)];rfl
def qb(a n:Nat)(f:PT)(l m:PG):cz a n f (l++m)=cz a n f l++m:=Dr a f l m n 0
def RS.o4{pre post:PH}(tl:PG):R.e t pre post tl=R.e t pre post []++tl:=by unfold RS.e;rw[show tl=[]++tl from rfl,qb,qb,qb];rfl
def RS.no{pre post:PH}(i:Nat)(h:4<=i)(h':i<1000):ak (R.e t pre post []) i=none:=by unfold RS.e;simp only[ak];rw[jN,jN,jN,jN,qE _ _ _ _ _ h',qE _ _ _ _ _ h',qE _ _ _ _ _ h'];rfl
def low(tl:PG):Prop:=∀i r,ak tl i=some r->4<=i/\i<1000
def RS.bn{pre post:PH}(h:low tl):Lays (fun tl=>R.e t pre post tl) tl:=⟨fun i=>by rw[RS.o4,gg],fun i r hi=>RS.no i (h i r hi).1 (h i r hi).2⟩
variable{pre' post':PH}{R':RS}
def RS.size{pre post:PH}(h1:R.bp.length<=R'.bp.length)(h2:R.heap.length<=R'.heap.length)(i:Nat)(h:ak (R.e t pre post []) i≠none):ak (R'.e t pre' post' []) i≠none:=by
 by_cases h0:i=0
 ·subst h0;rw[RS.sY];simp
 by_cases TJ:i=1
 ·subst TJ;rw[RS.tI];simp
 by_cases TT:i=2
 ·subst TT;rw[RS.sL];simp
 by_cases WR:i=3
 ·subst WR;rw[RS.sO];simp
 by_cases h4:i<1000
 ·exact(h (RS.no i jB h4)).elim
 rw[RS.pg i jB]at h ⊢;rcases uC 0 R.bp.length jB R.sl (cz 1 R.bp.length R.pt (cz 2 R.heap.length R.hp [])) i with⟨k,hk,rfl,e⟩|⟨_,e⟩
 ·rw[te _ _ _ _ _ jB jB];simp
 rw[e]at h;rcases uC 1 R.bp.length jB R.pt (cz 2 R.heap.length R.hp []) i with⟨k,hk,rfl,e⟩|⟨_,e⟩
 ·rw[oq _ _ _ _ _ _ jB jB jB,te _ _ _ _ _ jB jB];simp
 rw[e]at h;rcases uC 2 R.heap.length jB R.hp [] i with⟨k,hk,rfl,e⟩|⟨_,e⟩
 ·rw[oq _ _ _ _ _ _ jB jB jB,oq _ _ _ _ _ _ jB jB jB,te _ _ _ _ _ jB jB];simp
 rw[e]at h;exact(h rfl).elim
theorem Gc(a:Nat)(f:PT)(l:PG):∀(n k:Nat),ids (fT a f k n l)=(List.range' k n).map (bP a)++ids l
 |0,k=>rfl
 |n+1,k=>by unfold fT;rw[List.range'_succ];show bP a k::ids (fT a f (k+1) n l)=_;rw[Gc a f l n (k+1)];rfl
def yI{a n:Nat}{f:PT}(ha:a<8)(h:(ids l).Nodup)(hl:∀k,k<n->ak l (bP a k)=Option.none):(ids (cz a n f l)).Nodup:=by
 unfold cz;rw[Gc,List.nodup_append];refine⟨?_,h,fun x hx y hy e=>?_⟩
 ·refine List.Pairwise.map _ (fun x y UR e=>?_) (List.nodup_range' (step:=1) (s:=0) (n:=n) jB);exact UR (re ha ha e).2
 ·obtain⟨k,hk,rfl⟩:=List.mem_map.1 hx;subst e;exact(fO _ _).1 hy (hl k (by simp at hk;omega))
theorem nodup_cons{l:PG}{i:Nat}{r:Row}(h:(ids l).Nodup)(hl:ak l i=Option.none):(ids ((i,r)::l)).Nodup:=List.nodup_cons.2 ⟨fun hm=>(fO _ _).1 hm hl,h⟩
def RS.nodup{pre post:PH}:(ids (R.e t pre post [])).Nodup:=by
 have f2:∀i,i<1000->ak (cz 0 R.bp.length R.sl (cz 1 R.bp.length R.pt (cz 2 R.heap.length R.hp []))) i=Option.none:=fun i h=>by rw[qE _ _ _ _ _ h,qE _ _ _ _ _ h,qE _ _ _ _ _ h];rfl
 unfold RS.e;refine nodup_cons (nodup_cons (nodup_cons (nodup_cons (yI jB (yI jB (yI jB List.nodup_nil (fun k _=>rfl)) fun k _=>?_) fun k _=>?_) ?_) ?_) ?_) ?_
 ·rw[oq _ _ _ _ _ _ jB jB jB];rfl
 ·rw[oq _ _ _ _ _ _ jB jB jB,oq _ _ _ _ _ _ jB jB jB];rfl
 ·exact f2 3 jB
 ·show(if(2:Nat)=3 then _ else _)=_;rw[jN];exact f2 2 jB
 ·show(if(1:Nat)=2 then _ else if(1:Nat)=3 then _ else _)=_;rw[jN,jN];exact f2 1 jB
 ·show(if(0:Nat)=1 then _ else if(0:Nat)=2 then _ else if(0:Nat)=3 then _ else _)=_;rw[jN,jN,jN];exact f2 0 jB
def RS.closed{pre post:PH}(h1:aS dq pre=true)(h2:aS dq post=true):∀i r,ak (R.e t pre post []) i=some r->aS (fun i=>(ids (R.e t pre post [])).contains i) r.cells=true:=fun i r h=>by
 have up:∀{l},aS dq l=true->aS (fun i=>(ids (R.e t pre post [])).contains i) l=true:=fun h=>eH (fun _ h=>by cases h) _ h
 have c1:=fS (RS.tI (t:=t) (pre:=pre) (post:=post) (R:=R) (tl:=[]));have c2:=fS (RS.sL (t:=t) (pre:=pre) (post:=post) (R:=R) (tl:=[]));have c3:=fS (RS.sO (t:=t) (pre:=pre) (post:=post) (R:=R) (tl:=[]));by_cases h0:i=0
 ·subst h0;rw[RS.sY]at h;cases h;show aS _ (pre++R.c++post)=true;rw[qF,qF,up h1,up h2];simp only[RS.c,aS,AV.all,c1,c2,c3,Bool.and_self]
 by_cases TJ:i=1
 ·subst TJ;rw[RS.tI]at h;cases h;exact oj (uZ fun k hk=>by have a:=fS (RS.oC (t:=t) (pre:=pre) (post:=post) (R:=R) (tl:=[]) hk);have b:=fS (RS.AU (t:=t) (pre:=pre) (post:=post) (R:=R) (tl:=[]) hk);simp only[RS.fr,aS,AV.all,a,b,Bool.and_self])
 by_cases TT:i=2
 ·subst TT;rw[RS.sL]at h;cases h;exact oj (uZ fun k hk=>by have a:=fS (RS.zZ (t:=t) (pre:=pre) (post:=post) (R:=R) (tl:=[]) hk);simp only[aS,AV.all,a,Bool.and_self])
 by_cases WR:i=3
 ·subst WR;rw[RS.sO]at h;cases h;exact up (oj (la (enc:=eS) (sz:=1) _))
 by_cases h4:i<1000
 ·rw[RS.no i jB h4]at h;cases h
 rw[RS.pg i jB]at h;rcases uC 0 R.bp.length jB R.sl (cz 1 R.bp.length R.pt (cz 2 R.heap.length R.hp [])) i with⟨k,hk,rfl,e⟩|⟨_,e⟩
 ·rw[e]at h;cases h;exact up (oj (la (enc:=bG) (sz:=3) _))
 rw[e]at h;rcases uC 1 R.bp.length jB R.pt (cz 2 R.heap.length R.hp []) i with⟨k,hk,rfl,e⟩|⟨_,e⟩
 ·rw[e]at h;cases h;exact up (oj (la (enc:=pT) (sz:=2) _))
 rw[e]at h;rcases uC 2 R.heap.length jB R.hp [] i with⟨k,hk,rfl,e⟩|⟨_,e⟩
 ·rw[e]at h;cases h;exact up (oj (la (enc:=eI) (sz:=1) _))
 rw[e]at h;cases h
def cE{P:PS}{f:FuncId}{args:PH}{H:Hp}{K:PE}{pre post:PH}{r0:AV}{B:PK}(hc:ai P f args (R.e t pre post []) fun r l'=>r=r0/\l'=R'.e t pre' post' [])(hH:H=⟨B,R.e t pre post tl⟩)
  (h1:R.bp.length<=R'.bp.length) (h2:R.heap.length<=R'.heap.length) (hp:aS dq pre=true) (hq:aS dq post=true) (hl:low tl) (ha:aS (fun i=>decide (i=0)) args=true) (h0:bo P f=true) (k:K r0 ⟨B,R'.e t pre' post' tl⟩):fh P (.raw (.func (.func f) #[] #[])) args H K:=by
 subst hH;refine nB h0 (Ew (E:=fun tl=>R.e t pre post tl) (E':=fun tl=>R'.e t pre' post' tl) hc (RS.bn hl) (RS.bn hl) RS.nodup (eH (fun i hi=>?_) _ ha) (RS.closed hp hq) k (RS.size h1 h2));have:i=0:=of_decide_eq_true hi;subst this;exact fS RS.sY
def gM:PR:=fun i=>decide (4<=i/\i<1000)
theorem RS.gM{t:PM}{pre post:PH}{R:RS}{i:Nat}(h:i∈ids (R.e t pre post [])):gM i=false:=by
 unfold Go.Gd.gM;refine decide_eq_false fun h'=>?_
 exact(fO _ _).1 h (RS.no i h'.1 h'.2)
def RS.free{t':PM}{pre post:PH}{B:PK}(hB:ids (R.e t pre post [])=B)(hl:low tl)(hp:aS dq pre'=true)(hq:aS dq post'=true) :
  B.all (fi Go.Gd.gM)=true/\gJ Go.Gd.gM (R'.e t' pre' post' tl)/\er Go.Gd.gM (R'.e t' pre' post' tl)=R'.e t' pre' post' []:=by
 have US:∀i∈ids tl,Go.Gd.gM i=true:=fun i hi=>by obtain⟨r,hr⟩:=Option.ne_none_iff_exists'.1 ((fO _ _).1 hi);exact decide_eq_true (hl i r hr)
 refine⟨?_,?_,?_⟩
 ·rw[List.all_eq_true];intro i hi;rw[<-hB]at hi;unfold fi;rw[RS.gM hi];rfl
 ·rw[RS.o4];refine xl _ _ _ (wO _ _ RS.nodup fun i r hi=>eH (fun j hj=>?_) _ (RS.closed hp hq i r hi)) (y8 _ _ US);unfold fi;rw[RS.gM (List.contains_iff_mem.1 hj)];rfl
 ·rw[RS.o4,xt,xP _ _ (fun i hi=>RS.gM hi),Ah _ _ US,List.append_nil]
def RS.aM(R:RS)(k:Nat)(f:bu):RS:={ R with bp:=R.bp.set k f }
theorem RS.bI{R:RS}{k:Nat}(h:k<R.bp.length)(f:bu)(j:Nat):nth (R.aM k f).bp j=if j=k then f else nth R.bp j:=Go.Gd.bI _ _ _ _ h
def RS.br{f:bu}:R.bp.length=(R.aM k f).bp.length:=by simp[RS.aM]
def bK.af(s:bK):bu:=nth s.aG (s.aG.length-1)
def bu.pl(f:bu):dN:=nth f.path (f.path.length-1)
def gW(p:ab)(s:bK):Int:=nth (ph p s.af.pl.block) s.af.pl.at_.toNat
def qm(f:bu):bu:={ f with path:=f.path.set (f.path.length-1) ⟨(nth f.path (f.path.length-1)).block,(nth f.path (f.path.length-1)).at_+1⟩ }
def RS.on(R:RS):RS:=R.aM (R.nf-1) (qm (nth R.bp (R.nf-1)))
structure tH(R:RS):Prop where
 ok:R.Ok
 nf:1<=R.nf
 bp:R.bp.length<=1000
 pa:1<=(nth R.bp (R.nf-1)).path.length
 Aq:(nth R.bp (R.nf-1)).path.length<=1000
 a0:0<=(nth R.bp (R.nf-1)).pl.at_
 a1:(nth R.bp (R.nf-1)).pl.at_<=1000000
theorem tH.aM{R:RS}(h:tH R){f:bu}(e:f.path=(nth R.bp (R.nf-1)).path):tH (R.aM (R.nf-1) f):=by
 have hu:nth (R.aM (R.nf-1) f).bp ((R.aM (R.nf-1) f).nf-1)=f:=by have h1:=h.nf;have h2:=h.ok.nf;show nth (R.aM (R.nf-1) f).bp (R.nf-1)=f;rw[RS.bI jB,if_pos rfl]
 have hl:(R.aM (R.nf-1) f).bp.length=R.bp.length:=RS.br.symm;refine⟨⟨by rw[hl];exact h.ok.nf,by rw[hl];exact h.ok.jp⟩,h.nf,by rw[hl];exact h.bp,by rw[hu,e];exact h.pa,by rw[hu,e];exact h.Aq,?_,?_⟩
 ·rw[hu];unfold bu.pl;rw[e];exact h.a0
 ·rw[hu];unfold bu.pl;rw[e];exact h.a1
def uU(p:ab)(node:Int):Prop:=(nth p.aa.nodes node.toNat).kind=10\/(nth p.aa.nodes node.toNat).kind=11
instance (p:ab)(node:Int):Decidable (uU p node):=by unfold uU;infer_instance
structure qJ(p:ab)(s:bK):Prop where
 fr:1<=s.aG.length
 bp:s.aG.length<=1000
 pa:1<=s.af.path.length
 Aq:s.af.path.length<=1000
 b0:0<=s.af.pl.block
 b1:s.af.pl.block<p.aa.nodes.length
 a0:0<=s.af.pl.at_
 a1:s.af.pl.at_<(ph p s.af.pl.block).length
 I1:s.af.pl.at_<=1000000
 n0:0<=gW p s
 n1:gW p s<p.aa.nodes.length
 sl:p.slots.length=p.aa.nodes.length
 s0:uU p (gW p s)->0<=nth p.slots (gW p s).toNat/\nth p.slots (gW p s).toNat<s.af.slots.length
def RS.pop(R:RS):RS:={ R with nf:=R.nf-1 }
def RS.gN(R:RS)(p:ab)(node:Int)(v:aj):RS:=R.aM (R.nf-1) { nth R.bp (R.nf-1)with slots:=(nth R.bp (R.nf-1)).slots.set (nth p.slots node.toNat).toNat v }
def RS.dG(R:RS)(p:ab)(v:aj):RS:=
 if R.nf<=1 then{ R.pop with status:=2 }
 else if uU p (gW p R.pop.st)then(R.pop.gN p (gW p R.pop.st) v).on else R.pop.on
theorem RS.af{R:RS}(h:R.Ok)(h1:1<=R.nf):R.st.af=nth R.bp (R.nf-1):=by
 have:=h.nf;unfold RS.st bK.af;simp only;have hl:(R.bp.take R.nf).length=R.nf:=by simp;omega
 rw[hl,dT jB,dT jB];simp
def RS.bO(R:RS):bu:=nth R.bp (R.nf-1)
def RS.cut(R:RS):RS:={ R with bp:=R.bp.set (R.nf-1) { R.bO with path:=R.bO.path.take (R.bO.path.length-1) },jp:=R.jp.set (R.nf-1) (R.bO.pl::nth R.jp (R.nf-1)) }
def oL(f:Nat->Nat):Nat->Nat
 |0=>0
 |n+1=>oL f n+f n
theorem y9{f g:Nat->Nat}:∀{n:Nat},(∀k,k<n->f k=g k)->oL f n=oL g n
 |0,_=>rfl
 |n+1,h=>by unfold oL;rw[y9 (n:=n) fun k hk=>h k jB,h n jB]
def RS.left(R:RS):Nat:=oL (fun k=>(nth R.bp k).path.length+1) R.nf
def u3(p:ab):Nat->RS->RS
 |0,R=>R
 |n+1,R=>
  if R.status=2 then R
  else if R.bO.path.length=0 then u3 p n (R.dG p (vZ (nth p.aa.au R.bO.fn.toNat).ret))
  else if R.bO.pl.at_<(ph p R.bO.pl.block).length then R
  else u3 p n R.cut
def RS.settle(R:RS)(p:ab):RS:=u3 p (R.left+1) R
def RS.of(s:bK):RS:=⟨s.aG,s.aG.length,s.aG.map fun _=>[],s.heap,s.in_,s.aD,s.status,s.bs,s.time⟩
def RS.push(R:RS)(f:bu):RS:={ R with bp:=R.bp++[f],nf:=R.nf+1,jp:=R.jp++[[]] }
def RS.store(R:RS)(p:ab)(node:Int)(v:aj):RS:=(R.gN p node v).on
def RS.bM(R:RS)(block:Int):RS:=R.aM (R.nf-1) { R.bO with path:=R.bO.path++[⟨block,0⟩] }
def pK(p:ab)(fn:Int)(args:List aj):bu:=⟨fn,args++List.replicate ((nth p.size fn.toNat)-args.length).toNat v0,[⟨(nth p.aa.au fn.toNat).body,0⟩]⟩
def RS.val(R:RS)(p:ab)(node:Int):aj×Int:=nO p R.bO.slots R.heap p.aa.nodes.length node
def RS.args(R:RS)(p:ab):PJ->List aj->List aj×Int
 |[],a=>(a,0)
 |x::l,a=>if(R.val p x).2≠0 then(a,(R.val p x).2)else R.args p l (a++[(R.val p x).1])
def RS.call(R:RS)(p:ab)(node:Int):RS×Int:=
 let a:=R.args p (ao p node).l []
 if a.2≠0 then(R,a.2)
 else if 8<=R.nf then(R,3)
 else(R.push (pK p (iw aU.name (ao p node).name p.aa.au 0) a.1),0)
def RS.fresh(R:RS)(p:ab)(node:Int):RS×aj×Int:=
 let v:=R.val p (nth (ao p node).l 0)
 if v.2≠0 then(R,v0,v.2)
 else if v.1.n<0\/16<v.1.n then(R,v0,7)
 else if 40<fv R.heap+v.1.n+1 then(R,v0,4)
 else({ R with heap:=R.heap++[List.replicate v.1.n.toNat 0] },⟨4,R.heap.length+1,sE⟩,0)
def RS.right(R:RS)(p:ab)(node:Int)(inp:PJ):RS×Int:=
 let x:=nth (ao p node).l 0
 let k:=(ao p x).kind
 if k=21 then R.call p x
 else if k=19 then(({ R with in_:=R.in_+1 }:RS).store p node (vI (nth inp R.in_.toNat)),0)
 else if k=20 then
  let r:=R.fresh p x
  if r.2.2=0 then(r.1.store p node r.2.1,0)else(r.1,r.2.2)
 else
  let v:=R.val p x
  if v.2=0 then(R.store p node v.1,0)else(R,v.2)
def RS.put(R:RS)(p:ab)(node:Int):RS×Int:=
 let x:=R.val p (nth (ao p node).l 0)
 let y:=R.val p (nth (ao p node).l 1)
 let v:=dt R.bO.slots (nth p.slots node.toNat) 4
 if x.2≠0 then(R,x.2)
 else if y.2≠0 then(R,y.2)
 else if x.1.n<0\/((oT R.heap v).length:Int)<=x.1.n then(R,2)
 else(({ R with heap:=R.heap.set (v.n-1).toNat ((nth R.heap (v.n-1).toNat).set x.1.n.toNat y.1.n) }:RS).on,0)
def RS.lM(R:RS)(p:ab)(node:Int)(inp:PJ):RS×Int:=
 let n:=ao p node
 let v:=R.val p (nth n.l 0)
 if n.kind=10\/n.kind=11 then R.right p node inp
 else if n.kind=13 then R.call p (nth n.l 0)
 else if n.kind=12 then R.put p node
 else if n.kind=17 then
  (if n.l.length=0 then(R.dG p v0,0)
  else if v.2≠0 then(R,v.2)else(R.dG p v.1,0))
 else if v.2≠0 then(R,v.2)
 else if n.kind=14 then
  (if 24<=R.aD.length then(R,5)else(({ R with aD:=R.aD++[kW v.1] }:RS).on,0))
 else if n.kind=15 then
  (if v.1.n=1 then(R.on.bM (nth n.l 1),0)
  else if n.l.length=3 then(R.on.bM (nth n.l 2),0)else(R.on,0))
 else if n.kind=16 then
  (if v.1.n=1 then(R.bM (nth n.l 1),0)else(R.on,0))
 else(R,0)
def yY(p:ab)(s:bK)(node:Int)(inp:PJ):Prop:=uU p node/\(ao p (nth (ao p node).l 0)).kind=19/\(inp.length:Int)<=s.in_
instance (p:ab)(s:bK)(node:Int)(inp:List Int):Decidable (yY p s node inp):=by unfold yY;infer_instance
end Go.Gd
namespace Go.Proofs.YtghoellpinmenaaGreatDoor
open Go Go.Gd Tryz
def fX(t:aF)(a:Int):Prop:=0<=a/\a<t.nodes.length
def yn(c:Ck):Prop:=c.e=0\/c.e=44\/fX c.aa c.at_
def Kp(t:aF)(c c':Ck):Prop:=c.aa=t->c'.aa=t/\(yn c->yn c')
def Kp.refl(t:aF)(c:Ck):Kp t c c:=fun h=>⟨h,id⟩
variable{t:aF}{b:Ck}
def Kp.trans{a c:Ck}(h:Kp t a b)(k:Kp t b c):Kp t a c:=fun e=>⟨(k (h e).1).1,fun x=>(k (h e).1).2 ((h e).2 x)⟩
variable{c':Ck}
def pc{c:Ck}(h1:c'.aa=c.aa)(h2:c'.e=c.e)(h3:c'.at_=c.at_):Kp t c c':=fun e=>⟨h1.trans e,fun h=>by unfold yn at*;rw[h1,h2,h3];exact h⟩
variable{a:Int}
def qw(c:Ck)(e:Int)(ha:fX t a):Kp t c (c.aC e a):=fun ht=>by
 unfold Ck.aC;split
 ·refine⟨ht,fun _=>.inr (.inr ?_)⟩;show fX c.aa a;rw[ht];exact ha
 ·exact⟨ht,id⟩
def pS(c:Ck)(b:Bool)(ha:fX t a):Kp t c (c.ap b a):=by
 unfold Ck.ap;split
 ·exact .refl t c
 ·exact qw c 42 ha
def xG(c:Ck)(ha:fX t a):Kp t c (c.named a).1:=by
 unfold Ck.named;split
 ·exact qw c 40 ha
 ·exact pc rfl rfl rfl
variable{α:Type}
def Ee[Inhabited α]{l:List α}{i:Nat}(h:l.length<=i):nth l i=default:=by simp[nth,List.getD_eq_getElem?_getD,List.getElem?_eq_none h]
def uh(h:aO t){c:Ck}(hc:c.aa=t)(ha:fX t a)(i:Nat):fX t (c.aA a i):=by
 obtain⟨h0,h1⟩:=ha;unfold Ck.aA Ck.node;rw[hc];by_cases hi:i<(nth t.nodes a.toNat).l.length
 ·have:=(h.shape a.toNat jB).2.1 _ (fu hi);unfold fX;omega
 ·have:nth (nth t.nodes a.toNat).l i=0:=Ee (Nat.le_of_not_lt hi);rw[this];unfold fX;omega
def yh(h:aO t){c:Ck}(hc:c.aa=t)(ha:fX t a):∀x∈(c.node a).l,fX t x:=fun x hx=>by obtain⟨h0,h1⟩:=ha;unfold Ck.node at hx;rw[hc]at hx;have:=(h.shape a.toNat jB).2.1 _ hx;unfold fX;omega
theorem zp{t:aF}{ex:Ck->Int->Ck×Int}(hex:∀c a,fX t a->Kp t c (ex c a).1):∀(l:PJ) (c:Ck) (ts:PJ),(∀x∈l,fX t x)->Kp t c (gy ex c l ts).1
 |[],c,ts,_=>by unfold gy;exact .refl t c
 |a::l,c,ts,hl=>by
  unfold gy;split
  ·exact(hex c a (hl a jE)).trans (zp hex l _ _ fun x hx=>hl x (by simp[hx]))
  ·exact .refl t c
theorem CN{t:aF}{a:Int}(ha:fX t a):∀(ts:PJ) (ps:List ce) (c:Ck),Kp t c (hZ a c ts ps)
 |[],ps,c=>by rw[uN];exact .refl t c
 |_::_,[],c=>by rw[uP];exact .refl t c
 |x::ts,p::ps,c=>by
  unfold hZ;split
  ·exact(pS c _ ha).trans (CN ha ts ps _)
  ·exact .refl t c
variable{ex:Ck->Int->Ck×Int}
def HJ(h:aO t)(hex:∀c a,fX t a->Kp t c (ex c a).1)(c:Ck)(ha:fX t a):Kp t c (iL ex c a).1:=fun hc=>by
 refine(show Kp t c (iL ex c a).1 from ?_) hc;unfold iL;split
 ·exact qw c 40 ha
 ·refine Kp.trans ?_ (CN ha _ _ _);split
  ·exact(zp hex _ _ _ (yh h hc ha)).trans (qw _ 43 ha)
  ·exact zp hex _ _ _ (yh h hc ha)
def Oz(h:aO t)(hex:∀c a,fX t a->Kp t c (ex c a).1)(c:Ck)(ha:fX t a):Kp t c (bX ex c a).1:=fun hc=>by
 have k0:=uh h hc ha 0;have k1:=uh h hc ha 1;refine(show Kp t c (bX ex c a).1 from ?_) hc;unfold bX;simp only;repeat' split
 all_goals first
  |exact .refl t c
  |exact xG c ha
  |exact HJ h hex c ha
  |exact((xG c ha).trans (hex _ _ k0)).trans (pS _ _ ha)
  |exact((hex c _ k0).trans (hex _ _ k1)).trans (pS _ _ ha)
  |exact(hex c _ k0).trans (pS _ _ ha)
theorem GH{t:aF}(h:aO t):∀(n:Nat) (c:Ck) (a:Int),fX t a->Kp t c (av n c a).1
 |0,c,a,ha=>by unfold av;exact .refl t c
 |n+1,c,a,ha=>by
  unfold av;split
  ·exact .refl t c
  ·exact(Oz h (GH h n) c ha).trans (pc rfl rfl rfl)
def Lk(h:aO t)(hex:∀c a,fX t a->Kp t c (ex c a).1)(c:Ck)(ha:fX t a):Kp t c (o6 ex c a):=fun hc=>by
 have k0:=uh h hc ha 0;refine(show Kp t c (o6 ex c a) from ?_) hc;rw[ut];have kA:Kp t c (iy ex c a):=(hex c _ k0).trans (pS _ _ ha);have kB:Kp t c (jy ex c a):=by
  unfold jy;split
  ·exact kA.trans (qw _ 41 ha)
  ·exact kA
 have kC:Kp t c (ee ex c a):=by
  unfold ee;split
  ·exact kB.trans (qw _ 4 ha)
  ·exact kB
 exact kC.trans (pc rfl rfl rfl)
def ML(h:aO t)(hex:∀c a,fX t a->Kp t c (ex c a).1)(c:Ck)(ha:fX t a):Kp t c (kg ex c a):=fun hc=>by
 have k0:=uh h hc ha 0;refine(show Kp t c (kg ex c a) from ?_) hc;unfold kg;simp only;split
 ·exact qw c 43 ha
 split
 ·exact(hex c _ k0).trans (pS _ _ ha)
 ·exact .refl t c
theorem Bg{t:aF}{st:Ck->Int->Ck}(P0:∀c a,fX t a->Kp t c (st c a)):∀(l:PJ) (c:Ck),(∀x∈l,fX t x)->Kp t c (dF st c l)
 |[],c,_=>by unfold dF;exact .refl t c
 |a::l,c,hl=>by
  unfold dF;split
  ·exact(P0 c a (hl a jE)).trans (Bg P0 l _ fun x hx=>hl x (by simp[hx]))
  ·exact .refl t c
def GM(h:aO t){st:Ck->Int->Ck}(P0:∀c a,fX t a->Kp t c (st c a))(c:Ck)(ha:fX t a):Kp t c (fe st c a):=fun hc=>by refine(show Kp t c (fe st c a) from ?_) hc;have h1:Kp t c (c.ah a):=pc rfl rfl rfl;exact(h1.trans (Bg P0 _ _ (yh h hc ha))).trans (pc rfl rfl rfl)
theorem CR{t:aF}(h:aO t):∀(n:Nat) (c:Ck) (a:Int),fX t a->Kp t c (bJ n c a)
 |0,c,a,ha=>by unfold bJ;exact .refl t c
 |n+1,c,a,ha=>fun hc=>by
  have k0:=uh h hc ha 0;have k1:=uh h hc ha 1;have kl:=yh h hc ha;refine(show Kp t c (bJ (n+1) c a) from ?_) hc;have e0:Kp t c (c.ah a):=pc rfl rfl rfl;have hx:=GH h n;unfold bJ;simp only;refine e0.trans ?_;repeat' split
  ·exact Lk h hx _ ha
  ·exact((xG _ ha).trans (hx _ _ k0)).trans (pS _ _ ha)
  ·exact(((xG _ ha).trans (hx _ _ k0)).trans (hx _ _ k1)).trans (pS _ _ ha)
  ·exact hx _ _ k0
  ·exact(hx _ _ k0).trans (pS _ _ ha)
  ·exact ML h hx _ ha
  ·exact((hx _ _ k0).trans (pS _ _ ha)).trans (Bg (fun c a ha=>GM h (CR h n) c ha) _ _ fun x Qd=>kl x (List.mem_of_mem_drop Qd))
theorem G2{t:aF}{body:Int}(hb:fX t body):∀(ps:List ce) (c:Ck) (i:Int),Kp t c (fC body c ps i)
 |[],c,i=>by unfold fC;exact .refl t c
 |p::ps,c,i=>by
  unfold fC;simp only;refine Kp.trans ?_ (G2 hb ps _ _);split
  ·exact(qw c 41 hb).trans (pc rfl rfl rfl)
  ·exact pc rfl rfl rfl
variable{k:Nat}
def pC(h:aO t)(hk:k<t.au.length):fX t (nth t.au k).body:=by have:=h.chain.mem (nth t.au k).body (List.mem_map.2 ⟨_,fu hk,rfl⟩);unfold fX;omega
def Ld(h:aO t)(c:Ck)(hk:k<t.au.length):Kp t c (gD c k):=fun hc=>by
 refine(show Kp t c (gD c k) from ?_) hc;have hb:fX t (nth c.aa.au k).body:=by rw[hc];exact pC h hk
 have h1:Kp t c (fC (nth c.aa.au k).body { c with fn:=(k:Int),vars:=[],more:=[],size:=0 } (nth c.aa.au k).params 0):=Kp.trans (b:={ c with fn:=(k:Int),vars:=[],more:=[],size:=0 }) (pc rfl rfl rfl) (G2 hb _ _ _);unfold gD;simp only;split
 ·exact(h1.trans (GM h (CR h _) _ hb)).trans (pc rfl rfl rfl)
 ·exact h1.trans (pc rfl rfl rfl)
theorem Cw{t:aF}(h:aO t):∀(n:Nat) (c:Ck) (i:Nat),i+n<=t.au.length->Kp t c (gG c i n)
 |0,c,i,_=>by unfold gG;exact .refl t c
 |n+1,c,i,hi=>by
  unfold gG;split
  ·exact(Ld h c jB).trans (Cw h n _ _ jB)
  ·exact .refl t c
theorem BS{t:aF}{x:aU}(hx:fX t x.body):∀(l:List aU) (c:Ck),Kp t c (lb x c l)
 |[],c=>by unfold lb;exact .refl t c
 |f::l,c=>by
  unfold lb;refine Kp.trans ?_ (BS hx l _);split
  ·exact qw c 41 hx
  ·exact .refl t c
theorem F1{t:aF}(h:aO t):∀(n:Nat) (c:Ck) (m:Bool) (i:Nat),i+n<=t.au.length->Kp t c (kG t.au c m i n).1
 |0,c,m,i,_=>by unfold kG;exact .refl t c
 |n+1,c,m,i,hi=>by unfold kG;exact(BS (pC h jB) _ _).trans (F1 h n _ _ _ jB)
def IV(h:aO t)(c:Ck):Kp t c (iY c):=fun hc=>by
 have h1:Kp t c (kG c.aa.au c false 0 c.aa.au.length).1:=by rw[hc];exact F1 h _ _ _ _ jB
 refine(show Kp t c (iY c) from ?_) hc;unfold iY;simp only;split
 ·exact h1
 ·refine h1.trans fun hq=>?_
  unfold Ck.aC;split
  ·exact⟨hq,fun _=>.inr (.inl rfl)⟩
  ·exact⟨hq,id⟩
def Ha(h:aO t):yn (ix t)/\(ix t).aa=t:=by have k:Kp t (jU t) (ix t):=(IV h (jU t)).trans (Cw h _ _ _ jB);exact⟨(k rfl).2 (.inl rfl),(k rfl).1⟩
def IH(h:aO t):(gZ t).2.2=0\/(gZ t).2.2=44\/fX t (gZ t).2.1:=by
 obtain⟨a,b⟩:=Ha h;unfold gZ;split
 ·rcases a with a|a|a
  ·exact .inl a
  ·exact .inr (.inl a)
  ·rw[b]at a;exact .inr (.inr a)
 ·exact .inl rfl
def D0(s:PL)(hs:s.size<=1000000):dO prog 10 [rS s] (.ba [.agg (fD (fP s).1),rI (fP s).2.1,rI (fP s).2.2]):=by
 have hp:=MQ s hs;by_cases h1:(gz s).2.2=0
 ·have ht:=xc h1;have hk:=Jg (gz s).1 ht;have Qx:=IH ht;by_cases h2:(gZ (gz s).1).2.2=44
  ·have e:fP s=(ko,0,44):=by unfold fP;rw[if_neg (fun h=>h h1)];simp only;rw[if_pos h2]
   rw[e];refine fg func10 ntmps10 ?_
   (have W:=jA h1 h2;repeat' (first|refine ax fun K hK=>?_|refine az ?_|(with_reducible refine gR 8 ?_);refine dA 8 [0] (aK 0 11) mixed ?_|(refine hK _ _ ?_;clear hK K)|(refine aw ?_ ?_<;>intro hc<;>try exact jz)|refine cp (hp) ?_|refine cp (hk) ?_|refine ay ?_|exact jI|(clear hK K)))
   refine lE [.cell 2 29,.tmp 3,.tmp 4] ?_;refine bT.ba (ds:=[.agg (fD ko),rI _,rI _]) ?_;refine jA (bT.agg (ds:=fD ko) ?_) (jA (.same _ rfl) (jA (.same _ rfl) trivial));simp only[fD,ko];exact j6
  ·by_cases h3:(gZ (gz s).1).2.2=0
   ·have e:fP s=((gZ (gz s).1).1,0,0):=by unfold fP;rw[if_neg (fun h=>h h1)];simp only;rw[if_neg h2,if_neg (fun h=>h h3)]
    rw[e];refine fg func10 ntmps10 ?_
    (have W:=jA h1 h3;repeat' (first|refine ax fun K hK=>?_|refine az ?_|(with_reducible refine gR 8 ?_);refine dA 8 [0] (aK 0 11) mixed ?_|(refine hK _ _ ?_;clear hK K)|(refine aw ?_ ?_<;>intro hc<;>try exact jz)|refine cp (hp) ?_|refine cp (hk) ?_|refine ay ?_|exact jI|(clear hK K)))
    (refine bA [.cell 2 29,.tmp 3,.tmp 4] ?_;try simp only[go_sem])
   ·have e:fP s=(ko,(nth (gz s).1.nodes (gZ (gz s).1).2.1.toNat).cu,(gZ (gz s).1).2.2):=by unfold fP;rw[if_neg (fun h=>h h1)];simp only;rw[if_neg h2,if_pos h3]
    obtain⟨QK,RY⟩:=(Qx.resolve_left h3).resolve_left h2;rw[e];refine fg func10 ntmps10 ?_
    (have W:=jA h1 (jA h2 (h3));repeat' (first|refine ax fun K hK=>?_|refine az ?_|(with_reducible refine gR 8 ?_);refine dA 8 [0] (aK 0 11) mixed ?_|(refine hK _ _ ?_;clear hK K)|(refine aw ?_ ?_<;>intro hc<;>try exact jz)|refine cp (hp) ?_|refine cp (hk) ?_|refine ay ?_|exact jI|(clear hK K)))
    refine lE [.cell 2 29,.tmp 3,.tmp 4] ?_;refine bT.ba (ds:=[.agg (fD ko),rI _,rI _]) ?_;refine jA (bT.agg (ds:=fD ko) ?_) (jA (.same _ rfl) (jA (.same _ rfl) trivial));simp only[fD,ko];exact j6
 ·have e:fP s=(ko,(gz s).2.1,(gz s).2.2):=by unfold fP;rw[if_pos h1]
  rw[e];refine fg func10 ntmps10 ?_
  (have W:=h1;repeat' (first|refine ax fun K hK=>?_|refine az ?_|(with_reducible refine gR 8 ?_);refine dA 8 [0] (aK 0 11) mixed ?_|(refine hK _ _ ?_;clear hK K)|(refine aw ?_ ?_<;>intro hc<;>try exact jz)|refine cp (hp) ?_|refine ay ?_|exact jI|(clear hK K)))
  refine lE [.cell 2 29,.tmp 3,.tmp 4] ?_;refine bT.ba (ds:=[.agg (fD ko),rI _,rI _]) ?_;refine jA (bT.agg (ds:=fD ko) ?_) (jA (.same _ rfl) (jA (.same _ rfl) trivial));simp only[fD,ko];exact j6
def wl[Inhabited α](l:List α)(i k:Nat)(v:α):nth (l.set i v) k=if i=k/\k<l.length then v else nth l k:=by
 unfold nth;rw[List.getD_eq_getElem?_getD,List.getElem?_set,List.getD_eq_getElem?_getD];by_cases h:i=k
 ·subst h;by_cases hi:i<l.length
  ·simp[hi]
  ·simp[hi]
 ·simp[h]
structure um(t:aF)(ty:List Int)(k:Nat):Prop where
 int:(nth t.nodes k).kind=1->nth ty k=1
 bool:(nth t.nodes k).kind=2->nth ty k=2
 text:(nth t.nodes k).kind=3->nth ty k=3
 var:(nth t.nodes k).kind=4->1<=nth ty k/\nth ty k<=4
 index:(nth t.nodes k).kind=5->nth ty k=1/\nth ty (nth (nth t.nodes k).l 0).toNat=1
 len:(nth t.nodes k).kind=6->nth ty k=1/\(nth ty (nth (nth t.nodes k).l 0).toNat=3\/nth ty (nth (nth t.nodes k).l 0).toNat=4)
 neg:(nth t.nodes k).kind=7->nth ty k=1/\nth ty (nth (nth t.nodes k).l 0).toNat=1
 not:(nth t.nodes k).kind=8->nth ty k=2/\nth ty (nth (nth t.nodes k).l 0).toNat=2
 Eb:(nth t.nodes k).kind=9->nth ty k=iu (nth t.nodes k).name (nth ty (nth (nth t.nodes k).l 0).toNat) (nth ty (nth (nth t.nodes k).l 1).toNat)/\nth ty k≠0
 cond:(nth t.nodes k).kind=15\/(nth t.nodes k).kind=16->nth ty (nth (nth t.nodes k).l 0).toNat=2
 call:(nth t.nodes k).kind=21->0<=iS aU.name (nth t.nodes k).name t.au 0 (-1)/\(nth t.nodes k).l.length=(nth t.au (iS aU.name (nth t.nodes k).name t.au 0 (-1)).toNat).params.length
 in_:(nth t.nodes k).kind=19->nth ty k=1
 new:(nth t.nodes k).kind=20->nth ty k=4
 Ae:(nth t.nodes k).kind=10->1<=nth ty (nth (nth t.nodes k).l 0).toNat/\nth ty (nth (nth t.nodes k).l 0).toNat<=4
def fQ(t:aF)(ty:PJ)(lo hi:Nat):Prop:=∀k,lo<=k->k<hi->um t ty k
def Tw(lo hi:Nat)(c c':Ck):Prop:=∀k,(k<lo\/hi<=k)->nth c'.types k=nth c.types k
variable{lo hi:Nat}{L:PJ}
def _root_.Go.Gd.aJ.closed{t:List bg}(h:aJ t lo L hi):∀k,lo<=k->k<hi->∀a∈(nth t k).l,lo<=a.toNat:=by
 induction h with
 |nil=>intro k h1 h2;omega
 |@cons lo c hi L hc h1 h2 i1 i2=>
  intro k Qg P1 a ha;have l1:=h1.le;by_cases h:k<c
  ·exact i1 k Qg h a ha
  by_cases h':k=c
  ·subst h';exact(h1.mem a ha).2.1
  ·have:=i2 k jB P1 a ha;omega
variable{ty:PJ}
def um.aT(h:aO t){ty':PJ}(hk:k<t.nodes.length)(PV:lo<=k)(hc:∀a∈(nth t.nodes k).l,lo<=a.toNat)(he:∀i,lo<=i->i<=k->nth ty' i=nth ty i)(x:um t ty k):um t ty' k:=by
 have hm:=(h.shape k hk).2.1;have sh:=(h.shape k hk).1;have e0:=he k PV jl;have ea:∀i,i<(nth t.nodes k).l.length->nth ty' (nth (nth t.nodes k).l i).toNat=nth ty (nth (nth t.nodes k).l i).toNat:=fun i hi=>by have Qw:=fu hi;have:=hm _ Qw;exact he _ (hc _ Qw) jB
 refine⟨fun e=>by rw[e0];exact x.int e,fun e=>by rw[e0];exact x.bool e,fun e=>by rw[e0];exact x.text e,fun e=>by rw[e0];exact x.var e,fun e=>?_,fun e=>?_,fun e=>?_,fun e=>?_,fun e=>?_,fun e=>?_,x.call,fun e=>by rw[e0];exact x.in_ e,fun e=>by rw[e0];exact x.new e,fun e=>?_⟩
 ·obtain⟨a,hl,_⟩:=sh.one jB;rw[e0,ea 0 (by rw[hl];simp)];exact x.index e
 ·obtain⟨a,hl,_⟩:=sh.one jB;rw[e0,ea 0 (by rw[hl];simp)];exact x.len e
 ·obtain⟨a,hl,_⟩:=sh.one jB;rw[e0,ea 0 (by rw[hl];simp)];exact x.neg e
 ·obtain⟨a,hl,_⟩:=sh.one jB;rw[e0,ea 0 (by rw[hl];simp)];exact x.not e
 ·obtain⟨a,b,hl,_⟩:=sh.two jB;rw[e0,ea 0 (by rw[hl];simp),ea 1 (by rw[hl];simp)];exact x.Eb e
 ·have hl:0<(nth t.nodes k).l.length:=by
   rcases e with e|e
   ·obtain⟨a,b,_,_,hl|⟨d,hl,_⟩⟩:=sh.lN e<;>rw[hl]<;>simp
   ·obtain⟨a,b,hl,_⟩:=sh.fm e;rw[hl];simp
  rw[ea 0 hl];exact x.cond e
 ·obtain⟨a,hl,_⟩:=sh.right jB;rw[ea 0 (by rw[hl];simp)];exact x.Ae e
theorem fQ.aT{t:aF}(h:aO t){ty ty':PJ}{lo hi:Nat}{L:PJ}(hc:aJ t.nodes lo L hi)(hl:hi<=t.nodes.length)(he:∀i,lo<=i->i<hi->nth ty' i=nth ty i)(x:fQ t ty lo hi):fQ t ty' lo hi:=fun k h1 h2=> (x k h1 h2).aT h jB h1 (hc.closed k h1 h2) fun i g1 g2=>he i g1 jB
variable{mid:Nat}
def fQ.join(x:fQ t ty lo mid)(y:fQ t ty mid hi):fQ t ty lo hi:=fun k h1 h2=>by
 by_cases h:k<mid
 ·exact x k h1 h
 ·exact y k jB h2
def fQ.none:fQ t ty lo lo:=fun k h1 h2=>jB
def Tw.refl(lo hi:Nat)(c:Ck):Tw lo hi c c:=fun _ _=>rfl
def Tw.same{c:Ck}(h:c'.types=c.types):Tw lo hi c c':=fun _ _=>by rw[h]
theorem Tw.trans{lo hi:Nat}{a b c:Ck}(h:Tw lo hi a b)(k:Tw lo hi b c):Tw lo hi a c:=fun i hi=>(k i hi).trans (h i hi)
def Tw.mono{lo' Rx:Nat}{a:Ck}(h:Tw lo hi a b)(h1:lo'<=lo)(h2:hi<=Rx):Tw lo' Rx a b:=fun i hi=>h i jB
def zQ(c:Ck)(e a:Int):(c.aC e a).types=c.types:=by unfold Ck.aC;split<;>rfl
def kN(c:Ck)(b:Bool)(a:Int):(c.ap b a).types=c.types:=by unfold Ck.ap;split;rfl;exact zQ _ _ _
def iP{c:Ck}{b:Bool}(h:(c.ap b a).e=0):b=true/\c.e=0:=by
 unfold Ck.ap at h;split at h
 ·exact⟨by assumption,h⟩
 ·exfalso;unfold Ck.aC at h;split at h
  ·cases h
  ·contradiction
def pW{c:Ck}{e:Int}(he:e≠0)(h:(c.aC e a).e=0):False:=by
 unfold Ck.aC at h;split at h
 ·exact he h
 ·contradiction
def wK(c:Ck)(a:Int):(c.named a).1.types=c.types:=by unfold Ck.named;split;exact zQ _ _ _;rfl
def cA(c:Ck):Prop:=∀v∈c.vars,1<=v.ty/\v.ty<=4
def cA.ev{c:Ck}(h:cA c)(s:Ev c c'):cA c':=by unfold cA;rw[s.vars];exact h
def OP{c:Ck}(h:cA c)(he:(c.named a).1.e=0):1<=(c.named a).2/\(c.named a).2<=4:=by
 unfold Ck.named at he ⊢;split
 ·rename_i hf;rw[if_pos hf]at he;exact(pW jC he).elim
 ·rename_i hf;rcases xi fq.name (c.node a).name c.vars 0 jB with⟨h1,_⟩|h1
  ·exact(hf (by show iw fq.name (c.node a).name c.vars 0<0;rw[h1];decide)).elim
  ·exact h _ (fu (by show(iw fq.name (c.node a).name c.vars 0).toNat<_;omega))
def Ev.e0{c:Ck}(s:Ev c c')(h:c'.e=0):c.e=0:=Classical.byContradiction fun e=>s.err e h
structure fW(t:aF)(lo hi:Nat)(c c':Ck):Prop where
 tw:Tw lo hi c c'
 all:fQ t c'.types lo hi
def fW.post{a c:Ck}(h:fW t lo hi a b)(e:c.types=b.types):fW t lo hi a c:=⟨h.tw.trans (.same e),by rw[e];exact h.all⟩
def fW.pre{a c:Ck}(e:b.types=a.types)(h:fW t lo hi b c):fW t lo hi a c:=⟨(Tw.same e).trans h.tw,h.all⟩
def fW.seq(ht:aO t){a c:Ck}(hc:aJ t.nodes lo L mid)(hl:mid<=t.nodes.length)(h1:mid<=hi)(h:fW t lo mid a b)(k:fW t mid hi b c):fW t lo hi a c:=
 ⟨(h.tw.mono jl h1).trans (k.tw.mono hc.le jl),(h.all.aT ht hc hl fun i _ h2=>k.tw i (.inl h2)).join k.all⟩
def yQ(t:aF)(n:Nat):Prop:=∀(c:Ck) (a:Int) (lo:Nat),bv c->c.aa=t->cA c->0<=a->a<t.nodes.length->a.toNat<n->ff (bE t.nodes a)->aJ t.nodes lo (nth t.nodes a.toNat).l a.toNat->(av n c a).1.e=0->
 fW t lo (a.toNat+1) c (av n c a).1/\nth (av n c a).1.types a.toNat=(av n c a).2/\0<=(av n c a).2/\(av n c a).2<=4
variable{t:List bg}
def jL(h:aJ t lo [a] hi):0<=a/\a<t.length/\lo<=a.toNat/\hi=a.toNat+1/\aJ t lo (nth t a.toNat).l a.toNat:=by
 cases h with
 |cons hc h1 h2=> cases h2;exact⟨jB,jB,by have:=h1.le;simpa using this,jE,by simpa using h1⟩
def jW(h:aJ t lo (a::L) hi):0<=a/\a<t.length/\lo<=a.toNat/\a.toNat+1<=hi/\aJ t lo (nth t a.toNat).l a.toNat/\aJ t (a.toNat+1) L hi:=by
 cases h with
 |cons hc h1 h2=>exact⟨jB,jB,by have:=h1.le;simpa using this,by have:=h2.le;simpa using this,by simpa using h1,by simpa using h2⟩
def aJ.nt(h0:0<=a)(h1:a<t.length)(h:aJ t lo (nth t a.toNat).l a.toNat):aJ t lo [a] (a.toNat+1):=by have e:a=((a.toNat:Nat):Int):=jB;rw[e];exact aJ.one jB (by simpa using h)
theorem Ef{t:aF}(ht:aO t){n:Nat}(hx:yQ t n):∀(L:PJ) (c:Ck) (ts:PJ) (lo hi:Nat),bv c->c.aa=t->cA c->hi<=n->hi<=t.nodes.length->(∀x∈L,ff (bE t.nodes x))->aJ t.nodes lo L hi->(gy (av n) c L ts).1.e=0->fW t lo hi c (gy (av n) c L ts).1
 |[],c,ts,lo,hi,h,hc,hv,hn,hl,hr,O',he=>by cases O';unfold gy;exact⟨.refl _ _ _,.none⟩
 |a::L,c,ts,lo,hi,h,hc,hv,hn,hl,hr,O',he=>by have e0:=(sH (eP n) (a::L) c ts).e0 he;unfold gy at he ⊢;rw[if_pos e0]at he ⊢;obtain⟨c1,c2,c3,c4,c5,c6⟩:=jW O';have ev:=eP n c a;have e1:=(sH (eP n) L _ _).e0 he;have r1:=(hx c a lo h hc hv c1 c2 jB (hr a jE) c5 e1).1;exact r1.seq ht (aJ.nt c1 c2 c5) jB jB (Ef ht hx L _ _ _ hi (h.ev ev) (ev.aa.trans hc) (hv.ev ev) hn hl (fun x hx=>hr x (by simp[hx])) c6 he)
theorem FO(a:Int):∀(ts:PJ) (ps:List ce) (c:Ck),(hZ a c ts ps).types=c.types
 |[],ps,c=>by rw[uN]
 |_::_,[],c=>by rw[uP]
 |x::ts,p::ps,c=>by
  unfold hZ;split
  ·rw[FO a ts ps _];exact kN _ _ _
  ·rfl
variable{t:aF}{n:Nat}
def JW(ht:aO t)(hx:yQ t n){c:Ck}(h:bv c)(hc:c.aa=t)(hv:cA c)(h0:0<=a)(h1:a<t.nodes.length)(hn:a.toNat<=n)(hk:(nth t.nodes a.toNat).kind=21)(O':aJ t.nodes lo (nth t.nodes a.toNat).l a.toNat)(he:(iL (av n) c a).1.e=0) :
  fW t lo a.toNat c (iL (av n) c a).1/\(0<=(iL (av n) c a).2/\(iL (av n) c a).2<=4)/\0<=iS aU.name (nth t.nodes a.toNat).name t.au 0 (-1)/\(nth t.nodes a.toNat).l.length=(nth t.au (iS aU.name (nth t.nodes a.toNat).name t.au 0 (-1)).toNat).params.length:=by
 have u':c.node a=nth t.nodes a.toNat:=by unfold Ck.node;rw[hc]
 have Qn:=(ht.shape a.toNat jB).1.call hk;unfold iL at he ⊢;split at he
 ·exact(pW jC he).elim
 rename_i hf;rw[if_neg hf];simp only at he ⊢;have e1:=(yg a _ _ _).e0 he;split at e1
 ·exact(pW jC e1).elim
 rename_i hl;rw[if_neg hl];have r:=Ef ht hx (c.node a).l c [] lo a.toNat h hc hv hn jB (fun x Qd=>.inl (Qn x (by rw[<-u'];exact Qd))) (by rw[u'];exact O') e1;have TU:fz c a=iS aU.name (nth t.nodes a.toNat).name t.au 0 (-1):=by unfold fz;rw[u',hc]
 refine⟨r.post (FO _ _ _ _),?_,by rw[<-TU];omega,by rw[<-TU,<-u',<-hc];omega⟩;have SF:(nth c.aa.au (fz c a).toNat)∈c.aa.au\/(nth c.aa.au (fz c a).toNat)=default:=by
  by_cases hi:(fz c a).toNat<c.aa.au.length
  ·exact .inl (fu hi)
  ·exact .inr (Ee (Nat.le_of_not_lt hi))
 rcases SF with SF|SF
 ·exact(ht.fn _ (by rw[<-hc];exact SF)).1.ret
 ·rw[SF];decide
def N4(s:PL)(a b:Int):0<=iu s a b/\iu s a b<=4:=by
 unfold iu;repeat' split
 all_goals omega
def Jd(ht:aO t){c:Ck}{T:Int}(hl:c'.types.length=t.nodes.length)(h0:0<=a)(h1:a<t.nodes.length)(O':aJ t.nodes lo (nth t.nodes a.toNat).l a.toNat)(r:fW t lo a.toNat c c')(hT:um t (c'.types.set a.toNat T) a.toNat) :
  fW t lo (a.toNat+1) c (c'.note a T)/\nth (c'.note a T).types a.toNat=T:=by
 have hs:∀k,nth (c'.note a T).types k=if a.toNat=k/\k<c'.types.length then T else nth c'.types k:=fun k=>wl _ _ _ _
 refine⟨⟨fun k hk=>?_,?_⟩,by rw[hs,if_pos ⟨rfl,jB⟩]⟩
 ·have PV:=O'.le;rw[hs,jN];exact r.tw k jB
 ·refine(r.all.aT ht O' jB fun i _ h2=>by rw[hs,jN]).join fun k g1 g2=>?_
  have:k=a.toNat:=jB;subst this;exact hT
theorem vw{t:aF}(ht:aO t):∀n,yQ t n
 |0=>fun c a lo h hc hv h0 h1 hn=>by omega
 |n+1=>fun c a lo h hc hv h0 h1 hn hr O' he=>by
  have hx:=vw ht n;have e0:=(eP (n+1) c a).e0 he;unfold av at he ⊢;rw[jN]at he ⊢;simp only at he ⊢;have he:(bX (av n) c a).1.e=0:=he;have u':c.node a=nth t.nodes a.toNat:=by unfold Ck.node;rw[hc]
  have sh:=(ht.shape a.toNat jB).1;have J':(bX (av n) c a).1.types.length=t.nodes.length:=by rw[(Aa (eP n) c a).types,h.types,hc]
  -- what is to be shown of the node itself
  suffices hs:fW t lo a.toNat c (bX (av n) c a).1/\um t ((bX (av n) c a).1.types.set a.toNat (bX (av n) c a).2) a.toNat/\0<=(bX (av n) c a).2/\(bX (av n) c a).2<=4 by obtain⟨s1,s2,s3⟩:=hs;obtain⟨g1,g2⟩:=Jd ht J' h0 h1 O' s1 s2;exact⟨g1,g2,s3⟩
  have PZ:∀T,nth ((bX (av n) c a).1.types.set a.toNat T) a.toNat=T:=fun T=>by rw[wl,if_pos ⟨rfl,jB⟩]
  have QI:∀T k,k≠a.toNat->nth ((bX (av n) c a).1.types.set a.toNat T) k=nth (bX (av n) c a).1.types k:=fun T k hk=>by rw[wl,jN]
  have leaf:(nth t.nodes a.toNat).l=[]->∀c',c'.types=c.types->fW t lo a.toNat c c':=fun hl c' e=>by
   rw[hl]at O';have:lo=a.toNat:=by cases O';rfl
   subst this;exact⟨.same e,.none⟩
  have kid1:∀c0 x,bv c0->c0.aa=t->cA c0->c0.types=c.types->(nth t.nodes a.toNat).l=[x]->ff (bE t.nodes x)->(av n c0 x).1.e=0->fW t lo a.toNat c (av n c0 x).1/\nth (av n c0 x).1.types x.toNat=(av n c0 x).2/\x.toNat≠a.toNat:=fun c0 x g1 g2 g3 g4 hl S4 Qc=>by rw[hl]at O';obtain⟨c1,c2,c3,c4,c5⟩:=jL O';obtain⟨r1,r2,_⟩:=hx c0 x lo g1 g2 g3 c1 c2 jB S4 c5 Qc;rw[c4];exact⟨r1.pre g4,r2,jB⟩
  have kd:∀i,c.aA a i=nth (nth t.nodes a.toNat).l i:=fun i=>by unfold Ck.aA;rw[u']
  have TX:(nth t.nodes a.toNat).kind=1\/(nth t.nodes a.toNat).kind=2\/(nth t.nodes a.toNat).kind=3\/(nth t.nodes a.toNat).kind=4\/(nth t.nodes a.toNat).kind=5\/(nth t.nodes a.toNat).kind=6\/(nth t.nodes a.toNat).kind=7\/(nth t.nodes a.toNat).kind=8\/(nth t.nodes a.toNat).kind=9\/(nth t.nodes a.toNat).kind=19\/(nth t.nodes a.toNat).kind=20\/(nth t.nodes a.toNat).kind=21:=by have:ff (nth t.nodes a.toNat).kind:=hr;unfold ff bW at this;omega
  rcases TX with k|k|k|k|k|k|k|k|k|k|k|k
  ·have e:bX (av n) c a=(c,1):=by unfold bX;simp only;rw[u',k];rfl
   rw[e]at PZ ⊢;refine⟨leaf (sh.zero jB) _ rfl,?_,jE,jE⟩;constructor<;>intro k'<;>first|omega|exact PZ _
  ·have e:bX (av n) c a=(c,2):=by unfold bX;simp only;rw[u',k];rfl
   rw[e]at PZ ⊢;refine⟨leaf (sh.zero jB) _ rfl,?_,jE,jE⟩;constructor<;>intro k'<;>first|omega|exact PZ _
  ·have e:bX (av n) c a=(c,3):=by unfold bX;simp only;rw[u',k];rfl
   rw[e]at PZ ⊢;refine⟨leaf (sh.zero jB) _ rfl,?_,jE,jE⟩;constructor<;>intro k'<;>first|omega|exact PZ _
  ·have e:bX (av n) c a=c.named a:=by unfold bX;simp only;rw[u',k];rfl
   rw[e]at PZ he ⊢;have Sj:=OP hv he;refine⟨leaf (sh.zero jB) _ (wK c a),?_,jB,jB⟩;constructor<;>intro k'<;>first|omega|(rw[PZ];exact Sj)
  ·have e:bX (av n) c a=((av n (c.named a).1 (c.aA a 0)).1.ap (decide ((c.named a).2=4) && decide ((av n (c.named a).1 (c.aA a 0)).2=1)) a,1):=by unfold bX;simp only;rw[u',k];rfl
   obtain⟨x,hl,Qc⟩:=sh.one jB;have PX:c.aA a 0=x:=by rw[kd,hl];rfl
   rw[e]at PZ QI he ⊢;rw[PX]at PZ QI he ⊢;obtain⟨b1,b2⟩:=iP he;simp only[Bool.and_eq_true,decide_eq_true_eq]at b1;have ev:=mQ c a;obtain⟨r1,r2,r3⟩:=kid1 (c.named a).1 x (h.ev ev) (ev.aa.trans hc) (hv.ev ev) (wK c a) hl (.inl Qc) b2;refine⟨r1.post (kN _ _ _),?_,jE,jE⟩;constructor<;>intro k'<;>first|omega|skip
   refine⟨PZ _,?_⟩;rw[hl];show nth (List.set _ _ _) x.toNat=1;rw[QI _ _ r3];show nth (Ck.ap _ _ _).types x.toNat=1;rw[kN,r2];exact b1.2
  ·have e:bX (av n) c a=((av n c (c.aA a 0)).1.ap (decide ((av n c (c.aA a 0)).2=3) || decide ((av n c (c.aA a 0)).2=4)) a,1):=by unfold bX;simp only;rw[u',k];rfl
   obtain⟨x,hl,Qc⟩:=sh.one jB;have PX:c.aA a 0=x:=by rw[kd,hl];rfl
   rw[e]at PZ QI he ⊢;rw[PX]at PZ QI he ⊢;obtain⟨b1,b2⟩:=iP he;simp only[Bool.or_eq_true,decide_eq_true_eq]at b1;obtain⟨r1,r2,r3⟩:=kid1 c x h hc hv rfl hl (.inl Qc) b2;refine⟨r1.post (kN _ _ _),?_,jE,jE⟩;constructor<;>intro k'<;>first|omega|skip
   refine⟨PZ _,?_⟩;rw[hl];show nth (List.set _ _ _) x.toNat=3\/nth (List.set _ _ _) x.toNat=4;rw[QI _ _ r3];show nth (Ck.ap _ _ _).types x.toNat=3\/nth (Ck.ap _ _ _).types x.toNat=4;rw[kN,r2];exact b1
  ·have e:bX (av n) c a=((av n c (c.aA a 0)).1.ap (decide ((av n c (c.aA a 0)).2=1)) a,1):=by unfold bX;simp only;rw[u',k];rfl
   obtain⟨x,hl,Qc⟩:=sh.one jB;have PX:c.aA a 0=x:=by rw[kd,hl];rfl
   rw[e]at PZ QI he ⊢;rw[PX]at PZ QI he ⊢;obtain⟨b1,b2⟩:=iP he;simp only[decide_eq_true_eq]at b1;obtain⟨r1,r2,r3⟩:=kid1 c x h hc hv rfl hl (.inl Qc) b2;refine⟨r1.post (kN _ _ _),?_,jE,jE⟩;constructor<;>intro k'<;>first|omega|skip
   refine⟨PZ _,?_⟩;rw[hl];show nth (List.set _ _ _) x.toNat=1;rw[QI _ _ r3];show nth (Ck.ap _ _ _).types x.toNat=1;rw[kN,r2];exact b1
  ·have e:bX (av n) c a=((av n c (c.aA a 0)).1.ap (decide ((av n c (c.aA a 0)).2=2)) a,2):=by unfold bX;simp only;rw[u',k];rfl
   obtain⟨x,hl,Qc⟩:=sh.one jB;have PX:c.aA a 0=x:=by rw[kd,hl];rfl
   rw[e]at PZ QI he ⊢;rw[PX]at PZ QI he ⊢;obtain⟨b1,b2⟩:=iP he;simp only[decide_eq_true_eq]at b1;obtain⟨r1,r2,r3⟩:=kid1 c x h hc hv rfl hl (.inl Qc) b2;refine⟨r1.post (kN _ _ _),?_,jE,jE⟩;constructor<;>intro k'<;>first|omega|skip
   refine⟨PZ _,?_⟩;rw[hl];show nth (List.set _ _ _) x.toNat=2;rw[QI _ _ r3];show nth (Ck.ap _ _ _).types x.toNat=2;rw[kN,r2];exact b1
  ·have e:bX (av n) c a=((av n (av n c (c.aA a 0)).1 (c.aA a 1)).1.ap (!decide (iu (c.node a).name (av n c (c.aA a 0)).2 (av n (av n c (c.aA a 0)).1 (c.aA a 1)).2=0)) a,iu (c.node a).name (av n c (c.aA a 0)).2 (av n (av n c (c.aA a 0)).1 (c.aA a 1)).2):=by unfold bX;simp only;rw[u',k];rfl
   obtain⟨x,y,hl,Qc,SQ⟩:=sh.two jB;have PX:c.aA a 0=x:=by rw[kd,hl];rfl
   have Qg:c.aA a 1=y:=by rw[kd,hl];rfl
   rw[e]at PZ QI he ⊢;rw[PX,Qg]at PZ QI he ⊢;obtain⟨b1,b2⟩:=iP he;simp only[Bool.not_eq_true',decide_eq_false_iff_not]at b1;have ev:=eP n c x;have b0:(av n c x).1.e=0:=(eP n _ y).e0 b2;rw[hl]at O';obtain⟨c1,c2,c3,c4,c5,c6⟩:=jW O';obtain⟨d1,d2,d3,d4,d5⟩:=jL c6;obtain⟨r1,r2,_⟩:=hx c x lo h hc hv c1 c2 jB (.inl Qc) c5 b0;obtain⟨q1,q2,_⟩:=hx (av n c x).1 y (x.toNat+1) (h.ev ev) (ev.aa.trans hc) (hv.ev ev) d1 d2 jB (.inl SQ) d5 b2;have rr:=r1.seq ht (aJ.nt c1 c2 c5) jB jB q1;rw[d4];refine⟨rr.post (kN _ _ _),?_,N4 _ _ _⟩;rw[d4]at PZ QI;rw[<-d4];rw[<-d4]at PZ QI;have ex:nth ((av n (av n c x).1 y).1.types) x.toNat=(av n c x).2:=by rw[q1.tw _ jB,r2]
   constructor<;>intro k'<;>first|omega|skip
   have g0:=PZ (iu (c.node a).name (av n c x).2 (av n (av n c x).1 y).2);have g1:=QI (iu (c.node a).name (av n c x).2 (av n (av n c x).1 y).2) x.toNat jB;have g2:=QI (iu (c.node a).name (av n c x).2 (av n (av n c x).1 y).2) y.toNat jB;simp only[kN]at g0 g1 g2 ⊢;rw[hl];show _=iu _ (nth _ x.toNat) (nth _ y.toNat)/\_;rw[g0,g1,g2,ex,q2,<-u'];exact⟨rfl,b1⟩
  ·have e:bX (av n) c a=(c,1):=by unfold bX;simp only;rw[u',k];rfl
   rw[e]at PZ ⊢;refine⟨leaf (sh.zero jB) _ rfl,?_,jE,jE⟩;constructor<;>intro k'<;>first|omega|exact PZ _
  ·have e:bX (av n) c a=((av n c (c.aA a 0)).1.ap (decide ((av n c (c.aA a 0)).2=1)) a,4):=by unfold bX;simp only;rw[u',k];rfl
   obtain⟨x,hl,Qc⟩:=sh.one jB;have PX:c.aA a 0=x:=by rw[kd,hl];rfl
   rw[e]at PZ he ⊢;rw[PX]at PZ he ⊢;obtain⟨b1,b2⟩:=iP he;obtain⟨r1,r2,r3⟩:=kid1 c x h hc hv rfl hl (.inl Qc) b2;refine⟨r1.post (kN _ _ _),?_,jE,jE⟩;constructor<;>intro k'<;>first|omega|exact PZ _
  ·have e:bX (av n) c a=iL (av n) c a:=by unfold bX;simp only;rw[u',k];rfl
   rw[e]at he ⊢;obtain⟨r1,r2,r3⟩:=JW ht hx h hc hv h0 h1 jB k O' he;refine⟨r1,?_,r2⟩;constructor<;>intro k'<;>first|omega|exact r3
def fW.skip{c:Ck}(hk:eR (bE t.nodes a)\/bE t.nodes a=18)(XQ:(nth t.nodes a.toNat).kind=15\/(nth t.nodes a.toNat).kind=16\/(nth t.nodes a.toNat).kind=10->((nth t.nodes a.toNat).kind=10\/nth c'.types (nth (nth t.nodes a.toNat).l 0).toNat=2)/\1<=nth c'.types (nth (nth t.nodes a.toNat).l 0).toNat/\nth c'.types (nth (nth t.nodes a.toNat).l 0).toNat<=4)(r:fW t lo a.toNat c c'):fW t lo (a.toNat+1) c c':=by
 refine⟨r.tw.mono jl jB,fun k h1 h2=>?_⟩;by_cases h:k<a.toNat
 ·exact r.all k h1 h
 ·have:k=a.toNat:=jB;subst this;have hk:eR (nth t.nodes a.toNat).kind\/(nth t.nodes a.toNat).kind=18:=hk;unfold eR at hk;constructor<;>intro k'<;>first|omega|exact(XQ jB).1.resolve_left jB|exact(XQ jB).2
def DX(t:aF)(n:Nat):Prop:=∀(c:Ck) (a:Int) (lo:Nat),bv c->c.aa=t->cA c->c.e=0->0<=a->a<t.nodes.length->a.toNat<n->eR (bE t.nodes a)->aJ t.nodes lo (nth t.nodes a.toNat).l a.toNat->(bJ n c a).e=0->
 fW t lo (a.toNat+1) c (bJ n c a)/\cA (bJ n c a)
def Sv.e0{c:Ck}(s:Sv c c')(h:c'.e=0):c.e=0:=Classical.byContradiction fun e=>s.err e h
theorem Bw{t:aF}(ht:aO t){st:Ck->Int->Ck}{C:Int->Prop}{n:Nat}(hs:∀c a,bv c->c.e=0->Sv c (st c a))
  (P0:∀(c:Ck) (a:Int) (lo:Nat),bv c->c.aa=t->cA c->c.e=0->0<=a->a<t.nodes.length->a.toNat<n->C (bE t.nodes a)->aJ t.nodes lo (nth t.nodes a.toNat).l a.toNat->(st c a).e=0->fW t lo (a.toNat+1) c (st c a)/\cA (st c a)) :
  ∀(L:PJ) (c:Ck) (lo hi:Nat),bv c->c.aa=t->cA c->hi<=n->hi<=t.nodes.length->(∀x∈L,C (bE t.nodes x))->aJ t.nodes lo L hi->(dF st c L).e=0->fW t lo hi c (dF st c L)/\cA (dF st c L)
 |[],c,lo,hi,h,hc,hv,hn,hl,hr,O',he=>by cases O';unfold dF;exact⟨⟨.refl _ _ _,.none⟩,hv⟩
 |a::L,c,lo,hi,h,hc,hv,hn,hl,hr,O',he=>by have e0:=(qv hs (a::L) c h).e0 he;unfold dF at he ⊢;rw[if_pos e0]at he ⊢;obtain⟨c1,c2,c3,c4,c5,c6⟩:=jW O';have s:=hs c a h e0;have e1:=(qv hs L _ s.inv).e0 he;obtain⟨r1,v1⟩:=P0 c a lo h hc hv e0 c1 c2 jB (hr a jE) c5 e1;obtain⟨r2,v2⟩:=Bw ht hs P0 L _ _ hi s.inv (s.aa.trans hc) v1 hn hl (fun x hx=>hr x (by simp[hx])) c6 he;exact⟨r1.seq ht (aJ.nt c1 c2 c5) jB jB r2,v2⟩
def GG(ht:aO t)(P0:DX t n)(c:Ck)(a:Int)(lo:Nat)(h:bv c)(hc:c.aa=t)(hv:cA c)(h0:0<=a)(h1:a<t.nodes.length)(hn:a.toNat<=n)(hk:bE t.nodes a=18)(O':aJ t.nodes lo (nth t.nodes a.toNat).l a.toNat)(he:(fe (bJ n) c a).e=0) :
  fW t lo (a.toNat+1) c (fe (bJ n) c a)/\cA (fe (bJ n) c a):=by
 have sv:=pm (nF n) h a;have u':c.node a=nth t.nodes a.toNat:=by unfold Ck.node;rw[hc]
 have hb:=(ht.shape a.toNat jB).1.block hk;have ev:=qk c a;obtain⟨r,_⟩:=Bw ht (nF n) (C:=eR) P0 (c.node a).l (c.ah a) lo a.toNat (h.ev ev) (ev.aa.trans hc) (hv.ev ev) hn jB (fun x hx=>hb x (by rw[<-u'];exact hx)) (by rw[u'];exact O') he;have r:fW t lo a.toNat c (fe (bJ n) c a):=fW.post (b:=dF (bJ n) (c.ah a) (c.node a).l) (fW.pre (a:=c) (b:=c.ah a) rfl r) rfl;have S5:(nth t.nodes a.toNat).kind=18:=hk;refine⟨r.skip (.inr hk) (fun h=>jB),?_⟩;unfold cA;rw[sv.2];exact hv
variable{c0:Ck}{x:Int}
def vU(ht:aO t){c:Ck}(h:bv c0)(hc:c0.aa=t)(hv:cA c0)(Sj:c0.types=c.types)(hn:a.toNat<=n)(hl:(nth t.nodes a.toNat).l=[x])(hx:ff (bE t.nodes x))(O':aJ t.nodes lo (nth t.nodes a.toNat).l a.toNat)(he:(av n c0 x).1.e=0) :
  fW t lo a.toNat c (av n c0 x).1/\0<=(av n c0 x).2/\(av n c0 x).2<=4/\nth (av n c0 x).1.types x.toNat=(av n c0 x).2:=by
 rw[hl]at O';obtain⟨c1,c2,c3,c4,c5⟩:=jL O';obtain⟨r1,r2,r3⟩:=vw ht n c0 x lo h hc hv c1 c2 jB hx c5 he;rw[c4];exact⟨r1.pre Sj,r3.1,r3.2,r2⟩
def Kb(ht:aO t){c:Ck}{y:Int}(h:bv c0)(hc:c0.aa=t)(hv:cA c0)(Sj:c0.types=c.types)(hn:a.toNat<=n)(hl:(nth t.nodes a.toNat).l=[x,y])(hx:bW (bE t.nodes x))(hy:bW (bE t.nodes y))(O':aJ t.nodes lo (nth t.nodes a.toNat).l a.toNat)(Qa:a.toNat<=t.nodes.length)(he:(av n (av n c0 x).1 y).1.e=0) :
  fW t lo a.toNat c (av n (av n c0 x).1 y).1:=by
 rw[hl]at O';obtain⟨c1,c2,c3,c4,c5,c6⟩:=jW O';obtain⟨d1,d2,d3,d4,d5⟩:=jL c6;have ev:=eP n c0 x;obtain⟨r1,_⟩:=vw ht n c0 x lo h hc hv c1 c2 jB (.inl hx) c5 ((eP n _ y).e0 he);obtain⟨q1,_⟩:=vw ht n (av n c0 x).1 y (x.toNat+1) (h.ev ev) (ev.aa.trans hc) (hv.ev ev) d1 d2 jB (.inl hy) d5 he;rw[d4];exact(r1.seq ht (aJ.nt c1 c2 c5) jB jB q1).pre Sj
def wG{c:Ck}{p:Prop}[Decidable p]{e:Int}(he:e≠0)(h:(if p then c.aC e a else c).e=0):¬p/\(if p then c.aC e a else c)=c:=by
 split at h
 ·exact(pW he h).elim
 ·rename_i hp;exact⟨hp,if_neg hp⟩
theorem EF{t:aF}(ht:aO t):∀n,DX t n
 |0=>fun c a lo h hc hv e0 h0 h1 hn=>by omega
 |n+1=>fun c a lo h hc hv e0 h0 h1 hn hr O' he=>by
  have hs:=EF ht n;have u':(c.ah a).node a=nth t.nodes a.toNat:=by unfold Ck.node;show nth c.aa.nodes _=_;rw[hc]
  have sh:=(ht.shape a.toNat jB).1;have kd:∀i,(c.ah a).aA a i=nth (nth t.nodes a.toNat).l i:=fun i=>by unfold Ck.aA;rw[u']
  have ev:=qk c a;have h':=h.ev ev;have QQ:=ev.aa.trans hc;have Qp:=hv.ev ev;suffices WS:fW t lo a.toNat c (bJ (n+1) c a)/\cA (bJ (n+1) c a)/\((nth t.nodes a.toNat).kind=15\/(nth t.nodes a.toNat).kind=16\/(nth t.nodes a.toNat).kind=10->((nth t.nodes a.toNat).kind=10\/nth (bJ (n+1) c a).types (nth (nth t.nodes a.toNat).l 0).toNat=2)/\1<=nth (bJ (n+1) c a).types (nth (nth t.nodes a.toNat).l 0).toNat/\nth (bJ (n+1) c a).types (nth (nth t.nodes a.toNat).l 0).toNat<=4) from⟨WS.1.skip (.inl hr) WS.2.2,WS.2.1⟩
  have TX:(nth t.nodes a.toNat).kind=10\/(nth t.nodes a.toNat).kind=11\/(nth t.nodes a.toNat).kind=12\/(nth t.nodes a.toNat).kind=13\/(nth t.nodes a.toNat).kind=14\/(nth t.nodes a.toNat).kind=17\/(nth t.nodes a.toNat).kind=15\/(nth t.nodes a.toNat).kind=16:=by have:eR (nth t.nodes a.toNat).kind:=hr;unfold eR at this;omega
  rcases TX with k|k|k|k|k|k|k
  ·have e:bJ (n+1) c a=o6 (av n) (c.ah a) a:=by unfold bJ;simp only;rw[u',k];rfl
   obtain⟨x,hl,S4⟩:=sh.right jB;have PX:(c.ah a).aA a 0=x:=by rw[kd,hl];rfl
   rw[e]at he ⊢;rw[ut]at he ⊢;have he:(ee (av n) (c.ah a) a).e=0:=he;obtain⟨_,q1⟩:=wG jC he;have q1:ee (av n) (c.ah a) a=jy (av n) (c.ah a) a:=q1;rw[q1]at he;obtain⟨_,q2⟩:=wG jC he;have q2:jy (av n) (c.ah a) a=iy (av n) (c.ah a) a:=q2;rw[q2]at he;unfold iy at he;rw[PX]at he;obtain⟨b1,b2⟩:=iP he;simp only[Bool.not_eq_true',decide_eq_false_iff_not]at b1;obtain⟨r1,r2,r3,r4⟩:=vU (c:=c) ht h' QQ Qp rfl jB hl S4 O' b2;have Sj:(ee (av n) (c.ah a) a).types=(av n (c.ah a) x).1.types:=by rw[q1,q2];unfold iy;rw[PX,kN]
   refine⟨r1.post Sj,fun v R8=>?_,fun _=>⟨.inl k,by rw[hl];show 1<=nth (ee (av n) (c.ah a) a).types x.toNat/\nth (ee (av n) (c.ah a) a).types x.toNat<=4;rw[Sj,r4];omega⟩⟩
   have R8:v∈(ee (av n) (c.ah a) a).vars++[(⟨((c.ah a).node a).name,(av n (c.ah a) ((c.ah a).aA a 0)).2,(ee (av n) (c.ah a) a).size⟩:fq)]:=R8;rcases List.mem_append.1 R8 with hm|hm
   ·rw[(wN (eP n) (c.ah a) a).vars]at hm;exact Qp v hm
   ·rw[List.mem_singleton.1 hm];show 1<=(av n (c.ah a) ((c.ah a).aA a 0)).2/\(av n (c.ah a) ((c.ah a).aA a 0)).2<=4;rw[PX];omega
  ·have e:bJ (n+1) c a=(av n ((c.ah a).named a).1 ((c.ah a).aA a 0)).1.ap (decide (((c.ah a).named a).2=(av n ((c.ah a).named a).1 ((c.ah a).aA a 0)).2)) a:=by unfold bJ;simp only;rw[u',k];rfl
   obtain⟨x,hl,S4⟩:=sh.right jB;have PX:(c.ah a).aA a 0=x:=by rw[kd,hl];rfl
   rw[e]at he ⊢;rw[PX]at he ⊢;obtain⟨b1,b2⟩:=iP he;have en:=mQ (c.ah a) a;obtain⟨r1,_⟩:=vU (c:=c) ht (h'.ev en) (en.aa.trans QQ) (Qp.ev en) (wK _ _) jB hl S4 O' b2;exact⟨r1.post (kN _ _ _),(Qp.ev en).ev ((eP n _ _).trans (jO _ _ _)),fun h=>jB⟩
  ·have e:bJ (n+1) c a=(av n (av n ((c.ah a).named a).1 ((c.ah a).aA a 0)).1 ((c.ah a).aA a 1)).1.ap (decide (((c.ah a).named a).2=4) && decide ((av n ((c.ah a).named a).1 ((c.ah a).aA a 0)).2=1) && decide ((av n (av n ((c.ah a).named a).1 ((c.ah a).aA a 0)).1 ((c.ah a).aA a 1)).2=1)) a:=by unfold bJ;simp only;rw[u',k];rfl
   obtain⟨x,y,hl,Qc,SQ⟩:=sh.two jB;have PX:(c.ah a).aA a 0=x:=by rw[kd,hl];rfl
   have Qg:(c.ah a).aA a 1=y:=by rw[kd,hl];rfl
   rw[e]at he ⊢;rw[PX,Qg]at he ⊢;obtain⟨b1,b2⟩:=iP he;have en:=mQ (c.ah a) a;have r1:=Kb (c:=c) ht (h'.ev en) (en.aa.trans QQ) (Qp.ev en) (wK _ _) jB hl Qc SQ O' jB b2;exact⟨r1.post (kN _ _ _),(Qp.ev en).ev (((eP n _ _).trans (eP n _ _)).trans (jO _ _ _)),fun h=>jB⟩
  ·have e:bJ (n+1) c a=(av n (c.ah a) ((c.ah a).aA a 0)).1:=by unfold bJ;simp only;rw[u',k];rfl
   obtain⟨x,hl,WT⟩:=sh.pB k;have PX:(c.ah a).aA a 0=x:=by rw[kd,hl];rfl
   rw[e]at he ⊢;rw[PX]at he ⊢;obtain⟨r1,_⟩:=vU (c:=c) ht h' QQ Qp rfl jB hl (by rw[WT];unfold ff;omega) O' he;exact⟨r1,Qp.ev (eP n _ _),fun h=>jB⟩
  ·have e:bJ (n+1) c a=(av n (c.ah a) ((c.ah a).aA a 0)).1.ap (!decide ((av n (c.ah a) ((c.ah a).aA a 0)).2=4)) a:=by unfold bJ;simp only;rw[u',k];rfl
   obtain⟨x,hl,Qc⟩:=sh.one jB;have PX:(c.ah a).aA a 0=x:=by rw[kd,hl];rfl
   rw[e]at he ⊢;rw[PX]at he ⊢;obtain⟨b1,b2⟩:=iP he;obtain⟨r1,_⟩:=vU (c:=c) ht h' QQ Qp rfl jB hl (.inl Qc) O' b2;exact⟨r1.post (kN _ _ _),Qp.ev ((eP n _ _).trans (jO _ _ _)),fun h=>jB⟩
  ·have e:bJ (n+1) c a=kg (av n) (c.ah a) a:=by unfold bJ;simp only;rw[u',k];rfl
   rw[e]at he ⊢;unfold kg at he ⊢;rw[u']at he ⊢;simp only at he ⊢;split at he
   ·exact(pW jC he).elim
   rename_i hf;rw[if_neg hf];rcases sh.ret k with hl|⟨x,hl,Qc⟩
   ·rw[hl];rw[if_neg jC];rw[hl]at O';have:lo=a.toNat:=by cases O';rfl
    subst this;exact⟨⟨.same rfl,.none⟩,Qp,fun h=>jB⟩
   ·have PX:(c.ah a).aA a 0=x:=by rw[kd,hl];rfl
    have Rn:(nth t.nodes a.toNat).l.length=1:=by rw[hl];rfl
    rw[if_pos Rn]at he ⊢;rw[PX]at he ⊢;obtain⟨b1,b2⟩:=iP he;obtain⟨r1,_⟩:=vU (c:=c) ht h' QQ Qp rfl jB hl (.inl Qc) O' b2;exact⟨r1.post (kN _ _ _),Qp.ev ((eP n _ _).trans (jO _ _ _)),fun h=>jB⟩
  ·have e:bJ (n+1) c a=dF (fe (bJ n)) ((av n (c.ah a) ((c.ah a).aA a 0)).1.ap (decide ((av n (c.ah a) ((c.ah a).aA a 0)).2=2)) a) (((c.ah a).node a).l.drop 1):=by
    unfold bJ;simp only;rw[u'];rcases k with k|k<;>rw[k]<;>rfl
   have Tp:∃x L,(nth t.nodes a.toNat).l=x::L/\bW (bE t.nodes x)/\∀y∈L,bE t.nodes y=18:=by
    rcases k with k|k
    ·obtain⟨x,y,hx,hy,hl|⟨z,hl,hz⟩⟩:=sh.lN k
     ·exact⟨x,[y],hl,hx,fun u hu=>by rw[List.mem_singleton.1 hu];exact hy⟩
     ·exact⟨x,[y,z],hl,hx,fun u hu=>by
       rcases List.mem_cons.1 hu with rfl|hu
       ·exact hy
       ·rw[List.mem_singleton.1 hu];exact hz⟩
    ·obtain⟨x,y,hl,hx,hy⟩:=sh.fm k;exact⟨x,[y],hl,hx,fun u hu=>by rw[List.mem_singleton.1 hu];exact hy⟩
   obtain⟨x,L,hl,Qc,hL⟩:=Tp;have PX:(c.ah a).aA a 0=x:=by rw[kd,hl];rfl
   rw[e]at he ⊢;rw[u',hl,PX]at he ⊢;have he:(dF (fe (bJ n)) ((av n (c.ah a) x).1.ap (decide ((av n (c.ah a) x).2=2)) a) L).e=0:=he;show fW t lo a.toNat c (dF (fe (bJ n)) ((av n (c.ah a) x).1.ap (decide ((av n (c.ah a) x).2=2)) a) L)/\cA (dF (fe (bJ n)) ((av n (c.ah a) x).1.ap (decide ((av n (c.ah a) x).2=2)) a) L)/\((nth t.nodes a.toNat).kind=15\/(nth t.nodes a.toNat).kind=16\/(nth t.nodes a.toNat).kind=10->((nth t.nodes a.toNat).kind=10\/nth (dF (fe (bJ n)) ((av n (c.ah a) x).1.ap (decide ((av n (c.ah a) x).2=2)) a) L).types (nth (x::L) 0).toNat=2)/\1<=nth (dF (fe (bJ n)) ((av n (c.ah a) x).1.ap (decide ((av n (c.ah a) x).2=2)) a) L).types (nth (x::L) 0).toNat/\nth (dF (fe (bJ n)) ((av n (c.ah a) x).1.ap (decide ((av n (c.ah a) x).2=2)) a) L).types (nth (x::L) 0).toNat<=4);have ex:=(eP n (c.ah a) x).trans (jO _ (decide ((av n (c.ah a) x).2=2)) a);have Q2:=h'.ev ex;have VJ:∀(q:Ck) b,bv q->q.e=0->Sv q (fe (bJ n) q b):=fun q b hq _=>(pm (nF n) hq b).1
   have e1:=(qv VJ L _ Q2).e0 he;obtain⟨b1,b2⟩:=iP e1;rw[hl]at O';obtain⟨c1,c2,c3,c4,c5,c6⟩:=jW O';obtain⟨r1,r1b,_⟩:=vw ht n (c.ah a) x lo h' QQ Qp c1 c2 jB (.inl Qc) c5 b2;obtain⟨r2,v2⟩:=Bw ht VJ (C:=fun k=>k=18) (n:=n) (fun q b l g1 g2 g3 _ g5 g6 g7 g8 g9 g10=>GG ht hs q b l g1 g2 g3 g5 g6 jB g8 g9 g10) L _ (x.toNat+1) a.toNat Q2 (ex.aa.trans QQ) (Qp.ev ex) jB jB hL c6 he;exact⟨((fW.pre (a:=c) (b:=c.ah a) rfl r1).post (kN _ _ _)).seq ht (aJ.nt c1 c2 c5) jB jB r2,v2,fun _=>by show(_\/nth _ x.toNat=2)/\1<=nth _ x.toNat/\nth _ x.toNat<=4;rw[r2.tw x.toNat (.inl jB),kN,r1b];have:=of_decide_eq_true b1;omega⟩
theorem Ek{t:aF}(body:Int):∀(ps:List ce) (c:Ck) (i:Int),cA c->(∀p∈ps,1<=p.ty/\p.ty<=4)->cA (fC body c ps i)/\(fC body c ps i).types=c.types/\((fC body c ps i).e=0->c.e=0)
 |[],c,i,h,hp=>by unfold fC;exact⟨h,rfl,id⟩
 |p::ps,c,i,h,hp=>by
  have fin:∀c1:Ck,Ev c c1->c1.types=c.types->cA (fC body (lU c1 ⟨p.name,p.ty,i⟩) ps (i+1))/\(fC body (lU c1 ⟨p.name,p.ty,i⟩) ps (i+1)).types=c.types/\((fC body (lU c1 ⟨p.name,p.ty,i⟩) ps (i+1)).e=0->c.e=0):=fun c1 s e=>by
   obtain⟨a,b,d⟩:=Ek (t:=t) body ps (lU c1 ⟨p.name,p.ty,i⟩) (i+1) (fun v hv=>by
    have hv:v∈c1.vars++[(⟨p.name,p.ty,i⟩:fq)]:=hv;rcases List.mem_append.1 hv with hv|hv
    ·exact h.ev s v hv
    ·rw[List.mem_singleton.1 hv];exact hp p jE) (fun q hq=>hp q (by simp[hq]))
   exact⟨a,b.trans e,fun hh=>s.e0 (d hh)⟩
  unfold fC;simp only;split
  ·exact fin _ (mW c jC body) (zQ _ _ _)
  ·exact fin _ (.refl c) rfl
def G8(ht:aO t){c:Ck}(h:gf c)(hc:c.aa=t)(hk:k<t.au.length)(P5:c.aL.length<6)(O':aJ t.nodes lo (nth t.nodes (nth t.au k).body.toNat).l (nth t.au k).body.toNat)(he:(gD c k).e=0) :
  fW t lo ((nth t.au k).body.toNat+1) c (gD c k)/\c.e=0:=by
 have P8:k<c.aa.au.length:=by rw[hc];exact hk
 have TD:=h.aa.fn _ (fu P8);have Su:bv { c with fn:=(k:Int),vars:=[],more:=[],size:=0 }:=⟨h.aa,h.types,h.slots,h.au,by show c.aL.length<=6;omega,by show(0:Int)<=k;omega,by show(k:Int)<(c.aa.au.length:Int);omega,by show((0:Nat):Int)<=0;omega,by show(0:Int)<=25;omega,fun _=>by show(0:Int)<=24;omega⟩;obtain⟨a,b,d⟩:=yv (nth c.aa.au k).body (nth c.aa.au k).params _ 0 Su (by show(0:Int)+_<=20;omega);obtain⟨a',b',d'⟩:=Ek (t:=t) (nth c.aa.au k).body (nth c.aa.au k).params { c with fn:=(k:Int),vars:=[],more:=[],size:=0 } 0 (fun v hv=>by simp at hv) TD.1.ps;have RC:=pC ht hk;have S3:=ht.body _ (fu hk);unfold gD at he ⊢;simp only at he ⊢;rw[hc]at he ⊢;rw[hc]at a b d a' b' d';split at he
 ·rename_i e1;rw[if_pos e1];obtain⟨r,_⟩:=GG ht (EF ht t.nodes.length) _ (nth t.au k).body lo a (b.trans (by rfl)) a' RC.1 RC.2 (by have:=RC.2;have:=RC.1;omega) S3 O' he;have q:=fW.pre (a:=c) b' r;exact⟨⟨fun k hk=>q.tw k hk,q.all⟩,d' e1⟩
 ·rename_i e1;exact(e1 he).elim
theorem zm{t:aF}(ht:aO t):∀(n i lo:Nat) (c:Ck),gf c->c.aa=t->c.aL.length=i->i+n=t.au.length->aJ t.nodes lo ((t.au.drop i).map (·.body)) t.nodes.length->(gG c i n).e=0->
  fW t lo t.nodes.length c (gG c i n)/\(gG c i n).aa=t/\gf (gG c i n)/\(gG c i n).aL.length=t.au.length
 |0,i,lo,c,h,hc,hs,hi,O',he=>by
  unfold gG;rw[List.drop_eq_nil_of_le jB]at O';have:lo=t.nodes.length:=by cases O';rfl
  subst this;exact⟨⟨.refl _ _ _,.none⟩,hc,h,jB⟩
 |n+1,i,lo,c,h,hc,hs,hi,O',he=>by
  have h6:=ht.au;unfold gG at he ⊢;by_cases e0:c.e=0
  ·rw[if_pos e0]at he ⊢;have hk:i<t.au.length:=jB;rw[lg hk]at O';obtain⟨c1,c2,c3,c4,c5,c6⟩:=jW (a:=(nth t.au i).body) O';obtain⟨f1,f2,f3⟩:=zS h (by rw[hc];exact hk) (by omega:c.aL.length<6);have e1:(gD c i).e=0:=by
    cases n with
    |zero=>unfold gG at he;exact he
    |succ m=>
     unfold gG at he;split at he
     ·assumption
     ·exact he
   obtain⟨r1,_⟩:=G8 ht h hc hk jB c5 e1;obtain⟨r2,q1,q2,q3⟩:=zm ht n (i+1) ((nth t.au i).body.toNat+1) (gD c i) f1 (f2.trans hc) jB jB c6 he;exact⟨r1.seq ht (aJ.nt c1 c2 c5) jB jB r2,q1,q2,q3⟩
  ·rw[if_neg e0]at he;exact(e0 he).elim
structure s8(p:ab):Prop where
 aa:aO p.aa
 types:p.types.length=p.aa.nodes.length
 slots:p.slots.length=p.aa.nodes.length
 fn:p.fn.length=p.aa.nodes.length
 size:p.size.length=p.aa.au.length
 ty:fQ p.aa p.types 0 p.aa.nodes.length
def FT(ht:aO t):gf (iY (jU t))/\(iY (jU t)).aa=t/\(iY (jU t)).aL=[]:=by
 have ev:=Gb (jU t);refine⟨⟨by rw[ev.aa];exact ht,?_,?_,?_⟩,ev.aa,ev.aL⟩
 ·rw[ev.types,ev.aa];show(t.nodes.map _).length=t.nodes.length;simp
 ·rw[ev.slots,ev.aa];show(t.nodes.map _).length=t.nodes.length;simp
 ·rw[ev.au,ev.aa];show(t.nodes.map _).length=t.nodes.length;simp
def Bn(ht:aO t)(he:(gZ t).2.2=0):s8 (gZ t).1/\(gZ t).1.aa=t:=by
 unfold gZ at he ⊢;split at he
 ·rename_i h;exact(h he).elim
 rename_i h;rw[if_neg h];have h:(ix t).e=0:=jB;obtain⟨i1,i2,i3⟩:=FT ht;obtain⟨r,q1,q2,q3⟩:=zm ht t.au.length 0 0 (iY (jU t)) i1 i2 (by rw[i3];rfl) jB (by rw[List.drop_zero];exact ht.chain) h;refine⟨⟨q2.aa,q2.types,q2.slots,q2.au,?_,?_⟩,q1⟩
 ·show(ix t).aL.length=(ix t).aa.au.length;have e:(ix t).aa=t:=q1;rw[e];exact q3
 ·show fQ (ix t).aa (ix t).types 0 (ix t).aa.nodes.length;have e:(ix t).aa=t:=q1;rw[e];exact r.all
def NE{s:PL}(he:(fP s).2.2=0):s8 (fP s).1:=by
 unfold fP at he ⊢;split at he
 ·rename_i h;exact(h he).elim
 rename_i h;rw[if_neg h];have h:(gz s).2.2=0:=jB;simp only at he ⊢;split at he
 ·cases he
 rename_i h2;split at he
 ·rename_i h3;exact(h3 he).elim
 rename_i h3;rw[if_neg h2,if_neg h3];exact(Bn (xc h) jB).1
def iM(k:Int):Prop:=k=4\/k=5\/k=10\/k=11\/k=12
def cV(c:Ck):Prop:=0<=c.size/\∀v∈c.vars,0<=v.slot/\v.slot<c.size
structure fy(t:aF)(lo hi:Nat)(c c':Ck):Prop where
 sw:∀k,(k<lo\/hi<=k)->nth c'.slots k=nth c.slots k
 all:∀k,lo<=k->k<hi->iM (nth t.nodes k).kind->0<=nth c'.slots k/\nth c'.slots k<c'.size
 size:c.size<=c'.size
def fy.post{a c:Ck}(h:fy t lo hi a b)(e:c.slots=b.slots)(z:c.size=b.size):fy t lo hi a c:=⟨fun k hk=>by rw[e];exact h.sw k hk,fun k h1 h2 h3=>by rw[e,z];exact h.all k h1 h2 h3,by rw[z];exact h.size⟩
def fy.pre{a c:Ck}(e:b.slots=a.slots)(z:b.size=a.size)(h:fy t lo hi b c):fy t lo hi a c:=⟨fun k hk=>by rw[<-e];exact h.sw k hk,h.all,by rw[<-z];exact h.size⟩
def fy.refl(t:aF)(lo:Nat)(c:Ck):fy t lo lo c c:=⟨fun _ _=>rfl,fun k h1 h2=>jB,Int.le_refl _⟩
def fy.seq{a c:Ck}(h0:lo<=mid)(h1:mid<=hi)(h:fy t lo mid a b)(k:fy t mid hi b c):fy t lo hi a c:=by
 have:=k.size;refine⟨fun i Rx=>(k.sw i jB).trans (h.sw i jB),fun i g1 g2 g3=>?_,by have:=h.size;omega⟩;by_cases e:i<mid
 ·rw[k.sw i (.inl e)];have:=h.all i g1 e g3;omega
 ·exact k.all i jB g2 g3
def fy.node{c:Ck}(h:fy t lo n c c')(hn:iM (nth t.nodes n).kind->0<=nth c'.slots n/\nth c'.slots n<c'.size):fy t lo (n+1) c c':=
 ⟨fun k hk=>h.sw k jB,fun k h1 h2 h3=>by
  by_cases e:k<n
  ·exact h.all k h1 e h3
  ·have:k=n:=jB;subst this;exact hn h3,h.size⟩
def ER(c:Ck)(e a:Int):(c.aC e a).slots=c.slots/\(c.aC e a).size=c.size:=by unfold Ck.aC;split<;>exact⟨rfl,rfl⟩
def uT(c:Ck)(b:Bool)(a:Int):(c.ap b a).slots=c.slots/\(c.ap b a).size=c.size:=by unfold Ck.ap;split;exact⟨rfl,rfl⟩;exact ER _ _ _
theorem fy.ap{t:aF}{lo hi:Nat}{a c:Ck}{b:Bool}{x:Int}(h:fy t lo hi a c):fy t lo hi a (c.ap b x):=h.post (uT c b x).1 (uT c b x).2
def cV.ev{c:Ck}(h:cV c)(s:Ev c c'):cV c':=by unfold cV;rw[s.vars,s.size];exact h
def zK{c:Ck}(h:cV c)(hn:a.toNat=n)(hl:n<c.slots.length)(he:(c.named a).1.e=0):(∀k,k≠n->nth (c.named a).1.slots k=nth c.slots k)/\0<=nth (c.named a).1.slots n/\nth (c.named a).1.slots n<c.size:=by
 unfold Ck.named at he ⊢;split
 ·rename_i hf;rw[if_pos hf]at he;exact(pW jC he).elim
 ·rename_i hf;have hv:nth c.vars (c.find (c.node a).name).toNat∈c.vars:=by
   rcases xi fq.name (c.node a).name c.vars 0 jB with⟨h1,_⟩|h1
   ·exact(hf (by show iw fq.name (c.node a).name c.vars 0<0;rw[h1];decide)).elim
   ·exact fu (by show(iw fq.name (c.node a).name c.vars 0).toNat<_;omega)
  have hs:∀k,nth (c.slot a (nth c.vars (c.find (c.node a).name).toNat).slot).slots k=if n=k/\k<c.slots.length then(nth c.vars (c.find (c.node a).name).toNat).slot else nth c.slots k:=fun k=>by show nth (c.slots.set a.toNat _) k=_;rw[wl,hn]
  refine⟨fun k hk=>by show nth (c.slot a _).slots k=_;rw[hs,jN],?_⟩;show 0<=nth (c.slot a _).slots n/\nth (c.slot a _).slots n<_;rw[hs,if_pos ⟨rfl,hl⟩];exact h.2 _ hv
def CU(t:aF)(n:Nat):Prop:=∀(c:Ck) (a:Int) (lo:Nat),bv c->c.aa=t->cV c->0<=a->a<t.nodes.length->a.toNat<n->ff (bE t.nodes a)->aJ t.nodes lo (nth t.nodes a.toNat).l a.toNat->(av n c a).1.e=0->fy t lo (a.toNat+1) c (av n c a).1
theorem D1{t:aF}{n:Nat}(hx:CU t n):∀(L:PJ) (c:Ck) (ts:PJ) (lo hi:Nat),bv c->c.aa=t->cV c->hi<=n->(∀x∈L,ff (bE t.nodes x))->aJ t.nodes lo L hi->(gy (av n) c L ts).1.e=0->fy t lo hi c (gy (av n) c L ts).1
 |[],c,ts,lo,hi,h,hc,hv,hn,hr,O',he=>by cases O';unfold gy;exact .refl _ _ _
 |a::L,c,ts,lo,hi,h,hc,hv,hn,hr,O',he=>by have e0:=(sH (eP n) (a::L) c ts).e0 he;unfold gy at he ⊢;rw[if_pos e0]at he ⊢;obtain⟨c1,c2,c3,c4,c5,c6⟩:=jW O';have ev:=eP n c a;have e1:=(sH (eP n) L _ _).e0 he;have r1:=hx c a lo h hc hv c1 c2 jB (hr a jE) c5 e1;exact r1.seq jB jB (D1 hx L _ _ _ hi (h.ev ev) (ev.aa.trans hc) (hv.ev ev) hn (fun x hx=>hr x (by simp[hx])) c6 he)
theorem Fe(a:Int):∀(ts:PJ) (ps:List ce) (c:Ck),(hZ a c ts ps).slots=c.slots/\(hZ a c ts ps).size=c.size
 |[],ps,c=>by rw[uN];exact⟨rfl,rfl⟩
 |_::_,[],c=>by rw[uP];exact⟨rfl,rfl⟩
 |x::ts,p::ps,c=>by
  unfold hZ;split
  ·have:=Fe a ts ps (c.ap (decide (x=p.ty)) a);exact⟨this.1.trans (uT _ _ _).1,this.2.trans (uT _ _ _).2⟩
  ·exact⟨rfl,rfl⟩
theorem u4{t:aF}(ht:aO t):∀n,CU t n
 |0=>fun c a lo h hc hv h0 h1 hn=>by omega
 |n+1=>fun c a lo h hc hv h0 h1 hn hr O' he=>by
  have hx:=u4 ht n;have e0:=(eP (n+1) c a).e0 he;unfold av at he ⊢;rw[jN]at he ⊢;simp only at he ⊢;have he:(bX (av n) c a).1.e=0:=he;have u':c.node a=nth t.nodes a.toNat:=by unfold Ck.node;rw[hc]
  have sh:=(ht.shape a.toNat jB).1;suffices hs:fy t lo (a.toNat+1) c (bX (av n) c a).1 from hs.post rfl rfl
  have PV:=O'.le;have leaf:(nth t.nodes a.toNat).l=[]->fy t lo a.toNat c c:=fun hl=>by
   rw[hl]at O';have:lo=a.toNat:=by cases O';rfl
   subst this;exact .refl _ _ _
  have kid1:∀x,(nth t.nodes a.toNat).l=[x]->ff (bE t.nodes x)->(av n c x).1.e=0->fy t lo a.toNat c (av n c x).1:=fun x hl S4 Qc=>by rw[hl]at O';obtain⟨c1,c2,c3,c4,c5⟩:=jL O';rw[c4];exact hx c x lo h hc hv c1 c2 jB S4 c5 Qc
  have kd:∀i,c.aA a i=nth (nth t.nodes a.toNat).l i:=fun i=>by unfold Ck.aA;rw[u']
  have TX:(nth t.nodes a.toNat).kind=1\/(nth t.nodes a.toNat).kind=2\/(nth t.nodes a.toNat).kind=3\/(nth t.nodes a.toNat).kind=4\/(nth t.nodes a.toNat).kind=5\/(nth t.nodes a.toNat).kind=6\/(nth t.nodes a.toNat).kind=7\/(nth t.nodes a.toNat).kind=8\/(nth t.nodes a.toNat).kind=9\/(nth t.nodes a.toNat).kind=19\/(nth t.nodes a.toNat).kind=20\/(nth t.nodes a.toNat).kind=21:=by have:ff (nth t.nodes a.toNat).kind:=hr;unfold ff bW at this;omega
  have Qb:∀{q:Prop},¬((nth t.nodes a.toNat).kind=4\/(nth t.nodes a.toNat).kind=5)->iM (nth t.nodes a.toNat).kind->q:=fun h1 h2=>by unfold iM at h2;have:ff (nth t.nodes a.toNat).kind:=hr;unfold ff bW at this;omega
  have Q0:a.toNat<c.slots.length:=by rw[h.slots,hc];omega
  rcases TX with k|k|k|k|k|k|k|k|k|k|k|k
  ·have e:bX (av n) c a=(c,1):=by unfold bX;simp only;rw[u',k];rfl
   rw[e];exact(leaf (sh.zero jB)).node (Qb jB)
  ·have e:bX (av n) c a=(c,2):=by unfold bX;simp only;rw[u',k];rfl
   rw[e];exact(leaf (sh.zero jB)).node (Qb jB)
  ·have e:bX (av n) c a=(c,3):=by unfold bX;simp only;rw[u',k];rfl
   rw[e];exact(leaf (sh.zero jB)).node (Qb jB)
  ·have e:bX (av n) c a=c.named a:=by unfold bX;simp only;rw[u',k];rfl
   rw[e]at he ⊢;obtain⟨g1,g2⟩:=zK hv rfl Q0 he;have hz:=(mQ c a).size;have hl:=sh.zero jB;rw[hl]at O';have:lo=a.toNat:=by cases O';rfl
   subst this;exact⟨fun k hk=>g1 k jB,fun k h1 h2 _=>by have:k=a.toNat:=jB;subst this;rw[hz];exact g2,by rw[hz];exact Int.le_refl _⟩
  ·have e:bX (av n) c a=((av n (c.named a).1 (c.aA a 0)).1.ap (decide ((c.named a).2=4) && decide ((av n (c.named a).1 (c.aA a 0)).2=1)) a,1):=by unfold bX;simp only;rw[u',k];rfl
   obtain⟨x,hl,Qc⟩:=sh.one jB;have PX:c.aA a 0=x:=by rw[kd,hl];rfl
   rw[e]at he ⊢;rw[PX]at he ⊢;obtain⟨b1,b2⟩:=iP he;have en:=mQ c a;obtain⟨g1,g2⟩:=zK hv rfl Q0 ((eP n _ x).e0 b2);rw[hl]at O';obtain⟨c1,c2,c3,c4,c5⟩:=jL O';have r:=hx (c.named a).1 x lo (h.ev en) (en.aa.trans hc) (hv.ev en) c1 c2 jB (.inl Qc) c5 b2;have hz:=en.size;have YN:=r.size;rw[<-c4]at r;refine fy.ap ⟨fun k hk=>(r.sw k jB).trans (g1 k jB),fun k h1 h2 h3=>?_,jB⟩;by_cases Vl:k<a.toNat
   ·exact r.all k h1 Vl h3
   ·have:k=a.toNat:=jB;subst this;rw[r.sw _ (.inr jB)];omega
  ·have e:bX (av n) c a=((av n c (c.aA a 0)).1.ap (decide ((av n c (c.aA a 0)).2=3) || decide ((av n c (c.aA a 0)).2=4)) a,1):=by unfold bX;simp only;rw[u',k];rfl
   obtain⟨x,hl,Qc⟩:=sh.one jB;have PX:c.aA a 0=x:=by rw[kd,hl];rfl
   rw[e]at he ⊢;rw[PX]at he ⊢;exact((kid1 x hl (.inl Qc) (iP he).2).ap).node (Qb jB)
  ·have e:bX (av n) c a=((av n c (c.aA a 0)).1.ap (decide ((av n c (c.aA a 0)).2=1)) a,1):=by unfold bX;simp only;rw[u',k];rfl
   obtain⟨x,hl,Qc⟩:=sh.one jB;have PX:c.aA a 0=x:=by rw[kd,hl];rfl
   rw[e]at he ⊢;rw[PX]at he ⊢;exact((kid1 x hl (.inl Qc) (iP he).2).ap).node (Qb jB)
  ·have e:bX (av n) c a=((av n c (c.aA a 0)).1.ap (decide ((av n c (c.aA a 0)).2=2)) a,2):=by unfold bX;simp only;rw[u',k];rfl
   obtain⟨x,hl,Qc⟩:=sh.one jB;have PX:c.aA a 0=x:=by rw[kd,hl];rfl
   rw[e]at he ⊢;rw[PX]at he ⊢;exact((kid1 x hl (.inl Qc) (iP he).2).ap).node (Qb jB)
  ·have e:bX (av n) c a=((av n (av n c (c.aA a 0)).1 (c.aA a 1)).1.ap (!decide (iu (c.node a).name (av n c (c.aA a 0)).2 (av n (av n c (c.aA a 0)).1 (c.aA a 1)).2=0)) a,iu (c.node a).name (av n c (c.aA a 0)).2 (av n (av n c (c.aA a 0)).1 (c.aA a 1)).2):=by unfold bX;simp only;rw[u',k];rfl
   obtain⟨x,y,hl,Qc,SQ⟩:=sh.two jB;have PX:c.aA a 0=x:=by rw[kd,hl];rfl
   have Qg:c.aA a 1=y:=by rw[kd,hl];rfl
   rw[e]at he ⊢;rw[PX,Qg]at he ⊢;obtain⟨b1,b2⟩:=iP he;have ev:=eP n c x;rw[hl]at O';obtain⟨c1,c2,c3,c4,c5,c6⟩:=jW O';obtain⟨d1,d2,d3,d4,d5⟩:=jL c6;have r1:=hx c x lo h hc hv c1 c2 jB (.inl Qc) c5 ((eP n _ y).e0 b2);have r2:=hx (av n c x).1 y (x.toNat+1) (h.ev ev) (ev.aa.trans hc) (hv.ev ev) d1 d2 jB (.inl SQ) d5 b2;rw[<-d4]at r2;exact((r1.seq jB jB r2).ap).node (Qb jB)
  ·have e:bX (av n) c a=(c,1):=by unfold bX;simp only;rw[u',k];rfl
   rw[e];exact(leaf (sh.zero jB)).node (Qb jB)
  ·have e:bX (av n) c a=((av n c (c.aA a 0)).1.ap (decide ((av n c (c.aA a 0)).2=1)) a,4):=by unfold bX;simp only;rw[u',k];rfl
   obtain⟨x,hl,Qc⟩:=sh.one jB;have PX:c.aA a 0=x:=by rw[kd,hl];rfl
   rw[e]at he ⊢;rw[PX]at he ⊢;exact((kid1 x hl (.inl Qc) (iP he).2).ap).node (Qb jB)
  ·have e:bX (av n) c a=iL (av n) c a:=by unfold bX;simp only;rw[u',k];rfl
   rw[e]at he ⊢;have Qn:=sh.call k;unfold iL at he ⊢;split at he
   ·exact(pW jC he).elim
   rename_i hf;rw[if_neg hf];simp only at he ⊢;have e1:=(yg a _ _ _).e0 he;split at e1
   ·exact(pW jC e1).elim
   rename_i hl;rw[if_neg hl];have r:=D1 hx (c.node a).l c [] lo a.toNat h hc hv jB (fun x Qd=>.inl (Qn x (by rw[<-u'];exact Qd))) (by rw[u'];exact O') e1;have q:=Fe a (gy (av n) c (c.node a).l []).2 (nth c.aa.au (fz c a).toNat).params (gy (av n) c (c.node a).l []).1;exact(r.post q.1 q.2).node (Qb jB)
def DL(t:aF)(n:Nat):Prop:=∀(c:Ck) (a:Int) (lo:Nat),bv c->c.aa=t->cV c->c.e=0->0<=a->a<t.nodes.length->a.toNat<n->eR (bE t.nodes a)->aJ t.nodes lo (nth t.nodes a.toNat).l a.toNat->(bJ n c a).e=0->
 fy t lo (a.toNat+1) c (bJ n c a)/\cV (bJ n c a)
theorem yE{t:aF}{st:Ck->Int->Ck}{C:Int->Prop}{n:Nat}(hs:∀c a,bv c->c.e=0->Sv c (st c a))
  (P0:∀(c:Ck) (a:Int) (lo:Nat),bv c->c.aa=t->cV c->c.e=0->0<=a->a<t.nodes.length->a.toNat<n->C (bE t.nodes a)->aJ t.nodes lo (nth t.nodes a.toNat).l a.toNat->(st c a).e=0->fy t lo (a.toNat+1) c (st c a)/\cV (st c a)) :
  ∀(L:PJ) (c:Ck) (lo hi:Nat),bv c->c.aa=t->cV c->hi<=n->(∀x∈L,C (bE t.nodes x))->aJ t.nodes lo L hi->(dF st c L).e=0->fy t lo hi c (dF st c L)/\cV (dF st c L)
 |[],c,lo,hi,h,hc,hv,hn,hr,O',he=>by cases O';unfold dF;exact⟨.refl _ _ _,hv⟩
 |a::L,c,lo,hi,h,hc,hv,hn,hr,O',he=>by have e0:=(qv hs (a::L) c h).e0 he;unfold dF at he ⊢;rw[if_pos e0]at he ⊢;obtain⟨c1,c2,c3,c4,c5,c6⟩:=jW O';have s:=hs c a h e0;have e1:=(qv hs L _ s.inv).e0 he;obtain⟨r1,v1⟩:=P0 c a lo h hc hv e0 c1 c2 jB (hr a jE) c5 e1;obtain⟨r2,v2⟩:=yE hs P0 L _ _ hi s.inv (s.aa.trans hc) v1 hn (fun x hx=>hr x (by simp[hx])) c6 he;exact⟨r1.seq jB jB r2,v2⟩
def CT(ht:aO t)(P0:DL t n)(c:Ck)(a:Int)(lo:Nat)(h:bv c)(hc:c.aa=t)(hv:cV c)(h0:0<=a)(h1:a<t.nodes.length)(hn:a.toNat<=n)(hk:bE t.nodes a=18)(O':aJ t.nodes lo (nth t.nodes a.toNat).l a.toNat)(he:(fe (bJ n) c a).e=0) :
  fy t lo (a.toNat+1) c (fe (bJ n) c a)/\cV (fe (bJ n) c a):=by
 have sv:=pm (nF n) h a;have u':c.node a=nth t.nodes a.toNat:=by unfold Ck.node;rw[hc]
 have hb:=(ht.shape a.toNat jB).1.block hk;have ev:=qk c a;obtain⟨r,_⟩:=yE (nF n) (C:=eR) P0 (c.node a).l (c.ah a) lo a.toNat (h.ev ev) (ev.aa.trans hc) (hv.ev ev) hn (fun x hx=>hb x (by rw[<-u'];exact hx)) (by rw[u'];exact O') he;have r:fy t lo a.toNat c (fe (bJ n) c a):=fy.post (b:=dF (bJ n) (c.ah a) (c.node a).l) (fy.pre (a:=c) (b:=c.ah a) rfl rfl r) rfl rfl;have S5:(nth t.nodes a.toNat).kind=18:=hk;refine⟨r.node (fun h=>by unfold iM at h;omega),?_⟩;have hz:=r.size;refine⟨by have:=hv.1;omega,fun v Qp=>?_⟩;rw[sv.2]at Qp;have:=hv.2 v Qp;omega
def vY(ht:aO t)(h:bv c0)(hc:c0.aa=t)(hv:cV c0)(hn:a.toNat<=n)(hl:(nth t.nodes a.toNat).l=[x])(hx:ff (bE t.nodes x))(O':aJ t.nodes lo (nth t.nodes a.toNat).l a.toNat)(he:(av n c0 x).1.e=0) :
  fy t lo a.toNat c0 (av n c0 x).1:=by
 rw[hl]at O';obtain⟨c1,c2,c3,c4,c5⟩:=jL O';rw[c4];exact u4 ht n c0 x lo h hc hv c1 c2 jB hx c5 he
def M7(ht:aO t){y:Int}(h:bv c0)(hc:c0.aa=t)(hv:cV c0)(hn:a.toNat<=n)(hl:(nth t.nodes a.toNat).l=[x,y])(hx:bW (bE t.nodes x))(hy:bW (bE t.nodes y))(O':aJ t.nodes lo (nth t.nodes a.toNat).l a.toNat)(he:(av n (av n c0 x).1 y).1.e=0) :
  fy t lo a.toNat c0 (av n (av n c0 x).1 y).1:=by
 rw[hl]at O';obtain⟨c1,c2,c3,c4,c5,c6⟩:=jW O';obtain⟨d1,d2,d3,d4,d5⟩:=jL c6;have ev:=eP n c0 x;have r1:=u4 ht n c0 x lo h hc hv c1 c2 jB (.inl hx) c5 ((eP n _ y).e0 he);have q1:=u4 ht n (av n c0 x).1 y (x.toNat+1) (h.ev ev) (ev.aa.trans hc) (hv.ev ev) d1 d2 jB (.inl hy) d5 he;rw[d4];exact r1.seq jB jB q1
def Es{c:Ck}(h:bv c)(hc:c.aa=t)(hv:cV c)(h1:a<t.nodes.length)(h0:0<=a)(PV:lo<=a.toNat)(he:(c.named a).1.e=0)(r:fy t lo a.toNat (c.named a).1 c'):fy t lo (a.toNat+1) c c':=by
 have Q0:a.toNat<c.slots.length:=by rw[h.slots,hc];omega
 obtain⟨g1,g2⟩:=zK hv rfl Q0 he;have hz:=(mQ c a).size;have YN:=r.size;refine⟨fun k hk=>(r.sw k jB).trans (g1 k jB),fun k h1 h2 h3=>?_,jB⟩;by_cases Vl:k<a.toNat
 ·exact r.all k h1 Vl h3
 ·have:k=a.toNat:=jB;subst this;rw[r.sw _ (.inr jB)];omega
theorem F8{t:aF}(ht:aO t):∀n,DL t n
 |0=>fun c a lo h hc hv e0 h0 h1 hn=>by omega
 |n+1=>fun c a lo h hc hv e0 h0 h1 hn hr O' he=>by
  have hs:=F8 ht n;have u':(c.ah a).node a=nth t.nodes a.toNat:=by unfold Ck.node;show nth c.aa.nodes _=_;rw[hc]
  have sh:=(ht.shape a.toNat jB).1;have kd:∀i,(c.ah a).aA a i=nth (nth t.nodes a.toNat).l i:=fun i=>by unfold Ck.aA;rw[u']
  have ev:=qk c a;have h':=h.ev ev;have QQ:=ev.aa.trans hc;have Qp:=hv.ev ev;have PV:=O'.le;have kr:∀{hi:Nat} {c':Ck},fy t lo hi (c.ah a) c'->fy t lo hi c c':=fun r=>fy.pre (a:=c) (b:=c.ah a) rfl rfl r
  have Qb:∀{q:Prop},¬((nth t.nodes a.toNat).kind=10\/(nth t.nodes a.toNat).kind=11\/(nth t.nodes a.toNat).kind=12)->iM (nth t.nodes a.toNat).kind->q:=fun h1 h2=>by unfold iM at h2;have:eR (nth t.nodes a.toNat).kind:=hr;unfold eR at this;omega
  have TX:(nth t.nodes a.toNat).kind=10\/(nth t.nodes a.toNat).kind=11\/(nth t.nodes a.toNat).kind=12\/(nth t.nodes a.toNat).kind=13\/(nth t.nodes a.toNat).kind=14\/(nth t.nodes a.toNat).kind=17\/(nth t.nodes a.toNat).kind=15\/(nth t.nodes a.toNat).kind=16:=by have:eR (nth t.nodes a.toNat).kind:=hr;unfold eR at this;omega
  rcases TX with k|k|k|k|k|k|k
  ·have e:bJ (n+1) c a=o6 (av n) (c.ah a) a:=by unfold bJ;simp only;rw[u',k];rfl
   obtain⟨x,hl,S4⟩:=sh.right jB;have PX:(c.ah a).aA a 0=x:=by rw[kd,hl];rfl
   rw[e]at he ⊢;rw[ut]at he ⊢;have he:(ee (av n) (c.ah a) a).e=0:=he;have Rg:=wN (eP n) (c.ah a) a;have Q2:=h'.ev Rg;have Ur:=Qp.ev Rg;obtain⟨_,q1⟩:=wG jC he;have q1:ee (av n) (c.ah a) a=jy (av n) (c.ah a) a:=q1;rw[q1]at he;obtain⟨_,q2⟩:=wG jC he;have q2:jy (av n) (c.ah a) a=iy (av n) (c.ah a) a:=q2;rw[q2]at he;unfold iy at he;rw[PX]at he;obtain⟨b1,b2⟩:=iP he;have r1:=(vY ht h' QQ Qp jB hl S4 O' b2);have Sj:(ee (av n) (c.ah a) a).slots=(av n (c.ah a) x).1.slots:=by rw[q1,q2];unfold iy;rw[PX];exact(uT _ _ _).1
   have P5:(ee (av n) (c.ah a) a).size=(av n (c.ah a) x).1.size:=by rw[q1,q2];unfold iy;rw[PX];exact(uT _ _ _).2
   have r2:=kr (r1.post Sj P5);have Q0:a.toNat<(ee (av n) (c.ah a) a).slots.length:=by rw[Q2.slots,Rg.aa,QQ];omega
   have h0z:=Ur.1;have TI:∀i,nth ((ee (av n) (c.ah a) a).slots.set a.toNat (ee (av n) (c.ah a) a).size) i=if a.toNat=i/\i<(ee (av n) (c.ah a) a).slots.length then(ee (av n) (c.ah a) a).size else nth (ee (av n) (c.ah a) a).slots i:=fun i=>wl _ _ _ _
   refine⟨⟨fun i hi=>?_,fun i h1 h2 h3=>?_,?_⟩,?_,fun v R8=>?_⟩
   ·show nth ((ee (av n) (c.ah a) a).slots.set a.toNat _) i=_;rw[TI,jN];exact r2.sw i jB
   ·show 0<=nth ((ee (av n) (c.ah a) a).slots.set a.toNat _) i/\nth ((ee (av n) (c.ah a) a).slots.set a.toNat _) i<(ee (av n) (c.ah a) a).size+1;rw[TI];by_cases YO:i<a.toNat
    ·rw[jN];have:=r2.all i h1 YO h3;omega
    ·rw[if_pos ⟨jB,jB⟩];omega
   ·show _<=(ee (av n) (c.ah a) a).size+1;have:=r2.size;omega
   ·show 0<=(ee (av n) (c.ah a) a).size+1;omega
   ·show 0<=v.slot/\v.slot<(ee (av n) (c.ah a) a).size+1;have R8:v∈(ee (av n) (c.ah a) a).vars++[(⟨((c.ah a).node a).name,(av n (c.ah a) ((c.ah a).aA a 0)).2,(ee (av n) (c.ah a) a).size⟩:fq)]:=R8;rcases List.mem_append.1 R8 with hm|hm
    ·have:=Ur.2 v hm;omega
    ·rw[List.mem_singleton.1 hm];show 0<=(ee (av n) (c.ah a) a).size/\(ee (av n) (c.ah a) a).size<_;omega
  ·have e:bJ (n+1) c a=(av n ((c.ah a).named a).1 ((c.ah a).aA a 0)).1.ap (decide (((c.ah a).named a).2=(av n ((c.ah a).named a).1 ((c.ah a).aA a 0)).2)) a:=by unfold bJ;simp only;rw[u',k];rfl
   obtain⟨x,hl,S4⟩:=sh.right jB;have PX:(c.ah a).aA a 0=x:=by rw[kd,hl];rfl
   rw[e]at he ⊢;rw[PX]at he ⊢;obtain⟨b1,b2⟩:=iP he;have en:=mQ (c.ah a) a;have r1:=vY ht (h'.ev en) (en.aa.trans QQ) (Qp.ev en) jB hl S4 O' b2;exact⟨kr ((Es h' QQ Qp h1 h0 PV ((eP n _ x).e0 b2) r1).ap),(Qp.ev en).ev ((eP n _ _).trans (jO _ _ _))⟩
  ·have e:bJ (n+1) c a=(av n (av n ((c.ah a).named a).1 ((c.ah a).aA a 0)).1 ((c.ah a).aA a 1)).1.ap (decide (((c.ah a).named a).2=4) && decide ((av n ((c.ah a).named a).1 ((c.ah a).aA a 0)).2=1) && decide ((av n (av n ((c.ah a).named a).1 ((c.ah a).aA a 0)).1 ((c.ah a).aA a 1)).2=1)) a:=by unfold bJ;simp only;rw[u',k];rfl
   obtain⟨x,y,hl,Qc,SQ⟩:=sh.two jB;have PX:(c.ah a).aA a 0=x:=by rw[kd,hl];rfl
   have Qg:(c.ah a).aA a 1=y:=by rw[kd,hl];rfl
   rw[e]at he ⊢;rw[PX,Qg]at he ⊢;obtain⟨b1,b2⟩:=iP he;have en:=mQ (c.ah a) a;have r1:=M7 ht (h'.ev en) (en.aa.trans QQ) (Qp.ev en) jB hl Qc SQ O' b2;exact⟨kr ((Es h' QQ Qp h1 h0 PV ((eP n _ x).e0 ((eP n _ y).e0 b2)) r1).ap),(Qp.ev en).ev (((eP n _ _).trans (eP n _ _)).trans (jO _ _ _))⟩
  ·have e:bJ (n+1) c a=(av n (c.ah a) ((c.ah a).aA a 0)).1:=by unfold bJ;simp only;rw[u',k];rfl
   obtain⟨x,hl,WT⟩:=sh.pB k;have PX:(c.ah a).aA a 0=x:=by rw[kd,hl];rfl
   rw[e]at he ⊢;rw[PX]at he ⊢;have r1:=vY ht h' QQ Qp jB hl (by rw[WT];unfold ff;omega) O' he;exact⟨(kr r1).node (Qb jB),Qp.ev (eP n _ _)⟩
  ·have e:bJ (n+1) c a=(av n (c.ah a) ((c.ah a).aA a 0)).1.ap (!decide ((av n (c.ah a) ((c.ah a).aA a 0)).2=4)) a:=by unfold bJ;simp only;rw[u',k];rfl
   obtain⟨x,hl,Qc⟩:=sh.one jB;have PX:(c.ah a).aA a 0=x:=by rw[kd,hl];rfl
   rw[e]at he ⊢;rw[PX]at he ⊢;obtain⟨b1,b2⟩:=iP he;have r1:=vY ht h' QQ Qp jB hl (.inl Qc) O' b2;exact⟨((kr r1).ap).node (Qb jB),Qp.ev ((eP n _ _).trans (jO _ _ _))⟩
  ·have e:bJ (n+1) c a=kg (av n) (c.ah a) a:=by unfold bJ;simp only;rw[u',k];rfl
   rw[e]at he ⊢;unfold kg at he ⊢;rw[u']at he ⊢;simp only at he ⊢;split at he
   ·exact(pW jC he).elim
   rename_i hf;rw[if_neg hf];rcases sh.ret k with hl|⟨x,hl,Qc⟩
   ·rw[hl];rw[if_neg jC];rw[hl]at O';have:lo=a.toNat:=by cases O';rfl
    subst this;exact⟨(kr (fy.refl t a.toNat (c.ah a))).node (Qb jB),Qp⟩
   ·have PX:(c.ah a).aA a 0=x:=by rw[kd,hl];rfl
    have Rn:(nth t.nodes a.toNat).l.length=1:=by rw[hl];rfl
    rw[if_pos Rn]at he ⊢;rw[PX]at he ⊢;obtain⟨b1,b2⟩:=iP he;have r1:=vY ht h' QQ Qp jB hl (.inl Qc) O' b2;exact⟨((kr r1).ap).node (Qb jB),Qp.ev ((eP n _ _).trans (jO _ _ _))⟩
  ·have e:bJ (n+1) c a=dF (fe (bJ n)) ((av n (c.ah a) ((c.ah a).aA a 0)).1.ap (decide ((av n (c.ah a) ((c.ah a).aA a 0)).2=2)) a) (((c.ah a).node a).l.drop 1):=by
    unfold bJ;simp only;rw[u'];rcases k with k|k<;>rw[k]<;>rfl
   have Tp:∃x L,(nth t.nodes a.toNat).l=x::L/\bW (bE t.nodes x)/\∀y∈L,bE t.nodes y=18:=by
    rcases k with k|k
    ·obtain⟨x,y,hx,hy,hl|⟨z,hl,hz⟩⟩:=sh.lN k
     ·exact⟨x,[y],hl,hx,fun u hu=>by rw[List.mem_singleton.1 hu];exact hy⟩
     ·exact⟨x,[y,z],hl,hx,fun u hu=>by
       rcases List.mem_cons.1 hu with rfl|hu
       ·exact hy
       ·rw[List.mem_singleton.1 hu];exact hz⟩
    ·obtain⟨x,y,hl,hx,hy⟩:=sh.fm k;exact⟨x,[y],hl,hx,fun u hu=>by rw[List.mem_singleton.1 hu];exact hy⟩
   obtain⟨x,L,hl,Qc,hL⟩:=Tp;have PX:(c.ah a).aA a 0=x:=by rw[kd,hl];rfl
   rw[e]at he ⊢;rw[u',hl,PX]at he ⊢;have he:(dF (fe (bJ n)) ((av n (c.ah a) x).1.ap (decide ((av n (c.ah a) x).2=2)) a) L).e=0:=he;show fy t lo (a.toNat+1) c (dF (fe (bJ n)) ((av n (c.ah a) x).1.ap (decide ((av n (c.ah a) x).2=2)) a) L)/\cV (dF (fe (bJ n)) ((av n (c.ah a) x).1.ap (decide ((av n (c.ah a) x).2=2)) a) L);have ex:=(eP n (c.ah a) x).trans (jO _ (decide ((av n (c.ah a) x).2=2)) a);have Q2:=h'.ev ex;have VJ:∀(q:Ck) b,bv q->q.e=0->Sv q (fe (bJ n) q b):=fun q b hq _=>(pm (nF n) hq b).1
   have e1:=(qv VJ L _ Q2).e0 he;obtain⟨b1,b2⟩:=iP e1;rw[hl]at O';obtain⟨c1,c2,c3,c4,c5,c6⟩:=jW O';have r1:=u4 ht n (c.ah a) x lo h' QQ Qp c1 c2 jB (.inl Qc) c5 b2;obtain⟨r2,v2⟩:=yE VJ (C:=fun k=>k=18) (n:=n) (fun q b l g1 g2 g3 _ g5 g6 g7 g8 g9 g10=>CT ht hs q b l g1 g2 g3 g5 g6 jB g8 g9 g10) L _ (x.toNat+1) a.toNat Q2 (ex.aa.trans QQ) (Qp.ev ex) jB hL c6 he;exact⟨((kr r1.ap).seq jB jB r2).node (Qb jB),v2⟩
theorem Gq(body:Int):∀(ps:List ce) (c:Ck) (i:Int),cV c->c.size=i->cV (fC body c ps i)/\(fC body c ps i).slots=c.slots/\(fC body c ps i).size=i+ps.length
 |[],c,i,h,hi=>by unfold fC;exact⟨h,rfl,by simp;exact hi⟩
 |p::ps,c,i,h,hi=>by
  have fin:∀c1:Ck,Ev c c1->c1.slots=c.slots->cV (fC body (lU c1 ⟨p.name,p.ty,i⟩) ps (i+1))/\(fC body (lU c1 ⟨p.name,p.ty,i⟩) ps (i+1)).slots=c.slots/\(fC body (lU c1 ⟨p.name,p.ty,i⟩) ps (i+1)).size=i+(p::ps).length:=fun c1 s e=>by
   have hz:=s.size;have h1:=h.ev s;have h0:=h.1;obtain⟨a,b,d⟩:=Gq body ps (lU c1 ⟨p.name,p.ty,i⟩) (i+1) ⟨by show 0<=c1.size+1;omega,fun v hv=>by
    have hv:v∈c1.vars++[(⟨p.name,p.ty,i⟩:fq)]:=hv;show 0<=v.slot/\v.slot<c1.size+1;rcases List.mem_append.1 hv with hv|hv
    ·have:=h1.2 v hv;omega
    ·rw[List.mem_singleton.1 hv];show 0<=i/\i<_;omega⟩ (by show c1.size+1=i+1;omega)
   exact⟨a,b.trans e,by rw[d,List.length_cons];omega⟩
  unfold fC;simp only;split
  ·exact fin _ (mW c jC body) (ER _ _ _).1
  ·exact fin _ (.refl c) rfl
structure rP(t:aF)(sl:List Int)(k lo:Nat)(z:Int):Prop where
 ww:((nth t.au k).params.length:Int)<=z
 hi:z<=24
 all:∀i,lo<=i->i<(nth t.au k).body.toNat+1->iM (nth t.nodes i).kind->0<=nth sl i/\nth sl i<z
 chain:aJ t.nodes lo (nth t.nodes (nth t.au k).body.toNat).l (nth t.au k).body.toNat
def rP.aT{sl sl':PJ}{z:Int}(h:rP t sl k lo z)(e:∀i,i<(nth t.au k).body.toNat+1->nth sl' i=nth sl i):rP t sl' k lo z:=⟨h.ww,h.hi,fun i h1 h2 h3=>by rw[e i h2];exact h.all i h1 h2 h3,h.chain⟩
def Hk(ht:aO t){c:Ck}(h:gf c)(hc:c.aa=t)(hk:k<t.au.length)(P5:c.aL.length<6)(O':aJ t.nodes lo (nth t.nodes (nth t.au k).body.toNat).l (nth t.au k).body.toNat)(he:(gD c k).e=0) :
  (∀i,(i<lo\/(nth t.au k).body.toNat+1<=i)->nth (gD c k).slots i=nth c.slots i)/\rP t (gD c k).slots k lo (gD c k).size/\(gD c k).aL=c.aL++[(gD c k).size]:=by
 have P8:k<c.aa.au.length:=by rw[hc];exact hk
 have TD:=h.aa.fn _ (fu P8);have Su:bv { c with fn:=(k:Int),vars:=[],more:=[],size:=0 }:=⟨h.aa,h.types,h.slots,h.au,by show c.aL.length<=6;omega,by show(0:Int)<=k;omega,by show(k:Int)<(c.aa.au.length:Int);omega,by show((0:Nat):Int)<=0;omega,by show(0:Int)<=25;omega,fun _=>by show(0:Int)<=24;omega⟩;obtain⟨a,b,d⟩:=yv (nth c.aa.au k).body (nth c.aa.au k).params _ 0 Su (by show(0:Int)+_<=20;omega);obtain⟨a',b',d'⟩:=Gq (nth c.aa.au k).body (nth c.aa.au k).params { c with fn:=(k:Int),vars:=[],more:=[],size:=0 } 0 ⟨by show(0:Int)<=0;omega,fun v hv=>by simp at hv⟩ rfl;have RC:=pC ht hk;have S3:=ht.body _ (fu hk);unfold gD at he ⊢;simp only at he ⊢;rw[hc]at he ⊢;rw[hc]at a b d a' b' d';split at he
 ·rename_i e1;rw[if_pos e1];have sv:=(pm (nF t.nodes.length) a (nth t.au k).body).1;obtain⟨r,_⟩:=CT ht (F8 ht t.nodes.length) _ (nth t.au k).body lo a (b.trans (by rfl)) a' RC.1 RC.2 (by have:=RC.2;have:=RC.1;omega) S3 O' he;have q:=fy.size r;have Q8:=sv.inv.room he;refine⟨fun i hi=>(r.sw i hi).trans (by rw[b']),⟨?_,Q8,r.all,O'⟩,?_⟩
  ·show _<=(fe _ _ _).size;rw[d']at q;omega
  ·show(fe _ _ _).aL++[_]=_;rw[sv.aL,d]
 ·rename_i e1;exact(e1 he).elim
def nV(t:aF)(k:Nat):Nat:=if k=0 then 0 else(nth t.au (k-1)).body.toNat+1
theorem Cb{t:aF}(ht:aO t):∀(n i lo:Nat) (c:Ck),gf c->c.aa=t->c.aL.length=i->i+n=t.au.length->lo=nV t i->aJ t.nodes lo ((t.au.drop i).map (·.body)) t.nodes.length->(∀j,j<i->rP t c.slots j (nV t j) (nth c.aL j)/\(nth t.au j).body.toNat<lo)->(gG c i n).e=0->
  ∀j,j<t.au.length->rP t (gG c i n).slots j (nV t j) (nth (gG c i n).aL j)
 |0,i,lo,c,h,hc,hs,hi,PV,O',hA,he=>by unfold gG;exact fun j hj=>(hA j jB).1
 |n+1,i,lo,c,h,hc,hs,hi,PV,O',hA,he=>by
  have h6:=ht.au;unfold gG at he ⊢;by_cases e0:c.e=0
  ·rw[if_pos e0]at he ⊢;have hk:i<t.au.length:=jB;rw[lg hk]at O';obtain⟨c1,c2,c3,c4,c5,c6⟩:=jW (a:=(nth t.au i).body) O';obtain⟨f1,f2,f3⟩:=zS h (by rw[hc];exact hk) (by omega:c.aL.length<6);have e1:(gD c i).e=0:=by
    cases n with
    |zero=>unfold gG at he;exact he
    |succ m=>
     unfold gG at he;split at he
     ·assumption
     ·exact he
   obtain⟨r1,r2,r3⟩:=Hk ht h hc hk jB c5 e1;refine Cb ht n (i+1) ((nth t.au i).body.toNat+1) (gD c i) f1 (f2.trans hc) jB jB (by unfold nV;rw[jN];rfl) c6 (fun j hj=>?_) he;by_cases Rv:j<i
   ·obtain⟨g1,g2⟩:=hA j Rv;have hz:nth (gD c i).aL j=nth c.aL j:=by rw[r3,oz jB]
    rw[hz];exact⟨g1.aT fun q hq=>r1 q (.inl jB),jB⟩
   ·have:j=i:=jB;subst this;have hz:nth (gD c j).aL j=(gD c j).size:=by rw[r3,<-hs];exact o5 _ _
    rw[hz,<-PV];exact⟨r2,jB⟩
  ·rw[if_neg e0]at he;exact(e0 he).elim
theorem Di{x:aU}:∀(l:List aU) (c:Ck),(lb x c l).e=0->c.e=0/\∀f∈l,f.name≠x.name
 |[],c,h=>⟨by unfold lb at h;exact h,fun f hf=>by simp at hf⟩
 |f::l,c,h=>by
  unfold lb at h;obtain⟨h1,h2⟩:=Di l _ h;obtain⟨h3,h4⟩:=wG jC h1;rw[h4]at h1;exact⟨h1,fun g hg=>by
   rcases List.mem_cons.1 hg with rfl|hg
   ·exact h3
   ·exact h2 g hg⟩
theorem Fv(au:List aU):∀(n i:Nat) (c:Ck) (m:Bool),i+n=au.length->(kG au c m i n).1.e=0->c.e=0/\(∀j,i<=j->j<au.length->∀f∈au.take j,f.name≠(nth au j).name)/\((kG au c m i n).2=true->m=true\/∃j,j<au.length/\uu (nth au j)=true)
 |0,i,c,m,hi,h=>by unfold kG at h ⊢;exact⟨h,fun j h1 h2=>jB,fun h=>.inl h⟩
 |n+1,i,c,m,hi,h=>by
  unfold kG at h ⊢;obtain⟨h1,h2,h3⟩:=Fv au n (i+1) _ _ jB h;obtain⟨h4,h5⟩:=Di _ _ h1;refine⟨h4,fun j g1 g2=>?_,fun hm=>?_⟩
  ·by_cases e:j=i
   ·subst e;exact h5
   ·exact h2 j jB g2
  ·rcases h3 hm with h|h
   ·rcases Bool.or_eq_true _ _ |>.mp h with h|h
    ·exact .inl h
    ·exact .inr ⟨i,jB,h⟩
   ·exact .inr h
structure Ag(t:aF):Prop where
 one:∀i j,i<j->j<t.au.length->(nth t.au i).name≠(nth t.au j).name
 main:∃j,j<t.au.length/\uu (nth t.au j)=true
def IQ{c:Ck}(h:(iY c).e=0):c.e=0/\Ag c.aa:=by
 unfold iY at h;simp only at h;split at h
 ·rename_i hm;obtain⟨h1,h2,h3⟩:=Fv c.aa.au c.aa.au.length 0 c false jB h;refine⟨h1,⟨fun i j hi hj=>h2 j jB hj _ ?_,?_⟩⟩
  ·rw[dT jB];exact List.mem_take_iff_getElem.2 ⟨i,jB,rfl⟩
  ·rcases h3 hm with h|h
   ·cases h
   ·exact h
 ·exact(pW jC h).elim
theorem Dz(f:aU->PL)(nm:PL):∀(l:List aU) (i k:Int),(∀a b,a<b->b<l.length->f (nth l a)≠f (nth l b))->(∃v∈l,f v=nm)->iS f nm l i k=iw f nm l i
 |[],i,k,h,hx=>by obtain⟨v,hv,_⟩:=hx;simp at hv
 |v::l,i,k,h,hx=>by
  unfold iS iw;have hl:∀a b,a<b->b<l.length->f (nth l a)≠f (nth l b):=fun a b h1 h2=>h (a+1) (b+1) jB (by rw[List.length_cons];omega)
  by_cases hv:f v=nm
  ·rw[if_pos hv,if_pos hv];have hn:∀u∈l,f u≠nm:=fun u hu hh=>by
    obtain⟨q,hq,rfl⟩:=List.mem_iff_getElem.1 hu;exact h 0 (q+1) jB (by rw[List.length_cons];omega) (by rw[show nth (v::l) 0=v from rfl,show nth (v::l) (q+1)=l[q] from by rw[dT (by rw[List.length_cons];omega)];rfl,hv,hh])
   have:∀(l:List aU) (i k:Int),(∀u∈l,f u≠nm)->iS f nm l i k=k:=fun l=>by
    induction l with
    |nil=>intro i k _;rfl
    |cons u l ih=> intro i k hu;unfold iS;rw[if_neg (hu u jE),ih (i+1) k fun w hw=>hu w (by simp[hw])]
   exact this l _ _ hn
  ·rw[if_neg hv,if_neg hv];exact Dz f nm l (i+1) k hl (by
    obtain⟨u,hu,hh⟩:=hx;rcases List.mem_cons.1 hu with rfl|hu
    ·exact(hv hh).elim
    ·exact⟨u,hu,hh⟩)
structure fG(p:ab):Prop where
 ok:s8 p
 au:∀j,j<p.aa.au.length->rP p.aa p.slots j (nV p.aa j) (nth p.size j)
 names:Ag p.aa
def Mu(ht:aO t)(he:(gZ t).2.2=0):fG (gZ t).1:=by
 have hp:=(Bn ht he).1;unfold gZ at he hp ⊢;split at he
 ·rename_i h;exact(h he).elim
 rename_i h;rw[if_neg h]at hp ⊢;have h:(ix t).e=0:=jB;obtain⟨i1,i2,i3⟩:=FT ht;have q:=Cb ht t.au.length 0 0 (iY (jU t)) i1 i2 (by rw[i3];rfl) jB rfl (by rw[List.drop_zero];exact ht.chain) (fun j hj=>jB) h;obtain⟨_,q1,_⟩:=zm ht t.au.length 0 0 (iY (jU t)) i1 i2 (by rw[i3];rfl) jB (by rw[List.drop_zero];exact ht.chain) h;have he:(ix t).aa=t:=q1;have h0:(iY (jU t)).e=0:=by
  have Q5:=h;unfold ix at Q5;cases hn:t.au.length with
  |zero=>rw[hn]at Q5;unfold gG at Q5;exact Q5
  |succ m=>
   rw[hn]at Q5;unfold gG at Q5;split at Q5
   ·assumption
   ·exact Q5
 refine⟨hp,?_,?_⟩
 ·show∀j,j<(ix t).aa.au.length->rP (ix t).aa (ix t).slots j (nV (ix t).aa j) (nth (ix t).aL j);rw[he];exact q
 ·show Ag (ix t).aa;rw[he];exact(IQ h0).2
def FC{s:PL}(he:(fP s).2.2=0):fG (fP s).1:=by
 unfold fP at he ⊢;split at he
 ·rename_i h;exact(h he).elim
 rename_i h;rw[if_neg h];have h:(gz s).2.2=0:=jB;simp only at he ⊢;split at he
 ·cases he
 rename_i h2;split at he
 ·rename_i h3;exact(h3 he).elim
 rename_i h3;rw[if_neg h2,if_neg h3];exact Mu (xc h) jB
def zv{t:List bg}(h:aJ t lo L hi):lo+L.length<=hi:=by
 induction h with
 |nil=>simp
 |@cons lo c hi L hc h1 h2 i1 i2=> have:=h1.le;simp only[List.length_cons];omega
def tG{l:List α}{i:Nat}{x y:α}(h:x∈l.set i y):x=y\/x∈l:=by
 rcases List.mem_or_eq_of_mem_set h with h|h
 ·exact .inr h
 ·exact .inl h
theorem zW{α:Type}[Inhabited α](f:α->PL)(nm:PL):∀(l:List α) (i:Int),(∃v∈l,f v=nm)->i<=iw f nm l i/\iw f nm l i<i+l.length/\f (nth l (iw f nm l i-i).toNat)=nm
 |[],_,h=>by obtain⟨v,hv,_⟩:=h;simp at hv
 |v::l,i,h=>by
  unfold iw;by_cases hv:f v=nm
  ·rw[if_pos hv];refine⟨Int.le_refl _,by simp;omega,?_⟩;rw[show(i-i).toNat=0 from jB];exact hv
  ·rw[if_neg hv];obtain⟨u,hu,hh⟩:=h;have hu:u∈l:=by
    rcases List.mem_cons.1 hu with rfl|hu
    ·exact(hv hh).elim
    ·exact hu
   obtain⟨a,b,c⟩:=zW f nm l (i+1) ⟨u,hu,hh⟩;refine⟨jB,by simp;omega,?_⟩;rw[show(iw f nm l (i+1)-i).toNat=(iw f nm l (i+1)-(i+1)).toNat+1 from jB];exact c
theorem CB{α:Type}(f:α->PL)(nm:PL):∀(l:List α) (i k:Int),iS f nm l i k≠k->∃v∈l,f v=nm
 |[],_,_,h=>(h rfl).elim
 |v::l,i,k,h=>by
  unfold iS at h;by_cases hv:f v=nm
  ·exact⟨v,jE,hv⟩
  ·rw[if_neg hv]at h;obtain⟨u,hu,hh⟩:=CB f nm l _ _ h;exact⟨u,by simp[hu],hh⟩
structure Callee(p:ab)(a:Int)(k:Nat):Prop where
 lt:k<p.aa.au.length
 at_:iw aU.name (ao p a).name p.aa.au 0=k
 last:iS aU.name (ao p a).name p.aa.au 0 (-1)=k
 name:(nth p.aa.au k).name=(ao p a).name
 args:(ao p a).l.length=(nth p.aa.au k).params.length
 zV:(ao p a).l.length<=3
variable{p:ab}
def callee(h:fG p)(h0:a.toNat<p.aa.nodes.length)(hk:(ao p a).kind=21):∃k,Callee p a k:=by
 obtain⟨h1,h2⟩:=(h.ok.ty a.toNat jB h0).call hk;have hx:=CB aU.name (ao p a).name p.aa.au 0 (-1) (by show iS aU.name (nth p.aa.nodes a.toNat).name p.aa.au 0 (-1)≠-1;omega);have e:=Dz aU.name (ao p a).name p.aa.au 0 (-1) (fun a b=>h.names.one a b) hx;obtain⟨f1,f2,f3⟩:=zW aU.name (ao p a).name p.aa.au 0 hx;refine⟨(iw aU.name (ao p a).name p.aa.au 0).toNat,jB,jB,jB,?_,?_,?_⟩
 ·rwa [Int.sub_zero]at f3
 ·unfold ao at e ⊢;rw[<-e];exact h2
 ·have hm:=(h.ok.aa.fn _ (fu (l:=p.aa.au) (k:=(iw aU.name (ao p a).name p.aa.au 0).toNat) jB)).2;unfold ao at e hm ⊢;rw[<-e]at hm;rw[h2];exact hm
def Bk(l:PJ):kH 0 l=l.length:=by simp[kH]
theorem mn:∀(h:PI) (n:Int),h.foldl kH n=n+h.foldl kH (0:Int)
 |[],n=>by simp[List.foldl]
 |x::h,n=>by simp only[List.foldl_cons];rw[mn h (kH n x),mn h (kH 0 x)];unfold kH;omega
def zz(h:PI)(x:PJ):fv (h++[x])=fv h+x.length+1:=by unfold fv;rw[List.foldl_append,List.foldl_cons,List.foldl_nil,List.length_append,mn h _,mn h (h.length:Int)];unfold kH;simp;omega
theorem yH:∀(h:PI),0<=h.foldl kH (0:Int)
 |[]=>by simp
 |x::h=>by simp only[List.foldl_cons];rw[mn,Bk];have:=yH h;omega
def xn(h:PI):(h.length:Int)<=fv h:=by unfold fv;rw[mn];have:=yH h;omega
theorem Fm:∀(h:PI) (i:Nat) (x:PJ),i<h.length->x.length=(nth h i).length->(h.set i x).foldl kH (0:Int)=h.foldl kH 0
 |[],i,x,hi,_=>by simp at hi
 |y::h,0,x,_,e=>by have e:x.length=y.length:=e;simp only[List.set_cons_zero,List.foldl_cons,kH,e]
 |y::h,i+1,x,hi,e=>by simp only[List.set_cons_succ,List.foldl_cons];rw[mn (h.set i x) (kH 0 y),mn h (kH 0 y),Fm h i x (by simpa using hi) e]
def AM(h:PI)(i:Nat)(x:PJ)(hi:i<h.length)(e:x.length=(nth h i).length):fv (h.set i x)=fv h:=by unfold fv;rw[List.length_set,mn (h.set i x) (h.length:Int),mn h (h.length:Int),Fm h i x hi e]
theorem Df:∀(h:PI) (i:Nat),i<h.length->((nth h i).length:Int)<=h.foldl kH 0
 |[],i,hi=>by simp at hi
 |y::h,0,_=>by simp only[List.foldl_cons];rw[mn,Bk];have:=yH h;show(y.length:Int)<=_;omega
 |y::h,i+1,hi=>by simp only[List.foldl_cons];rw[mn,Bk];have:=Df h i (by simpa using hi);show((nth h i).length:Int)<=_;omega
def xq(h:PI)(i:Nat)(hi:i<h.length):((nth h i).length:Int)+h.length<=fv h:=by unfold fv;rw[mn];have:=Df h i hi;omega
def fF[Inhabited α](l:List α)(n k:Nat)(h:k<n):nth (l.take n) k=nth l k:=by unfold nth;rw[List.getD_eq_getElem?_getD,List.getElem?_take,if_pos h,List.getD_eq_getElem?_getD]
def BZ{v:aj}(hm:oR v=true):v.s.size<=40:=by
 unfold oR at hm;split at hm
 ·have:v.s=sE:=by simpa using hm
  rw[this];decide
 split at hm
 ·simp only[Bool.and_eq_true,decide_eq_true_eq]at hm;rw[hm.1];decide
 split at hm
 ·simp only[Bool.and_eq_true,decide_eq_true_eq]at hm;omega
 split at hm
 ·simp only[Bool.and_eq_true,decide_eq_true_eq]at hm;rw[hm.1];decide
 ·cases hm
def tT(n:Int):cr (IntKind.i64.wrap n):=by unfold cr;rw[IntKind.wrap_i64];omega
def ka:cr 0:=by unfold cr;omega
def vl(b:Bool):cr (vB b).n:=by cases b<;>(show cr _;unfold vB cr;simp)
def Ea{b:Int}(h:cr a):cr (a.tmod b):=by
 unfold cr at*;by_cases h0:0<=a
 ·have h1:0<=a.tmod b:=Int.tmod_nonneg b h0;have h2:a.tmod b<=a:=by
   have:=Int.mul_tdiv_add_tmod a b;by_cases hb:b=0
   ·subst hb;simp
   ·have hn:=Int.natAbs_tmod a b;have:(a.tmod b).natAbs<=a.natAbs:=by rw[hn];exact Nat.mod_le _ _
    omega
  omega
 ·have hn:=Int.natAbs_tmod a b;have:(a.tmod b).natAbs<=a.natAbs:=by rw[hn];exact Nat.mod_le _ _
  have h3:a.tmod b<=0:=by have:=Int.tmod_nonneg b (a:=-a) jB;rw[Int.neg_tmod]at this;omega
  omega
def BH(s:PL)(a:aj):cr (jV s a).n:=by
 unfold jV
 (repeat' split)<;>first|exact tT _|exact ka|exact vl _
def lG(l:List aj):Prop:=∀v∈l,cr v.n
def p7(h:PI):Prop:=∀l∈h,∀x∈l,cr x
def I6(p:ab):Prop:=∀k,k<p.aa.nodes.length->(nth p.aa.nodes k).kind=1->cr (nth p.aa.nodes k).n
theorem s8.cr{p:ab}(h:s8 p):I6 p:=fun k hk h1=>by
 obtain⟨s,hs,e⟩:=(h.aa.shape k hk).1.num h1;have Qa:=Dh hs;have TQ:oY s=(jS s.data.toList 0:Nat):=by unfold oY;rw[A8 s hs.2.2 _ jl,List.take_of_length_le jE]
 rw[e,TQ];unfold Go.Gd.cr;omega
def EY{l:List aj}(h:lG l)(k t:Int):cr (dt l k t).n:=by
 unfold dt
 (repeat' split)<;>first|exact ka|exact h _ (fu jB)
def vX[Inhabited α](l:List α)(k:Nat):nth l k∈l\/nth l k=default:=by
 by_cases h:k<l.length
 ·exact .inl (fu h)
 ·right;unfold nth;rw[List.getD_eq_getElem?_getD,List.getElem?_eq_none jB];rfl
def yG{l:List aj}(h:lG l)(k:Nat){v:aj}(hv:cr v.n):lG (l.set k v):=fun x hx=>by
 rcases tG hx with rfl|hx
 ·exact hv
 ·exact h x hx
def Dc(hs:fG p):∃m:Nat,m<p.aa.au.length/\iO p=(m:Int)/\(nth p.aa.au m).name=(⟨#[109,97,105,110]⟩:PL)/\(nth p.aa.au m).params.length=0:=by
 obtain⟨j,hj,Tq⟩:=hs.names.main;unfold uu at Tq;simp only[Bool.and_eq_true,decide_eq_true_eq]at Tq;obtain⟨⟨g1,g2⟩,_⟩:=Tq;obtain⟨f1,f2,f3⟩:=zW aU.name (⟨#[109,97,105,110]⟩:PL) p.aa.au 0 ⟨_,fu hj,g1⟩;have e:(iw aU.name (⟨#[109,97,105,110]⟩:PL) p.aa.au 0-0).toNat=(iO p).toNat:=by unfold iO;simp
 rw[e]at f3;have PV:0<=iO p:=f1;have Tz:iO p<0+p.aa.au.length:=f2;have hm:(iO p).toNat<p.aa.au.length:=jB;have YP:j=(iO p).toNat:=by
  rcases Nat.lt_trichotomy j (iO p).toNat with h|h|h
  ·exact(hs.names.one _ _ h hm (by rw[g1,f3])).elim
  ·exact h
  ·exact(hs.names.one _ _ h hj (by rw[g1,f3])).elim
 exact⟨(iO p).toNat,hm,jB,f3,by rw[<-YP];omega⟩
structure jZ(p:ab)(fn:Int)(x:dN):Prop where
 b0:0<=x.block
 lo:nV p.aa fn.toNat<=x.block.toNat
 hi:x.block.toNat<=(nth p.aa.au fn.toNat).body.toNat
 kind:bE p.aa.nodes x.block=18
 a0:0<=x.at_
 a1:x.at_<=(ph p x.block).length
structure eO(p:ab)(f:bu):Prop where
 f0:0<=f.fn
 f1:f.fn<p.aa.au.length
 sl:(f.slots.length:Int)=nth p.size f.fn.toNat
 pl:∀x∈f.path,jZ p f.fn x
 dec:(f.path.map (·.block)).Pairwise fun a b=>b<a
def rZ(p:ab)(f:bu):Prop:=f.path≠[]/\f.pl.at_<(ph p f.pl.block).length
variable{f:bu}
def Af(h:f.path≠[]):f.pl∈f.path:=fu (by have:=List.length_pos_iff.2 h;omega)
theorem Ff:∀(l:List dN) (n:Nat),(l.Pairwise fun a b=>b.block<a.block)->(∀x∈l,0<=x.block/\x.block<n)->l.length<=n
 |[],n,_,_=>Nat.zero_le _
 |x::l,n,h,hb=>by
  have hx:=hb x jE;have:=Ff l x.block.toNat (List.pairwise_cons.1 h).2 fun y hy=>⟨(hb y (by simp[hy])).1,by have:=(List.pairwise_cons.1 h).1 y hy;omega⟩
  simp only[List.length_cons];omega
variable{fn:Int}
def jZ.in_(h:fG p)(f0:0<=fn)(f1:fn<p.aa.au.length){x:dN}(hx:jZ p fn x):x.block.toNat<p.aa.nodes.length:=by have:=pC h.ok.aa (k:=fn.toNat) jB;have h1:=this.1;have h2:=this.2;have h3:=hx.hi;omega
def jZ.aA(h:fG p)(f0:0<=fn)(f1:fn<p.aa.au.length){x:dN}(hx:jZ p fn x)(ha:a∈ph p x.block):0<=a/\a.toNat<x.block.toNat/\nV p.aa fn.toNat<=a.toNat/\eR (bE p.aa.nodes a):=by
 have hi:=hx.in_ h f0 f1;have sh:=h.ok.aa.shape x.block.toNat hi;have h1:=sh.2.1 a ha;refine⟨h1.1,h1.2,?_,sh.1.block hx.kind a ha⟩;have hc:=(h.au fn.toNat jB).chain;by_cases e:x.block.toNat<(nth p.aa.au fn.toNat).body.toNat
 ·exact hc.closed _ hx.lo e a ha
 ·have e:x.block.toNat=(nth p.aa.au fn.toNat).body.toNat:=by have:=hx.hi;omega
  have ha:a∈(nth p.aa.nodes x.block.toNat).l:=ha;rw[e]at ha;exact(hc.mem a ha).2.1
def eO.len(h:fG p)(hf:eO p f):f.path.length<=300:=by
 have:=Ff f.path p.aa.nodes.length (List.pairwise_map.1 hf.dec) fun x hx=>⟨(hf.pl x hx).b0,by have:=(hf.pl x hx).in_ h hf.f0 hf.f1;have:=(hf.pl x hx).b0;omega⟩
 have:=h.ok.aa.many;omega
def jZ.v6(h:fG p)(f0:0<=fn)(f1:fn<p.aa.au.length){x:dN}(hx:jZ p fn x):x.at_<=300:=by have hi:=hx.in_ h f0 f1;obtain⟨lo,hc⟩:=(h.ok.aa.shape x.block.toNat hi).2.2;have:=zv hc;have:=h.ok.aa.many;have:=hx.a1;unfold ph at this;omega
def DD(h:fG p){s:bK}(h1:1<=s.aG.length)(h2:s.aG.length<=8)(hf:eO p s.af)(hb:rZ p s.af):qJ p s:=by have hx:=hf.pl _ (Af hb.1);have hi:=hx.in_ h hf.f0 hf.f1;have Ra:=hb.2;have SS:=hx.a0;have Ue:=hx.b0;have hm:gW p s∈ph p s.af.pl.block:=fu jB;obtain⟨k0,k1,k2,k3⟩:=hx.aA h hf.f0 hf.f1 hm;have hl:=hf.len h;have Qx:=hx.v6 h hf.f0 hf.f1;refine⟨h1,jB,List.length_pos_iff.2 hb.1,jB,Ue,jB,SS,Ra,jB,k0,jB,h.ok.slots,fun SX=>?_⟩;have:=(h.au s.af.fn.toNat (by have:=hf.f0;have:=hf.f1;omega)).all (gW p s).toNat k2 (by have:=hx.hi;omega) (by unfold uU at SX;unfold iM;omega);have:=hf.sl;omega
structure dV(p:ab)(R:RS):Prop where
 ok:R.Ok
 bp:R.bp.length<=8
 fr:∀k,k<R.nf->eO p (nth R.bp k)
 busy:∀k,k+1<R.nf->rZ p (nth R.bp k)
 go:R.status≠2->1<=R.nf
def xf(h:eO p f)(hb:rZ p f):eO p (qm f):=by
 have hx:=h.pl _ (Af hb.1);have RA:=hb.2;have SS:=hx.a0;refine⟨h.f0,h.f1,h.sl,fun x hm=>?_,?_⟩
 ·rcases tG hm with rfl|hm
  ·exact⟨hx.b0,hx.lo,hx.hi,hx.kind,by show 0<=f.pl.at_+1;omega,by show f.pl.at_+1<=_;show _<=((ph p f.pl.block).length:Int);omega⟩
  ·exact h.pl x hm
 ·have e:(qm f).path.map (·.block)=f.path.map (·.block):=by
   have hl:f.path.length-1<f.path.length:=by have:=List.length_pos_iff.2 hb.1;omega
   show(f.path.set (f.path.length-1) _).map _=_;rw[List.map_set];apply List.ext_getElem jE;intro i h1 h2;rw[List.getElem_set];split
   ·rename_i e;subst e;show(nth f.path (f.path.length-1)).block=_;rw[dT hl];simp
   ·rfl
  rw[e];exact h.dec
def KD(h:eO p f)(n:Nat):eO p { f with path:=f.path.take n }:=
 ⟨h.f0,h.f1,h.sl,fun x hx=>h.pl x (List.mem_of_mem_take hx),by show((f.path.take n).map _).Pairwise _;rw[List.map_take];exact h.dec.sublist (List.take_sublist _ _)⟩
def CS(h:eO p f)(i:Nat)(v:aj):eO p { f with slots:=f.slots.set i v }:=⟨h.f0,h.f1,by show((f.slots.set i v).length:Int)=_;rw[List.length_set];exact h.sl,h.pl,h.dec⟩
theorem dV.cut{p:ab}{R:RS}(h:dV p R)(h1:1<=R.nf)(hp:R.bO.path.length≠0):dV p R.cut/\R.cut.left+1=R.left:=by
 have U':=h.ok.nf;have VK:=h.ok.jp;have hu:∀k,nth R.cut.bp k=if k=R.nf-1 then{ R.bO with path:=R.bO.path.take (R.bO.path.length-1) }else nth R.bp k:=fun k=>Go.Gd.bI _ _ _ _ jB
 refine⟨⟨⟨by show R.nf<=(R.bp.set _ _).length;rw[List.length_set];exact U',by show(R.jp.set _ _).length=(R.bp.set _ _).length;rw[List.length_set,List.length_set];exact VK⟩,by show(R.bp.set _ _).length<=8;rw[List.length_set];exact h.bp,fun k hk=>?_,fun k hk=>?_,h.go⟩,?_⟩
 ·rw[hu];split
  ·exact KD (h.fr _ jB) _
  ·exact h.fr k hk
 ·have hk:k+1<R.nf:=hk;rw[hu,jN];exact h.busy k hk
 ·obtain⟨m,hm⟩:∃m,R.nf=m+1:=⟨R.nf-1,jB⟩;show oL _ R.nf+1=oL _ R.nf;have WU:R.nf-1=m:=jB;have ht:(nth R.bp m).path.length≠0:=by unfold RS.bO at hp;rw[WU]at hp;exact hp
  rw[hm];unfold oL;rw[y9 (n:=m) (g:=fun k=>(nth R.bp k).path.length+1) fun k hk=>by rw[hu,jN]];rw[hu,if_pos WU.symm];show _+((R.bO.path.take (R.bO.path.length-1)).length+1)+1=_+((nth R.bp m).path.length+1);have:R.bO=nth R.bp m:=by unfold RS.bO;rw[WU]
  rw[this,List.length_take];omega
theorem dV.dG{p:ab}{R:RS}(h:dV p R)(h1:1<=R.nf)(v:aj):dV p (R.dG p v)/\(R.dG p v).left<R.left/\(R.dG p v).nf=R.nf-1:=by
 have U':=h.ok.nf;have VK:=h.ok.jp;obtain⟨m,hm⟩:∃m,R.nf=m+1:=⟨R.nf-1,jB⟩;have P5:oL (fun k=>(nth R.bp k).path.length+1) m<R.left:=by unfold RS.left;rw[hm];show _<oL (fun k=>(nth R.bp k).path.length+1) m+((nth R.bp m).path.length+1);omega
 unfold RS.dG;split
 ·rename_i h2;refine⟨⟨⟨by show R.nf-1<=R.bp.length;omega,VK⟩,h.bp,fun k hk=>?_,fun k hk=>?_,fun e=>(e rfl).elim⟩,?_,rfl⟩
  ·exact h.fr k (by have hk:k<R.nf-1:=hk;omega)
  ·exact h.busy k (by have hk:k+1<R.nf-1:=hk;omega)
  ·show oL _ (R.nf-1)<_;rw[show R.nf-1=m from jB];exact P5
 ·rename_i h2;have hb:=h.busy (R.nf-1-1) jB;have hf:=h.fr (R.nf-1-1) jB;have key:∀Q:RS,Q.nf=R.nf-1->Q.bp.length=R.bp.length->Q.jp=R.jp->(∀k,k≠R.nf-1-1->nth Q.bp k=nth R.bp k)->eO p (nth Q.bp (R.nf-1-1))->(nth Q.bp (R.nf-1-1)).path.length=(nth R.bp (R.nf-1-1)).path.length->dV p Q/\Q.left<R.left/\Q.nf=R.nf-1:=fun Q q1 q2 q3 q4 q5 q6=>by
   refine⟨⟨⟨jB,by rw[q3,q2];exact VK⟩,by rw[q2];exact h.bp,fun k hk=>?_,fun k hk=>?_,fun _=>jB⟩,?_,q1⟩
   ·by_cases e:k=R.nf-1-1
    ·subst e;exact q5
    ·rw[q4 k e];exact h.fr k jB
   ·rw[q4 k jB];exact h.busy k jB
   ·unfold RS.left;rw[q1,show R.nf-1=m from jB,y9 (g:=fun k=>(nth R.bp k).path.length+1) fun k hk=>?_]
    ·exact P5
    ·by_cases e:k=R.nf-1-1
     ·subst e;show _+1=_+1;rw[q6]
     ·show _+1=_+1;rw[q4 k e]
  have hk:R.nf-1-1<R.bp.length:=jB;split
  ·have hu:∀k,nth (R.pop.gN p (gW p R.pop.st) v).bp k=if k=R.nf-1-1 then{ nth R.bp (R.nf-1-1)with slots:=(nth R.bp (R.nf-1-1)).slots.set (nth p.slots (gW p R.pop.st).toNat).toNat v }else nth R.bp k:=fun k=>RS.bI (R:=R.pop) hk _ k
   have hl:(R.pop.gN p (gW p R.pop.st) v).bp.length=R.bp.length:=RS.br.symm;have UT:∀k,nth (R.pop.gN p (gW p R.pop.st) v).on.bp k=if k=R.nf-1-1 then qm (nth (R.pop.gN p (gW p R.pop.st) v).bp (R.nf-1-1))else nth (R.pop.gN p (gW p R.pop.st) v).bp k:=fun k=>RS.bI (by rw[hl];exact hk) _ k
   refine key _ rfl (RS.br.symm.trans hl) rfl (fun k P8=>by rw[UT,if_neg P8,hu,if_neg P8]) ?_ ?_
   ·rw[UT,if_pos rfl,hu,if_pos rfl];exact xf (CS hf _ _) hb
   ·rw[UT,if_pos rfl,hu,if_pos rfl];simp[qm]
  ·have UT:∀k,nth R.pop.on.bp k=if k=R.nf-1-1 then qm (nth R.bp (R.nf-1-1))else nth R.bp k:=fun k=>RS.bI (R:=R.pop) hk _ k
   refine key _ rfl RS.br.symm rfl (fun k P8=>by rw[UT,if_neg P8]) ?_ ?_
   ·rw[UT,if_pos rfl];exact xf hf hb
   ·rw[UT,if_pos rfl];simp[qm]
end Go.Proofs.YtghoellpinmenaaGreatDoor
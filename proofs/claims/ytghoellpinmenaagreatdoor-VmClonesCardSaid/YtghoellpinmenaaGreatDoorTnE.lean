/- Lemmas. No conditions. -/
import Derived.Test.YtghoellpinmenaaGreatDoorRpQ
set_option linter.all false
set_option maxHeartbeats 4000000
set_option maxRecDepth 10000
namespace Go.Gd
open Go
def o8(K n:Nat):NM:=⟨K,(List.range n).map fun i=>⟨K+i,K+i,[]⟩,[]⟩
def mM(K:Nat)(cs:List MC)(i:Nat):PG:=
 [(hn 0 (K+i),.var 113 (MV.cE (nth cs i) ⟨K+i,K+i,[]⟩)),(hn 1 (K+i),.aE 50 3 ((nth cs i).slots.map bG)),(hn 2 (K+i),.aE 50 3 ((nth cs i).stack.map bG))]
def dU(p:ab)(C:aB)(m:MV)(K n:Nat):PG:=
 (hn 3 K,.var 105 (MV.mE p C m (o8 K n)))::(hn 4 K,.aE 108 1 ((List.range n).map fun i=>[.pt (hn 0 (K+i)) 0 0 0])) ::
 (hn 5 K,.var 162 [.rs (hn 6 K) m.heap.flatten.length 1 m.heap.flatten.length,.rs (hn 7 K) m.heap.length 1 m.heap.length]) ::
 (hn 6 K,.aE 3 1 (m.heap.flatten.map eI))::(hn 7 K,.aE 3 1 ((ii m.heap).map eI))::(hn 8 K,.aE 9 1 (m.aD.map eS)) ::
 (List.range n).flatMap (mM K m.calls)
theorem Dn{α:Type}(f:α->PG)(i:Nat):∀l:List α,(∀x∈l,ak (f x) i=none)->ak (l.flatMap f) i=none
 |[],_=>rfl
 |x::l,h=>by rw[List.flatMap_cons,gg,h x jE,Option.none_or];exact Dn f i l fun y hy=>h y (by simp[hy])
theorem Gx(f:Nat->PG)(i k:Nat)(r:Row)(hr:ak (f k) i=some r):∀n,k<n->(∀x,x<n->x≠k->ak (f x) i=none)->ak ((List.range n).flatMap f) i=some r
 |0,h,_=>by omega
 |n+1,h,hx=>by
  rw[List.range_succ,List.flatMap_append,gg,List.flatMap_cons,List.flatMap_nil,List.append_nil];by_cases e:k=n
  ·subst e;rw[Dn f i _ fun x Qd=>hx x (by have:=List.mem_range.1 Qd;omega) (by have:=List.mem_range.1 Qd;omega),Option.none_or,hr]
  ·rw[Gx f i k r hr n jB fun x h1 h2=>hx x jB h2];rfl
theorem Fb{α:Type}(f:α->PG):∀l:List α,ids (l.flatMap f)=l.flatMap fun x=>ids (f x)
 |[]=>rfl
 |x::l=>by rw[List.flatMap_cons,List.flatMap_cons,<-Fb f l];unfold ids;rw[List.map_append]
def DO(K:Nat)(cs:List MC)(i:Nat):ids (mM K cs i)=[hn 0 (K+i),hn 1 (K+i),hn 2 (K+i)]:=rfl
variable{K n x:Nat}
def AD{cs:List MC}:x∈ids ((List.range n).flatMap (mM K cs))<->∃i,i<n/\(x=hn 0 (K+i)\/x=hn 1 (K+i)\/x=hn 2 (K+i)):=by
 rw[Fb,List.mem_flatMap];constructor
 ·rintro⟨i,hi,hx⟩;rw[DO]at hx;exact⟨i,List.mem_range.1 hi,by simpa using hx⟩
 ·rintro⟨i,hi,hx⟩;exact⟨i,List.mem_range.2 hi,by rw[DO];simpa using hx⟩
theorem Dw(K:Nat)(cs:List MC):∀n,(ids ((List.range n).flatMap (mM K cs))).Nodup
 |0=>List.nodup_nil
 |n+1=>by
  have ih:=Dw K cs n;rw[List.range_succ,List.flatMap_append];unfold ids at ih ⊢;rw[List.map_append,List.nodup_append];refine⟨ih,?_,fun x hx y hy e=>?_⟩
  ·show[hn 0 (K+n),hn 1 (K+n),hn 2 (K+n)].Nodup;simp[hn]
  ·subst e;obtain⟨i,hi,h1⟩:=AD.1 hx;have h2:x=hn 0 (K+n)\/x=hn 1 (K+n)\/x=hn 2 (K+n):=by simpa[mM]using hy
   unfold hn at h1 h2;omega
def sk{p:ab}{C:aB}{m:MV}:x∈ids (dU p C m K n)<->(∃a,3<=a/\a<=8/\x=hn a K)\/∃i,i<n/\(x=hn 0 (K+i)\/x=hn 1 (K+i)\/x=hn 2 (K+i)):=by
 have e:ids (dU p C m K n)=hn 3 K::hn 4 K::hn 5 K::hn 6 K::hn 7 K::hn 8 K::ids ((List.range n).flatMap (mM K m.calls)):=rfl;rw[e];simp only[List.mem_cons,AD];constructor
 ·rintro(h|h|h|h|h|h|h)
  ·exact .inl ⟨3,jB,jB,h⟩
  ·exact .inl ⟨4,jB,jB,h⟩
  ·exact .inl ⟨5,jB,jB,h⟩
  ·exact .inl ⟨6,jB,jB,h⟩
  ·exact .inl ⟨7,jB,jB,h⟩
  ·exact .inl ⟨8,jB,jB,h⟩
  ·exact .inr h
 ·rintro(⟨a,h1,h2,h⟩|h)
  ·have:a=3\/a=4\/a=5\/a=6\/a=7\/a=8:=jB;rcases this with rfl|rfl|rfl|rfl|rfl|rfl<;>simp[h]
  ·simp[h]
def KL(p:ab)(C:aB)(m:MV)(K n:Nat):(ids (dU p C m K n)).Nodup:=by
 have e:ids (dU p C m K n)=[hn 3 K,hn 4 K,hn 5 K,hn 6 K,hn 7 K,hn 8 K]++ids ((List.range n).flatMap (mM K m.calls)):=rfl;rw[e,List.nodup_append];refine⟨by simp[hn],Dw K m.calls n,fun x hx y hy e=>?_⟩;subst e;obtain⟨i,hi,h1⟩:=AD.1 hy;have h2:x=hn 3 K\/x=hn 4 K\/x=hn 5 K\/x=hn 6 K\/x=hn 7 K\/x=hn 8 K:=by simpa using hx
 unfold hn at h1 h2;omega
def gV(i:Nat)(r:Row)(l:PG):ak ((i,r)::l) i=some r:=by simp only[ak];rw[if_pos trivial]
variable{i:Nat}{l:PG}
def da{j:Nat}{r:Row}(h:i≠j):ak ((j,r)::l) i=ak l i:=by simp only[ak];rw[if_neg h]
theorem vE:∀{l:PG} {i:Nat} {r:Row},ak l i=some r->(i,r)∈l
 |(j,s)::l,i,r,h=>by
  simp only[ak]at h;split at h
  ·rename_i e;cases h;rw[e];simp
  ·exact List.mem_cons_of_mem _ (vE h)
theorem mY{α:Type}{q:PR}{f:α->PH}:∀l:List α,(∀x∈l,aS q (f x)=true)->aS q (l.map f).flatten=true
 |[],_=>rfl
 |x::l,h=>by rw[List.map_cons,List.flatten_cons,qF,h x jE,Bool.true_and];exact mY l fun y hy=>h y (by simp[hy])
def yb(p:ab)(C:aB)(m:MV)(K n:Nat):cZ 0 (dU p C m K n):=by
 refine⟨fun i _ hi=>?_,KL p C m K n,fun i r hi=>?_⟩
 ·cases h:ak (dU p C m K n) i with
  |none=>rfl
  |some r=> have hm:=(fO _ _).2 (show ak (dU p C m K n) i≠none by rw[h];simp);rcases sk.1 hm with⟨a,_,_,e⟩|⟨k,_,e|e|e⟩<;>(unfold hn at e;omega)
 ·have hm:=vE hi;have hc:∀{x:Nat},((∃a,3<=a/\a<=8/\x=hn a K)\/∃i,i<n/\(x=hn 0 (K+i)\/x=hn 1 (K+i)\/x=hn 2 (K+i)))->(ids (dU p C m K n)).contains x=true:=fun h=>List.contains_iff_mem.2 (sk.2 h)
  have c4:=hc (.inl ⟨4,jB,jB,rfl⟩);have c5:=hc (.inl ⟨5,jB,jB,rfl⟩);have c6:=hc (.inl ⟨6,jB,jB,rfl⟩);have c7:=hc (.inl ⟨7,jB,jB,rfl⟩);have c8:=hc (.inl ⟨8,jB,jB,rfl⟩);have c0:∀i,i<n->(ids (dU p C m K n)).contains (hn 0 (K+i))=true:=fun i h=>hc (.inr ⟨i,h,.inl rfl⟩)
  have c1:∀i,i<n->(ids (dU p C m K n)).contains (hn 1 (K+i))=true:=fun i h=>hc (.inr ⟨i,h,.inr (.inl rfl)⟩)
  have c2:∀i,i<n->(ids (dU p C m K n)).contains (hn 2 (K+i))=true:=fun i h=>hc (.inr ⟨i,h,.inr (.inr rfl)⟩)
  generalize hI:ids (dU p C m K n)=I at*;have up:aS (fun j=>I.contains j) (hS p)=true:=eH (q:=dq) (fun _ h=>by cases h) _ rfl;unfold dU at hm;simp only[List.mem_cons,Prod.mk.injEq,List.mem_flatMap,List.mem_range]at hm;rcases hm with⟨rfl,rfl⟩|⟨rfl,rfl⟩|⟨rfl,rfl⟩|⟨rfl,rfl⟩|⟨rfl,rfl⟩|⟨rfl,rfl⟩|⟨k,hk,hm⟩
  ·show aS _ (MV.mE _ _ _ _)=true;unfold MV.mE;rw[qF,up];simp only[aS,AV.all,aX,o8,c4,c5,c8,Bool.and_self]
  ·exact mY (f:=fun i=>[AV.pt (hn 0 (K+i)) 0 0 0]) (List.range n) fun x hx=>by simp only[aS,AV.all,c0 x (List.mem_range.1 hx),Bool.and_self]
  ·simp only[Row.cells,aS,AV.all,c6,c7,Bool.and_self]
  ·exact mY _ fun x _=>rfl
  ·exact mY _ fun x _=>rfl
  ·exact mY _ fun x _=>rfl
  ·unfold mM at hm;simp only[List.mem_cons,Prod.mk.injEq,List.not_mem_nil,or_false]at hm;rcases hm with⟨rfl,rfl⟩|⟨rfl,rfl⟩|⟨rfl,rfl⟩
   ·simp only[Row.cells,MV.cE,aS,AV.all,c1 k hk,c2 k hk,Bool.and_self]
   ·exact mY _ fun x _=>rfl
   ·exact mY _ fun x _=>rfl
def yc(K n:Nat):(o8 K n).cs.length=n:=by show((List.range n).map _).length=n;simp
def Jr{k:Nat}(h:k<n):nth (o8 K n).cs k=⟨K+k,K+k,[]⟩:=by show nth ((List.range n).map _) k=_;rw[BK _ (by simpa using h),dT (by simpa using h)];simp
def Iu{p:ab}{C:aB}{m:MV}{k:Nat}(h:k<n)(hb:(nth m.calls k).stack.length<=2000):MV.gH (nth m.calls k) ⟨K+k,K+k,[]⟩ (dU p C m K n):=by
 have hh:∀a (r:Row),a<3->ak (mM K m.calls k) (hn a (K+k))=some r->ak (dU p C m K n) (hn a (K+k))=some r:=fun a r ha hr=>by
  unfold dU;rw[da (by unfold hn;omega),da (by unfold hn;omega),da (by unfold hn;omega),da (by unfold hn;omega),da (by unfold hn;omega),da (by unfold hn;omega)];refine Gx _ _ k r hr n h fun x hx QW=>?_
  unfold mM;rw[da (by unfold hn;omega),da (by unfold hn;omega),da (by unfold hn;omega)];rfl
 refine⟨hh 0 _ jB ?_,hh 2 _ jB ?_,hh 1 _ jB ?_,by simpa using hb⟩
 ·exact gV _ _ _
 ·unfold mM;rw[da (by unfold hn;omega),da (by unfold hn;omega),gV,List.append_nil]
 ·unfold mM;rw[da (by unfold hn;omega),gV]
def Kf{p:ab}{C:aB}{m:MV}(hb:∀k,k<m.calls.length->(nth m.calls k).stack.length<=2000)(QK:m.calls.length<=1000):MV.bw p C m (o8 K m.calls.length) (dU p C m K m.calls.length):=by
 refine⟨yb p C m K _,?_,?_,?_,?_,?_,?_,yc _ _,fun k hk=>?_,?_,?_,by rw[yc];show m.calls.length+0<=1000;omega⟩
 ·exact gV _ _ _
 ·show ak _ (hn 4 K)=_;unfold dU;rw[da (by unfold hn;omega),gV];simp[o8,Function.comp_def]
 ·show ak _ (hn 5 K)=_;unfold dU;rw[da (by unfold hn;omega),da (by unfold hn;omega),gV];rfl
 ·show ak _ (hn 6 K)=_;unfold dU;rw[da (by unfold hn;omega),da (by unfold hn;omega),da (by unfold hn;omega),gV]
 ·show ak _ (hn 7 K)=_;unfold dU;rw[da (by unfold hn;omega),da (by unfold hn;omega),da (by unfold hn;omega),da (by unfold hn;omega),gV]
 ·show ak _ (hn 8 K)=_;unfold dU;rw[da (by unfold hn;omega),da (by unfold hn;omega),da (by unfold hn;omega),da (by unfold hn;omega),da (by unfold hn;omega),gV]
 ·rw[Jr hk];exact Iu hk (hb k hk)
 ·simp only[o8,List.map_map,Function.comp_def];rw[List.nodup_iff_pairwise_ne];exact List.Pairwise.map _ (fun a b h=>jB) List.pairwise_lt_range
 ·simp only[o8,List.map_map,Function.comp_def];rw[List.nodup_iff_pairwise_ne];exact List.Pairwise.map _ (fun a b h=>jB) List.pairwise_lt_range
variable{P:PS}{f:FuncId}{args':PH}{H:Hp}{K:PE}{sz:Nat}{t:PM}{α:Type}
def Cz{args:PH}[Inhabited α]{enc:α->PH}[he:bD enc sz]{xs:List α}(QT:∀x,jx (enc x)=true)(hi:H.get i=none)
  (hc:ai P f args' [] fun r l=>r=.rs i xs.length sz xs.length/\l=[(i,.aE t sz (xs.map enc))]) (hv:∀w vs,aH w H->aY w args vs->aY (w.ck fun _=>true) args' vs) (k:K (.rs i xs.length sz xs.length) (H.put i (.aE t sz (xs.map enc)))):cX P f args H K:=fun w vs h1 h2=>by
 have Uz:=Gv hc hv (fun r l ⟨e1,e2⟩=>by
  subst e1 e2;refine⟨fun j hj=>?_,rfl,fun j row hj=>?_⟩
  ·by_cases e:j=i
   ·subst e;exact hi
   ·exact(hj (by simp only[ak];rw[if_neg e])).elim
  ·simp only[ak]at hj;split at hj
   ·cases hj;refine B8 fun x hx=>?_
    obtain⟨y,_,rfl⟩:=List.mem_map.1 hx;exact QT y
   ·cases hj) h1 h2
 refine Uz.mono ?_;rintro e W ⟨v,r,l,w',rfl,rfl,⟨rfl,rfl⟩,g1,g2,g3,g4⟩;have hg:∀j,(H.put i (.aE t sz (xs.map enc))).get j=(Hp.mk H.B ([(i,.aE t sz (xs.map enc))]++H.l)).get j:=fun j=>by
  rw[Hp.aW];show _=if j=i then _ else _
  rfl
 exact⟨v,_,_,w',rfl,rfl,k,{ rows:=fun j r hj=>g1.rows j r (hg j ▸ hj),dr:=fun j m z hz=>by rw[hg];exact g1.dr j m z hz,inj:=g1.inj,own:=g1.own,fin:=g1.fin,ca:=g1.ca },g2,{ g3 with base:=rfl }⟩
variable{g:PE}{q:Prop}
def th{A:AS}{args:PH}{d:gq fun r H'=>df A H H'/\g r H'}[Inhabited α]{enc:α->PH}[he:bD enc sz]{xs:List α}(i:Nat)(QT:∀x,jx (enc x)=true)
  (hc:ai P f args' [] fun r l=>r=.rs i xs.length sz xs.length/\l=[(i,.aE t sz (xs.map enc))]) (hi:H.get i=none) (hv:∀w vs,aH w H->aY w args vs->aY (w.ck fun _=>true) args' vs) (k:q) (h0:bo P f=true:=by exact db) (e:g (.rs i xs.length sz xs.length) (H.put i (.aE t sz (xs.map enc)))=q:=by exact eu):fh P (.raw (.func (.func f) #[] #[])) args H (AP (fun r H'=>df A H H'/\g r H') d):=
 nB h0 (Cz (K:=AP (fun r H'=>df A H H'/\g r H') d) QT hi hc hv ⟨df.put hi,e ▸ k⟩)
variable{a b:PG}
def cZ.app(ha:cZ 0 a)(hb:cZ 0 b)(hd:∀i,ak b i≠none->ak a i=none):cZ 0 (a++b):=by
 refine⟨fun i h0 h1=>by rw[gg,ha.no i h0 h1,Option.none_or];exact hb.no i h0 h1,?_,fun i r hi=>?_⟩
 ·unfold ids;rw[List.map_append,List.nodup_append];refine⟨ha.nodup,hb.nodup,fun x hx y hy e=>?_⟩;subst e;exact(fO a x).1 hx (hd x ((fO b x).1 hy))
 ·have hc:∀{x:Nat},(ids a).contains x=true\/(ids b).contains x=true->(ids (a++b)).contains x=true:=fun h=>by
   rw[List.contains_iff_mem];unfold ids;rw[List.map_append,List.mem_append];exact h.imp List.contains_iff_mem.1 List.contains_iff_mem.1
  rw[gg]at hi;cases h:ak a i with
  |some s=>rw[h]at hi;cases hi;exact eH (fun j hj=>hc (.inl hj)) _ (ha.closed i _ h)
  |none=>rw[h,Option.none_or]at hi;exact eH (fun j hj=>hc (.inr hj)) _ (hb.closed i _ hi)
def lF{r:Row}(h:ak a i=some r):ak (a++b) i=some r:=by rw[gg,h];rfl
def jX(h:ak a i=none):ak (a++b) i=ak b i:=by rw[gg,h,Option.none_or]
namespace MV
def gH.og{c:MC}{n:NC}{e l:PG}(h:gH c n e)(hs:∀i r,ak e i=some r->ak l i=some r):gH c n l:=⟨hs _ _ h.var,hs _ _ h.cf,hs _ _ h.dv,h.bd⟩
theorem bw.og{p:ab}{C:aB}{m:MV}{N:NM}{e l:PG}(h:bw p C m N e)(hl:cZ 0 l)(hs:∀i r,ak e i=some r->ak l i=some r):bw p C m N l:=
 ⟨hl,hs _ _ h.root,hs _ _ h.row,hs _ _ h.hp,hs _ _ h.cells,hs _ _ h.ends,hs _ _ h.outs,h.len,fun k hk=>(h.call k hk).og hs,h.nc,h.nv,h.bd⟩
end MV
variable{B:PK}{L:PG}
def KT{A:AS}{args:PH}{e:PG}{r0:AV}{d:gq fun r H'=>df A ⟨B,L⟩ H'/\g r H'}(hd:cw P f args e r0 l)(hL:L=tie e [])(hx:Aw A e l)(k:q)(h0:bo P f=true:=by exact db)(e0:g r0 ⟨B,tie l []⟩=q:=by exact eu) :
  fh P (.raw (.func (.func f) #[] #[])) args ⟨B,L⟩ (AP (fun r H'=>df A ⟨B,L⟩ H'/\g r H') d):=by
 subst hL;exact oi hd hx k h0 de e0
variable{W:List (Nat×Nat)}
def wR{S:Type}{ok:S->Prop}{J:S->List (Nat×AV)}{G:S->Hp}{μ:S->Nat}{F₀ F:PH}(L':PG)(hp:∀i,ak L i=ak L' i)(h:Next n W ok J G μ F₀ F ⟨B,L'⟩):Next n W ok J G μ F₀ F ⟨B,L⟩:=by obtain⟨s,a,b,c⟩:=h;exact⟨s,a,(cU.perm L' hp).trans b,c⟩
def JF{m:Nat}[Inhabited α]{enc:α->PH}[he:bD enc sz](l more:List α)(hi:H.get i=some (.aE t sz ((l++more).map enc)))(hm:m=l.length+more.length)(hn:n=l.length):∀w vs,aH w H->aY w [.rs i m sz n] vs->aY (w.ck fun _=>true) [aX enc sz l] vs:=
 GP ⟨dz.sU (dd:=enc default) l more rfl hi hm hn,trivial⟩
theorem BT:∀(m l:PG),(ids l).Nodup->(ids (fp l m)).Nodup
 |[],_,h=>h
 |(i,r)::m,l,h=>BT m _ (y7 l i r h)
variable{s' E:PG}
def sr(h:(ids s').Nodup)(i:Nat):ak (fp E s') i=(ak s' i).or (ak E i):=wC _ _ _ (fun _ _ _=>trivial) h
def cZ.BF(hE:cZ 0 E)(h:cZ 0 s'):cZ 0 (fp E s'):=by
 have hm:∀j,(ids s').contains j=true\/(ids E).contains j=true->(ids (fp E s')).contains j=true:=fun j hj=>by
  rw[List.contains_iff_mem,fO,sr h.nodup];rcases hj with hj|hj
  ·have:=(fO s' j).1 (List.contains_iff_mem.1 hj);cases e:ak s' j with
   |none=>exact(this e).elim
   |some r=>simp
  ·have:=(fO E j).1 (List.contains_iff_mem.1 hj);cases e:ak s' j with
   |none=>simpa using this
   |some r=>simp
 refine⟨fun j h1 h2=>by rw[sr h.nodup,h.no j h1 h2,hE.no j h1 h2];rfl,BT _ _ hE.nodup,fun j r hj=>?_⟩;rw[sr h.nodup]at hj;cases e:ak s' j with
 |some r'=>rw[e]at hj;cases hj;exact eH (fun k hk=>hm k (.inl hk)) _ (h.closed j _ e)
 |none=>rw[e,Option.none_or]at hj;exact eH (fun k hk=>hm k (.inr hk)) _ (hE.closed j _ hj)
theorem cw.more{P:PS}{f:FuncId}{args:PH}{s s' E:PG}{r0:AV}(h:cw P f args s r0 s')(hE:cZ 0 E)(hs:∀i r,ak s i=some r->ak E i=some r)(hn:∀i,ak s' i≠none->ak s i≠none\/ak E i=none):cw P f args E r0 (fp E s'):=by
 have hc:=ai.more h.c hs h.a h.e1.closed (fun r l ⟨_,e⟩=>⟨by rw[e];exact h.e2.nodup,fun i hi=>hn i (e ▸ hi)⟩);refine⟨fun w vs hw hv=>(hc w vs hw hv).mono ?_,hE,hE.BF h.e2,fun i hi=>?_,eH (fun j hj=>?_) _ h.a⟩
 ·rintro e W ⟨v,r,H',w',a,b,⟨l0,⟨c1,c2⟩,c3⟩,d⟩;exact⟨v,r,H',w',a,b,⟨c1,by rw[c3,c2]⟩,d⟩
 ·rw[sr h.e2.nodup];cases e:ak s' i with
  |none=>simpa using hi
  |some r=>simp
 ·rw[List.contains_iff_mem,fO]at hj ⊢;cases e:ak s j with
  |none=>exact(hj e).elim
  |some r=>rw[hs j r e];simp
def kJ(a b kk:Nat)(t:PM)(sz:Nat)(hd:Nat->PH)(r:PT)(n:Nat):PG:=(hn a kk,.aE t sz ((List.range n).map hd))::(List.range n).map fun i=>(hn b (kk+i),r i)
variable{a b:Nat}{hd:Nat->PH}{r:PT}
def rO{kk:Nat}:x∈ids (kJ a b kk t sz hd r n)<->x=hn a kk\/∃i,i<n/\x=hn b (kk+i):=by
 unfold ids kJ;simp only[List.map_cons,List.map_map,List.mem_cons,List.mem_map,List.mem_range,Function.comp];constructor
 ·rintro(h|⟨i,h1,h2⟩)
  ·exact .inl h
  ·exact .inr ⟨i,h1,h2.symm⟩
 ·rintro(h|⟨i,h1,h2⟩)
  ·exact .inl h
  ·exact .inr ⟨i,h1,h2.symm⟩
def AN{kk:Nat}(TE:a<32/\b<32/\a≠b):∀{n k:Nat},k<n->ak (kJ a b kk t sz hd r n) (hn b (kk+k))=some (r k):=fun{n k} hk=>by
 unfold kJ;rw[da (by unfold hn;omega)];induction n with
 |zero=>omega
 |succ n ih=>
  rw[List.range_succ,List.map_append,gg];by_cases e:k=n
  ·subst e;have:ak ((List.range k).map fun i=>(hn b (kk+i),r i)) (hn b (kk+k))=none:=by
    cases h:ak ((List.range k).map fun i=>(hn b (kk+i),r i)) (hn b (kk+k))with
    |none=>rfl
    |some s=> have:=vE h;simp only[List.mem_map,List.mem_range,Prod.mk.injEq]at this;obtain⟨i,h1,h2,_⟩:=this;unfold hn at h2;omega
   rw[this];exact gV _ _ _
  ·rw[ih jB];rfl
def GX{kk:Nat}(TE:a<32/\b<32/\a≠b)(h1:∀i,aS (fun j=>j == hn b (kk+i)) (hd i)=true)(h2:∀i,aS dq (r i).cells=true):cZ 0 (kJ a b kk t sz hd r n):=by
 refine⟨fun i _ hi=>?_,?_,fun i s hi=>?_⟩
 ·cases h:ak (kJ a b kk t sz hd r n) i with
  |none=>rfl
  |some s=> rcases rO.1 ((fO _ _).2 (show ak (kJ a b kk t sz hd r n) i≠none by rw[h];simp))with e|⟨k,_,e⟩<;>(unfold hn at e;omega)
 ·unfold ids kJ;rw[List.map_cons,List.nodup_cons,List.map_map];refine⟨fun h=>?_,?_⟩
  ·simp only[List.mem_map,List.mem_range,Function.comp]at h;obtain⟨i,_,e⟩:=h;unfold hn at e;omega
  ·rw[List.nodup_iff_pairwise_ne,List.pairwise_map];refine List.Pairwise.imp ?_ (List.nodup_range (n:=n));intro x y UR e;simp only[Function.comp]at e;unfold hn at e;omega
 ·have hm:=vE hi;unfold kJ at hm;simp only[List.mem_cons,List.mem_map,List.mem_range,Prod.mk.injEq]at hm;rcases hm with⟨rfl,rfl⟩|⟨k,hk,rfl,rfl⟩
  ·refine mY _ fun k hk=>eH (fun j hj=>?_) _ (h1 k)
   have e:j=hn b (kk+k):=by simpa using hj
   exact List.contains_iff_mem.2 (rO.2 (.inr ⟨k,List.mem_range.1 hk,e⟩))
  ·exact eH (fun _ h=>by cases h) _ (h2 k)
def EU{kk:Nat}(TE:a<32/\b<32/\a≠b)(k j:Nat):ak (kJ a b kk t sz hd r (k+1)) j=if j=hn a kk then some (.aE t sz ((List.range k).map hd++[hd k]))else if j=hn b (kk+k)then some (r k)else ak (kJ a b kk t sz hd r k) j:=by
 by_cases c1:j=hn a kk
 ·rw[if_pos c1,c1];unfold kJ;rw[gV,List.range_succ,List.map_append];rfl
 rw[if_neg c1];by_cases c2:j=hn b (kk+k)
 ·rw[if_pos c2,c2];exact AN TE jB
 rw[if_neg c2];unfold kJ;rw[da c1,da c1,List.range_succ,List.map_append,gg];cases ak ((List.range k).map fun i=>(hn b (kk+i),r i)) j with
 |some s=>rfl
 |none=>rw[Option.none_or];exact da c2
def ME{args:PH}[Inhabited α]{enc:α->PH}[he:bD enc sz]{xs:List α}(i:Nat)(QT:∀x,jx (enc x)=true)
  (hc:ai P f args' [] fun r l=>r=.rs i xs.length sz xs.length/\l=[(i,.aE t sz (xs.map enc))]) (hi:H.get i=none) (hv:∀w vs,aH w H->aY w args vs->aY (w.ck fun _=>true) args' vs) (k:q) (h0:bo P f=true:=by exact db) (e:K (.rs i xs.length sz xs.length) (H.put i (.aE t sz (xs.map enc)))=q:=by exact eu):fh P (.raw (.func (.func f) #[] #[])) args H K:=
 nB h0 (Cz QT hi hc hv (e ▸ k))
def cZ.mono{e:PG}(h:cZ a e)(TE:a<=b):cZ b e:=⟨fun i hi h2=>h.no i jB h2,h.nodup,h.closed⟩
@[go_sem] def Gg(k a b:Nat):dx k (hn a b)=false:=decide_eq_false fun h=>by have:=gA a b;omega
def Dj{S:Type}{ok:S->Prop}{J:S->List (Nat×AV)}{G:S->Hp}{μ:S->Nat}{F₀ F:PH}{e0 tl tl0:PG}(k:Nat)(hB:ids e0=B)(k1:cZ 0 e0)(k2:cZ 0 l)(s:S)(h1:ok s)(h2:μ s<n)(P0:gJ (dx k) tl)(hd:er (dx k) tl=tl0)(hG:(⟨B,tie l tl0⟩:Hp)=G s)(h3:bT (dx k) ⟨B,tie l tl⟩ F (mm (J s) (l8 W F₀))):Next n W ok J G μ F₀ F ⟨B,tie l tl⟩:=by
 have k3:=k2.mono (Nat.zero_le k);refine zb (dx k) s h1 h2 ?_ (xl _ _ _ (wO _ _ k2.nodup fun i r hi=>eH (fun j hj=>?_) _ (k2.closed i r hi)) P0) ?_ h3
 ·rw[List.all_eq_true];intro x hx;unfold fi;rw[(k1.mono (Nat.zero_le k)).dx (by rw[hB];exact hx)];rfl
 ·unfold fi;rw[k3.dx (List.contains_iff_mem.1 hj)];rfl
 ·rw[<-hG];show Hp.mk _ (er (dx k) (l++tl))=Hp.mk _ (l++tl0);rw[xt,xP _ _ (fun i hi=>k3.dx hi),hd]
variable{l':PG}
def wH{l2:PG}(hn:(ids l').Nodup)(hs:∀i r,ak l2 i=some r->ak E i=some r)(R4:∀i,ak l' i≠none->ak l i≠none\/ak E i=none)(hd:∀i,ak l2 i≠none->ak l i=none):(∀i r,ak l2 i=some r->ak (fp E l') i=some r)/\∀i,ak l2 i≠none->ak l' i=none:=by
 have key:∀i,ak l2 i≠none->ak l' i=none:=fun i hi=>by
  cases h:ak l' i with
  |none=>rfl
  |some r=>
   rcases R4 i (by rw[h];simp)with h1|h1
   ·exact(h1 (hd i hi)).elim
   ·cases h2:ak l2 i with
    |none=>exact(hi h2).elim
    |some s=>have:=hs i s h2;rw[h1]at this;cases this
 refine⟨fun i r h=>?_,key⟩;rw[sr hn,key i (by rw[h];simp),Option.none_or];exact hs i r h
def Ct(hn:(ids l').Nodup):∀i r,ak l' i=some r->ak (fp E l') i=some r:=fun i r h=>by rw[sr hn,h];rfl
def rm(s:PL):PL:=if 700<s.size then s.extract 0 700 else s
def Nb(s:PL):(rm s).size<=1000000:=by
 unfold rm;split
 ·rw[ByteArray.size_extract];omega
 ·omega
def mZ(l:PJ):PJ:=l.take 20
def Ir(l:PJ):(mZ l).length<=20:=by unfold mZ;simp;omega
def Mn{l:PJ}(h:∀x∈l,cr x):∀x∈mZ l,cr x:=fun x hx=>h x (List.mem_of_mem_take hx)
def yq(h:∀i,ak l i≠none->ak l' i=none):∀i,ak l' i≠none->ak l i=none:=fun i hi=>by
 cases e:ak l i with
 |none=>rfl
 |some r=>exact(hi (h i (by rw[e];simp))).elim
end Go.Gd
namespace Go.Proofs.YtghoellpinmenaaGreatDoor
open Go Go.Gd Tryz Go.Gd.MV
section
variable {p:ab}{C:aB}
def I9{m:MV}(h:MI p C m){k:Nat}(hk:k<m.calls.length):lu p (nth m.calls k)/\tB p C (nth m.calls k).fn.toNat (m.cQ k):=by
 have h2:m.status≠2:=fun e=>by have:=h.sI e;omega
 obtain⟨h1,hf,_,hm⟩:=h.af h2;unfold MV.cQ;by_cases hl:(k:Int)=(m.calls.length:Int)-1
 ·have ek:k=m.calls.length-1:=jB;have et:nth m.calls k=m.af:=by rw[ek];rfl
  rw[if_pos hl,et];exact⟨hf,hm⟩
 ·rw[if_neg hl];have:=h.low k jB;exact⟨this.1,this.2.mark⟩
def Cf{m:MV}(h:MI p C m){n:Nat}(hb:Bd n m)(hC:C.ins.length<=1000000):sj C m:=
 ⟨h.dM,fun k hk=>by obtain⟨_,k0,n,a,e,hm⟩:=I9 h hk;have:=hm.head.1;rw[e];omega,hb.slots,h.cells,hb.outs,hC⟩
structure SpotR(p:ab)(s:lm):Prop where
 f0:0<=s.fn
 f1:s.fn<p.aa.au.length
 sl:(s.slots.length:Int)=nth p.size s.fn.toNat
 rg:lG s.slots
 n0:0<=s.node
 n1:s.node.toNat<p.aa.nodes.length
 st:eR (bE p.aa.nodes s.node)
 in_:iH p s.fn.toNat s.node
end
def OQ{p:ab}(hs:fG p){F:PJ->MV->MV}(hF:fa p (cC p) F){inp:PJ}(hn:inp.length<=1000)(hi:∀x∈inp,cr x){m:MV}{N:NM}{e:PG}(hR:bw p (cC p) m N e)(h:MI p (cC p) m)(hb:Bd inp.length m)(ht:0<=m.time/\m.time<=100000)(X:PK) :
  j3 prog 23 [mP N,aX eI 1 inp] e X (.ba []) (fun N' l=>bw p (cC p) (F inp m) N' l/\N'.k=N.k/\Bd inp.length (F inp m)):=by
 by_cases h2:m.halt
 ·rw[hF.still inp m h2];exact⟨N,e,⟨hR,rfl,hb⟩,Up.refl _ _,N7 hR inp h2⟩
 ·have hC:=sM hs;obtain⟨m1,hg,⟨P0,h1,UM⟩,e1⟩:=hF.step inp hi m h h2;have P7:=hC.len;have X6:=hs.ok.aa.au;have P5:=hs.ok.size;obtain⟨hl,_,_,k0,n,a,ek,hm⟩:=h.af (fun e=>h2 (.inl e));have PX:=hm.head.1;have Rf:=hC.pu;rw[e1];exact HB X hR hl hb hn jB jB Rf h2 jB jB hg P0 (fun e0=>by obtain⟨hl,_,_,k0,n,a,ek,hm⟩:=h1.af jB;have PX:=hm.head.1;exact⟨hl,jB,jB⟩) jB
end Go.Proofs.YtghoellpinmenaaGreatDoor
namespace Go.Proofs.YtghoellpinmenaaGreatDoor
open Go Go.Gd Tryz
structure rW(s:lz):Prop where
 calls:s.calls.length<=8
 heap:s.heap.length<=40
 out:s.aD.length<=24
 sl:∀k,k<s.calls.length->(nth s.calls k).slots.length<=24
 hp:∀k,k<s.heap.length->(nth s.heap k).length<=40
def Lt(a b:PI)(h1:a.length<=40)(h2:∀k,k<a.length->(nth a k).length<=40):dO prog 51 [aX mS 1 a,aX mS 1 b] (rB (decide (a=b))):=by
 have no:∀{q:Prop},¬q->(a=b->q)->rB false=rB (decide (a=b)):=fun h1 h2=>by rw[decide_eq_false fun h=>h1 (h2 h)]
 refine fg func51 ntmps51 ?_
 (repeat' (first|refine ax fun K hK=>?_|refine az ?_|(with_reducible refine gR 6 ?_);refine dE 6 (aK 0 10) mixed ?_|(refine hK _ _ ?_;clear hK K)|(refine aw ?_ ?_<;>intro hc<;>try exact jz)|refine ay ?_|exact jI|(clear hK K)))
 ·(refine bA [.tmp 4] ?_;try simp only[go_sem])
  exact(no (fun h=>h) fun e=>by subst e;revert hc;simp)
 have q6:a.length=b.length:=by revert hc;simp only[Classical.not_not,Int.natCast_inj];exact id
 clear hc;have PY:=hK;clear hK;refine dR (S:=Nat) [(4,3),(12,17)] (fun k=>k<=a.length/\∀j,j<k->nth a j=nth b j) (fun k=>[(5,rI k)]) (fun k=>⟨[],[]⟩) (fun k=>a.length-k) 0 ⟨jB,fun j h=>jB⟩ (dS rfl cc) ?_;rintro k ⟨Qg,P1⟩ Kr P3;by_cases hk:k<a.length
 ·have Q2:=O8 (nth a k) (nth b k) (by have:=h2 k hk;omega);refine S ?_
  (repeat' (first|refine ax fun K hK=>?_|refine az ?_|(with_reducible refine gR 6 ?_);refine dE 6 (aK 0 10) mixed ?_|(refine hK _ _ ?_;clear hK K)|(refine aw ?_ ?_<;>intro hc<;>try exact jz)|refine PY _ _ ?_|refine cp (Q2) ?_|refine ay ?_|exact jI|(clear hK K)))
  ·(refine bA [.tmp 4] ?_;try simp only[go_sem])
   exact no hc (fun e=>by rw[e])
  ·refine P3 _ _ (dZ (k+1) ⟨jB,fun j hj=>?_⟩ jJ rfl cc);by_cases h:j<k
   ·exact P1 j h
   ·rw[show j=k from jB];exact hc
 have e4:a=b:=vH q6 fun j hj=>P1 j jB
 have SL:k=a.length:=jB;subst SL;refine S ?_
 (repeat' (first|refine ax fun K hK=>?_|refine az ?_|(with_reducible refine gR 6 ?_);refine dE 6 (aK 0 10) mixed ?_|(refine hK _ _ ?_;clear hK K)|(refine aw ?_ ?_<;>intro hc<;>try exact jz)|refine PY _ _ ?_|refine ay ?_|exact jI|(clear hK K)))
 (refine bA [.tmp 4] ?_;try simp only[go_sem])
 rw[decide_eq_true e4]
def JV(a b:lz)(hf:rW a):dO prog 27 [.agg (ji a),.agg (ji b)] (rB (decide (a=b))):=by
 have h1:=hf.calls;have h2:=hf.heap;have h3:=hf.out;have Zj:=Lt a.heap b.heap h2 hf.hp;have no:∀{q:Prop},¬q->(a=b->q)->rB false=rB (decide (a=b)):=fun h1 h2=>by rw[decide_eq_false fun h=>h1 (h2 h)]
 refine fg func27 ntmps27 ?_
 (repeat' (first|refine ax fun K hK=>?_|refine az ?_|(with_reducible refine gR 7 ?_);refine dE 7 (aK 0 11) mixed ?_|(with_reducible refine gR 19 ?_);refine dE 19 (aK 0 11) mixed ?_|(refine hK _ _ ?_;clear hK K)|(refine aw ?_ ?_<;>intro hc<;>try exact jz)|refine dL 0 ?_|refine dL 1 ?_|refine cp (Zj) ?_|refine ay ?_|exact jI|(clear hK K)))
 ·(refine bA [.tmp 4] ?_;try simp only[go_sem])
  exact(no (fun h=>h) fun e=>by subst e;revert hc;simp)
 have Rs:(((((a.heap=b.heap/\a.in_=b.in_)/\a.status=b.status)/\a.bs=b.bs)/\a.time=b.time)/\a.calls.length=b.calls.length)/\a.aD.length=b.aD.length:=by revert hc;simp only[Classical.not_not,not_or,Int.natCast_inj];exact id
 obtain⟨⟨⟨⟨⟨⟨q0,q1⟩,q2⟩,q3⟩,q4⟩,q5⟩,q7⟩:=Rs;clear hc;have PY:=hK;clear hK;refine dR (S:=Nat) [(4,1),(6,1),(64,18)] (fun k=>k<=a.aD.length/\∀j,j<k->nth a.aD j=nth b.aD j) (fun k=>[(6,rI k)]) (fun k=>⟨[],[(0,.var 65 (ji a)),(1,.var 65 (ji b))]⟩) (fun k=>a.aD.length-k) 0 ⟨jB,fun j h=>jB⟩ (dS rfl cc) ?_;rintro k ⟨Qg,P1⟩ Kr P3;by_cases hk:k<a.aD.length
 ·(refine S ?_;try exact jI)
  (repeat' (first|refine ax fun K hK=>?_|refine az ?_|(with_reducible refine gR 7 ?_);refine dE 7 (aK 0 11) mixed ?_|(with_reducible refine gR 19 ?_);refine dE 19 (aK 0 11) mixed ?_|(refine hK _ _ ?_;clear hK K)|(refine aw ?_ ?_<;>intro hc<;>try exact jz)|refine PY _ _ ?_|refine ay ?_|exact jI|(clear hK K)))
  ·(refine bA [.tmp 4] ?_;try simp only[go_sem])
   exact no hc (fun e=>by rw[e])
  ·refine P3 _ _ (dZ (k+1) ⟨jB,fun j hj=>?_⟩ jJ jD cc);by_cases h:j<k
   ·exact P1 j h
   ·rw[show j=k from jB];exact hc
 have e3:a.aD=b.aD:=vH q7 fun j hj=>P1 j jB
 have SL:k=a.aD.length:=jB;subst SL;refine S ?_
 (repeat' (first|refine ax fun K hK=>?_|refine az ?_|(with_reducible refine gR 7 ?_);refine dE 7 (aK 0 11) mixed ?_|(with_reducible refine gR 19 ?_);refine dE 19 (aK 0 11) mixed ?_|(refine hK _ _ ?_;clear hK K)|(refine aw ?_ ?_<;>intro hc<;>try exact jz)|refine PY _ _ ?_|refine ay ?_|exact jI|(clear hK K)))
 have PY:=hK;clear hK;refine dR (S:=Nat) [(4,1),(7,4),(82,56)] (fun k=>k<=a.calls.length/\∀j,j<k->nth a.calls j=nth b.calls j) (fun k=>[(7,rI k)]) (fun k=>⟨[],[(0,.var 65 (ji a)),(1,.var 65 (ji b))]⟩) (fun k=>a.calls.length-k) 0 ⟨jB,fun j h=>jB⟩ (dS rfl cc) ?_;rintro k ⟨Qg,P1⟩ Kr P3;by_cases hk:k<a.calls.length
 rotate_left
 ·have e5:a.calls=b.calls:=vH q5 fun j hj=>P1 j jB
  have SL:k=a.calls.length:=jB;subst SL;refine S ?_
  (repeat' (first|refine ax fun K hK=>?_|refine az ?_|(with_reducible refine gR 7 ?_);refine dE 7 (aK 0 11) mixed ?_|(with_reducible refine gR 19 ?_);refine dE 19 (aK 0 11) mixed ?_|(refine hK _ _ ?_;clear hK K)|(refine aw ?_ ?_<;>intro hc<;>try exact jz)|refine PY _ _ ?_|refine ay ?_|exact jI|(clear hK K)))
  (refine bA [.tmp 4] ?_;try simp only[go_sem])
  rw[decide_eq_true];cases a;cases b;simp_all
 have g1:=hf.sl k hk;generalize hx:nth a.calls k=x at*;generalize hy:nth b.calls k=y at*;refine S ?_
 (have W:=jA hx hy;repeat' (first|refine ax fun K hK=>?_|refine az ?_|(with_reducible refine gR 7 ?_);refine dE 7 (aK 0 11) mixed ?_|(with_reducible refine gR 19 ?_);refine dE 19 (aK 0 11) mixed ?_|(refine hK _ _ ?_;clear hK K)|(refine aw ?_ ?_<;>intro hc<;>try exact jz)|refine PY _ _ ?_|refine al 2 ?_|refine al 3 ?_|refine ay ?_|exact jI|(clear hK K)))
 ·(refine bA [.tmp 4] ?_;try simp only[go_sem])
  exact no (fun h=>h) fun e=>by rw[e,hy]at hx;subst hx;revert hc;simp
 have Rs:(x.fn=y.fn/\x.node=y.node)/\x.slots.length=y.slots.length:=by revert hc;simp only[Classical.not_not,not_or,Int.natCast_inj];exact id
 obtain⟨⟨r1,r2⟩,r3⟩:=Rs;clear hc;have Ud:=hK;clear hK;refine dR (S:=Nat) [(4,1),(10,1),(120,18)] (fun i=>i<=x.slots.length/\∀j,j<i->nth x.slots j=nth y.slots j) (fun i=>[(10,rI i)]) (fun i=>⟨[],[(0,.var 65 (ji a)),(1,.var 65 (ji b)),(2,.var 69 (l7 x)),(3,.var 69 (l7 y))]⟩) (fun i=>x.slots.length-i) 0 ⟨jB,fun j h=>jB⟩ (dS rfl cc) ?_;rintro i ⟨Sh,Ul⟩ Ks WY;by_cases hi:i<x.slots.length
 ·(refine S ?_;try exact jI)
  (repeat' (first|refine ax fun K hK=>?_|refine az ?_|(with_reducible refine gR 7 ?_);refine dE 7 (aK 0 11) mixed ?_|(with_reducible refine gR 19 ?_);refine dE 19 (aK 0 11) mixed ?_|(refine hK _ _ ?_;clear hK K)|(refine aw ?_ ?_<;>intro hc<;>try exact jz)|refine Ud _ _ ?_|refine ay ?_|exact jI|(clear hK K)))
  ·(refine bA [.tmp 4] ?_;try simp only[go_sem])
   exact no hc (fun e=>by rw[<-hx,<-hy,e])
  ·refine WY _ _ (dZ (i+1) ⟨jB,fun j hj=>?_⟩ jJ jD cc);by_cases h:j<i
   ·exact Ul j h
   ·rw[show j=i from jB];exact hc
 have e6:x.slots=y.slots:=vH r3 fun j hj=>Ul j jB
 have Zk:i=x.slots.length:=jB;subst Zk;refine S ?_
 (repeat' (first|refine ax fun K hK=>?_|refine az ?_|(with_reducible refine gR 7 ?_);refine dE 7 (aK 0 11) mixed ?_|(with_reducible refine gR 19 ?_);refine dE 19 (aK 0 11) mixed ?_|(refine hK _ _ ?_;clear hK K)|(refine aw ?_ ?_<;>intro hc<;>try exact jz)|refine Ud _ _ ?_|refine ay ?_|exact jI|(clear hK K)))
 refine P3 _ _ (yo [2,3] (k+1) ⟨jB,fun j hj=>?_⟩ jJ rfl Sd (by simp only[go_sem];(try rfl)) j6);by_cases h:j<k
 ·exact P1 j h
 ·rw[show j=k from jB,hx,hy];cases x;cases y;simp_all
end Go.Proofs.YtghoellpinmenaaGreatDoor
namespace Go.Proofs.YtghoellpinmenaaGreatDoor
open Go Go.Gd Tryz Go.Gd.MV
def nZ(h:PI)(K:Nat):PG:=[(hn 6 K,.aE 3 1 (h.flatten.map eI)),(hn 7 K,.aE 3 1 ((ii h).map eI)),(hn 5 K,.var 162 [.rs (hn 6 K) h.flatten.length 1 h.flatten.length,.rs (hn 7 K) h.length 1 h.length])]
def Kh(h:PI)(K:Nat):cZ 0 (nZ h K):=by
 refine⟨fun i _ hi=>?_,by show[hn 6 K,hn 7 K,hn 5 K].Nodup;simp[hn],fun i r hi=>?_⟩
 ·unfold nZ;rw[da (by unfold hn;omega),da (by unfold hn;omega),da (by unfold hn;omega)];rfl
 ·have hm:=vE hi;have e:ids (nZ h K)=[hn 6 K,hn 7 K,hn 5 K]:=rfl;rw[e];unfold nZ at hm;simp only[List.mem_cons,Prod.mk.injEq,List.not_mem_nil,or_false]at hm;rcases hm with⟨rfl,rfl⟩|⟨rfl,rfl⟩|⟨rfl,rfl⟩
  ·exact mY _ fun x _=>rfl
  ·exact mY _ fun x _=>rfl
  ·simp[Row.cells,aS,AV.all]
section
variable {p:ab}{C:aB}
def Pd{m:MV}{N:NM}{e:PG}(hR:bw p C m N e)(hf:m.heap.flatten.length<=1000)(hl:m.heap.length<=1000)(kk:Nat)(k5:ak e (hn 5 kk)=none)(k6:ak e (hn 6 kk)=none)(k7:ak e (hn 7 kk)=none):cw prog 47 [.pt (hn 5 N.k) 0 0 0] e (.pt (hn 5 kk) 0 0 0) (e++nZ m.heap kk):=by
 have PV:=hR.ok.low;have Rg:(ii m.heap).length=m.heap.length:=qT _;have Qk:=xO m.heap.flatten hf (hn 6 kk);have UU:=xO (ii m.heap) jB (hn 7 kk);have hok:cZ 0 (e++nZ m.heap kk):=hR.ok.app (Kh _ _) fun i hi=>by
  have hm:=(fO _ _).2 hi;have e':ids (nZ m.heap kk)=[hn 6 kk,hn 7 kk,hn 5 kk]:=rfl;rw[e']at hm;simp only[List.mem_cons,List.not_mem_nil,or_false]at hm;rcases hm with rfl|rfl|rfl
  ·exact k6
  ·exact k7
  ·exact k5
 refine⟨?_,hR.ok,hok,fun i hi=>by rw[gg];cases h:ak e i with|none=>exact(hi h).elim|some r=>simp,by simp only[aS,AV.all,fS hR.hp,Bool.and_self]⟩;refine aQ (L:=ids e) func47 ntmps47 ?_ (hL:=rfl);generalize hB:ids e=B;refine dP ?_
 (have W:=jA PV (jA hR.hp (jA k5 (jA k6 (jA k7 (Rg)))));repeat' (first|refine ax fun K hK=>?_|refine az ?_|(with_reducible refine gR 1 ?_);refine dC 1 ([],[],[7,12]) [] [0,1,2,3,5,6,7,8,4,9,10,11,12] mixed ?_|(refine hK _ _ ?_;clear hK K)|(refine aw ?_ ?_<;>intro hc<;>try exact jz)|refine th (hn 6 kk) (t:=3) (enc:=eI) (sz:=1) xK Qk (by show ak (tie _ _) _=_;rw[eD,k6];rfl) (pJ m.heap.flatten (by show ak (tie _ _) _=_;rw[eD,hR.cells];rfl) rfl) ?_|refine th (hn 7 kk) (t:=3) (enc:=eI) (sz:=1) xK UU (by show ak (tie _ _) _=_;rw[eD,k7,Option.none_or,da (by unfold hn;omega)];rfl) (pJ (ii m.heap) (by show ak (tie _ _) _=_;rw[eD,hR.ends];rfl) Rg.symm) ?_|refine dL (hn 5 kk) ?_|refine ay ?_|exact jI|(clear hK K)))
 exact dW (tl:=[]) hB hR.ok hok (fun _=>by rw[<-sx];rfl) de [.tmp 2]
end
section
variable {p:ab}{C:aB}
def Nh{m:MV}{N:NM}{e:PG}(hR:bw p C m N e)(hf:m.heap.flatten.length<=1000)(hl:m.heap.length<=1000)(ho:m.aD.length<=1000)(hc:m.calls.length<=1000)(hs:∀k,k<m.calls.length->(nth m.calls k).slots.length<=1000/\(nth m.calls k).stack.length<=1000)(kk:Nat)(PX:∀a d,ak e (hn a (kk+d))=none):cw prog 24 [mP N] e (.pt (hn 3 kk) 0 0 0) (e++dU p C m kk m.calls.length):=by
 have PV:=hR.ok.low;have J':=hR.len;have VX:=BC m.aD ho (hn 8 kk);have hok:cZ 0 (e++dU p C m kk m.calls.length):=hR.ok.app (yb _ _ _ _ _) fun i hi=>by
  rcases sk.1 ((fO _ _).2 hi)with⟨a,_,_,rfl⟩|⟨d,_,rfl|rfl|rfl⟩
  ·exact PX a 0
  all_goals exact PX _ _
 have TH:=PX 3 0;have VY:=PX 4 0;rw[Nat.add_zero]at TH VY
 -- the new machine's variable among the things of no account
 have Xm:cZ 0 (e++[(hn 3 kk,.var 105 (mE p C m N))]):=by
  have:=hR.ok.put (i:=hn 3 kk) (r:=.var 105 (mE p C m N)) (.inr (gA _ _)) (eH (fun j hj=>by rw[hj,Bool.or_true]) _ (hR.ok.closed _ _ hR.root));rw[show bf e (hn 3 kk) (.var 105 (mE p C m N))=e++[(hn 3 kk,.var 105 (mE p C m N))] from by have:=zh e [] (hn 3 kk) (.var 105 (mE p C m N));rw[List.append_nil]at this;rw[this,TH];rfl]at this
  exact this
 have Qz:=hR.og Xm fun i r h=>lF h
 have P1:∀a d,a≠3->a<32->ak (e++[(hn 3 kk,.var 105 (mE p C m N))]) (hn a (kk+d))=none:=fun a d h3 h=>by rw[jX (PX a d),da (by unfold hn;omega)];rfl
 have P7:=Pd Qz hf hl kk (P1 5 0 jC jC) (P1 6 0 jC jC) (P1 7 0 jC jC);have VZ:=P7.e2;have Qr:=Qz.og VZ fun i r h=>lF h
 have Qf:=VZ.low;have g:∀a d,a≠3->a≠5->a≠6->a≠7->a<32->ak (e++[(hn 3 kk,.var 105 (mE p C m N))]++nZ m.heap kk) (hn a (kk+d))=none:=fun a d h3 h5 h6 h7 h=>by rw[jX (P1 a d h3 h)];unfold nZ;rw[da (by unfold hn;omega),da (by unfold hn;omega),da (by unfold hn;omega)];rfl
 have h8:=g 8 0 jC jC jC jC jC;have h4:=g 4 0 jC jC jC jC jC;rw[Nat.add_zero]at h8 h4;have h3:ak (e++[(hn 3 kk,.var 105 (mE p C m N))]++nZ m.heap kk) (hn 3 kk)=some (.var 105 (mE p C m N)):=lF (by rw[jX TH];exact gV _ _ _);have QW:(N.k=kk)=False:=eq_false fun h=>by have:=hR.root;rw[h,TH]at this;cases this
 refine⟨?_,hR.ok,hok,fun i hi=>by rw[gg];cases h:ak e i with|none=>exact(hi h).elim|some r=>simp,ov hR rfl⟩;refine aQ (L:=ids e) func24 ntmps24 ?_ (hL:=rfl);generalize hB:ids e=B;refine dP ?_;generalize X9:e++[(hn 3 kk,.var 105 (mE p C m N))]++nZ m.heap kk=e1 at*
 (have W:=jA PV (jA Qf (jA hR.root (jA Qr.root (jA h3 (jA h4 (jA h8 (jA TH (QW))))))));repeat' (first|refine ax fun K hK=>?_|refine az ?_|(with_reducible refine gR 2 ?_);refine dC 2 ([],[],[14,19]) [] [0,1,2,3,5,6,7,8,4,9,10,11,12,13,14,15] mixed ?_|(with_reducible refine gR 7 ?_);refine dC 7 ([],[],[39,45]) [] [0,1,2,3,5,6,7,8,9,4,10,11,12,13,14,15] mixed ?_|(refine hK _ _ ?_;clear hK K)|(refine aw ?_ ?_<;>intro hc<;>try exact jz)|refine ld (hn 3 kk) ?_|refine KT P7 (sx _) (fun j _ hj=>.inl (by rw[<-X9];exact(by cases h:ak (e++[(hn 3 kk,.var 105 (mE p C m N))]) j with|none=>exact(hj h).elim|some r=>rw[lF h]))) ?_|refine th (hn 8 kk) (t:=9) (enc:=eS) (sz:=1) zo VX (by show ak (tie _ _) _=_;rw[eD,h8,Option.none_or];rfl) (pJ m.aD (by show ak (tie _ _) _=_;rw[eD,Qr.outs];rfl) rfl) ?_|refine ay ?_|exact jI|(clear hK K)))
 have PY:=hK;clear hK;refine gT (cU.perm (e++[(hn 3 kk,.var 105 (hS p++[aX cO 4 C.ins,aX eI 1 C.entry,.raw (.slice none 0 0),.pt (hn 5 kk) 0 0 0,.rs (hn 8 kk) m.aD.length 1 m.aD.length,.raw (.int .i64 m.in_),.raw (.int .i64 m.status),.raw (.int .i64 m.bs),.raw (.int .i64 m.time)])),(hn 5 kk,.var 162 [.rs (hn 6 kk) m.heap.flatten.length 1 m.heap.flatten.length,.rs (hn 7 kk) m.heap.length 1 m.heap.length]),(hn 6 kk,.aE 3 1 (m.heap.flatten.map eI)),(hn 7 kk,.aE 3 1 ((ii m.heap).map eI)),(hn 8 kk,.aE 9 1 (m.aD.map eS))]) fun i=>?_) ?_
 ·rw[eD,bz,bz,bz,<-X9,gg,gg,gg];have n35:hn 3 kk≠hn 5 kk:=by unfold hn;omega
  by_cases c3:i=hn 3 kk
  ·subst c3;rw[if_pos rfl,TH,gV];rfl
  rw[if_neg c3,if_neg c3,if_neg c3,da c3,da c3];cases ak e i with
  |some r=>rfl
  |none=>
   unfold nZ;simp only[ak];by_cases c5:i=hn 5 kk
   ·subst c5;simp[hn]
   by_cases c6:i=hn 6 kk
   ·subst c6;simp[hn]
   by_cases c7:i=hn 7 kk
   ·subst c7;simp[hn]
   simp[c5,c6,c7]
 refine gT ((cU.fl (hn 4 kk) (hn 3 kk) 8 108 1 (t:=105) (cs:=hS p++[aX cO 4 C.ins,aX eI 1 C.entry,.raw (.slice none 0 0),.pt (hn 5 kk) 0 0 0,.rs (hn 8 kk) m.aD.length 1 m.aD.length,.raw (.int .i64 m.in_),.raw (.int .i64 m.status),.raw (.int .i64 m.bs),.raw (.int .i64 m.time)]) ?_ jC ?_ rfl).trans (cU.perm (tie (e++dU p C m kk 0) []) fun i=>?_)) ?_
 ·show ak (e++_) (hn 4 kk)=_;rw[jX VY,da (by unfold hn;omega),da (by unfold hn;omega),da (by unfold hn;omega),da (by unfold hn;omega),da (by unfold hn;omega)];rfl
 ·show ak _ _=_;rw[jX TH,gV]
 ·show ak (bf (bf (e++_) (hn 4 kk) _) (hn 3 kk) _) i=_;rw[bz,bz,<-sx,gg,gg];by_cases c3:i=hn 3 kk
  ·subst c3;rw[if_pos rfl,TH];unfold dU;rw[gV];rfl
  rw[if_neg c3];by_cases c4:i=hn 4 kk
  ·subst c4;rw[if_pos rfl,VY];unfold dU;rw[da (by unfold hn;omega),gV];rfl
  rw[if_neg c4];cases ak e i with
  |some r=>rfl
  |none=>unfold dU;rw[da c3,da c3,da c4];rfl
 refine dR (S:=Nat) [(5,2),(28,27)] (fun k=>k<=m.calls.length) (fun k=>[(28,rI k)]) (fun k=>⟨B,tie (e++dU p C m kk k) []⟩) (fun k=>m.calls.length-k) 0 (Nat.zero_le _) (dS rfl cc) ?_;rintro k hk Kr P3;have hd:∀i,ak (dU p C m kk k) i≠none->ak e i=none:=fun i hi=>by
  rcases sk.1 ((fO _ _).2 hi)with⟨a,_,_,rfl⟩|⟨d,_,rfl|rfl|rfl⟩
  ·exact PX a 0
  all_goals exact PX _ _
 have RJ:=hR.ok.app (yb p C m kk k) hd;have RK:=hR.og RJ fun i r h=>lF h
 have RL:=RJ.low;by_cases PW:k<m.calls.length
 ·have QE:=RK.call k PW;have Rp:=zy RK PW;have r3:ak (e++dU p C m kk k) (hn 3 kk)=some (.var 105 (hS p++[aX cO 4 C.ins,aX eI 1 C.entry,.rs (hn 4 kk) k 1 k,.pt (hn 5 kk) 0 0 0,.rs (hn 8 kk) m.aD.length 1 m.aD.length,.raw (.int .i64 m.in_),.raw (.int .i64 m.status),.raw (.int .i64 m.bs),.raw (.int .i64 m.time)])):=by
   rw[jX TH];unfold dU;rw[gV];unfold mE;rw[yc];rfl
  have r4:ak (e++dU p C m kk k) (hn 4 kk)=some (.aE 108 1 ((List.range k).map fun i=>[.pt (hn 0 (kk+i)) 0 0 0])):=by rw[jX VY];unfold dU;rw[da (by unfold hn;omega),gV]
  have rn:∀a,a<3->ak (e++dU p C m kk k) (hn a (kk+k))=none:=fun a ha=>by
   rw[jX (PX a k)];cases h:ak (dU p C m kk k) (hn a (kk+k))with
   |none=>rfl
   |some r=> rcases sk.1 ((fO _ _).2 (by rw[h];simp))with⟨b,_,_,e⟩|⟨d,_,e|e|e⟩<;>(unfold hn at e;omega)
  have n0:=rn 0 jC;have n1:=rn 1 jC;have n2:=rn 2 jC;obtain⟨s1,s2⟩:=hs k PW;have Qk:=wv (nth m.calls k).slots s1 (hn 1 (kk+k));have UU:=wv (nth m.calls k).stack s2 (hn 2 (kk+k));generalize hE:e++dU p C m kk k=E at*;refine S ?_
  (have W:=jA RL (jA RK.root (jA RK.row (jA Rp (jA QE.var (jA r3 (jA r4 (jA n0 (jA n1 (n2)))))))));repeat' (first|refine ax fun K hK=>?_|refine az ?_|(with_reducible refine gR 2 ?_);refine dC 2 ([],[],[14,19]) [] [0,1,2,3,5,6,7,8,4,9,10,11,12,13,14,15] mixed ?_|(with_reducible refine gR 7 ?_);refine dC 7 ([],[],[39,45]) [] [0,1,2,3,5,6,7,8,9,4,10,11,12,13,14,15] mixed ?_|(refine hK _ _ ?_;clear hK K)|(refine aw ?_ ?_<;>intro hc<;>try exact jz)|refine ld (hn 0 (kk+k)) ?_|refine th (hn 1 (kk+k)) (t:=50) (enc:=bG) (sz:=3) qS Qk (by show ak (tie _ _) _=_;rw[eD,n1,Option.none_or,da (by unfold hn;omega)];rfl) (pJ (nth m.calls k).slots (by show ak (tie _ _) _=_;rw[eD,QE.dv];rfl) rfl) ?_|refine th (hn 2 (kk+k)) (t:=50) (enc:=bG) (sz:=3) qS UU (by show ak (tie _ _) _=_;rw[eD,n2,Option.none_or,da (by unfold hn;omega),da (by unfold hn;omega)];rfl) (JF (nth m.calls k).stack (nth N.cs k).jk (by show ak (tie _ _) _=_;rw[eD,QE.cf];rfl) rfl rfl) ?_|refine pO 10 ?_|refine ou (enc:=fun i=>[.pt (hn 0 (kk+i)) 0 0 0]) (List.range k) [] [k] ?_ (hm:=jE) (hn:=jE) (hc:=by rw[List.append_nil])|refine ay ?_|exact jI|(clear hK K)))
  refine P3 _ _ (wR (tie (e++dU p C m kk (k+1)) [(10,.aE 108 1 [[.pt (hn 0 (kk+k)) 0 0 0]])]) (fun i=>?_) (Be hB hR.ok (hR.ok.app (yb p C m kk (k+1)) ?_) (dD jC de) (k+1) jB (by show m.calls.length-(k+1)<m.calls.length-k;omega) rfl j6))
  ·rw[eD,eD,bz,bz,<-hE,gg,gg];by_cases c3:i=hn 3 kk
   ·subst c3;rw[if_pos rfl,TH];unfold dU;rw[gV];unfold mE;rw[yc];rfl
   rw[if_neg c3];by_cases c4:i=hn 4 kk
   ·subst c4;have e4:ak (dU p C m kk (k+1)) (hn 4 kk)=some (.aE 108 1 ((List.range (k+1)).map fun i=>[.pt (hn 0 (kk+i)) 0 0 0])):=by unfold dU;rw[da (by unfold hn;omega),gV]
    rw[if_pos rfl,VY,e4,List.range_succ,List.map_append];rfl
   rw[if_neg c4];cases ak e i with
   |some r=>rfl
   |none=>
    unfold dU;rw[da c3,da c4,da c3,da c4,List.range_succ,List.flatMap_append];simp only[ak,gg,List.flatMap_cons,List.flatMap_nil,List.append_nil,mM,Option.none_or];split
    ·rfl
    split
    ·rfl
    split
    ·rfl
    split
    ·rfl
    cases ak ((List.range k).flatMap (mM kk m.calls)) i with
    |some r=>rfl
    |none=>
     simp only[Option.none_or,MV.cE,List.length_nil,Nat.add_zero];split
     ·rfl
     split
     ·rfl
     split
     ·rfl
     rfl
  ·intro i hi;rcases sk.1 ((fO _ _).2 hi)with⟨a,_,_,rfl⟩|⟨d,_,rfl|rfl|rfl⟩
   ·exact PX a 0
   all_goals exact PX _ _
 ·have SL:k=m.calls.length:=jB;subst SL;refine S ?_
  (have W:=RL;repeat' (first|refine ax fun K hK=>?_|refine az ?_|(with_reducible refine gR 2 ?_);refine dC 2 ([],[],[14,19]) [] [0,1,2,3,5,6,7,8,4,9,10,11,12,13,14,15] mixed ?_|(with_reducible refine gR 7 ?_);refine dC 7 ([],[],[39,45]) [] [0,1,2,3,5,6,7,8,9,4,10,11,12,13,14,15] mixed ?_|(refine hK _ _ ?_;clear hK K)|(refine aw ?_ ?_<;>intro hc<;>try exact jz)|refine PY _ _ ?_|refine ay ?_|exact jI|(clear hK K)))
  exact dW (tl:=[]) hB hR.ok hok (fun _=>rfl) de [.tmp 2]
end
instance (m:MV)(C:aB):Decidable (m.eo C):=inferInstanceAs (Decidable (m.status≠0\/(m.bc C).op=1))
def mD(p:ab)(C:aB)(inp:PJ):Nat->MV->MV
 |0,m=>m
 |n+1,m=>if m.eo C then m else mD p C inp n (m.one p C inp)
variable{inp:PJ}
def Dd{p:ab}{C:aB}{n:Nat}{m a:MV}(h:fj p C inp n m a):a.eo C->∀k,(mD p C inp k m).eo C->mD p C inp k m=a:=by
 induction h with
 |refl m=>
  intro ha k _;cases k with
  |zero=>rfl
  |succ k=>unfold mD;rw[if_pos ha]
 |step h0 h1 hok h ih=>
  intro ha k hk;have Ya:∀{m:MV},m.status=0->(m.bc C).op≠1->¬m.eo C:=fun a b c=>c.elim (fun c=>c a) b
  cases k with
  |zero=>exact(Ya h0 h1 hk).elim
  |succ k=> unfold mD at hk ⊢;rw[if_neg (Ya h0 h1)]at hk ⊢;exact ih ha k hk
def LJ{p:ab}{C:aB}{F:PJ->MV->MV}(hF:fa p C F)(hi:∀x∈inp,cr x){m:MV}(h:MI p C m)(hh:¬m.halt)(k:Nat)(hk:(mD p C inp k m.dJ).eo C):F inp m=(mD p C inp k m.dJ).eT:=by obtain⟨m1,⟨n,hg⟩,⟨P0,_,_⟩,e⟩:=hF.step inp hi m h hh;rw[e,Dd hg P0 k hk]
section
variable {p:ab}{C:aB}
def Ik{m:MV}{N:NM}{e:PG}(hR:bw p C m N e)(k:Nat)(a:Int)(ha:a=(k:Int)+1)(hl:m.heap.length<=1000)(hf:m.heap.flatten.length<=1000)(hk:k<m.heap.length):cw prog 82 [.pt (hn 5 N.k) 0 0 0,rI a] e (.rv (hn 6 N.k) m.heap.flatten.length 1 (im m.heap k) (nth m.heap k).length) e:=by
 have PV:=hR.ok.low;have Rg:=qT m.heap;have e1:nth (ii m.heap) (a-1).toNat=(im m.heap k+(nth m.heap k).length:Nat):=by rw[show(a-1).toNat=k from jB,xd hk,oZ hk]
 have e2:=oZ hk;have e3:=qz m.heap (k+1);have hE:=hR.ends;have hH:=hR.hp;refine⟨?_,hR.ok,hR.ok,fun _ h=>h,by simp only[aS,AV.all,fS hR.hp,Bool.and_self,Bool.and_true]⟩;have k2:=hR.ok;generalize (nth m.heap k).length=c at*;by_cases h1:k=0
 ·have e0:im m.heap k=0:=by subst h1;rfl
  rw[e0]at e1 e2;rw[e0];refine aQ (L:=ids e) func82 ntmps82 ?_ (hL:=rfl);generalize hB:ids e=B;refine dP ?_
  (have W:=jA PV (jA hH (jA hE (jA Rg (e1))));repeat' (first|refine ax fun K hK=>?_|refine az ?_|(refine hK _ _ ?_;clear hK K)|(refine aw ?_ ?_<;>intro hc<;>try exact jz)|(refine fc ?_ ?_<;>intro hc<;>try exact jz)|refine ay ?_|exact jI|(clear hK K)))
  exact dW (tl:=[]) hB k2 k2 (fun _=>rfl) de [.tmp 4]
 ·have e4:nth (ii m.heap) (a-2).toNat=(im m.heap k:Nat):=by
   have e4:=xd (h:=m.heap) (k:=k-1) jB;rw[show k-1+1=k from jB]at e4;rw[show(a-2).toNat=k-1 from jB];exact e4
  generalize im m.heap k=o at*;refine aQ (L:=ids e) func82 ntmps82 ?_ (hL:=rfl);generalize hB:ids e=B;refine dP ?_
  (have W:=jA PV (jA hH (jA hE (jA Rg (jA e1 (e4)))));repeat' (first|refine ax fun K hK=>?_|refine az ?_|(refine hK _ _ ?_;clear hK K)|(refine aw ?_ ?_<;>intro hc<;>try exact jz)|(refine fc ?_ ?_<;>intro hc<;>try exact jz)|refine ay ?_|exact jI|(clear hK K)))
  exact dW (tl:=[]) hB k2 k2 (fun _=>rfl) de [.tmp 4] (hv:=by simp only[go_sem,Nat.add_sub_cancel_left])
def iE(h:PI)(kk n:Nat):PG:=kJ 22 23 kk 22 1 (fun i=>[.rs (hn 23 (kk+i)) (nth h i).length 1 (nth h i).length]) (fun i=>.aE 3 1 ((nth h i).map eI)) n
def Pc(h:PI)(kk n:Nat):cZ 0 (iE h kk n):=GX jC (fun i=>by simp[aS,AV.all]) fun i=>mY _ fun _ _=>rfl
def Lh{m:MV}{N:NM}{e:PG}(hR:bw p C m N e)(hl:m.heap.length<=1000)(hf:m.heap.flatten.length<=1000)(kk:Nat)(PX:∀a d,ak e (hn a (kk+d))=none):cw prog 50 [.pt (hn 5 N.k) 0 0 0] e (.rs (hn 22 kk) m.heap.length 1 m.heap.length) (e++iE m.heap kk m.heap.length):=by
 have PV:=hR.ok.low;have hH:=hR.hp;have Tx:=PX 22 0;rw[Nat.add_zero]at Tx;have hd:∀n i,ak (iE m.heap kk n) i≠none->ak e i=none:=fun n i hi=>by
  rcases rO.1 ((fO _ _).2 hi)with rfl|⟨d,_,rfl⟩
  ·exact Tx
  ·exact PX _ _
 have hok:∀n,cZ 0 (e++iE m.heap kk n):=fun n=>hR.ok.app (Pc _ _ _) (hd n)
 refine⟨?_,hR.ok,hok _,fun i hi=>by rw[gg];cases h:ak e i with|none=>exact(hi h).elim|some r=>simp,by simp only[aS,AV.all,fS hR.hp,Bool.and_self]⟩;refine aQ (L:=ids e) func50 ntmps50 ?_ (hL:=rfl);generalize hB:ids e=B;refine dP ?_
 (have W:=jA PV hH;repeat' (first|refine ax fun K hK=>?_|refine az ?_|(refine hK _ _ ?_;clear hK K)|(refine aw ?_ ?_<;>intro hc<;>try exact jz)|(refine fc ?_ ?_<;>intro hc<;>try exact jz)|refine ay ?_|exact jI|(clear hK K)))
 refine gT ((cU.nil (hn 22 kk) 3 22 (sz:=1) (by show ak (tie _ _) _=_;rw[eD,Tx];rfl) jC (Or.inl rfl)).trans (cU.perm (tie (e++iE m.heap kk 0) []) fun i=>?_)) ?_
 ·show ak (bf (tie _ _) (hn 22 kk) _) i=_;rw[bz,<-sx,<-sx,gg];by_cases c:i=hn 22 kk
  ·subst c;rw[if_pos rfl,Tx];exact(gV _ _ _).symm
  rw[if_neg c];cases ak e i with
  |some r=>rfl
  |none=>rw[Option.none_or];unfold iE kJ;rw[da c];rfl
 have PY:=hK;clear hK;refine dR (S:=Nat) [(3,2),(10,12)] (fun k=>k<=m.heap.length) (fun k=>[(3,.rs (hn 22 kk) k 1 k),(10,rI k)])
  (fun k=>⟨B,tie (e++iE m.heap kk k) []⟩) (fun k=>m.heap.length-k) 0 jB (dS rfl cc) ?_
 rintro k hk Kr P3;have RJ:=hok k;have RL:=RJ.low;have RK:=hR.og RJ fun i r h=>lF h
 by_cases PW:k<m.heap.length
 ·have Va:=oZ PW;have Qa:=qz m.heap (k+1);have Zl:=Ik RK k ((k:Int)+1) rfl hl hf PW;have P7:=xO (nth m.heap k) jB (hn 23 (kk+k));have wq:ak (e++iE m.heap kk k) (hn 22 kk)=some (.aE 22 1 ((List.range k).map fun i=>[.rs (hn 23 (kk+i)) (nth m.heap i).length 1 (nth m.heap i).length])):=by
   rw[jX Tx];exact gV _ _ _
  have n23:ak (e++iE m.heap kk k) (hn 23 (kk+k))=none:=by
   rw[jX (PX 23 k)];cases h:ak (iE m.heap kk k) (hn 23 (kk+k))with
   |none=>rfl
   |some r=>rcases rO.1 ((fO _ _).2 (show ak (iE m.heap kk k) (hn 23 (kk+k))≠none by rw[h];simp))with e|⟨d,_,e⟩<;>(unfold hn at e;omega)
  have I':=RK.cells;generalize hE:e++iE m.heap kk k=E at*;refine S ?_
  (have W:=jA RL (jA RK.hp (jA wq (n23)));repeat' (first|refine ax fun K hK=>?_|refine az ?_|(refine hK _ _ ?_;clear hK K)|(refine aw ?_ ?_<;>intro hc<;>try exact jz)|refine cT Zl ?_|refine ME (hn 23 (kk+k)) (t:=3) (enc:=eI) (sz:=1) xK P7 (by show ak (tie _ _) _=_;rw[eD,n23];rfl) (fun w vs hw hv=>by have:=F2 (enc:=eI) m.heap.flatten (by show ak (tie _ _) _=_;rw[eD,I'];rfl) rfl jB jC w vs hw hv;rw[Dv PW]at this;exact this) ?_|refine pO 10 ?_|refine ou (enc:=fun i=>[.rs (hn 23 (kk+i)) (nth m.heap i).length 1 (nth m.heap i).length]) (List.range k) [] [k] ?_ (hm:=jE) (hn:=jE) (hc:=by rw[List.append_nil])|(refine fc ?_ ?_<;>intro hc<;>try exact jz)|refine ay ?_|exact jI|(clear hK K)))
  refine P3 _ _ (wR (tie (e++iE m.heap kk (k+1)) [(10,.aE 22 1 [[.rs (hn 23 (kk+k)) (nth m.heap k).length 1 (nth m.heap k).length]])]) (fun i=>?_) (Be hB hR.ok (hok (k+1)) (dD jC de) (k+1) jB (by show m.heap.length-(k+1)<m.heap.length-k;omega) rfl j6));have n23':=n23;rw[<-hE,jX (PX 23 k)]at n23';rw[eD,eD,bz,<-hE,gg,gg];unfold iE at n23' ⊢;rw[EU jC];by_cases c2:i=hn 22 kk
  ·subst c2;rw[if_pos rfl,if_pos rfl,Tx];rfl
  rw[if_neg c2,if_neg c2];cases ak e i with
  |some r=>rfl
  |none=>
   by_cases c3:i=hn 23 (kk+k)
   ·subst c3;rw[if_pos rfl,n23',gV];rfl
   ·rw[if_neg c3,da c3]
 ·have RU:k=m.heap.length:=jB;subst RU;refine S ?_
  (have W:=RL;repeat' (first|refine ax fun K hK=>?_|refine az ?_|(refine hK _ _ ?_;clear hK K)|(refine aw ?_ ?_<;>intro hc<;>try exact jz)|refine PY _ _ ?_|(refine fc ?_ ?_<;>intro hc<;>try exact jz)|refine ay ?_|exact jI|(clear hK K)))
  exact dW (tl:=[]) hB hR.ok RJ (fun _=>rfl) de [.tmp 2]
end
section
variable {p:ab}{C:aB}
def l6(C:aB)(m:MV)(kk i:Nat):PH:=[rI (nth m.calls i).fn,rI (nth C.ins (m.cQ i).toNat).a,.rs (hn 21 (kk+i)) (nth m.calls i).slots.length 3 (nth m.calls i).slots.length]
def jT(C:aB)(m:MV)(kk n:Nat):PG:=kJ 20 21 kk 69 3 (l6 C m kk) (fun i=>.aE 50 3 ((nth m.calls i).slots.map bG)) n
def NI(C:aB)(m:MV)(kk n:Nat):cZ 0 (jT C m kk n):=GX jC (fun i=>by simp[l6,aS,AV.all]) fun i=>mY _ fun _ _=>rfl
def LZ{m:MV}{N:NM}{e:PG}(hR:bw p C m N e)(hk:sj C m)(kk:Nat)(PX:∀a d,ak e (hn a (kk+d))=none) :
  cw prog 26 [mP N] e (.agg [.rs (hn 20 kk) m.calls.length 3 m.calls.length,.rs (hn 22 kk) m.heap.length 1 m.heap.length,rI m.in_,aX eS 1 m.aD,rI m.status,rI m.bs,rI m.time]) (e++iE m.heap kk m.heap.length++jT C m kk m.calls.length):=by
 obtain⟨s1,s2,s3,s4,s5,s6⟩:=hk;rw[pL]at s4;have SX:=Lh hR jB jB kk PX;generalize hL:e++iE m.heap kk m.heap.length=eL at*;have U0:=SX.e2;have PV:=hR.ok.low;have T1:=U0.low;have Xn:=hR.og U0 fun i r h=>by rw[<-hL];exact lF h
 have hl:=hR.len;have VX:=BC m.aD jB 8;have Wr:∀a d,a≠22->a≠23->a<32->ak eL (hn a (kk+d))=none:=fun a d h2 h3 h=>by
  rw[<-hL,jX (PX a d)];cases h':ak (iE m.heap kk m.heap.length) (hn a (kk+d))with
  |none=>rfl
  |some r=>rcases rO.1 ((fO _ _).2 (show ak (iE m.heap kk m.heap.length) (hn a (kk+d))≠none by rw[h'];simp))with e|⟨d,_,e⟩<;>(unfold hn at e;omega)
 have SB:=Wr 20 0 jC jC jC;rw[Nat.add_zero]at SB;have hd:∀n i,ak (jT C m kk n) i≠none->ak eL i=none:=fun n i hi=>by
  rcases rO.1 ((fO _ _).2 hi)with rfl|⟨d,_,rfl⟩
  ·exact SB
  ·exact Wr _ _ jC jC jC
 have hok:∀n,cZ 0 (eL++jT C m kk n):=fun n=>U0.app (NI _ _ _ _) (hd n)
 refine⟨?_,hR.ok,hok _,fun i hi=>by rw[<-hL,gg,gg];cases h:ak e i with|none=>exact(hi h).elim|some r=>simp,ov hR rfl⟩;refine aQ (L:=ids e) func26 ntmps26 ?_ (hL:=rfl);generalize hB:ids e=B;refine dP ?_
 (have W:=jA PV (jA T1 (jA hR.root (Xn.root)));repeat' (first|refine ax fun K hK=>?_|refine az ?_|(with_reducible refine gR 1 ?_);refine dC 1 ([],[],[11,20]) [27] [0,1,2,3,5,6,7,8,9,10,11,12,14,15,16,17,18,19,20,21,22,23,24,25,4,13,26,27,28] mixed ?_|(with_reducible refine gR 8 ?_);refine dC 8 ([],[],[79,81]) [] (aK 0 25) mixed ?_|(refine hK _ _ ?_;clear hK K)|(refine aw ?_ ?_<;>intro hc<;>try exact jz)|refine ld 9 ?_|refine ld 10 ?_|refine oi SX (fun j _ hj=>.inl (by rw[<-hL];exact(by cases h:ak e j with|none=>exact(hj h).elim|some r=>rw[lF h]))) ?_|refine CI 8 zo VX (by show ak (tie _ _) _=_;rw[eD,T1 _ jC];rfl) (pJ m.aD (by show ak (tie _ _) _=_;rw[eD,Xn.outs];rfl) rfl) ?_|(refine fc ?_ ?_<;>intro hc<;>try exact jz)|refine ay ?_|exact jI|(clear hK K)))
 refine gT ((cU.fl (hn 20 kk) 10 0 69 3 (by show ak (tie _ _) _=_;rw[eD,SB];rfl) jC (by show ak (tie _ _) _=_;rw[eD,T1 _ jC];rfl) rfl).trans (cU.perm (tie (eL++jT C m kk 0) [(9,.var 65 [.raw (.slice none 0 0),.raw (.slice none 0 0),.raw (.int .i64 0),.raw (.slice none 0 0),.raw (.int .i64 0),.raw (.int .i64 0),.raw (.int .i64 0)]),(10,.var 65 [.rs (hn 20 kk) 0 3 0,.rs (hn 22 kk) m.heap.length 1 m.heap.length,.raw (.int .i64 m.in_),aX eS 1 m.aD,.raw (.int .i64 m.status),.raw (.int .i64 m.bs),.raw (.int .i64 m.time)])]) fun i=>?_)) ?_
 ·show ak (bf (bf (tie _ _) (hn 20 kk) _) 10 _) i=_;rw[bz,bz,eD,eD,gg];by_cases c:i=10
  ·subst c;rw[if_pos rfl,T1 _ jC];unfold jT kJ;rw[da (by unfold hn;omega)];rfl
  rw[if_neg c];by_cases c2:i=hn 20 kk
  ·subst c2;rw[if_pos rfl,SB];unfold jT kJ;rw[gV];rfl
  rw[if_neg c2];unfold jT kJ;rw[da c2];cases ak eL i with
  |some r=>rfl
  |none=>
   simp only[Option.none_or,ak,List.range_zero,List.map_nil];by_cases c3:i=9
   ·rw[if_pos c3,if_pos c3]
   ·rw[if_neg c3,if_neg c3,if_neg c,if_neg c]
 (have W:=jA hl hl;refine S ?_;clear W;try exact jI)
 have PY:=hK;clear hK;refine dR (S:=Nat) [(4,3),(39,46)] (fun i=>i<=m.calls.length) (fun i=>[(39,rI i)])
  (fun i=>⟨B,tie (eL++jT C m kk i) [(9,.var 65 [.raw (.slice none 0 0),.raw (.slice none 0 0),.raw (.int .i64 0),.raw (.slice none 0 0),.raw (.int .i64 0),.raw (.int .i64 0),.raw (.int .i64 0)]),
   (10,.var 65 [.rs (hn 20 kk) i 3 i,.rs (hn 22 kk) m.heap.length 1 m.heap.length,.raw (.int .i64 m.in_),aX eS 1 m.aD,.raw (.int .i64 m.status),.raw (.int .i64 m.bs),.raw (.int .i64 m.time)])]⟩)
  (fun i=>m.calls.length-i) 0 jB (dS rfl cc) ?_
 rintro i hi Kr P3;have RJ:=hok i;have RL:=RJ.low;have RK:=Xn.og RJ fun i r h=>lF h
 by_cases PW:i<m.calls.length
 ·have QE:=RK.call i PW;have Rp:=zy RK PW;have Q0:=s3 i PW;obtain⟨a1,a2⟩:=s2 i PW;have Sm:=wv (nth m.calls i).slots jB (hn 21 (kk+i));have key:∀a:Int,m.cQ i=a->nth C.ins a.toNat=nth C.ins (m.cQ i).toNat:=fun a ha=>by rw[ha]
  have uf:ak (eL++jT C m kk i) (hn 20 kk)=some (.aE 69 3 ((List.range i).map (l6 C m kk))):=by rw[jX SB];exact gV _ _ _
  have n21:ak (eL++jT C m kk i) (hn 21 (kk+i))=none:=by
   rw[jX (Wr 21 i jC jC jC)];cases h:ak (jT C m kk i) (hn 21 (kk+i))with
   |none=>rfl
   |some r=>rcases rO.1 ((fO _ _).2 (show ak (jT C m kk i) (hn 21 (kk+i))≠none by rw[h];simp))with e|⟨d,_,e⟩<;>(unfold hn at e;omega)
  unfold MV.cQ at a1 a2;generalize hE:eL++jT C m kk i=E at*;have fin:∀j (c:PH),c=l6 C m kk i->ak (tie (bf E (hn 20 kk) (.aE 69 3 ((List.range i).map (l6 C m kk)++[c]))) [(9,.var 65 [.raw (.slice none 0 0),.raw (.slice none 0 0),.raw (.int .i64 0),.raw (.slice none 0 0),.raw (.int .i64 0),.raw (.int .i64 0),.raw (.int .i64 0)]),(10,.var 65 [.rs (hn 20 kk) (i+1) 3 (i+1),.rs (hn 22 kk) m.heap.length 1 m.heap.length,.raw (.int .i64 m.in_),aX eS 1 m.aD,.raw (.int .i64 m.status),.raw (.int .i64 m.bs),.raw (.int .i64 m.time)]),(hn 21 (kk+i),.aE 50 3 ((nth m.calls i).slots.map bG)),(11,.aE 69 3 [c])]) j=ak (tie (eL++jT C m kk (i+1)) [(9,.var 65 [.raw (.slice none 0 0),.raw (.slice none 0 0),.raw (.int .i64 0),.raw (.slice none 0 0),.raw (.int .i64 0),.raw (.int .i64 0),.raw (.int .i64 0)]),(10,.var 65 [.rs (hn 20 kk) (i+1) 3 (i+1),.rs (hn 22 kk) m.heap.length 1 m.heap.length,.raw (.int .i64 m.in_),aX eS 1 m.aD,.raw (.int .i64 m.status),.raw (.int .i64 m.bs),.raw (.int .i64 m.time)]),(11,.aE 69 3 [l6 C m kk i])]) j:=fun j c QQ=>by
   subst QQ;have n21':=n21;rw[<-hE,jX (Wr 21 i jC jC jC)]at n21';rw[eD,eD,bz,<-hE,gg,gg];unfold jT at n21' ⊢;rw[EU jC];by_cases c2:j=hn 20 kk
   ·subst c2;rw[if_pos rfl,if_pos rfl,SB];rfl
   rw[if_neg c2,if_neg c2];cases ak eL j with
   |some r=>rfl
   |none=>
    by_cases c3:j=hn 21 (kk+i)
    ·subst c3;rw[if_pos rfl,n21'];rw[da (by unfold hn;omega),da (by unfold hn;omega),gV];rfl
    ·rw[if_neg c3];simp only[ak,if_neg c3]
  by_cases QZ:(i:Int)=(m.calls.length:Int)-1
  ·have Si:m.cQ i=(nth m.calls i).at_:=by unfold MV.cQ;rw[if_pos QZ]
   rw[if_pos QZ]at a1 a2;refine S ?_
   (have W:=jA RL (jA RK.root (jA RK.row (jA Rp (jA QE.var (jA hl (jA uf (n21)))))));repeat' (first|refine ax fun K hK=>?_|refine az ?_|(with_reducible refine gR 1 ?_);refine dC 1 ([],[],[11,20]) [27] [0,1,2,3,5,6,7,8,9,10,11,12,14,15,16,17,18,19,20,21,22,23,24,25,4,13,26,27,28] mixed ?_|(with_reducible refine gR 8 ?_);refine dC 8 ([],[],[79,81]) [] (aK 0 25) mixed ?_|(refine hK _ _ ?_;clear hK K)|(refine aw ?_ ?_<;>intro hc<;>try exact jz)|refine th (hn 21 (kk+i)) (t:=50) (enc:=bG) (sz:=3) qS Sm (by show ak (tie _ _) _=_;rw[eD,n21];rfl) (pJ (nth m.calls i).slots (by show ak (tie _ _) _=_;rw[eD,QE.dv];rfl) rfl) ?_|refine BM 11 ?_|refine ou (enc:=l6 C m kk) (List.range i) [] [i] ?_ (hm:=jE) (hn:=jE) (hc:=by rw[List.append_nil]) (hy:=by unfold l6;rw[Si])|refine PY _ _ ?_|(refine fc ?_ ?_<;>intro hc<;>try exact jz)|refine ay ?_|exact jI|(clear hK K)))
   refine P3 _ _ (wR (tie (eL++jT C m kk (i+1)) [(9,.var 65 [.raw (.slice none 0 0),.raw (.slice none 0 0),.raw (.int .i64 0),.raw (.slice none 0 0),.raw (.int .i64 0),.raw (.int .i64 0),.raw (.int .i64 0)]),(10,.var 65 [.rs (hn 20 kk) (i+1) 3 (i+1),.rs (hn 22 kk) m.heap.length 1 m.heap.length,.raw (.int .i64 m.in_),aX eS 1 m.aD,.raw (.int .i64 m.status),.raw (.int .i64 m.bs),.raw (.int .i64 m.time)]),(11,.aE 69 3 [l6 C m kk i])]) (fun j=>?_) (Dj 11 hB hR.ok (hok (i+1)) (i+1) jB (by show m.calls.length-(i+1)<m.calls.length-i;omega) ⟨.inr rfl,.inr (by show aS _ _=true;simp[aS,AV.all,fi,Gg,aX]),.inl rfl,trivial⟩ rfl rfl j6));exact fin j _ (by unfold l6;rw[Si])
  ·have Si:m.cQ i=(nth m.calls i).mark:=by unfold MV.cQ;rw[if_neg QZ]
   rw[if_neg QZ]at a1 a2;refine S ?_
   (have W:=jA RL (jA RK.root (jA RK.row (jA Rp (jA QE.var (jA hl (jA uf (n21)))))));repeat' (first|refine ax fun K hK=>?_|refine az ?_|(with_reducible refine gR 1 ?_);refine dC 1 ([],[],[11,20]) [27] [0,1,2,3,5,6,7,8,9,10,11,12,14,15,16,17,18,19,20,21,22,23,24,25,4,13,26,27,28] mixed ?_|(with_reducible refine gR 8 ?_);refine dC 8 ([],[],[79,81]) [] (aK 0 25) mixed ?_|(refine hK _ _ ?_;clear hK K)|(refine aw ?_ ?_<;>intro hc<;>try exact jz)|refine th (hn 21 (kk+i)) (t:=50) (enc:=bG) (sz:=3) qS Sm (by show ak (tie _ _) _=_;rw[eD,n21];rfl) (pJ (nth m.calls i).slots (by show ak (tie _ _) _=_;rw[eD,QE.dv];rfl) rfl) ?_|refine BM 11 ?_|refine ou (enc:=l6 C m kk) (List.range i) [] [i] ?_ (hm:=jE) (hn:=jE) (hc:=by rw[List.append_nil]) (hy:=by unfold l6;rw[Si])|refine PY _ _ ?_|(refine fc ?_ ?_<;>intro hc<;>try exact jz)|refine ay ?_|exact jI|(clear hK K)))
   refine P3 _ _ (wR (tie (eL++jT C m kk (i+1)) [(9,.var 65 [.raw (.slice none 0 0),.raw (.slice none 0 0),.raw (.int .i64 0),.raw (.slice none 0 0),.raw (.int .i64 0),.raw (.int .i64 0),.raw (.int .i64 0)]),(10,.var 65 [.rs (hn 20 kk) (i+1) 3 (i+1),.rs (hn 22 kk) m.heap.length 1 m.heap.length,.raw (.int .i64 m.in_),aX eS 1 m.aD,.raw (.int .i64 m.status),.raw (.int .i64 m.bs),.raw (.int .i64 m.time)]),(11,.aE 69 3 [l6 C m kk i])]) (fun j=>?_) (Dj 11 hB hR.ok (hok (i+1)) (i+1) jB (by show m.calls.length-(i+1)<m.calls.length-i;omega) ⟨.inr rfl,.inr (by show aS _ _=true;simp[aS,AV.all,fi,Gg,aX]),.inl rfl,trivial⟩ rfl rfl j6));exact fin j _ (by unfold l6;rw[Si])
 ·have Q2:i=m.calls.length:=jB;subst Q2;refine S ?_
  (have W:=jA RL hl;repeat' (first|refine ax fun K hK=>?_|refine az ?_|(with_reducible refine gR 1 ?_);refine dC 1 ([],[],[11,20]) [27] [0,1,2,3,5,6,7,8,9,10,11,12,14,15,16,17,18,19,20,21,22,23,24,25,4,13,26,27,28] mixed ?_|(with_reducible refine gR 8 ?_);refine dC 8 ([],[],[79,81]) [] (aK 0 25) mixed ?_|(refine hK _ _ ?_;clear hK K)|(refine aw ?_ ?_<;>intro hc<;>try exact jz)|refine PY _ _ ?_|(refine fc ?_ ?_<;>intro hc<;>try exact jz)|refine ay ?_|exact jI|(clear hK K)))
  have h9:=RL 9 jC;exact dW (tl:=[(9,.var 65 [.rs (hn 20 kk) m.calls.length 3 m.calls.length,.rs (hn 22 kk) m.heap.length 1 m.heap.length,.raw (.int .i64 m.in_),aX eS 1 m.aD,.raw (.int .i64 m.status),.raw (.int .i64 m.bs),.raw (.int .i64 m.time)]),(10,.var 65 [.rs (hn 20 kk) m.calls.length 3 m.calls.length,.rs (hn 22 kk) m.heap.length 1 m.heap.length,.raw (.int .i64 m.in_),aX eS 1 m.aD,.raw (.int .i64 m.status),.raw (.int .i64 m.bs),.raw (.int .i64 m.time)])]) hB hR.ok RJ (fun _=>rfl) (dD jC (dD jC de)) [.cell 2 65] (ho:=by simp(disch:=first|omega|assumption|fail) only[go_sem,↓reduceIte,h9];rfl) (hok:=by simp(disch:=first|omega|assumption|fail) only[go_sem,↓reduceIte,h9];first|done|decide|(repeat' (first|exact trivial|decide|(simp;done)|refine jA ?_ ?_)))
end
structure MA(p:ab)(n:Nat)(E:List (Nat×Row))(m:MV)(N:NM)(l:List (Nat×Row)):Prop where
 R:bw p (cC p) m N l
 mi:MI p (cC p) m
 bd:Bd n m
 t0:0<=m.time
 sub:∀i r,ak l i=some r->ak E i=some r
section
variable {p:ab}(hs:fG p){F:PJ->MV->MV}(hF:fa p (cC p) F){inp:PJ}(Rs:inp.length<=1000)(hi:∀x∈inp,cr x){E:PG}{m:MV}{N:NM}{l:PG}
include hs hF Rs hi
theorem xu(hE:cZ 0 E)(h:MA p inp.length E m N l)(ht:m.time<=100000):∃N' l',cw prog 23 [mP N,aX eI 1 inp] E (.ba []) (fp E l')/\MA p inp.length (fp E l') (F inp m) N' l'/\N'.k=N.k/\((F inp m).time=m.time\/(F inp m).time=m.time+1)/\∀i,ak l' i≠none->ak l i≠none\/ak E i=none:=by
 have VW:=h.t0;obtain⟨N',l',⟨Yb,P8,QX⟩,hU,P0⟩:=OQ hs hF Rs hi h.R h.mi h.bd ⟨VW,ht⟩ (ids E);have R4:∀i,ak l' i≠none->ak l i≠none\/ak E i=none:=fun i hi=>by
  rcases hU.new i hi with h1|h1
  ·exact .inl h1
  ·right
   cases hx:ak E i with
   |none=>rfl
   |some r=>exact(h1 ((fO _ _).2 (by rw[hx];simp))).elim
 have hd:=cw.more P0 hE h.sub R4;have UM:=hF.time hi h.mi;exact⟨N',l',hd,⟨Yb,hF.mi hi h.mi,QX,by rcases UM with e|e<;>omega,Ct Yb.ok.nodup⟩,P8,UM.imp id And.left,R4⟩
omit hF Rs hi
theorem zL(hE:cZ 0 E)(h:MA p inp.length E m N l):cw prog 26 [mP N] E (.agg (ji (m.iC (cC p)))) E:=by have hC:=sM hs;have:=hC.len;have:=hC.pu;have:=hs.ok.aa.au;have:=hs.ok.size;exact Oh (h.R.og hE h.sub) (Cf h.mi h.bd jB)
theorem Lv(hE:cZ 0 E)(h:MA p inp.length E m N l)(kk:Nat)(PX:∀a d,ak E (hn a (kk+d))=none):cw prog 26 [mP N] E (.agg [.rs (hn 20 kk) m.calls.length 3 m.calls.length,.rs (hn 22 kk) m.heap.length 1 m.heap.length,rI m.in_,aX eS 1 m.aD,rI m.status,rI m.bs,rI m.time]) (E++iE m.heap kk m.heap.length++jT (cC p) m kk m.calls.length):=by have hC:=sM hs;have:=hC.len;have:=hC.pu;have:=hs.ok.aa.au;have:=hs.ok.size;exact LZ (h.R.og hE h.sub) (Cf h.mi h.bd jB) kk PX
omit hs
theorem JE(h:MA p inp.length E m N l):rW (m.iC (cC p)):=by
 have hc:=h.bd.heap;refine⟨by show((List.range m.calls.length).map _).length<=8;rw[List.length_map,List.length_range];exact h.mi.dM,?_,h.bd.outs,fun k hk=>?_,fun k hk=>?_⟩
 ·show m.heap.length<=40;rw[pL]at hc;omega
 ·have hk:k<((List.range m.calls.length).map (m.spot (cC p))).length:=hk;rw[List.length_map,List.length_range]at hk;show(nth ((List.range m.calls.length).map (m.spot (cC p))) k).slots.length<=24;rw[BK _ (by simpa using hk),dT (by simpa using hk),List.getElem_range];exact h.bd.slots k hk
 ·have hk:k<m.heap.length:=hk;show(nth m.heap k).length<=40;have Va:=oZ hk;have Qa:=qz m.heap (k+1);rw[pL]at hc;omega
omit hs in
theorem Ia{e:PG}(hR:bw p (cC p) m N e)(hh:m.status=2\/m.status=3)(k:Int)(v:aj):cw prog 25 [mP N,rI k,.agg (bG v)] e (rB false) e:=by
 have PV:=hR.ok.low;refine⟨?_,hR.ok,hR.ok,fun _ h=>h,?_⟩;rotate_left
 ·simp only[aS,AV.all,fS hR.root,Bool.and_self,Bool.and_true,bG]
 rcases hh with s2|s2
 rotate_left
 ·have s3:¬m.status=2:=jB;refine aQ (L:=ids e) func25 ntmps25 ?_ (hL:=rfl);generalize hB:ids e=B;refine dP ?_
  (have W:=jA PV (jA hR.root (jA s2 (s3)));repeat' (first|refine ax fun K hK=>?_|refine az ?_|(with_reducible refine gR 3 ?_);refine dQ 3 mixed ?_|(refine hK _ _ ?_;clear hK K)|(refine aw ?_ ?_<;>intro hc<;>try exact jz)|refine dL 9 ?_|(refine⟨.ip [.any,.any,.any,.any,.raw (.slice none 0 0)],?_⟩;refine S ?_)|(refine fc ?_ ?_<;>intro hc<;>try exact jz)|refine ay ?_|exact jI|(clear hK K)))
  exact dW hB hR.ok hR.ok (tl:=[(9,.var 50 (bG v))]) (fun _=>rfl) (dD jC de) [.tmp 6]
 ·refine aQ (L:=ids e) func25 ntmps25 ?_ (hL:=rfl);generalize hB:ids e=B;refine dP ?_
  (have W:=jA PV (jA hR.root (s2));repeat' (first|refine ax fun K hK=>?_|refine az ?_|(with_reducible refine gR 3 ?_);refine dQ 3 mixed ?_|(refine hK _ _ ?_;clear hK K)|(refine aw ?_ ?_<;>intro hc<;>try exact jz)|refine dL 9 ?_|(refine⟨.ip [.any,.any,.any,.any,.raw (.slice none 0 0)],?_⟩;refine S ?_)|(refine fc ?_ ?_<;>intro hc<;>try exact jz)|refine ay ?_|exact jI|(clear hK K)))
  exact dW hB hR.ok hR.ok (tl:=[(9,.var 50 (bG v))]) (fun _=>rfl) (dD jC de) [.tmp 6]
theorem O2(hE:cZ 0 E)(h:MA p inp.length E m N l){v:aj}(hv:cr v.n):∃b m' l' E',cw prog 25 [mP N,rI 0,.agg (bG v)] E (rB b) E'/\MA p inp.length E' m' N l'/\m'.time=m.time/\(∀i,ak l i=none->ak E' i=ak E i)/\∀i,ak l i=none->ak l' i=none:=by
 have RK:=h.R.og hE h.sub;by_cases hh:m.status=2\/m.status=3
 ·exact⟨false,m,l,E,Ia RK hh 0 v,h,rfl,fun _ _=>rfl,fun _ h=>h⟩
 obtain⟨h1,_⟩:=h.mi.af fun e=>hh (.inl e)
 have Q0:=h.bd.af h1;by_cases hk:0<m.af.slots.length
 ·have PZ:=EB RK hh h1 0 hk jB v;have V0:=EB h.R hh h1 0 hk jB v;have hT:=(h.R.af h1).dv;refine⟨true,tR m 0 v,_,_,PZ.1,⟨V0.2,LM h.mi hh 0 hv,h.bd.aM (by show(m.af.slots.set 0 v).length<=24;rw[List.length_set];exact Q0),h.t0,fun i r hr=>?_⟩,rfl,fun i hi=>?_,fun i hi=>?_⟩
  ·rw[bz]at hr ⊢;split
   ·rename_i e;rw[if_pos e]at hr;exact hr
   ·rename_i e;rw[if_neg e]at hr;exact h.sub i r hr
  ·rw[bz,if_neg (by rintro rfl;rw[hT]at hi;cases hi)]
  ·rw[bz,if_neg (by rintro rfl;rw[hT]at hi;cases hi)];exact hi
 ·exact⟨false,m,l,E,J5 RK hh h1 0 (.inr jB) v,h,rfl,fun _ _=>rfl,fun _ h=>h⟩
theorem OJ(hE:cZ 0 E)(h:MA p inp.length E m N l)(kk:Nat)(PX:∀a d,ak E (hn a (kk+d))=none):cw prog 24 [mP N] E (.pt (hn 3 kk) 0 0 0) (E++dU p (cC p) m kk m.calls.length)/\MA p inp.length (E++dU p (cC p) m kk m.calls.length) m (o8 kk m.calls.length) (dU p (cC p) m kk m.calls.length)/\∀i,ak (dU p (cC p) m kk m.calls.length) i≠none->ak E i=none:=by
 have RK:=h.R.og hE h.sub;have hmost:=h.mi.dM;have U5:=h.bd.heap;rw[pL]at U5;have P0:∀k,k<m.calls.length->(nth m.calls k).stack.length<=1000:=fun k hk=>by
  by_cases hl:k+1<m.calls.length
  ·exact h.bd.deep k hl
  ·obtain⟨_,_,h3,_⟩:=h.mi.af fun e=>by have:=h.mi.sI e;omega
   have:nth m.calls k=m.af:=by show _=nth m.calls (m.calls.length-1);rw[show k=m.calls.length-1 from jB]
   rw[this,h3];simp
 have hq:∀k,k<m.calls.length->(nth m.calls k).slots.length<=1000/\(nth m.calls k).stack.length<=1000:=fun k hk=>⟨by have:=h.bd.slots k hk;omega,P0 k hk⟩
 have hd:∀i,ak (dU p (cC p) m kk m.calls.length) i≠none->ak E i=none:=fun i hi=>by
  rcases sk.1 ((fO _ _).2 hi)with⟨a,_,_,rfl⟩|⟨d,_,rfl|rfl|rfl⟩
  ·exact PX a 0
  all_goals exact PX _ _
 refine⟨Nh RK jB jB (by have:=h.bd.outs;omega) jB hq kk PX,⟨Kf (fun k hk=>by have:=(hq k hk).2;omega) jB,h.mi,h.bd,h.t0,fun i r hr=>?_⟩,hd⟩;rw[jX (hd i (by rw[hr];simp))];exact hr
end
def Ly{p:ab}(hp:jj p)(n:Nat):∃m N1 l1 N2 l2,cZ 0 l1/\cw prog 22 [.agg (fD p)] [] (mP N1) l1/\cw prog 22 [.agg (fD p)] l1 (mP N2) (fp l1 l2)/\MA p n (fp l1 l2) m N1 l1/\MA p n (fp l1 l2) m N2 l2/\m.time=0/\∀i,ak l1 i≠none->ak l2 i=none:=by
 obtain⟨m1,hg,P0,h1,ht⟩:=ES hp.ok (ze hp.ok) [];have Qx:m1.status=0->1<=m1.calls.length/\0<=m1.af.at_/\m1.af.at_<(cC p).ins.length:=fun e0=>by obtain⟨hl,_,_,k0,n,a,ek,hm⟩:=h1.af jB;have PX:=hm.head.1;exact⟨hl,jB,jB⟩
 obtain⟨N1,l1,Qr,_,Ra,Qk⟩:=y0 hp [] hg P0 Qx;obtain⟨N2,l2,Qz,hX,RA,UU⟩:=y0 hp (ids l1) hg P0 Qx;have Ws:∀i,ak l2 i≠none->ak l1 i=none:=fun i hi=>by
  cases h:ak l1 i with
  |none=>rfl
  |some r=>exact(hX i hi ((fO _ _).2 (by rw[h];simp))).elim
 have d1:cw prog 22 [.agg (fD p)] [] (mP N1) l1:=⟨Qk,⟨fun _ _ _=>rfl,List.nodup_nil,fun i r h=>by cases h⟩,Qr.ok,fun i h=>(h rfl).elim,eH (q:=dq) (fun _ h=>by cases h) _ rfl⟩;have d2:cw prog 22 [.agg (fD p)] [] (mP N2) l2:=⟨UU,⟨fun _ _ _=>rfl,List.nodup_nil,fun i r h=>by cases h⟩,Qz.ok,fun i h=>(h rfl).elim,eH (q:=dq) (fun _ h=>by cases h) _ rfl⟩;have d3:=cw.more d2 Qr.ok (fun i r h=>by cases h) fun i hi=>.inr (Ws i hi)
 have bd:Bd n m1:=⟨Ra.deep,Ra.slots,Ra.heap,Ra.outs,Ra.jw,by have:=Ra.jY;omega⟩;have t0:m1.time=0:=ht;have dis:∀i,ak l1 i≠none->ak l2 i=none:=fun i hi=>by
  cases h:ak l2 i with
  |none=>rfl
  |some r=>exact(hi (Ws i (by rw[h];simp))).elim
 refine⟨m1,N1,l1,N2,l2,Qr.ok,d1,d3,⟨Qr,h1,bd,jB,fun i r h=>?_⟩,⟨Qz,h1,bd,jB,Ct Qz.ok.nodup⟩,t0,dis⟩;rw[sr Qz.ok.nodup,dis i (by rw[h];simp),Option.none_or];exact h
def DQ(s:PL):dO prog 20 [rS s] (rS (rm s)):=by
 refine fg func20 ntmps20 ?_
 (repeat' (first|refine ax fun K hK=>?_|refine az ?_|(refine hK _ _ ?_;clear hK K)|(refine aw ?_ ?_<;>intro hc<;>try exact jz)|(refine fc ?_ ?_<;>intro hc<;>try exact jz)|refine ay ?_|exact jI|(clear hK K)))
 ·(refine bA [.tmp 2] ?_;try simp only[go_sem])
  unfold rm;rw[jP]
 ·(refine bA [.tmp 2] ?_;try simp only[go_sem])
  unfold rm;rw[jN]
def O1(l:PJ):dO prog 21 [aX eI 1 l] (aX eI 1 (mZ l)):=by
 refine fg func21 ntmps21 ?_
 (repeat' (first|refine ax fun K hK=>?_|refine az ?_|(refine hK _ _ ?_;clear hK K)|(refine aw ?_ ?_<;>intro hc<;>try exact jz)|(refine fc ?_ ?_<;>intro hc<;>try exact jz)|refine ay ?_|exact jI|(clear hK K)))
 ·(refine bA [.tmp 2] ?_;try simp only[go_sem])
  rfl
 ·(refine bA [.tmp 2] ?_;try simp only[go_sem])
  rw[show mZ l=l from List.take_of_length_le jB]
def FJ{a:Int}(m:Nat)(hm:0<m)(h:0<=a/\a<256):∃n:Nat,n<m/\a.tmod m=(n:Int):=by refine⟨(a.tmod m).toNat,?_,?_⟩<;>(rw[Int.tmod_eq_emod_of_nonneg h.1];have:=Int.emod_nonneg a (b:=m) jB;have:=Int.emod_lt_of_pos a (b:=(m:Int)) jB;omega)
structure TW where
 i:Nat
 E:List (Nat×Row)
 m:MV
 N1:NM
 l1:List (Nat×Row)
 N2:NM
 l2:List (Nat×Row)
structure qa(p:ab)(n k1 k2 T:Nat)(t:TW):Prop where
 ok:cZ 0 t.E
 a:MA p n t.E t.m t.N1 t.l1
 b:MA p n t.E t.m t.N2 t.l2
 k1:t.N1.k=k1
 k2:t.N2.k=k2
 d:∀i,ak t.l1 i≠none->ak t.l2 i=none
 tm:t.m.time<=(T+t.i:Nat)
def nW{N:NM}{k:Nat}(h:N.k=k):mP N=.pt (hn 3 k) 0 0 0:=by unfold mP;rw[h]
section
variable {p:ab}(hs:fG p){F:PJ->MV->MV}(hF:fa p (cC p) F){inp:PJ}(Rs:inp.length<=1000)(hi:∀x∈inp,cr x)
include hs hF Rs hi
theorem Dk{k1 k2 T:Nat}{t:TW}(h:qa p inp.length k1 k2 T t)(hT:T+t.i<=100000):∃E1 t',cw prog 23 [.pt (hn 3 k1) 0 0 0,aX eI 1 inp] t.E (.ba []) E1/\cw prog 23 [.pt (hn 3 k2) 0 0 0,aX eI 1 inp] E1 (.ba []) t'.E/\qa p inp.length k1 k2 T t'/\t'.i=t.i+1:=by have UM:=h.tm;obtain⟨N',l',s1,a1,Qg,Sk,new1⟩:=xu hs hF Rs hi h.ok h.a jB;have n1:=a1.R.ok.nodup;obtain⟨g1,g2⟩:=wH n1 h.b.sub new1 (yq h.d);have b1:MA p inp.length (fp t.E l') t.m t.N2 t.l2:=⟨h.b.R,h.b.mi,h.b.bd,h.b.t0,g1⟩;obtain⟨N2',l2',s2,a2,P1,Zm,new2⟩:=xu hs hF Rs hi s1.e2 b1 jB;have n2:=a2.R.ok.nodup;obtain⟨g3,g4⟩:=wH n2 a1.sub new2 (yq g2);rw[nW h.k1]at s1;rw[nW h.k2]at s2;refine⟨_,⟨t.i+1,fp (fp t.E l') l2',F inp t.m,N',l',N2',l2'⟩,s1,s2,⟨s2.e2,⟨a1.R,a1.mi,a1.bd,a1.t0,g3⟩,a2,Qg.trans h.k1,P1.trans h.k2,g4,?_⟩,rfl⟩;show(F inp t.m).time<=((T+(t.i+1):Nat):Int);rcases Sk with e|e<;>omega
structure TV where
 i:Nat
 E:List (Nat×Row)
 c:MV
 N:NM
 l:List (Nat×Row)
omit hs hF Rs hi
structure tC(p:ab)(n k:Nat)(l1 l2:List (Nat×Row))(t:TV):Prop where
 ok:cZ 0 t.E
 a:MA p n t.E t.c t.N t.l
 k:t.N.k=k
 s1:∀i r,ak l1 i=some r->ak t.E i=some r
 s2:∀i r,ak l2 i=some r->ak t.E i=some r
 d1:∀i,ak l1 i≠none->ak t.l i=none
 d2:∀i,ak l2 i≠none->ak t.l i=none
 tm:t.c.time<=(60+t.i:Nat)
include hs hF Rs hi
theorem Lo{k:Nat}{l1 l2:PG}{t:TV}(h:tC p inp.length k l1 l2 t)(hT:t.i<=60)(v:aj)(hv:cr v.n):∃E1 b t',cw prog 23 [.pt (hn 3 k) 0 0 0,aX eI 1 inp] t.E (.ba []) E1/\cw prog 25 [.pt (hn 3 k) 0 0 0,rI 0,.agg (bG v)] E1 (rB b) t'.E/\tC p inp.length k l1 l2 t'/\t'.i=t.i+1:=by
 have UM:=h.tm;obtain⟨N',l',s1,a1,Qg,Sk,new1⟩:=xu hs hF Rs hi h.ok h.a jB;have n1:=a1.R.ok.nodup;obtain⟨g1,g2⟩:=wH n1 h.s1 new1 h.d1;obtain⟨g3,g4⟩:=wH n1 h.s2 new1 h.d2;obtain⟨b,m',l2',E',st,a2,Zm,q1,q2⟩:=O2 s1.e2 a1 hv;rw[nW (Qg.trans h.k)]at st;rw[nW h.k]at s1;have up:∀{l0:PG},(∀i r,ak l0 i=some r->ak (fp t.E l') i=some r)->(∀i,ak l0 i≠none->ak l' i=none)->∀i r,ak l0 i=some r->ak E' i=some r:=fun u1 u2 i r hr=>by rw[q1 i (u2 i (by rw[hr];simp))];exact u1 i r hr
 refine⟨_,b,⟨t.i+1,E',m',N',l2'⟩,s1,st,⟨st.e2,a2,Qg.trans h.k,up g1 g2,up g3 g4,fun i hi=>q2 i (g2 i hi),fun i hi=>q2 i (g4 i hi),?_⟩,rfl⟩;show m'.time<=((60+(t.i+1):Nat):Int);rcases Sk with e|e<;>omega
end
structure TO(p:ab)(m:MV)(kk:Nat)(l1 l2 E:List (Nat×Row)):Prop where
 ok:cZ 0 E
 s1:∀i r,ak l1 i=some r->ak E i=some r
 s2:∀i r,ak l2 i=some r->ak E i=some r
 uf:ak E (hn 20 kk)=some (.aE 69 3 ((List.range m.calls.length).map (l6 (cC p) m kk)))
 Aj:∀i,i<m.calls.length->∃vs:List aj,vs.length=(nth m.calls i).slots.length/\ak E (hn 21 (kk+i))=some (.aE 50 3 (vs.map bG))
 wq:ak E (hn 22 kk)=some (.aE 22 1 ((List.range m.heap.length).map fun i=>[.rs (hn 23 (kk+i)) (nth m.heap i).length 1 (nth m.heap i).length]))
 yM:∀i,i<m.heap.length->∃xs:List Int,xs.length=(nth m.heap i).length/\ak E (hn 23 (kk+i))=some (.aE 3 1 (xs.map eI))
 f1:∀a d,ak l1 (hn a (kk+d))=none
 f2:∀a d,ak l2 (hn a (kk+d))=none
section
variable {p:ab}{m:MV}{kk:Nat}{l1 l2 E:PG}
def TO.slot(h:TO p m kk l1 l2 E)(i:Nat)(ws:List aj)(hw:ws.length=(nth m.calls i).slots.length):TO p m kk l1 l2 (bf E (hn 21 (kk+i)) (.aE 50 3 (ws.map bG))):=by
 have g:∀j r,ak E j=some r->j≠hn 21 (kk+i)->ak (bf E (hn 21 (kk+i)) (.aE 50 3 (ws.map bG))) j=some r:=fun j r hr hj=>by rw[bz,if_neg hj];exact hr
 refine⟨h.ok.put (.inr (gA _ _)) (mY _ fun _ _=>rfl),fun j r hr=>g j r (h.s1 j r hr) (by rintro rfl;rw[h.f1]at hr;cases hr),fun j r hr=>g j r (h.s2 j r hr) (by rintro rfl;rw[h.f2]at hr;cases hr),g _ _ h.uf (cB jC jC jC),fun k hk=>?_,g _ _ h.wq (cB jC jC jC),fun k hk=>?_,h.f1,h.f2⟩
 ·by_cases e:k=i
  ·subst e;exact⟨ws,hw,by rw[bz,if_pos rfl]⟩
  ·obtain⟨vs,h1,h2⟩:=h.Aj k hk;exact⟨vs,h1,g _ _ h2 fun e'=>e (by have:=(sV jC jC e').2;omega)⟩
 ·obtain⟨xs,h1,h2⟩:=h.yM k hk;exact⟨xs,h1,g _ _ h2 (cB jC jC jC)⟩
def TO.list(h:TO p m kk l1 l2 E)(i:Nat)(ws:PJ)(hw:ws.length=(nth m.heap i).length):TO p m kk l1 l2 (bf E (hn 23 (kk+i)) (.aE 3 1 (ws.map eI))):=by
 have g:∀j r,ak E j=some r->j≠hn 23 (kk+i)->ak (bf E (hn 23 (kk+i)) (.aE 3 1 (ws.map eI))) j=some r:=fun j r hr hj=>by rw[bz,if_neg hj];exact hr
 refine⟨h.ok.put (.inr (gA _ _)) (mY _ fun _ _=>rfl),fun j r hr=>g j r (h.s1 j r hr) (by rintro rfl;rw[h.f1]at hr;cases hr),fun j r hr=>g j r (h.s2 j r hr) (by rintro rfl;rw[h.f2]at hr;cases hr),g _ _ h.uf (cB jC jC jC),fun k hk=>?_,g _ _ h.wq (cB jC jC jC),fun k hk=>?_,h.f1,h.f2⟩
 ·obtain⟨vs,h1,h2⟩:=h.Aj k hk;exact⟨vs,h1,g _ _ h2 (cB jC jC jC)⟩
 ·by_cases e:k=i
  ·subst e;exact⟨ws,hw,by rw[bz,if_pos rfl]⟩
  ·obtain⟨xs,h1,h2⟩:=h.yM k hk;exact⟨xs,h1,g _ _ h2 fun e'=>e (by have:=(sV jC jC e').2;omega)⟩
def IZ{E:PG}(hok:cZ 0 (E++iE m.heap kk m.heap.length++jT (cC p) m kk m.calls.length))(PX:∀a d,ak E (hn a (kk+d))=none)(s1:∀i r,ak l1 i=some r->ak E i=some r)(s2:∀i r,ak l2 i=some r->ak E i=some r):TO p m kk l1 l2 (E++iE m.heap kk m.heap.length++jT (cC p) m kk m.calls.length):=by
 have fr:∀{l0:PG},(∀i r,ak l0 i=some r->ak E i=some r)->∀a d,ak l0 (hn a (kk+d))=none:=fun{l0} u a d=>by
  cases e:ak l0 (hn a (kk+d))with
  |none=>rfl
  |some r=>have:=u _ _ e;rw[PX]at this;cases this
 have hL:∀a d,a≠22->a≠23->a<32->ak (E++iE m.heap kk m.heap.length) (hn a (kk+d))=none:=fun a d h2 h3 h=>by
  rw[jX (PX a d)];cases h':ak (iE m.heap kk m.heap.length) (hn a (kk+d))with
  |none=>rfl
  |some r=>rcases rO.1 ((fO _ _).2 (show ak (iE m.heap kk m.heap.length) (hn a (kk+d))≠none by rw[h'];simp))with e|⟨d,_,e⟩<;>(unfold hn at e;omega)
 have z:∀a,hn a kk=hn a (kk+0):=fun _=>rfl
 refine⟨hok,fun i r h=>lF (lF (s1 i r h)),fun i r h=>lF (lF (s2 i r h)),?_,fun i hi=>⟨_,rfl,?_⟩,?_,fun i hi=>⟨_,rfl,?_⟩,fr s1,fr s2⟩
 ·rw[jX (by rw[z];exact hL 20 0 jC jC jC)];exact gV _ _ _
 ·rw[jX (hL 21 i jC jC jC)];exact AN (r:=fun i=>.aE 50 3 ((nth m.calls i).slots.map bG)) jC hi
 ·refine lF ?_;rw[jX (by rw[z];exact PX 22 0)];exact gV _ _ _
 ·refine lF ?_;rw[jX (PX 23 i)];exact AN (r:=fun i=>.aE 3 1 ((nth m.heap i).map eI)) jC hi
end
def nh:PL:=(⟨#[102,110,32,109,97,105,110,40,41,123,112,114,105,110,116,32,49,59,112,114,105,110,116,32,50,59,125]⟩:PL)
def hJ:MV:=mD (fP nh).1 (cC (fP nh).1) [] 50 (pr (fP nh).1 (cC (fP nh).1))
def je:MV:=(mD (fP nh).1 (cC (fP nh).1) [] 50 hJ.dJ).eT
def EO:(fP nh).2.2=0:=by decide +kernel
def Ca:hJ.eo (cC (fP nh).1)/\¬(hJ.status=2\/hJ.status=3):=by decide +kernel
def O6:(mD (fP nh).1 (cC (fP nh).1) [] 50 hJ.dJ).eo (cC (fP nh).1):=by decide +kernel
def La:je.aD=[(⟨#[49]⟩:PL)]/\je.time=1/\je.calls.length=1/\(nth (cC (fP nh).1).ins (je.cQ 0).toNat).a=3:=by decide +kernel
def J6:∃p x,fP nh=(p,x,0)/\jj p/\∃M0 M1:MV,mD p (cC p) [] 50 (pr p (cC p))=M0/\(mD p (cC p) [] 50 (pr p (cC p))).eo (cC p)/\¬(M0.status=2\/M0.status=3)/\
  (mD p (cC p) [] 50 M0.dJ).eo (cC p)/\(mD p (cC p) [] 50 M0.dJ).eT=M1/\M1.aD=[(⟨#[49]⟩:PL)]/\M1.time=1/\M1.calls.length=1/\(nth (cC p).ins (M1.cQ 0).toNat).a=3:=
 ⟨_,_,by rw[<-EO],DN EO,hJ,je,rfl,Ca.1,Ca.2,O6,rfl,La⟩
def C6:dO prog 19 [] (rB true):=by
 obtain⟨p,x,e,hp,M0,M1,a1,a2,a3,b1,b2,c1,c2,c3,c4⟩:=J6;have hs:=D0 nh jC;rw[e]at hs;obtain⟨F,hF⟩:=Gz hp.ok;have hi:∀x∈([]:PJ),cr x:=fun x hx=>by cases hx
 obtain⟨m1,hg,P0,h1,ht⟩:=ES hp.ok (ze hp.ok) [];have Qx:m1.status=0->1<=m1.calls.length/\0<=m1.af.at_/\m1.af.at_<(cC p).ins.length:=fun e0=>by obtain⟨hl,_,_,k0,n,a,ek,hm⟩:=h1.af jB;have PX:=hm.head.1;exact⟨hl,jB,jB⟩
 obtain⟨N1,l1,Qr,_,Ra,Qk⟩:=y0 hp [] hg P0 Qx;have d1:cw prog 22 [.agg (fD p)] [] (mP N1) l1:=⟨Qk,⟨fun _ _ _=>rfl,List.nodup_nil,fun i r h=>by cases h⟩,Qr.ok,fun i h=>(h rfl).elim,eH (q:=dq) (fun _ h=>by cases h) _ rfl⟩;obtain⟨n0,hg⟩:=hg;have em:m1=M0:=by rw[<-Dd hg P0 50 a2];exact a1
 have t0:m1.time=0:=ht;have A:MA p ([]:PJ).length l1 m1 N1 l1:=⟨Qr,h1,Ra,jB,fun _ _ h=>h⟩;obtain⟨N',l',s1,A',P8,_,_⟩:=xu hp.ok hF (inp:=[]) jC hi Qr.ok A jB;rw[LJ hF hi h1 (by rw[em];exact a3) 50 (by rw[em];exact b1),em,b2]at A';have st:=zL hp.ok s1.e2 A';have eM:=nW (N:=N1) rfl;rw[eM]at d1 s1;rw[nW P8]at st;have q1:(M1.iC (cC p)).aD=[(⟨#[49]⟩:PL)]:=c1;have q2:(M1.iC (cC p)).time=1:=c2;have q3:(M1.iC (cC p)).calls.length=1:=by show((List.range M1.calls.length).map _).length=1;rw[List.length_map,List.length_range,c3]
 have q4:(nth (M1.iC (cC p)).calls 0).node=3:=by show(nth ((List.range M1.calls.length).map (M1.spot (cC p))) 0).node=3;rw[BK _ (by simp[c3]),dT (by simp[c3]),List.getElem_range];exact c4
 have s1:cw prog 23 [.pt (hn 3 N1.k) 0 0 0,.raw (.slice none 0 0)] l1 (.ba []) (fp l1 l'):=⟨s1.c.args fun w vs hw hv=>sT hv (fun _ h=>h) fun us hu=>sT hu (BE 1 _) fun us hu=>hu,s1.e1,s1.e2,s1.aT,by have:=s1.a;simpa[aS,AV.all]using this⟩;generalize M1.iC (cC p)=sh at*;generalize fp l1 l'=E2 at*;have Qf:=Qr.ok.low;have Ro:=s1.e2.low;refine fg func19 ntmps19 ?_
 (have W:=jA Qf (jA Ro (jA q1 (jA q2 (jA q3 (q4)))));repeat' (first|refine ax fun K hK=>?_|refine az ?_|(refine hK _ _ ?_;clear hK K)|(refine aw ?_ ?_<;>intro hc<;>try exact jz)|refine dL 4 ?_|refine ld 4 ?_|refine ld 5 ?_|refine cp (hs) ?_|refine cT st ?_|refine cT s1 ?_|refine cT (e:=[]) d1 ?_|(refine fc ?_ ?_<;>intro hc<;>try exact jz)|refine ay ?_|exact jI|(clear hK K)))
 exact Gy [.tmp 0] rfl (.same _ rfl)
def ND(s:PL)(inp:PJ)(a b:Int)(hi:∀x∈inp,cr x)(ha:0<=a/\a<256)(hb:0<=b/\b<256):dO prog 8 [rS s,aX eI 1 inp,.agg [.raw (.int .u8 a),.raw (.int .u8 b)]] (rB true):=by
 have hs:=D0 (rm s) (Nb s);have Vv:=@DN (rm s);obtain⟨n,Yd,ea⟩:=FJ 60 jC ha;obtain⟨n2,hnb,eb⟩:=FJ 60 jC hb;have ea:a.tmod 60=(n:Int):=ea;have eb:b.tmod 60=(n2:Int):=eb;generalize fP (rm s)=R at hs Vv;obtain⟨p,x,e⟩:=R;simp only at hs Vv;by_cases he:e=0
 rotate_left
 ·refine fg func8 ntmps8 ?_
  (have W:=he;repeat' (first|refine ax fun K hK=>?_|refine az ?_|(refine hK _ _ ?_;clear hK K)|(refine aw ?_ ?_<;>intro hc<;>try exact jz)|refine cp (C6) ?_|refine cp (DQ _) ?_|refine bx 4 ?_|refine al 5 ?_|refine cp (hs) ?_|(refine fc ?_ ?_<;>intro hc<;>try exact jz)|refine ay ?_|exact jI|(clear hK K)))
  (refine bA [.tmp 6] ?_;try simp only[go_sem])
 have hp:jj p:=Vv he;have Q2:=Ir inp;have Xo:=Mn hi;have hl:(mZ inp).length<=1000:=jB;obtain⟨F,hF⟩:=Gz hp.ok;obtain⟨m0,N1,l1,N2,l2,PX,d1,d2,A1,A2,VW,Ws⟩:=Ly hp (mZ inp).length;generalize fp l1 l2=E0 at*;have UZ:=PX.low;have Qf:=d2.e2.low;have eM1:=nW (N:=N1) rfl;have eM2:=nW (N:=N2) rfl;rw[eM1]at d1;rw[eM2]at d2;refine fg func8 ntmps8 ?_
 (have W:=jA he (jA UZ (Qf));repeat' (first|refine ax fun K hK=>?_|refine az ?_|(refine hK _ _ ?_;clear hK K)|(refine aw ?_ ?_<;>intro hc<;>try exact jz)|refine cp (C6) ?_|refine cp (DQ _) ?_|refine dL 4 ?_|refine ld 5 ?_|refine cp (hs) ?_|refine cp (O1 _) ?_|refine cT d2 ?_|refine cT (e:=[]) d1 ?_|(refine fc ?_ ?_<;>intro hc<;>try exact jz)|refine ay ?_|exact jI|(clear hK K)))
 have PY:=hK;clear hK;refine dR (S:=TW) [(13,1),(46,14)] (fun t=>t.i<=n/\qa p (mZ inp).length N1.k N2.k 0 t) (fun t=>[(13,rI t.i)]) (fun t=>⟨[],tie t.E [(4,.var 57 [.raw (.int .u8 a),.raw (.int .u8 b)]),(5,.var 29 (fD p))]⟩) (fun t=>n-t.i) ⟨0,E0,m0,N1,l1,N2,l2⟩ ⟨Nat.zero_le _,⟨d2.e2,A1,A2,rfl,rfl,Ws,by show m0.time<=_;rw[VW];exact Int.natCast_nonneg _⟩⟩ (dS rfl cc) ?_;rintro t ⟨U7,ht⟩ Kr P3;have U1:=ht.ok.low;by_cases PW:t.i<n
 ·obtain⟨E1,t',c1,c2,RQ,et⟩:=Dk hp.ok hF hl Xo ht jB;have SC:=c1.e2.low;have Ty:=c2.e2.low;refine S ?_
  (have W:=jA ea (jA U1 (jA SC (Ty)));repeat' (first|refine ax fun K hK=>?_|refine az ?_|(refine hK _ _ ?_;clear hK K)|(refine aw ?_ ?_<;>intro hc<;>try exact jz)|refine cT c1 ?_|refine cT c2 ?_|(refine fc ?_ ?_<;>intro hc<;>try exact jz)|refine ay ?_|exact jI|(clear hK K)))
  refine P3 _ _ (dZ t' ⟨jB,RQ⟩ (by show n-t'.i<n-t.i;omega) rfl (by rw[<-show rI ((t.i:Int)+1)=rI t'.i by rw[et];rfl];exact cc))
 have V1:t.i=n:=jB;obtain⟨i,E1,m,M1,g1,M2,g2⟩:=t;obtain⟨ok1,A1',A2',kk1,kk2,dj,tm⟩:=ht;simp only at V1 ok1 A1' A2' kk1 kk2 dj tm U1 PW;subst V1;have eN1:=nW kk1;have eN2:=nW kk2;generalize S1:oK (ids E1++[])=kk;have PX:∀c d,ak E1 (Gd.hn c (kk+d))=none:=fun c d=>by rw[<-S1];exact tQ E1 [] c d
 obtain⟨cl,A3,dj3⟩:=OJ ok1 A1' kk PX;rw[eN1]at cl;have Xp:=cl.e2.low;have k3:(o8 kk m.calls.length).k=kk:=rfl;have u1:∀i r,ak g1 i=some r->ak (E1++dU p (cC p) m kk m.calls.length) i=some r:=fun i r h=>lF (A1'.sub i r h)
 have u2:∀i r,ak g2 i=some r->ak (E1++dU p (cC p) m kk m.calls.length) i=some r:=fun i r h=>lF (A2'.sub i r h)
 have v1:∀i,ak g1 i≠none->ak (dU p (cC p) m kk m.calls.length) i=none:=yq fun i hi=>by
  have:=dj3 i hi;cases h:ak g1 i with
  |none=>rfl
  |some r=>rw[A1'.sub i r h]at this;cases this
 have v2:∀i,ak g2 i≠none->ak (dU p (cC p) m kk m.calls.length) i=none:=yq fun i hi=>by
  have:=dj3 i hi;cases h:ak g2 i with
  |none=>rfl
  |some r=>rw[A2'.sub i r h]at this;cases this
 generalize Zn:E1++dU p (cC p) m kk m.calls.length=E2 at*;generalize dU p (cC p) m kk m.calls.length=g3 at*;generalize o8 kk m.calls.length=M3 at*;refine S ?_
 (have W:=jA ea (jA U1 (Xp));repeat' (first|refine ax fun K hK=>?_|refine az ?_|(refine hK _ _ ?_;clear hK K)|(refine aw ?_ ?_<;>intro hc<;>try exact jz)|refine cT cl ?_|refine PY _ _ ?_|(refine fc ?_ ?_<;>intro hc<;>try exact jz)|refine ay ?_|exact jI|(clear hK K)))
 clear PY;have PY:=hK;clear hK;refine dR (S:=TV) [(15,1),(64,14)] (fun t=>t.i<=n2/\tC p (mZ inp).length kk g1 g2 t) (fun t=>[(15,rI t.i)]) (fun t=>⟨[],tie t.E [(4,.var 57 [.raw (.int .u8 a),.raw (.int .u8 b)]),(5,.var 29 (fD p))]⟩) (fun t=>n2-t.i) ⟨0,E2,m,M3,g3⟩ ⟨Nat.zero_le _,⟨cl.e2,A3,k3,u1,u2,v1,v2,by show m.time<=_;have Zo:m.time<=((0+i:Nat):Int):=tm;omega⟩⟩ (dS rfl cc) ?_;rintro t ⟨U7,ht⟩ Kr P3;have S8:=ht.ok.low;by_cases V2:t.i<n2
 ·obtain⟨E4,bb,t',c1,c2,RQ,et⟩:=Lo hp.ok hF hl Xo ht jB ⟨1,77,(⟨#[]⟩:PL)⟩ ⟨jC,jC⟩;have SC:=c1.e2.low;have Ty:=c2.e2.low;refine S ?_
  (have W:=jA eb (jA S8 (jA SC (Ty)));repeat' (first|refine ax fun K hK=>?_|refine az ?_|(refine hK _ _ ?_;clear hK K)|(refine aw ?_ ?_<;>intro hc<;>try exact jz)|refine cT c1 ?_|refine cT c2 ?_|refine PY _ _ ?_|(refine fc ?_ ?_<;>intro hc<;>try exact jz)|refine ay ?_|exact jI|(clear hK K)))
  refine P3 _ _ (dZ t' ⟨jB,RQ⟩ (by show n2-t'.i<n2-t.i;omega) rfl (by rw[<-show rI ((t.i:Int)+1)=rI t'.i by rw[et];rfl];exact cc))
 have V3:t.i=n2:=jB;obtain⟨j,E3,c,M4,g4⟩:=t;obtain⟨ok3,A4,kk4,w1,w2,x1,x2,tm4⟩:=ht;simp only at V3 ok3 A4 kk4 w1 w2 x1 x2 tm4 S8 V2;subst V3;clear A4 kk4 x1 x2 tm4 u1 u2 v1 v2 A3 dj3 cl Zn k3;have B1:MA p (mZ inp).length E3 m M1 g1:=⟨A1'.R,A1'.mi,A1'.bd,A1'.t0,w1⟩;have B2:MA p (mZ inp).length E3 m M2 g2:=⟨A2'.R,A2'.mi,A2'.bd,A2'.t0,w2⟩;generalize V4:oK (ids E3++[])=k2;have P1:∀c d,ak E3 (Gd.hn c (k2+d))=none:=fun c d=>by rw[<-V4];exact tQ E3 [] c d
 have so:=Lv hp.ok ok3 B1 k2 P1;rw[eN1]at so;have to:=IZ so.e2 P1 w1 w2;have Xq:=so.e2.low;generalize Zp:E3++iE m.heap k2 m.heap.length++jT (cC p) m k2 m.calls.length=E5 at*;refine S ?_
 (have W:=jA eb (jA S8 (Xq));repeat' (first|refine ax fun K hK=>?_|refine az ?_|(refine hK _ _ ?_;clear hK K)|(refine aw ?_ ?_<;>intro hc<;>try exact jz)|refine ld 6 ?_|refine cT so ?_|refine PY _ _ ?_|(refine fc ?_ ?_<;>intro hc<;>try exact jz)|refine ay ?_|exact jI|(clear hK K)))
 clear PY so Zp V4 P1 B1 B2;have Zq:∀k,k<m.calls.length->((List.range m.calls.length).map (l6 (cC p) m k2)).getD k []=[rI (nth m.calls k).fn,rI (nth (cC p).ins (m.cQ k).toNat).a,.rs (Gd.hn 21 (k2+k)) (nth m.calls k).slots.length 3 (nth m.calls k).slots.length]:=fun k hk=>by rw[List.getD_eq_getElem?_getD,List.getElem?_map,List.getElem?_range hk];rfl
 have U8:∀k,k<m.heap.length->((List.range m.heap.length).map fun i=>[AV.rs (Gd.hn 23 (k2+i)) (nth m.heap i).length 1 (nth m.heap i).length]).getD k []=[.rs (Gd.hn 23 (k2+k)) (nth m.heap k).length 1 (nth m.heap k).length]:=fun k hk=>by rw[List.getD_eq_getElem?_getD,List.getElem?_map,List.getElem?_range hk];rfl
 have PY:=hK;clear hK;refine dR (S:=Nat×List PU) [(17,2),(80,27)] (fun t=>t.1<=m.calls.length/\TO p m k2 g1 g2 t.2) (fun t=>[(17,rI t.1)]) (fun t=>⟨[],tie t.2 [(4,.var 57 [.raw (.int .u8 a),.raw (.int .u8 b)]),(5,.var 29 (fD p)),(6,.var 65 [.rs (Gd.hn 20 k2) m.calls.length 3 m.calls.length,.rs (Gd.hn 22 k2) m.heap.length 1 m.heap.length,rI m.in_,aX eS 1 m.aD,rI m.status,rI m.bs,rI m.time])]⟩) (fun t=>m.calls.length-t.1) ⟨0,E5⟩ ⟨Nat.zero_le _,to⟩ (dS rfl cc) ?_;rintro⟨q,E6⟩ ⟨hq,S9⟩ Kr P3;simp only at hq S9;have U2:=S9.ok.low;by_cases SA:q<m.calls.length
 ·(refine S ?_;try exact jI)
  (have W:=U2;repeat' (first|refine ax fun K hK=>?_|refine az ?_|(refine hK _ _ ?_;clear hK K)|(refine aw ?_ ?_<;>intro hc<;>try exact jz)|refine PY _ _ ?_|(refine fc ?_ ?_<;>intro hc<;>try exact jz)|refine ay ?_|exact jI|(clear hK K)))
  have Ud:=P3;clear P3;have TC:=hK;clear hK;refine dR (S:=Nat×List PU) [(18,1),(87,20)] (fun t=>t.1<=(nth m.calls q).slots.length/\TO p m k2 g1 g2 t.2) (fun t=>[(18,rI t.1)]) (fun t=>⟨[],tie t.2 [(4,.var 57 [.raw (.int .u8 a),.raw (.int .u8 b)]),(5,.var 29 (fD p)),(6,.var 65 [.rs (Gd.hn 20 k2) m.calls.length 3 m.calls.length,.rs (Gd.hn 22 k2) m.heap.length 1 m.heap.length,rI m.in_,aX eS 1 m.aD,rI m.status,rI m.bs,rI m.time])]⟩) (fun t=>(nth m.calls q).slots.length-t.1) ⟨0,E6⟩ ⟨Nat.zero_le _,S9⟩ (dS rfl cc) ?_;rintro⟨k,E7⟩ ⟨Xr,Rj⟩ Kr P3;simp only at Xr Rj;have V5:=Rj.ok.low;obtain⟨vs,R2,R8⟩:=Rj.Aj q SA;have V6:=Zq q SA;have hb7:=A1'.bd.slots q SA;have hm7:=A1'.mi.dM;have SB:=Rj.uf;by_cases Zr:k<(nth m.calls q).slots.length
  ·have Zs:k<vs.length:=jB;refine S ?_
   (have W:=jA V5 (jA SB (jA V6 (jA R8 (R2))));repeat' (first|refine ax fun K hK=>?_|refine az ?_|(refine hK _ _ ?_;clear hK K)|(refine aw ?_ ?_<;>intro hc<;>try exact jz)|refine PY _ _ ?_|refine TC _ _ ?_|(refine fc ?_ ?_<;>intro hc<;>try exact jz)|refine ay ?_|exact jI|(clear hK K)))
   refine P3 _ _ (dZ (k+1,bf E7 (Gd.hn 21 (k2+q)) (.aE 50 3 ((vs.set k ⟨1,78,(⟨#[]⟩:PL)⟩).map bG))) ⟨by show k+1<=_;omega,Rj.slot q _ (by rw[List.length_set];exact R2)⟩ (by show(nth m.calls q).slots.length-(k+1)<(nth m.calls q).slots.length-k;omega) (by rw[List.map_set];rfl) cc)
  ·have SL:k=(nth m.calls q).slots.length:=jB;refine S ?_
   (have W:=jA V5 (jA SB (jA V6 (jA R8 (R2))));repeat' (first|refine ax fun K hK=>?_|refine az ?_|(refine hK _ _ ?_;clear hK K)|(refine aw ?_ ?_<;>intro hc<;>try exact jz)|refine PY _ _ ?_|refine TC _ _ ?_|(refine fc ?_ ?_<;>intro hc<;>try exact jz)|refine ay ?_|exact jI|(clear hK K)))
   refine Ud _ _ (dZ (q+1,E7) ⟨by show q+1<=_;omega,Rj⟩ (by show m.calls.length-(q+1)<m.calls.length-q;omega) rfl cc)
 have R1:q=m.calls.length:=jB;subst R1;refine S ?_
 (have W:=U2;repeat' (first|refine ax fun K hK=>?_|refine az ?_|(refine hK _ _ ?_;clear hK K)|(refine aw ?_ ?_<;>intro hc<;>try exact jz)|refine PY _ _ ?_|(refine fc ?_ ?_<;>intro hc<;>try exact jz)|refine ay ?_|exact jI|(clear hK K)))
 clear PY;have PY:=hK;clear hK;have U5:=A1'.bd.heap;rw[pL]at U5;refine dR (S:=Nat×List PU) [(19,2),(107,24)] (fun t=>t.1<=m.heap.length/\TO p m k2 g1 g2 t.2) (fun t=>[(19,rI t.1)]) (fun t=>⟨[],tie t.2 [(4,.var 57 [.raw (.int .u8 a),.raw (.int .u8 b)]),(5,.var 29 (fD p)),(6,.var 65 [.rs (Gd.hn 20 k2) m.calls.length 3 m.calls.length,.rs (Gd.hn 22 k2) m.heap.length 1 m.heap.length,rI m.in_,aX eS 1 m.aD,rI m.status,rI m.bs,rI m.time])]⟩) (fun t=>m.heap.length-t.1) ⟨0,E6⟩ ⟨Nat.zero_le _,S9⟩ (dS rfl cc) ?_;clear S9 hq U2 SA;rintro⟨q,E8⟩ ⟨hq,S9⟩ Kr P3;simp only at hq S9;have U2:=S9.ok.low;by_cases SA:q<m.heap.length
 ·(refine S ?_;try exact jI)
  (have W:=U2;repeat' (first|refine ax fun K hK=>?_|refine az ?_|(refine hK _ _ ?_;clear hK K)|(refine aw ?_ ?_<;>intro hc<;>try exact jz)|refine PY _ _ ?_|(refine fc ?_ ?_<;>intro hc<;>try exact jz)|refine ay ?_|exact jI|(clear hK K)))
  have Ud:=P3;clear P3;have TC:=hK;clear hK;refine dR (S:=Nat×List PU) [(20,1),(114,17)] (fun t=>t.1<=(nth m.heap q).length/\TO p m k2 g1 g2 t.2) (fun t=>[(20,rI t.1)]) (fun t=>⟨[],tie t.2 [(4,.var 57 [.raw (.int .u8 a),.raw (.int .u8 b)]),(5,.var 29 (fD p)),(6,.var 65 [.rs (Gd.hn 20 k2) m.calls.length 3 m.calls.length,.rs (Gd.hn 22 k2) m.heap.length 1 m.heap.length,rI m.in_,aX eS 1 m.aD,rI m.status,rI m.bs,rI m.time])]⟩) (fun t=>(nth m.heap q).length-t.1) ⟨0,E8⟩ ⟨Nat.zero_le _,S9⟩ (dS rfl cc) ?_;rintro⟨k,E7⟩ ⟨Xr,Rj⟩ Kr P3;simp only at Xr Rj;have V5:=Rj.ok.low;obtain⟨vs,R2,R8⟩:=Rj.yM q SA;have V6:=U8 q SA;have Va:=oZ SA;have Qa:=qz m.heap (q+1);have Tx:=Rj.wq;by_cases Zr:k<(nth m.heap q).length
  ·have Zs:k<vs.length:=jB;refine S ?_
   (have W:=jA V5 (jA Tx (jA V6 (jA R8 (R2))));repeat' (first|refine ax fun K hK=>?_|refine az ?_|(refine hK _ _ ?_;clear hK K)|(refine aw ?_ ?_<;>intro hc<;>try exact jz)|refine PY _ _ ?_|refine TC _ _ ?_|(refine fc ?_ ?_<;>intro hc<;>try exact jz)|refine ay ?_|exact jI|(clear hK K)))
   refine P3 _ _ (dZ (k+1,bf E7 (Gd.hn 23 (k2+q)) (.aE 3 1 ((vs.set k 78).map eI))) ⟨by show k+1<=_;omega,Rj.list q _ (by rw[List.length_set];exact R2)⟩ (by show(nth m.heap q).length-(k+1)<(nth m.heap q).length-k;omega) (by rw[List.map_set]) cc)
  ·have SL:k=(nth m.heap q).length:=jB;refine S ?_
   (have W:=jA V5 (jA Tx (jA V6 (jA R8 (R2))));repeat' (first|refine ax fun K hK=>?_|refine az ?_|(refine hK _ _ ?_;clear hK K)|(refine aw ?_ ?_<;>intro hc<;>try exact jz)|refine PY _ _ ?_|refine TC _ _ ?_|(refine fc ?_ ?_<;>intro hc<;>try exact jz)|refine ay ?_|exact jI|(clear hK K)))
   refine Ud _ _ (dZ (q+1,E7) ⟨by show q+1<=_;omega,Rj⟩ (by show m.heap.length-(q+1)<m.heap.length-q;omega) rfl cc)
 have R1:q=m.heap.length:=jB;subst R1;refine S ?_
 (have W:=U2;repeat' (first|refine ax fun K hK=>?_|refine az ?_|(refine hK _ _ ?_;clear hK K)|(refine aw ?_ ?_<;>intro hc<;>try exact jz)|refine PY _ _ ?_|(refine fc ?_ ?_<;>intro hc<;>try exact jz)|refine ay ?_|exact jI|(clear hK K)))
 clear PY;have PY:=hK;clear hK;have C1:MA p (mZ inp).length E8 m M1 g1:=⟨A1'.R,A1'.mi,A1'.bd,A1'.t0,S9.s1⟩;have C2:MA p (mZ inp).length E8 m M2 g2:=⟨A2'.R,A2'.mi,A2'.bd,A2'.t0,S9.s2⟩;refine dR (S:=TW) [(6,1),(21,2),(131,21)] (fun t=>t.i<=j/\qa p (mZ inp).length N1.k N2.k 60 t) (fun t=>[(21,rI t.i)]) (fun t=>⟨[],tie t.E [(4,.var 57 [.raw (.int .u8 a),.raw (.int .u8 b)]),(5,.var 29 (fD p)),(6,.var 65 [.rs (Gd.hn 20 k2) m.calls.length 3 m.calls.length,.rs (Gd.hn 22 k2) m.heap.length 1 m.heap.length,rI m.in_,aX eS 1 m.aD,rI m.status,rI m.bs,rI m.time])]⟩) (fun t=>j-t.i) ⟨0,E8,m,M1,g1,M2,g2⟩ ⟨Nat.zero_le _,⟨S9.ok,C1,C2,kk1,kk2,dj,by show m.time<=_;have Zo:m.time<=((0+i:Nat):Int):=tm;omega⟩⟩ (dS rfl cc) ?_;clear S9 U2 SA hq C1 C2;rintro t ⟨U7,ht⟩ Kr P3;have S8:=ht.ok.low;have st1:=zL hp.ok ht.ok ht.a;have st2:=zL hp.ok ht.ok ht.b;rw[nW ht.k1]at st1;rw[nW ht.k2]at st2;have Xs:=JV (t.m.iC (cC p)) (t.m.iC (cC p)) (JE ht.a);rw[decide_eq_true rfl]at Xs;generalize t.m.iC (cC p)=sh at*;by_cases V2:t.i<j
 ·obtain⟨E9,t',c1,c2,RQ,et⟩:=Dk hp.ok hF hl Xo ht jB;have SC:=c1.e2.low;have Ty:=c2.e2.low;refine S ?_
  (have W:=jA eb (jA S8 (jA SC (Ty)));repeat' (first|refine ax fun K hK=>?_|refine az ?_|(refine hK _ _ ?_;clear hK K)|(refine aw ?_ ?_<;>intro hc<;>try exact jz)|refine cT st1 ?_|refine cT st2 ?_|refine cT c1 ?_|refine cT c2 ?_|refine cp (Xs) ?_|refine PY _ _ ?_|(refine fc ?_ ?_<;>intro hc<;>try exact jz)|refine ay ?_|exact jI|(clear hK K)))
  refine P3 _ _ (dZ t' ⟨jB,RQ⟩ (by show j-t'.i<j-t.i;omega) rfl (by rw[<-show rI ((t.i:Int)+1)=rI t'.i by rw[et];rfl];exact cc))
 ·(refine S ?_;try exact jI)
  (have W:=jA eb S8;repeat' (first|refine ax fun K hK=>?_|refine az ?_|(refine hK _ _ ?_;clear hK K)|(refine aw ?_ ?_<;>intro hc<;>try exact jz)|refine mJ st1 ?_|refine mJ st2 ?_|refine cq (Xs) ?_|refine PY _ _ ?_|(refine fc ?_ ?_<;>intro hc<;>try exact jz)|refine ay ?_|exact jI|(clear hK K)))
  exact Gy [.tmp 6] rfl (.same _ rfl)
end Go.Proofs.YtghoellpinmenaaGreatDoor
/- Lemmas. No conditions. -/
import Derived.Test.YtfkgcobaheegbaaGreatDoorRpQ
set_option linter.all false
set_option maxHeartbeats 4000000
set_option maxRecDepth 10000
namespace Go.Gd
open Go
def qd(K n:Nat):NM:=⟨K,(List.range n).map fun i=>⟨K+i,K+i,[]⟩,[]⟩
def nz(K:Nat)(cs:List MC)(i:Nat):List (Nat×Row):=
 [(hn 0 (K+i),.var 137 (MV.cE (nth cs i) ⟨K+i,K+i,[]⟩)),(hn 1 (K+i),.aL 59 3 ((nth cs i).slots.map cv)),(hn 2 (K+i),.aL 59 3 ((nth cs i).stack.map cv))]
def fl(p:ab)(C:aE)(m:MV)(K n:Nat):List (Nat×Row):=
 (hn 3 K,.var 122 (MV.mE p C m (qd K n)))::(hn 4 K,.aL 133 1 ((List.range n).map fun i=>[.pt (hn 0 (K+i)) 0 0 0])) ::
 (hn 5 K,.var 197 [.rs (hn 6 K) m.heap.flatten.length 1 m.heap.flatten.length,.rs (hn 7 K) m.heap.length 1 m.heap.length]) ::
 (hn 6 K,.aL 3 1 (m.heap.flatten.map eI))::(hn 7 K,.aL 3 1 ((jh m.heap).map eI))::(hn 8 K,.aL 9 1 (m.ax.map eS)) ::
 (List.range n).flatMap (nz K m.calls)
theorem Gf{α:Type}(f:α->List (Nat×Row))(i:Nat):∀l:List α,(∀x∈l,av (f x) i=none)->av (l.flatMap f) i=none
 |[],_=>rfl
 |x::l,h=>by rw[List.flatMap_cons,jd,h x jE,Option.none_or];exact Gf f i l fun y hy=>h y (by simp[hy])
theorem Eu(f:Nat->List (Nat×Row))(i k:Nat)(r:Row)(hr:av (f k) i=some r):∀n,k<n->(∀x,x<n->x≠k->av (f x) i=none)->av ((List.range n).flatMap f) i=some r
 |0,h,_=>by omega
 |n+1,h,hx=>by
  rw[List.range_succ,List.flatMap_append,jd,List.flatMap_cons,List.flatMap_nil,List.append_nil];by_cases e:k=n
  ·subst e;rw[Gf f i _ fun x hx'=>hx x (by have:=List.mem_range.1 hx';omega) (by have:=List.mem_range.1 hx';omega),Option.none_or,hr]
  ·rw[Eu f i k r hr n jB fun x h1 h2=>hx x jB h2];rfl
theorem EP{α:Type}(f:α->List (Nat×Row)):∀l:List α,ids (l.flatMap f)=l.flatMap fun x=>ids (f x)
 |[]=>rfl
 |x::l=>by rw[List.flatMap_cons,List.flatMap_cons,<-EP f l];unfold ids;rw[List.map_append]
theorem Ez(K:Nat)(cs:List MC)(i:Nat):ids (nz K cs i)=[hn 0 (K+i),hn 1 (K+i),hn 2 (K+i)]:=rfl
variable{K n:Nat}
theorem Ax{x:Nat}{cs:List MC}:x∈ids ((List.range n).flatMap (nz K cs))<->∃i,i<n/\(x=hn 0 (K+i)\/x=hn 1 (K+i)\/x=hn 2 (K+i)):=by
 rw[EP,List.mem_flatMap];constructor
 ·rintro⟨i,hi,hx⟩;rw[Ez]at hx;exact⟨i,List.mem_range.1 hi,by simpa using hx⟩
 ·rintro⟨i,hi,hx⟩;exact⟨i,List.mem_range.2 hi,by rw[Ez];simpa using hx⟩
theorem Fe(K:Nat)(cs:List MC):∀n,(ids ((List.range n).flatMap (nz K cs))).Nodup
 |0=>List.nodup_nil
 |n+1=>by
  have ih:=Fe K cs n;rw[List.range_succ,List.flatMap_append];unfold ids at ih ⊢;rw[List.map_append,List.nodup_append];refine⟨ih,?_,fun x hx y hy e=>?_⟩
  ·show[hn 0 (K+n),hn 1 (K+n),hn 2 (K+n)].Nodup;simp[hn]
  ·subst e;obtain⟨i,hi,h1⟩:=Ax.1 hx;have h2:x=hn 0 (K+n)\/x=hn 1 (K+n)\/x=hn 2 (K+n):=by simpa[nz]using hy
   unfold hn at h1 h2;omega
theorem tY{p:ab}{C:aE}{m:MV}{x:Nat}:x∈ids (fl p C m K n)<->(∃a,3<=a/\a<=8/\x=hn a K)\/∃i,i<n/\(x=hn 0 (K+i)\/x=hn 1 (K+i)\/x=hn 2 (K+i)):=by
 have e:ids (fl p C m K n)=hn 3 K::hn 4 K::hn 5 K::hn 6 K::hn 7 K::hn 8 K::ids ((List.range n).flatMap (nz K m.calls)):=rfl;rw[e];simp only[List.mem_cons,Ax];constructor
 ·rintro(h|h|h|h|h|h|h)
  ·exact .inl ⟨3,jB,jB,h⟩
  ·exact .inl ⟨4,jB,jB,h⟩
  ·exact .inl ⟨5,jB,jB,h⟩
  ·exact .inl ⟨6,jB,jB,h⟩
  ·exact .inl ⟨7,jB,jB,h⟩
  ·exact .inl ⟨8,jB,jB,h⟩
  ·exact .inr h
 ·rintro(⟨a,h1,h2,h⟩|h)
  ·have:a=3\/a=4\/a=5\/a=6\/a=7\/a=8:=jB;rcases this with rfl|rfl|rfl|rfl|rfl|rfl<;>simp[h]
  ·simp[h]
theorem NU(p:ab)(C:aE)(m:MV)(K n:Nat):(ids (fl p C m K n)).Nodup:=by
 have e:ids (fl p C m K n)=[hn 3 K,hn 4 K,hn 5 K,hn 6 K,hn 7 K,hn 8 K]++ids ((List.range n).flatMap (nz K m.calls)):=rfl;rw[e,List.nodup_append];refine⟨by simp[hn],Fe K m.calls n,fun x hx y hy e=>?_⟩;subst e;obtain⟨i,hi,h1⟩:=Ax.1 hy;have h2:x=hn 3 K\/x=hn 4 K\/x=hn 5 K\/x=hn 6 K\/x=hn 7 K\/x=hn 8 K:=by simpa using hx
 unfold hn at h1 h2;omega
theorem lN(i:Nat)(r:Row)(l:List (Nat×Row)):av ((i,r)::l) i=some r:=by simp only[av];rw[if_pos trivial]
variable{i:Nat}
theorem eo{j:Nat}{r:Row}{l:List (Nat×Row)}(h:i≠j):av ((j,r)::l) i=av l i:=by simp only[av];rw[if_neg h]
theorem Cm:∀{l:List (Nat×Row)} {i:Nat} {r:Row},av l i=some r->(i,r)∈l
 |(j,s)::l,i,r,h=>by
  simp only[av]at h;split at h
  ·rename_i e;cases h;rw[e];simp
  ·exact List.mem_cons_of_mem _ (Cm h)
theorem qT{α:Type}{q:Nat->Bool}{f:α->List AV}:∀l:List α,(∀x∈l,aW q (f x)=true)->aW q (l.map f).flatten=true
 |[],_=>rfl
 |x::l,h=>by rw[List.map_cons,List.flatten_cons,qD,h x jE,Bool.true_and];exact qT l fun y hy=>h y (by simp[hy])
theorem xT(p:ab)(C:aE)(m:MV)(K n:Nat):eF 0 (fl p C m K n):=by
 refine⟨fun i _ hi=>?_,NU p C m K n,fun i r hi=>?_⟩
 ·cases h:av (fl p C m K n) i with
  |none=>rfl
  |some r=> have hm:=(gX _ _).2 (show av (fl p C m K n) i≠none by rw[h];simp);rcases tY.1 hm with⟨a,_,_,e⟩|⟨k,_,e|e|e⟩<;>(unfold hn at e;omega)
 ·have hm:=Cm hi;have hc:∀{x:Nat},((∃a,3<=a/\a<=8/\x=hn a K)\/∃i,i<n/\(x=hn 0 (K+i)\/x=hn 1 (K+i)\/x=hn 2 (K+i)))->(ids (fl p C m K n)).contains x=true:=fun h=>List.contains_iff_mem.2 (tY.2 h)
  have c4:=hc (.inl ⟨4,jB,jB,rfl⟩);have c5:=hc (.inl ⟨5,jB,jB,rfl⟩);have c6:=hc (.inl ⟨6,jB,jB,rfl⟩);have c7:=hc (.inl ⟨7,jB,jB,rfl⟩);have c8:=hc (.inl ⟨8,jB,jB,rfl⟩);have c0:∀i,i<n->(ids (fl p C m K n)).contains (hn 0 (K+i))=true:=fun i h=>hc (.inr ⟨i,h,.inl rfl⟩)
  have c1:∀i,i<n->(ids (fl p C m K n)).contains (hn 1 (K+i))=true:=fun i h=>hc (.inr ⟨i,h,.inr (.inl rfl)⟩)
  have c2:∀i,i<n->(ids (fl p C m K n)).contains (hn 2 (K+i))=true:=fun i h=>hc (.inr ⟨i,h,.inr (.inr rfl)⟩)
  generalize hI:ids (fl p C m K n)=I at*;have up:aW (fun j=>I.contains j) (iN p)=true:=fh (q:=dY) (fun _ h=>by cases h) _ rfl;unfold fl at hm;simp only[List.mem_cons,Prod.mk.injEq,List.mem_flatMap,List.mem_range]at hm;rcases hm with⟨rfl,rfl⟩|⟨rfl,rfl⟩|⟨rfl,rfl⟩|⟨rfl,rfl⟩|⟨rfl,rfl⟩|⟨rfl,rfl⟩|⟨k,hk,hm⟩
  ·show aW _ (MV.mE _ _ _ _)=true;unfold MV.mE;rw[qD,up];simp only[aW,AV.all,bp,qd,c4,c5,c8,Bool.and_self]
  ·exact qT (f:=fun i=>[AV.pt (hn 0 (K+i)) 0 0 0]) (List.range n) fun x hx=>by simp only[aW,AV.all,c0 x (List.mem_range.1 hx),Bool.and_self]
  ·simp only[Row.cells,aW,AV.all,c6,c7,Bool.and_self]
  ·exact qT _ fun x _=>rfl
  ·exact qT _ fun x _=>rfl
  ·exact qT _ fun x _=>rfl
  ·unfold nz at hm;simp only[List.mem_cons,Prod.mk.injEq,List.not_mem_nil,or_false]at hm;rcases hm with⟨rfl,rfl⟩|⟨rfl,rfl⟩|⟨rfl,rfl⟩
   ·simp only[Row.cells,MV.cE,aW,AV.all,c1 k hk,c2 k hk,Bool.and_self]
   ·exact qT _ fun x _=>rfl
   ·exact qT _ fun x _=>rfl
theorem yN(K n:Nat):(qd K n).cs.length=n:=by show((List.range n).map _).length=n;simp
theorem Ny{k:Nat}(h:k<n):nth (qd K n).cs k=⟨K+k,K+k,[]⟩:=by show nth ((List.range n).map _) k=_;rw[I8 _ (by simpa using h),dN (by simpa using h)];simp
theorem K3{p:ab}{C:aE}{m:MV}{k:Nat}(h:k<n)(hb:(nth m.calls k).stack.length<=2000):MV.gQ (nth m.calls k) ⟨K+k,K+k,[]⟩ (fl p C m K n):=by
 have hh:∀a (r:Row),a<3->av (nz K m.calls k) (hn a (K+k))=some r->av (fl p C m K n) (hn a (K+k))=some r:=fun a r ha hr=>by
  unfold fl;rw[eo (by unfold hn;omega),eo (by unfold hn;omega),eo (by unfold hn;omega),eo (by unfold hn;omega),eo (by unfold hn;omega),eo (by unfold hn;omega)];refine Eu _ _ k r hr n h fun x hx hne=>?_
  unfold nz;rw[eo (by unfold hn;omega),eo (by unfold hn;omega),eo (by unfold hn;omega)];rfl
 refine⟨hh 0 _ jB ?_,hh 2 _ jB ?_,hh 1 _ jB ?_,by simpa using hb⟩
 ·exact lN _ _ _
 ·unfold nz;rw[eo (by unfold hn;omega),eo (by unfold hn;omega),lN,List.append_nil]
 ·unfold nz;rw[eo (by unfold hn;omega),lN]
theorem Qc{p:ab}{C:aE}{m:MV}(hb:∀k,k<m.calls.length->(nth m.calls k).stack.length<=2000)(hn1:m.calls.length<=1000):MV.bD p C m (qd K m.calls.length) (fl p C m K m.calls.length):=by
 refine⟨xT p C m K _,?_,?_,?_,?_,?_,?_,yN _ _,fun k hk=>?_,?_,?_,by rw[yN];show m.calls.length+0<=1000;omega⟩
 ·exact lN _ _ _
 ·show av _ (hn 4 K)=_;unfold fl;rw[eo (by unfold hn;omega),lN];simp[qd,Function.comp_def]
 ·show av _ (hn 5 K)=_;unfold fl;rw[eo (by unfold hn;omega),eo (by unfold hn;omega),lN];rfl
 ·show av _ (hn 6 K)=_;unfold fl;rw[eo (by unfold hn;omega),eo (by unfold hn;omega),eo (by unfold hn;omega),lN]
 ·show av _ (hn 7 K)=_;unfold fl;rw[eo (by unfold hn;omega),eo (by unfold hn;omega),eo (by unfold hn;omega),eo (by unfold hn;omega),lN]
 ·show av _ (hn 8 K)=_;unfold fl;rw[eo (by unfold hn;omega),eo (by unfold hn;omega),eo (by unfold hn;omega),eo (by unfold hn;omega),eo (by unfold hn;omega),lN]
 ·rw[Ny hk];exact K3 hk (hb k hk)
 ·simp only[qd,List.map_map,Function.comp_def];rw[List.nodup_iff_pairwise_ne];exact List.Pairwise.map _ (fun a b h=>jB) List.pairwise_lt_range
 ·simp only[qd,List.map_map,Function.comp_def];rw[List.nodup_iff_pairwise_ne];exact List.Pairwise.map _ (fun a b h=>jB) List.pairwise_lt_range
variable{args':List AV}
theorem Q2{P:Program}{f:FuncId}{args:List AV}{H:Hp}{K:AV->Hp->Prop}{sz:Nat}{t:TypeId}{α:Type}[Inhabited α]{enc:α->List AV}[he:bG enc sz]{xs:List α}(hfl:∀x,ka (enc x)=true)(hi:H.get i=none)
  (hc:aj P f args' [] fun r l=>r=.rs i xs.length sz xs.length/\l=[(i,.aL t sz (xs.map enc))]) (hv:∀w vs,aO w H->bc w args vs->bc (w.cD fun _=>true) args' vs) (k:K (.rs i xs.length sz xs.length) (H.put i (.aL t sz (xs.map enc)))):eW P f args H K:=fun w vs h1 h2=>by
 have hcn:=Dn hc hv (fun r l ⟨e1,e2⟩=>by
  subst e1 e2;refine⟨fun j hj=>?_,rfl,fun j row hj=>?_⟩
  ·by_cases e:j=i
   ·subst e;exact hi
   ·exact(hj (by simp only[av];rw[if_neg e])).elim
  ·simp only[av]at hj;split at hj
   ·cases hj;refine Dj fun x hx=>?_
    obtain⟨y,_,rfl⟩:=List.mem_map.1 hx;exact hfl y
   ·cases hj) h1 h2
 refine hcn.mono ?_;rintro e W ⟨v,r,l,w',rfl,rfl,⟨rfl,rfl⟩,g1,g2,g3,g4⟩;have hg:∀j,(H.put i (.aL t sz (xs.map enc))).get j=(Hp.mk H.B ([(i,.aL t sz (xs.map enc))]++H.l)).get j:=fun j=>by
  rw[Hp.ba];show _=if j=i then _ else _
  rfl
 exact⟨v,_,_,w',rfl,rfl,k,{ rows:=fun j r hj=>g1.rows j r (hg j ▸ hj),dO:=fun j m z hz=>by rw[hg];exact g1.dO j m z hz,inj:=g1.inj,own:=g1.own,fin:=g1.fin,cn:=g1.cn },g2,{ g3 with base:=rfl }⟩
theorem wD{P:Program}{A:AS}{f:FuncId}{args:List AV}{H:Hp}{g:AV->Hp->Prop}{d:gb fun r H'=>dI A H H'/\g r H'}{sz:Nat}{t:TypeId}{α:Type}[Inhabited α]{enc:α->List AV}[he:bG enc sz]{xs:List α}{q:Prop}(i:Nat)(hfl:∀x,ka (enc x)=true)
  (hc:aj P f args' [] fun r l=>r=.rs i xs.length sz xs.length/\l=[(i,.aL t sz (xs.map enc))]) (hi:H.get i=none) (hv:∀w vs,aO w H->bc w args vs->bc (w.cD fun _=>true) args' vs) (k:q) (h0:bz P f=true:=by exact dj) (e:g (.rs i xs.length sz xs.length) (H.put i (.aL t sz (xs.map enc)))=q:=by exact eJ):fI P (.raw (.func (.func f) #[] #[])) args H (AP (fun r H'=>dI A H H'/\g r H') d):=
 o7 h0 (Q2 (K:=AP (fun r H'=>dI A H H'/\g r H') d) hfl hi hc hv ⟨dI.put hi,e ▸ k⟩)
variable{a b:List (Nat×Row)}
theorem eF.app(ha:eF 0 a)(hb:eF 0 b)(hd:∀i,av b i≠none->av a i=none):eF 0 (a++b):=by
 refine⟨fun i h0 h1=>by rw[jd,ha.no i h0 h1,Option.none_or];exact hb.no i h0 h1,?_,fun i r hi=>?_⟩
 ·unfold ids;rw[List.map_append,List.nodup_append];refine⟨ha.nodup,hb.nodup,fun x hx y hy e=>?_⟩;subst e;exact(gX a x).1 hx (hd x ((gX b x).1 hy))
 ·have hc:∀{x:Nat},(ids a).contains x=true\/(ids b).contains x=true->(ids (a++b)).contains x=true:=fun h=>by
   rw[List.contains_iff_mem];unfold ids;rw[List.map_append,List.mem_append];exact h.imp List.contains_iff_mem.1 List.contains_iff_mem.1
  rw[jd]at hi;cases h:av a i with
  |some s=>rw[h]at hi;cases hi;exact fh (fun j hj=>hc (.inl hj)) _ (ha.closed i _ h)
  |none=>rw[h,Option.none_or]at hi;exact fh (fun j hj=>hc (.inr hj)) _ (hb.closed i _ hi)
theorem uH{r:Row}(h:av a i=some r):av (a++b) i=some r:=by rw[jd,h];rfl
theorem rl(h:av a i=none):av (a++b) i=av b i:=by rw[jd,h,Option.none_or]
namespace MV
theorem gQ.uw{c:MC}{n:NC}{e l:List (Nat×Row)}(h:gQ c n e)(hs:∀i r,av e i=some r->av l i=some r):gQ c n l:=⟨hs _ _ h.var,hs _ _ h.cw,hs _ _ h.eP,h.bd⟩
theorem bD.uw{p:ab}{C:aE}{m:MV}{N:NM}{e l:List (Nat×Row)}(h:bD p C m N e)(hl:eF 0 l)(hs:∀i r,av e i=some r->av l i=some r):bD p C m N l:=
 ⟨hl,hs _ _ h.root,hs _ _ h.row,hs _ _ h.hp,hs _ _ h.cells,hs _ _ h.ends,hs _ _ h.outs,h.len,fun k hk=>(h.call k hk).uw hs,h.nc,h.nv,h.bd⟩
end MV
end Go.Gd
namespace Go.Proofs.YtfkgcobaheegbaaGreatDoor
open Go Go.Gd Tryz Go.Gd.MV
def oY(h:List (List Int))(K:Nat):List (Nat×Row):=[(hn 6 K,.aL 3 1 (h.flatten.map eI)),(hn 7 K,.aL 3 1 ((jh h).map eI)),(hn 5 K,.var 197 [.rs (hn 6 K) h.flatten.length 1 h.flatten.length,.rs (hn 7 K) h.length 1 h.length])]
theorem Li(h:List (List Int))(K:Nat):eF 0 (oY h K):=by
 refine⟨fun i _ hi=>?_,by show[hn 6 K,hn 7 K,hn 5 K].Nodup;simp[hn],fun i r hi=>?_⟩
 ·unfold oY;rw[eo (by unfold hn;omega),eo (by unfold hn;omega),eo (by unfold hn;omega)];rfl
 ·have hm:=Cm hi;have e:ids (oY h K)=[hn 6 K,hn 7 K,hn 5 K]:=rfl;rw[e];unfold oY at hm;simp only[List.mem_cons,Prod.mk.injEq,List.not_mem_nil,or_false]at hm;rcases hm with⟨rfl,rfl⟩|⟨rfl,rfl⟩|⟨rfl,rfl⟩
  ·exact qT _ fun x _=>rfl
  ·exact qT _ fun x _=>rfl
  ·simp[Row.cells,aW,AV.all]
section
variable {p:ab}{C:aE}
theorem MW{m:MV}{N:NM}{e:List (Nat×Row)}(hR:bD p C m N e)(hf:m.heap.flatten.length<=1000)(hl:m.heap.length<=1000)(kk:Nat)(k5:av e (hn 5 kk)=none)(k6:av e (hn 6 kk)=none)(k7:av e (hn 7 kk)=none):du prog 84 [.pt (hn 5 N.k) 0 0 0] e (.pt (hn 5 kk) 0 0 0) (e++oY m.heap kk):=by
 have hlo:=hR.ok.low;have hel:(jh m.heap).length=m.heap.length:=tq _;have hc1:=Ay m.heap.flatten hf (hn 6 kk);have hc2:=Ay (jh m.heap) jB (hn 7 kk);have hok:eF 0 (e++oY m.heap kk):=hR.ok.app (Li _ _) fun i hi=>by
  have hm:=(gX _ _).2 hi;have e':ids (oY m.heap kk)=[hn 6 kk,hn 7 kk,hn 5 kk]:=rfl;rw[e']at hm;simp only[List.mem_cons,List.not_mem_nil,or_false]at hm;rcases hm with rfl|rfl|rfl
  ·exact k6
  ·exact k7
  ·exact k5
 refine⟨?_,hR.ok,hok,fun i hi=>by rw[jd];cases h:av e i with|none=>exact(hi h).elim|some r=>simp,by simp only[aW,AV.all,gG hR.hp,Bool.and_self]⟩;refine aT (L:=ids e) func84 ntmps84 ?_ (hL:=rfl);generalize hB:ids e=B;refine fk ?_
 (have W:=jA hlo (jA hR.hp (jA k5 (jA k6 (jA k7 (hel)))));repeat' (first|refine aB fun K hK=>?_|refine aC ?_|(with_reducible refine gR 1 ?_);refine dC 1 ([],[],[7,12]) [] [0,1,2,3,5,6,7,8,4,9,10,11,12] mixed ?_|(refine hK _ _ ?_;clear hK K)|(refine aA ?_ ?_<;>intro hc<;>try exact jz)|refine wD (hn 6 kk) (t:=3) (enc:=eI) (sz:=1) Ai hc1 (by show av (tie _ _) _=_;rw[gF,k6];rfl) (ue m.heap.flatten (by show av (tie _ _) _=_;rw[gF,hR.cells];rfl) rfl) ?_|refine wD (hn 7 kk) (t:=3) (enc:=eI) (sz:=1) Ai hc2 (by show av (tie _ _) _=_;rw[gF,k7,Option.none_or,eo (by unfold hn;omega)];rfl) (ue (jh m.heap) (by show av (tie _ _) _=_;rw[gF,hR.ends];rfl) hel.symm) ?_|refine fa (hn 5 kk) ?_|refine aD ?_|exact jI|(clear hK K)));all_goals(try clear W)
 exact fp (tl:=[]) hB hR.ok hok (fun _=>by rw[<-wL];rfl) er [.tmp 2]
end
end Go.Proofs.YtfkgcobaheegbaaGreatDoor
namespace Go.Gd
open Go
variable{L:List (Nat×Row)}
theorem OA{P:Program}{A:AS}{f:FuncId}{args:List AV}{B:List Nat}{e l:List (Nat×Row)}{r0:AV}{g:AV->Hp->Prop}{d:gb fun r H'=>dI A ⟨B,L⟩ H'/\g r H'}{q:Prop}(hd:du P f args e r0 l)(hL:L=tie e [])(hx:Cg A e l)(k:q)(h0:bz P f=true:=by exact dj)(e0:g r0 ⟨B,tie l []⟩=q:=by exact eJ) :
  fI P (.raw (.func (.func f) #[] #[])) args ⟨B,L⟩ (AP (fun r H'=>dI A ⟨B,L⟩ H'/\g r H') d):=by
 subst hL;exact pD hd hx k h0 er e0
theorem PT{n:Nat}{S:Type}{W:List (Nat×Nat)}{ok:S->Prop}{J:S->List (Nat×AV)}{G:S->Hp}{μ:S->Nat}{F₀ F:List AV}{B:List Nat}(L':List (Nat×Row))(hp:∀i,av L i=av L' i)(h:Next n W ok J G μ F₀ F ⟨B,L'⟩):Next n W ok J G μ F₀ F ⟨B,L⟩:=by obtain⟨s,a,b,c⟩:=h;exact⟨s,a,(dq.perm L' hp).trans b,c⟩
theorem Pm{H:Hp}{i m sz n:Nat}{t:TypeId}{α:Type}[Inhabited α]{enc:α->List AV}[he:bG enc sz](l more:List α)(hi:H.get i=some (.aL t sz ((l++more).map enc)))(hm:m=l.length+more.length)(hn:n=l.length):∀w vs,aO w H->bc w [.rs i m sz n] vs->bc (w.cD fun _=>true) [bp enc sz l] vs:=
 Ed ⟨dv.ud (dd:=enc default) l more rfl hi hm hn,trivial⟩
end Go.Gd
namespace Go.Proofs.YtfkgcobaheegbaaGreatDoor
open Go Go.Gd Tryz Go.Gd.MV
section
variable {p:ab}{C:aE}
theorem Qp{m:MV}{N:NM}{e:List (Nat×Row)}(hR:bD p C m N e)(hf:m.heap.flatten.length<=1000)(hl:m.heap.length<=1000)(ho:m.ax.length<=1000)(hc:m.calls.length<=1000)(hs:∀k,k<m.calls.length->(nth m.calls k).slots.length<=1000/\(nth m.calls k).stack.length<=1000)(kk:Nat)(hk0:∀a d,av e (hn a (kk+d))=none):du prog 43 [mP N] e (.pt (hn 3 kk) 0 0 0) (e++fl p C m kk m.calls.length):=by
 have hlo:=hR.ok.low;have hlen:=hR.len;have hco:=EL m.ax ho (hn 8 kk);have hok:eF 0 (e++fl p C m kk m.calls.length):=hR.ok.app (xT _ _ _ _ _) fun i hi=>by
  rcases tY.1 ((gX _ _).2 hi)with⟨a,_,_,rfl⟩|⟨d,_,rfl|rfl|rfl⟩
  ·exact hk0 a 0
  all_goals exact hk0 _ _
 have h30:=hk0 3 0;have h40:=hk0 4 0;rw[Nat.add_zero]at h30 h40
 -- the new machine's variable among the things of no account
 have hok2:eF 0 (e++[(hn 3 kk,.var 122 (mE p C m N))]):=by
  have:=hR.ok.put (i:=hn 3 kk) (r:=.var 122 (mE p C m N)) (.inr (iw _ _)) (fh (fun j hj=>by rw[hj,Bool.or_true]) _ (hR.ok.closed _ _ hR.root));rw[show br e (hn 3 kk) (.var 122 (mE p C m N))=e++[(hn 3 kk,.var 122 (mE p C m N))] from by have:=AL e [] (hn 3 kk) (.var 122 (mE p C m N));rw[List.append_nil]at this;rw[this,h30];rfl]at this
  exact this
 have hR2:=hR.uw hok2 fun i r h=>uH h
 have hk2:∀a d,a≠3->a<32->av (e++[(hn 3 kk,.var 122 (mE p C m N))]) (hn a (kk+d))=none:=fun a d h3 h=>by rw[rl (hk0 a d),eo (by unfold hn;omega)];rfl
 have hcl:=MW hR2 hf hl kk (hk2 5 0 jC jC) (hk2 6 0 jC jC) (hk2 7 0 jC jC);have h1ok:=hcl.e2;have hR1:=hR2.uw h1ok fun i r h=>uH h
 have hlo1:=h1ok.low;have g:∀a d,a≠3->a≠5->a≠6->a≠7->a<32->av (e++[(hn 3 kk,.var 122 (mE p C m N))]++oY m.heap kk) (hn a (kk+d))=none:=fun a d h3 h5 h6 h7 h=>by rw[rl (hk2 a d h3 h)];unfold oY;rw[eo (by unfold hn;omega),eo (by unfold hn;omega),eo (by unfold hn;omega)];rfl
 have h8:=g 8 0 jC jC jC jC jC;have h4:=g 4 0 jC jC jC jC jC;rw[Nat.add_zero]at h8 h4;have h3:av (e++[(hn 3 kk,.var 122 (mE p C m N))]++oY m.heap kk) (hn 3 kk)=some (.var 122 (mE p C m N)):=uH (by rw[rl h30];exact lN _ _ _);have hne:(N.k=kk)=False:=eq_false fun h=>by have:=hR.root;rw[h,h30]at this;cases this
 refine⟨?_,hR.ok,hok,fun i hi=>by rw[jd];cases h:av e i with|none=>exact(hi h).elim|some r=>simp,oI hR rfl⟩;refine aT (L:=ids e) func43 ntmps43 ?_ (hL:=rfl);generalize hB:ids e=B;refine fk ?_;generalize hE1:e++[(hn 3 kk,.var 122 (mE p C m N))]++oY m.heap kk=e1 at*
 (have W:=jA hlo (jA hlo1 (jA hR.root (jA hR1.root (jA h3 (jA h4 (jA h8 (jA h30 (hne))))))));repeat' (first|refine aB fun K hK=>?_|refine aC ?_|(with_reducible refine gR 2 ?_);refine dC 2 ([],[],[14,19]) [] [0,1,2,3,5,6,7,8,4,9,10,11,12,13,14,15] mixed ?_|(with_reducible refine gR 7 ?_);refine dC 7 ([],[],[39,45]) [] [0,1,2,3,5,6,7,8,9,4,10,11,12,13,14,15] mixed ?_|(refine hK _ _ ?_;clear hK K)|(refine aA ?_ ?_<;>intro hc<;>try exact jz)|refine kj (hn 3 kk) ?_|refine OA hcl (wL _) (fun j _ hj=>.inl (by rw[<-hE1];exact(by cases h:av (e++[(hn 3 kk,.var 122 (mE p C m N))]) j with|none=>exact(hj h).elim|some r=>rw[uH h]))) ?_|refine wD (hn 8 kk) (t:=9) (enc:=eS) (sz:=1) FZ hco (by show av (tie _ _) _=_;rw[gF,h8,Option.none_or];rfl) (ue m.ax (by show av (tie _ _) _=_;rw[gF,hR1.outs];rfl) rfl) ?_|refine aD ?_|exact jI|(clear hK K)));all_goals(try clear W)
 have hKo:=hK;clear hK;refine iV (dq.perm (e++[(hn 3 kk,.var 122 (iN p++[bp cZ 4 C.ins,bp eI 1 C.entry,.raw (.slice none 0 0),.pt (hn 5 kk) 0 0 0,.rs (hn 8 kk) m.ax.length 1 m.ax.length,.raw (.int .i64 m.in_),.raw (.int .i64 m.status),.raw (.int .i64 m.aZ),.raw (.int .i64 m.time)])),(hn 5 kk,.var 197 [.rs (hn 6 kk) m.heap.flatten.length 1 m.heap.flatten.length,.rs (hn 7 kk) m.heap.length 1 m.heap.length]),(hn 6 kk,.aL 3 1 (m.heap.flatten.map eI)),(hn 7 kk,.aL 3 1 ((jh m.heap).map eI)),(hn 8 kk,.aL 9 1 (m.ax.map eS))]) fun i=>?_) ?_
 ·rw[gF,bM,bM,bM,<-hE1,jd,jd,jd];have n35:hn 3 kk≠hn 5 kk:=by unfold hn;omega
  by_cases c3:i=hn 3 kk
  ·subst c3;rw[if_pos rfl,h30,lN];rfl
  rw[if_neg c3,if_neg c3,if_neg c3,eo c3,eo c3];cases av e i with
  |some r=>rfl
  |none=>
   unfold oY;simp only[av];by_cases c5:i=hn 5 kk
   ·subst c5;simp[hn]
   by_cases c6:i=hn 6 kk
   ·subst c6;simp[hn]
   by_cases c7:i=hn 7 kk
   ·subst c7;simp[hn]
   simp[c5,c6,c7]
 refine iV ((dq.fM (hn 4 kk) (hn 3 kk) 8 133 1 (t:=122) (cs:=iN p++[bp cZ 4 C.ins,bp eI 1 C.entry,.raw (.slice none 0 0),.pt (hn 5 kk) 0 0 0,.rs (hn 8 kk) m.ax.length 1 m.ax.length,.raw (.int .i64 m.in_),.raw (.int .i64 m.status),.raw (.int .i64 m.aZ),.raw (.int .i64 m.time)]) ?_ jC ?_ rfl).trans (dq.perm (tie (e++fl p C m kk 0) []) fun i=>?_)) ?_
 ·show av (e++_) (hn 4 kk)=_;rw[rl h40,eo (by unfold hn;omega),eo (by unfold hn;omega),eo (by unfold hn;omega),eo (by unfold hn;omega),eo (by unfold hn;omega)];rfl
 ·show av _ _=_;rw[rl h30,lN]
 ·show av (br (br (e++_) (hn 4 kk) _) (hn 3 kk) _) i=_;rw[bM,bM,<-wL,jd,jd];by_cases c3:i=hn 3 kk
  ·subst c3;rw[if_pos rfl,h30];unfold fl;rw[lN];rfl
  rw[if_neg c3];by_cases c4:i=hn 4 kk
  ·subst c4;rw[if_pos rfl,h40];unfold fl;rw[eo (by unfold hn;omega),lN];rfl
  rw[if_neg c4];cases av e i with
  |some r=>rfl
  |none=>unfold fl;rw[eo c3,eo c3,eo c4];rfl
 refine fi (S:=Nat) [(5,2),(28,27)] (fun k=>k<=m.calls.length) (fun k=>[(28,rI k)]) (fun k=>⟨B,tie (e++fl p C m kk k) []⟩) (fun k=>m.calls.length-k) 0 (Nat.zero_le _) (fj rfl cQ) ?_;rintro k hk Kr hKr;have hd:∀i,av (fl p C m kk k) i≠none->av e i=none:=fun i hi=>by
  rcases tY.1 ((gX _ _).2 hi)with⟨a,_,_,rfl⟩|⟨d,_,rfl|rfl|rfl⟩
  ·exact hk0 a 0
  all_goals exact hk0 _ _
 have hokE:=hR.ok.app (xT p C m kk k) hd;have hRE:=hR.uw hokE fun i r h=>uH h
 have hloE:=hokE.low;by_cases hlt:k<m.calls.length
 ·have hca:=hRE.call k hlt;have hgc:=F8 hRE hlt;have r3:av (e++fl p C m kk k) (hn 3 kk)=some (.var 122 (iN p++[bp cZ 4 C.ins,bp eI 1 C.entry,.rs (hn 4 kk) k 1 k,.pt (hn 5 kk) 0 0 0,.rs (hn 8 kk) m.ax.length 1 m.ax.length,.raw (.int .i64 m.in_),.raw (.int .i64 m.status),.raw (.int .i64 m.aZ),.raw (.int .i64 m.time)])):=by
   rw[rl h30];unfold fl;rw[lN];unfold mE;rw[yN];rfl
  have r4:av (e++fl p C m kk k) (hn 4 kk)=some (.aL 133 1 ((List.range k).map fun i=>[.pt (hn 0 (kk+i)) 0 0 0])):=by rw[rl h40];unfold fl;rw[eo (by unfold hn;omega),lN]
  have rn:∀a,a<3->av (e++fl p C m kk k) (hn a (kk+k))=none:=fun a ha=>by
   rw[rl (hk0 a k)];cases h:av (fl p C m kk k) (hn a (kk+k))with
   |none=>rfl
   |some r=> rcases tY.1 ((gX _ _).2 (by rw[h];simp))with⟨b,_,_,e⟩|⟨d,_,e|e|e⟩<;>(unfold hn at e;omega)
  have n0:=rn 0 jC;have n1:=rn 1 jC;have n2:=rn 2 jC;obtain⟨s1,s2⟩:=hs k hlt;have hc1:=yY (nth m.calls k).slots s1 (hn 1 (kk+k));have hc2:=yY (nth m.calls k).stack s2 (hn 2 (kk+k));generalize hE:e++fl p C m kk k=E at*
  (refine S ?_;try exact jI)
  (have W:=jA hloE (jA hRE.root (jA hRE.row (jA hgc (jA hca.var (jA r3 (jA r4 (jA n0 (jA n1 (n2)))))))));repeat' (first|refine aB fun K hK=>?_|refine aC ?_|(with_reducible refine gR 2 ?_);refine dC 2 ([],[],[14,19]) [] [0,1,2,3,5,6,7,8,4,9,10,11,12,13,14,15] mixed ?_|(with_reducible refine gR 7 ?_);refine dC 7 ([],[],[39,45]) [] [0,1,2,3,5,6,7,8,9,4,10,11,12,13,14,15] mixed ?_|(refine hK _ _ ?_;clear hK K)|(refine aA ?_ ?_<;>intro hc<;>try exact jz)|refine kj (hn 0 (kk+k)) ?_|refine wD (hn 1 (kk+k)) (t:=59) (enc:=cv) (sz:=3) uZ hc1 (by show av (tie _ _) _=_;rw[gF,n1,Option.none_or,eo (by unfold hn;omega)];rfl) (ue (nth m.calls k).slots (by show av (tie _ _) _=_;rw[gF,hca.eP];rfl) rfl) ?_|refine wD (hn 2 (kk+k)) (t:=59) (enc:=cv) (sz:=3) uZ hc2 (by show av (tie _ _) _=_;rw[gF,n2,Option.none_or,eo (by unfold hn;omega),eo (by unfold hn;omega)];rfl) (Pm (nth m.calls k).stack (nth N.cs k).jk (by show av (tie _ _) _=_;rw[gF,hca.cw];rfl) rfl rfl) ?_|refine qy 10 ?_|refine qN (enc:=fun i=>[.pt (hn 0 (kk+i)) 0 0 0]) (List.range k) [] [k] ?_ (hm:=jE) (hn:=jE) (hc:=by rw[List.append_nil])|refine aD ?_|exact jI|(clear hK K)));all_goals(try clear W)
  refine hKr _ _ (PT (tie (e++fl p C m kk (k+1)) [(10,.aL 133 1 [[.pt (hn 0 (kk+k)) 0 0 0]])]) (fun i=>?_) (Da hB hR.ok (hR.ok.app (xT p C m kk (k+1)) ?_) (eO jC er) (k+1) jB (by show m.calls.length-(k+1)<m.calls.length-k;omega) rfl ki))
  ·rw[gF,gF,bM,bM,<-hE,jd,jd];by_cases c3:i=hn 3 kk
   ·subst c3;rw[if_pos rfl,h30];unfold fl;rw[lN];unfold mE;rw[yN];rfl
   rw[if_neg c3];by_cases c4:i=hn 4 kk
   ·subst c4;have e4:av (fl p C m kk (k+1)) (hn 4 kk)=some (.aL 133 1 ((List.range (k+1)).map fun i=>[.pt (hn 0 (kk+i)) 0 0 0])):=by unfold fl;rw[eo (by unfold hn;omega),lN]
    rw[if_pos rfl,h40,e4,List.range_succ,List.map_append];rfl
   rw[if_neg c4];cases av e i with
   |some r=>rfl
   |none=>
    unfold fl;rw[eo c3,eo c4,eo c3,eo c4,List.range_succ,List.flatMap_append];simp only[av,jd,List.flatMap_cons,List.flatMap_nil,List.append_nil,nz,Option.none_or];split
    ·rfl
    split
    ·rfl
    split
    ·rfl
    split
    ·rfl
    cases av ((List.range k).flatMap (nz kk m.calls)) i with
    |some r=>rfl
    |none=>
     simp only[Option.none_or,MV.cE,List.length_nil,Nat.add_zero];split
     ·rfl
     split
     ·rfl
     split
     ·rfl
     rfl
  ·intro i hi;rcases tY.1 ((gX _ _).2 hi)with⟨a,_,_,rfl⟩|⟨d,_,rfl|rfl|rfl⟩
   ·exact hk0 a 0
   all_goals exact hk0 _ _
 ·have hke:k=m.calls.length:=jB;subst hke
  (refine S ?_;try exact jI)
  (have W:=hloE;repeat' (first|refine aB fun K hK=>?_|refine aC ?_|(with_reducible refine gR 2 ?_);refine dC 2 ([],[],[14,19]) [] [0,1,2,3,5,6,7,8,4,9,10,11,12,13,14,15] mixed ?_|(with_reducible refine gR 7 ?_);refine dC 7 ([],[],[39,45]) [] [0,1,2,3,5,6,7,8,9,4,10,11,12,13,14,15] mixed ?_|(refine hK _ _ ?_;clear hK K)|(refine aA ?_ ?_<;>intro hc<;>try exact jz)|refine hKo _ _ ?_|refine aD ?_|exact jI|(clear hK K)));all_goals(try clear W)
  exact fp (tl:=[]) hB hR.ok hok (fun _=>rfl) er [.tmp 2]
end
end Go.Proofs.YtfkgcobaheegbaaGreatDoor
namespace Go.Gd
open Go
theorem HT:∀(m l:List (Nat×Row)),(ids l).Nodup->(ids (gZ l m)).Nodup
 |[],_,h=>h
 |(i,r)::m,l,h=>HT m _ (CN l i r h)
variable{s' E:List (Nat×Row)}
theorem s9(h:(ids s').Nodup)(i:Nat):av (gZ E s') i=(av s' i).or (av E i):=xA _ _ _ (fun _ _ _=>trivial) h
theorem eF.Ab(hE:eF 0 E)(h:eF 0 s'):eF 0 (gZ E s'):=by
 have hm:∀j,(ids s').contains j=true\/(ids E).contains j=true->(ids (gZ E s')).contains j=true:=fun j hj=>by
  rw[List.contains_iff_mem,gX,s9 h.nodup];rcases hj with hj|hj
  ·have:=(gX s' j).1 (List.contains_iff_mem.1 hj);cases e:av s' j with
   |none=>exact(this e).elim
   |some r=>simp
  ·have:=(gX E j).1 (List.contains_iff_mem.1 hj);cases e:av s' j with
   |none=>simpa using this
   |some r=>simp
 refine⟨fun j h1 h2=>by rw[s9 h.nodup,h.no j h1 h2,hE.no j h1 h2];rfl,HT _ _ hE.nodup,fun j r hj=>?_⟩;rw[s9 h.nodup]at hj;cases e:av s' j with
 |some r'=>rw[e]at hj;cases hj;exact fh (fun k hk=>hm k (.inl hk)) _ (h.closed j _ e)
 |none=>rw[e,Option.none_or]at hj;exact fh (fun k hk=>hm k (.inr hk)) _ (hE.closed j _ hj)
theorem du.more{P:Program}{f:FuncId}{args:List AV}{s s' E:List (Nat×Row)}{r0:AV}(h:du P f args s r0 s')(hE:eF 0 E)(hs:∀i r,av s i=some r->av E i=some r)(hn:∀i,av s' i≠none->av s i≠none\/av E i=none):du P f args E r0 (gZ E s'):=by
 have hc:=aj.more h.c hs h.a h.e1.closed (fun r l ⟨_,e⟩=>⟨by rw[e];exact h.e2.nodup,fun i hi=>hn i (e ▸ hi)⟩);refine⟨fun w vs hw hv=>(hc w vs hw hv).mono ?_,hE,hE.Ab h.e2,fun i hi=>?_,fh (fun j hj=>?_) _ h.a⟩
 ·rintro e W ⟨v,r,H',w',a,b,⟨l0,⟨c1,c2⟩,c3⟩,d⟩;exact⟨v,r,H',w',a,b,⟨c1,by rw[c3,c2]⟩,d⟩
 ·rw[s9 h.e2.nodup];cases e:av s' i with
  |none=>simpa using hi
  |some r=>simp
 ·rw[List.contains_iff_mem,gX]at hj ⊢;cases e:av s j with
  |none=>exact(hj e).elim
  |some r=>rw[hs j r e];simp
def VB(P:Program)(ops:Array Oper)(K:List AV->Hp->Prop)(l:List Oper)(F:List AV)(H:Hp):Prop:=
 ∀(w:NW) tm (Q:Exit->Act->World->Prop),aO w H->bc w F tm->
  (∀tm' (w':NW) F' H',K F' H'->aO w' H'->bc w' F' tm'->fB w H w' H'->Q .normal ⟨tm',[]⟩ w'.toWorld)->wpList P ops Q l ⟨tm,[]⟩ w.toWorld
section
variable {P:Program}{ops:Array Oper}{F:List AV}{H:Hp}{K:List AV->Hp->Prop}
theorem GG{o:Oper}{rest:List Oper}(h:lZ P ops o F H (VB P ops K rest)):VB P ops K (o::rest) F H:=fun w tm Q h1 h2 hq=>by
 have:=h w tm Q (wpList P ops Q rest) h1 h2 fun tm' w' F' H' k g1 g2 g3=>k w' tm' Q g1 g2 fun tm'' w'' F'' H'' k' g4 g5 g6=>hq tm'' w'' F'' H'' k' g4 g5 (g3.pB.trans g6)
 simpa only[rh,wpList]using this
theorem FI{l2:List Oper}:∀(l:List Oper) (F:List AV) (H:Hp),l.all (fun o=>o.guard.isNone)=true->iC P ops (fun F H=>VB P ops K l2 F H) l F H->VB P ops K (l++l2) F H
 |[],F,H,_,h=>h
 |o::rest,F,H,hg,h=>by
  rw[List.all_cons,Bool.and_eq_true]at hg;have hg1:o.guard=none:=by simpa using hg.1
  refine GG ?_;simp only[iC,hg1]at h;exact(oP (K:=fun F' H'=>iC P ops (fun F H=>VB P ops K l2 F H) rest F' H') hg1 h).mono fun F' H' hk=>FI rest F' H' hg.2 hk
theorem C0:∀(l:List Oper) (F:List AV) (H:Hp),l.all (fun o=>o.guard.isNone)=true->iC P ops K l F H->VB P ops K l F H
 |[],F,H,_,h=>fun w tm Q h1 h2 hq=>hq tm w F H h h1 h2 (fB.refl w H)
 |o::rest,F,H,hg,h=>by
  rw[List.all_cons,Bool.and_eq_true]at hg;have hg1:o.guard=none:=by simpa using hg.1
  refine GG ?_;simp only[iC,hg1]at h;exact(oP (K:=fun F' H'=>iC P ops K rest F' H') hg1 h).mono fun F' H' hk=>C0 rest F' H' hg.2 hk
theorem VB.nj{l:List Oper}{F':List AV}{H':Hp}(hl:dq F H F' H')(h:VB P ops K l F' H'):VB P ops K l F H:=fun w tm Q h1 h2 hq=>by obtain⟨w',e,g1,g2,g3⟩:=hl w tm h1 h2;rw[<-e];exact h w' tm Q g1 g2 fun tm' w'' F'' H'' k k1 k2 k3=>hq tm' w'' F'' H'' k k1 k2 (g3.trans k3)
end
variable{q:Prop}
theorem Py{P:Program}{id:Nat}{l:List Oper}{Q:Exit->List AV->Hp->Prop}{F:List AV}{H:Hp}(n:Nat)(h:q)(hg:l.all (fun o=>o.guard.isNone)=true:=by rfl)
  (e:iC P l.toArray (fun F H=>VB P l.toArray (Q .normal) (l.drop n) F H) (l.take n) F H=q:=by(simp only[List.take_succ_cons,List.take_zero,List.drop_succ_cons,List.drop_zero];exact eJ)):dH P (.region id l.toArray false) Q F H:=fun w tm h1 h2=>by
 have ht:(l.take n).all (fun o=>o.guard.isNone)=true:=List.all_eq_true.2 fun x hx=>List.all_eq_true.1 hg x (List.mem_of_mem_take hx)
 have:=FI (l.take n) F H ht (e ▸ h);rw[List.take_append_drop]at this;exact wp_region_list (by simpa using this w tm (gh Q w H) h1 h2 fun tm' w' F' H' k g1 g2 g3=>⟨tm',F',H',w',rfl,rfl,k,g1,g2,g3⟩)
theorem J9{P:Program}{ops:Array Oper}{K:List AV->Hp->Prop}{l:List Oper}{F:List AV}{e tl tl0:List (Nat×Row)}(k:Nat)(k2:eF 0 e)(W:List (Nat×Nat))(J:List (Nat×AV))(h:q)(hg:l.all (fun o=>o.guard.isNone)=true:=by rfl)(hst:gJ (cR k) tl:=by exact dj)(hd:eu (cR k) tl=tl0:=by rfl)
  (hv:bX (cR k) ⟨[],tie e tl⟩ F (mm J (lS W F)):=by exact ki) (e0:iC P ops K l (mm J (lS W F)) ⟨[],tie e tl0⟩=q:=by exact eJ):VB P ops K l F ⟨[],tie e tl⟩:=by
 subst hd;have k3:eF k e:=⟨fun i hi h2=>k2.no i jB h2,k2.nodup,k2.closed⟩;have hf:=dq.free (cR k) (H:=⟨[],tie e tl⟩) (F:=F) rfl (wj _ _ _ (v7 _ _ k2.nodup fun i r hi=>fh (fun j hj=>by unfold fF;rw[k3.cR (List.contains_iff_mem.1 hj)];rfl) _ (k2.closed i r hi)) hst) hv;refine VB.nj hf (C0 l _ _ hg ?_);have e1:eu (cR k) (tie e tl)=tie e (eu (cR k) tl):=by show eu _ (e++tl)=e++_;rw[wx,v8 _ _ (fun i hi=>k3.cR hi)]
 rw[e1];exact e0 ▸ h
theorem Ox{H:Hp}{A:Nat->Prop}{d:gb A}(i:Nat)(h:q)(hi:H.get i=none:=by exact dj)(e:A i=q:=by exact eJ):rR H A d:=QY i hi (e ▸ h)
end Go.Gd
namespace Go.Proofs.YtfkgcobaheegbaaGreatDoor
open Go Go.Gd Tryz Go.Gd.MV
section
variable {p:ab}{C:aE}(X:List Nat)
theorem O6{m:MV}{N:NM}{e:List (Nat×Row)}(hR:bD p C m N e)(hs:m.status=2\/m.status=3)(a:Int)(v:ak):du prog 44 [mP N,.raw (.int .i64 a),.agg (cv v)] e (rB false) e:=by
 have hlo:=hR.ok.low;refine⟨?_,hR.ok,hR.ok,fun _ h=>h,?_⟩;rotate_left
 ·simp only[aW,AV.all,gG hR.root,Bool.and_self,Bool.and_true,cv]
 rcases hs with h|h
 all_goals
  refine aT (L:=ids e) func44 ntmps44 ?_ (hL:=rfl);generalize hB:ids e=B;refine fk ?_
  (have W:=jA hlo (jA hR.root (h));repeat' (first|refine aB fun K hK=>?_|refine aC ?_|(with_reducible refine gR 3 ?_);refine dQ 3 mixed ?_|(refine hK _ _ ?_;clear hK K)|(refine aA ?_ ?_<;>intro hc<;>try exact jz)|refine fa 0 ?_|(refine⟨.ip [.any,.any,.any,.any,.raw (.slice none 0 0)],?_⟩;refine S ?_)|(refine uf ?_ ?_<;>intro hc<;>try exact jz)|refine aD ?_|exact jI|(clear hK K)));all_goals(try clear W)
  exact fp hB hR.ok hR.ok (tl:=[(0,.var 59 (cv v))]) (fun _=>rfl) (eO jC er) [.tmp 6]
end
end Go.Proofs.YtfkgcobaheegbaaGreatDoor

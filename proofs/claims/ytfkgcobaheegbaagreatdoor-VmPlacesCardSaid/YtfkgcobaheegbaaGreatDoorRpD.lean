/- Lemmas. No conditions. -/
import Derived.Test.YtfkgcobaheegbaaGreatDoorRpA
import Derived.Test.YtfkgcobaheegbaaGreatDoorCmB
set_option linter.all false
set_option maxHeartbeats 4000000
set_option maxRecDepth 10000
namespace Go.Gd
open Go
structure NC where
 c:Nat
 v:Nat
 jk:List ak
 deriving Inhabited
structure NM where
 k:Nat
 cs:List NC
 cj:List Nat
namespace MV
def cE(c:MC)(n:NC):List AV:=[.rs (hn 2 n.v) (c.stack.length+n.jk.length) 3 c.stack.length,.raw (.int .i64 c.fn),.raw (.int .i64 c.at_),.raw (.int .i64 c.mark),.rs (hn 1 n.c) c.slots.length 3 c.slots.length]
def mE(p:ab)(C:aF)(m:MV)(N:NM):List AV:=js p++[bt cW 4 C.ins,bt eI 1 C.entry,.rs (hn 4 N.k) (N.cs.length+N.cj.length) 1 N.cs.length,.pt (hn 5 N.k) 0 0 0,.rs (hn 8 N.k) m.ay.length 1 m.ay.length,.raw (.int .i64 m.in_),.raw (.int .i64 m.status),.raw (.int .i64 m.bn),.raw (.int .i64 m.time)]
structure mQ(c:MC)(n:NC)(e:List (Nat×Row)):Prop where
 var:aD e (hn 0 n.c)=some (.var 137 (cE c n))
 cv:aD e (hn 2 n.v)=some (.aO 59 3 ((c.stack++n.jk).map cI))
 eN:aD e (hn 1 n.c)=some (.aO 59 3 (c.slots.map cI))
 bd:c.stack.length+n.jk.length<=2000
structure bJ(p:ab)(C:aF)(m:MV)(N:NM)(e:List (Nat×Row)):Prop where
 ok:fS 0 e
 root:aD e (hn 3 N.k)=some (.var 122 (mE p C m N))
 row:aD e (hn 4 N.k)=some (.aO 133 1 ((N.cs.map NC.c++N.cj).map fun j=>[.pt (hn 0 j) 0 0 0]))
 hp:aD e (hn 5 N.k)=some (.var 197 [.rs (hn 6 N.k) m.heap.flatten.length 1 m.heap.flatten.length,.rs (hn 7 N.k) m.heap.length 1 m.heap.length])
 cells:aD e (hn 6 N.k)=some (.aO 3 1 (m.heap.flatten.map eI))
 ends:aD e (hn 7 N.k)=some (.aO 3 1 ((ll m.heap).map eI))
 outs:aD e (hn 8 N.k)=some (.aO 9 1 (m.ay.map eS))
 len:N.cs.length=m.calls.length
 call:∀k,k<m.calls.length->mQ (nth m.calls k) (nth N.cs k) e
 nc:(N.cs.map NC.c).Nodup
 nv:(N.cs.map NC.v).Nodup
 bd:N.cs.length+N.cj.length<=1000
end MV
def NM.af(N:NM):NC:=nth N.cs (N.cs.length-1)
def NM.aQ(N:NM)(n:NC):NM:={ N with cs:=N.cs.set (N.cs.length-1) n }
attribute [go_sem] MV.cE MV.mE
variable{α:Type}
theorem so{β:Type}[Inhabited α][Inhabited β](f:α->β)(l:List α)(k:Nat)(h:k<l.length):nth (l.map f) k=f (nth l k):=by
 rw[dN (by simpa using h),dN h];simp
theorem GF[Inhabited α]{l:List α}(h:l.Nodup){i j:Nat}(hi:i<l.length)(hj:j<l.length)(e:nth l i=nth l j):i=j:=by
 rw[dN hi,dN hj]at e;exact(List.getElem_inj h).1 e
theorem Py[Inhabited α]{l:List α}(h:l.Nodup){i:Nat}(hi:i<l.length){v:α}(hv:∀j,j<l.length->j≠i->nth l j≠v):(l.set i v).Nodup:=by
 unfold List.Nodup;rw[List.pairwise_iff_getElem];intro a b ha hb hab e;rw[List.length_set]at ha hb;rw[List.getElem_set,List.getElem_set]at e;split at e<;>split at e
 ·omega
 ·rename_i h1 h2;exact hv b hb jB (by rw[dN hb];exact e.symm)
 ·rename_i h1 h2;exact hv a jB jB (by rw[dN jB];exact e)
 ·have:=(List.getElem_inj h).1 e;omega
namespace MV
variable {p:ab}{C:aF}{m:MV}{N:NM}{e:List (Nat×Row)}
theorem bJ.af(h:bJ p C m N e)(h1:1<=m.calls.length):mQ m.af N.af e:=by
 have:=h.call (m.calls.length-1) jB;unfold NM.af MV.af;rw[h.len];exact this
theorem bJ.ne{k j:Nat}(h:bJ p C m N e)(hk:k<N.cs.length)(hj:j<N.cs.length)(hkj:k≠j):(nth N.cs k).c≠(nth N.cs j).c/\(nth N.cs k).v≠(nth N.cs j).v:=by
 constructor
 ·intro e'
  exact hkj (GF h.nc (by simpa using hk) (by simpa using hj) (by rw[so _ _ _ hk,so _ _ _ hj];exact e'))
 ·intro e'
  exact hkj (GF h.nv (by simpa using hk) (by simpa using hj) (by rw[so _ _ _ hk,so _ _ _ hj];exact e'))
theorem bJ.aQ(hR:bJ p C m N e)(h1:1<=m.calls.length){c':MC}{n':NC}{e':List (Nat×Row)}(hnc:n'.c=N.af.c)(ok:fS 0 e')(hc:mQ c' n' e')(hv:n'.v=N.af.v\/aD e (hn 2 n'.v)=none)
  (hs:∀j,aD e j≠none->j≠hn 0 N.af.c->j≠hn 1 N.af.c->j≠hn 2 N.af.v->aD e' j=aD e j):bJ p C (m.aQ c') (N.aQ n') e':=by
 have hl:=hR.len;have kind:∀(a k:Nat) (r:Row),2<a->a<32->aD e (hn a k)=some r->aD e' (hn a k)=some r:=fun a k r h2 h16 h=>by
  rw[hs _ (by rw[h];simp) (cU h16 jB jB) (cU h16 jB jB) (cU h16 jB jB)];exact h
 have cs:(N.aQ n').cs.map NC.c=N.cs.map NC.c:=by
  show(N.cs.set _ n').map NC.c=_;rw[List.map_set,hnc];unfold NM.af;rw[<-so NC.c N.cs _ jB,dN (by rw[List.length_map];omega),List.set_getElem_self]
 have ln:(N.aQ n').cs.length=N.cs.length:=by show(N.cs.set _ n').length=_;simp
 have nu:∀k,nth (N.aQ n').cs k=if k=N.cs.length-1 then n' else nth N.cs k:=fun k=>Go.Gd.bc _ _ _ _ jB
 have mu:∀k,nth (m.aQ c').calls k=if k=m.calls.length-1 then c' else nth m.calls k:=fun k=>Go.Gd.bc _ _ _ _ jB
 have ml:(m.aQ c').calls.length=m.calls.length:=by show(m.calls.set _ c').length=_;simp
 refine⟨ok,?_,?_,kind 5 _ _ jB jB hR.hp,kind 6 _ _ jB jB hR.cells,kind 7 _ _ jB jB hR.ends,kind 8 _ _ jB jB hR.outs,by rw[ln,ml];exact hl,fun k hk=>?_,by rw[cs];exact hR.nc,?_,by rw[ln];exact hR.bd⟩
 ·rw[show mE p C (m.aQ c') (N.aQ n')=mE p C m N by unfold mE;rw[ln];rfl]
  exact kind 3 _ _ jB jB hR.root
 ·rw[cs];exact kind 4 _ _ jB jB hR.row
 ·rw[ml]at hk
  rw[nu,mu,hl];by_cases ek:k=m.calls.length-1
  ·rw[if_pos ek,if_pos ek];exact hc
  ·rw[if_neg ek,if_neg ek]
   have hca:=hR.call k hk;obtain⟨n1,n2⟩:=hR.ne (k:=k) (j:=N.cs.length-1) jB jB jB;have n1:(nth N.cs k).c≠N.af.c:=n1;have n2:(nth N.cs k).v≠N.af.v:=n2;exact⟨by rw[hs _ (by rw[hca.var];simp) (fun e=>n1 (wy jB jB e).2) (cU jB jB jB) (cU jB jB jB)];exact hca.var,
    by rw[hs _ (by rw[hca.cv];simp) (cU jB jB jB) (cU jB jB jB) (fun e=>n2 (wy jB jB e).2)];exact hca.cv,
    by rw[hs _ (by rw[hca.eN];simp) (cU jB jB jB) (fun e=>n1 (wy jB jB e).2) (cU jB jB jB)];exact hca.eN,hca.bd⟩
 ·show((N.cs.set _ n').map NC.v).Nodup
  rw[List.map_set];refine Py hR.nv (by rw[List.length_map];omega) fun j hj hj2 e'=>?_
  rw[List.length_map]at hj;rw[so _ _ _ hj]at e';rcases hv with hv|hv
  ·rw[hv]at e'
   exact(hR.ne hj jB hj2).2 e'
  ·have hca:=(hR.call j jB).cv
   rw[e',hv]at hca;cases hca
theorem bJ.lO(hR:bJ p C m N e){m':MV}(h1:m'.calls=m.calls)(h2:m'.heap=m.heap)(h3:m'.ay=m.ay):bJ p C m' N (br e (hn 3 N.k) (.var 122 (mE p C m' N))):=by
 have kind:∀(a k:Nat) (r:Row),a≠3->a<32->aD e (hn a k)=some r->aD (br e (hn 3 N.k) (.var 122 (mE p C m' N))) (hn a k)=some r:=fun a k r h3 h16 h=>by
  rw[bR,if_neg (cU h16 jB h3)];exact h
 refine⟨hR.ok.put (.inr (hJ _ _)) ?_,by rw[bR,if_pos rfl],kind _ _ _ jB jB hR.row,?_,?_,?_,?_,by rw[h1];exact hR.len,fun k hk=>?_,hR.nc,hR.nv,hR.bd⟩
 ·have c4:=gD hR.row
  have c5:=gD hR.hp;have c8:=gD hR.outs;have up:aY (fun j=>decide (j=hn 3 N.k) || (ids e).contains j) (js p)=true:=fN (q:=dQ) (fun _ h=>by cases h) _ rfl;unfold mE;simp only[Row.cells];rw[sZ,up];simp only[aY,AV.all,c4,c5,c8,Bool.or_true,Bool.and_self,bt]
 ·rw[h2];exact kind _ _ _ jB jB hR.hp
 ·rw[h2];exact kind _ _ _ jB jB hR.cells
 ·rw[h2];exact kind _ _ _ jB jB hR.ends
 ·rw[h3];exact kind _ _ _ jB jB hR.outs
 ·rw[h1]at hk ⊢
  have hc:=hR.call k hk;exact⟨kind _ _ _ jB jB hc.var,kind _ _ _ jB jB hc.cv,kind _ _ _ jB jB hc.eN,hc.bd⟩
end MV
def kE(fn at_ mark:Int)(vs jk slots:List ak):List (Nat×Row):=[(6,.var 137 [.rs 7 (vs.length+jk.length) 3 vs.length,.raw (.int .i64 fn),.raw (.int .i64 at_),.raw (.int .i64 mark),.rs 8 slots.length 3 slots.length]),(7,.aO 59 3 ((vs++jk).map cI)),(8,.aO 59 3 (slots.map cI))]
attribute [go_sem] kE
end Go.Gd
namespace Go.Proofs.YtfkgcobaheegbaaGreatDoor
open Go Go.Gd Tryz
theorem Lv(fn at_ mark:Int)(vs jk slots:List ak)(v:ak)(hL:¬(100000<vs.length+jk.length)):aj prog 171 [.pt 6 0 0 0,rV v] (kE fn at_ mark vs jk slots) (fun r l=>r=.bg []/\l=kE fn at_ mark (vs++[v]) (jk.drop 1) slots):=by
 refine aU func171 ntmps171 ?_
 (refine S ?_;try exact jI)
 (repeat' (first|refine aA fun K hK=>?_|refine aC ?_|(with_reducible refine gR 1 ?_);refine dE 1 [0,1,2,3,4,5,6,7,8,9,10] mixed ?_|(refine hK _ _ ?_;clear hK K)|(refine aB ?_ ?_<;>intro hc<;>try exact jz)|refine eW 9 ?_|refine rJ vs jk [v] ?_|refine az ?_|exact jI|(clear hK K)))
 (refine bH [] ?_;try simp only[go_sem])
theorem Hc(fn at_ mark:Int)(vs jk slots:List ak)(h1:1<=vs.length)(hL:¬(100000<vs.length+jk.length)):aj prog 184 [.pt 6 0 0 0] (kE fn at_ mark vs jk slots) (fun r l=>r=rV (nth vs (vs.length-1))/\l=kE fn at_ mark vs jk slots):=by
 refine aU func184 ntmps184 ?_
 (refine S ?_;try exact jI)
 (repeat' (first|refine aA fun K hK=>?_|refine aC ?_|(with_reducible refine gR 1 ?_);refine dE 1 [0,1,2,3,4,5,6,7,8,9,10,11,12] mixed ?_|(refine hK _ _ ?_;clear hK K)|(refine aB ?_ ?_<;>intro hc<;>try exact jz)|refine al 9 ?_|refine az ?_|exact jI|(clear hK K)))
 (refine bH [.cell 2 59] ?_;try simp only[go_sem])
theorem Dn(fn at_ mark:Int)(vs jk slots:List ak)(v:ak)(hL:¬(100000<vs.length+1+jk.length)):aj prog 175 [.pt 6 0 0 0] (kE fn at_ mark (vs++[v]) jk slots) (fun r l=>r=rV v/\l=kE fn at_ mark vs (v::jk) slots):=by
 have hla:=Hc fn at_ mark (vs++[v]) jk slots jE (by rw[List.length_append,List.length_singleton];omega);rw[show nth (vs++[v]) ((vs++[v]).length-1)=v by simp[nth]]at hla;have e:(vs++[v])++jk=vs++(v::jk):=jE
 have e2:((vs++[v]).length:Int)-1=vs.length:=jE
 have e3:(vs++[v]).length=vs.length+1:=jE
 have e4:vs.length+(v::jk).length=vs.length+1+jk.length:=by simp only[List.length_cons];omega
 unfold kE at hla ⊢;rw[e,e3]at hla ⊢;rw[e4];refine aU func175 ntmps175 ?_
 (refine S ?_;try exact jI)
 (repeat' (first|refine aA fun K hK=>?_|refine aC ?_|(with_reducible refine gR 2 ?_);refine dE 2 [0,1,2,3,4,5,6,7,8,9,10,11,12,13,14] mixed ?_|(refine hK _ _ ?_;clear hK K)|(refine aB ?_ ?_<;>intro hc<;>try exact jz)|refine al 9 ?_|refine al 10 ?_|refine cm (hla) ?_|refine az ?_|exact jI|(clear hK K)))
 refine bH [.cell 2 59] rfl (h2:=?_);simp[eo,mg]
theorem La(fn at_ mark:Int)(vs jk slots:List ak)(k t:Int)(hk:0<=k/\k<slots.length)(hL:¬(100000<slots.length)):aj prog 174 [.pt 6 0 0 0,rI k,rI t] (kE fn at_ mark vs jk slots) (fun r l=>r=rV (df slots k t)/\l=kE fn at_ mark vs jk slots):=by
 refine aU func174 ntmps174 ?_
 (refine S ?_;try exact jI)
 (repeat' (first|refine aA fun K hK=>?_|refine aC ?_|(refine hK _ _ ?_;clear hK K)|(refine aB ?_ ?_<;>intro hc<;>try exact jz)|refine al 9 ?_|refine al 10 ?_|refine cp (BB _) ?_|(first|refine cg (GP _) ?_|refine yl (GP _) ?_)|refine az ?_|exact jI|(clear hK K)))
 all_goals(refine bH [.cell 6 59] ?_;try simp only[go_sem])
 all_goals(unfold df;(repeat' split)<;>first|rfl|omega|(exfalso;simp_all;done)|(simp_all;done)|skip)
end Go.Proofs.YtfkgcobaheegbaaGreatDoor
namespace Go.Gd
open Go
mutual
theorem wA{f:Nat->Nat}:∀a:AV,a.all dQ=true->a.bT f=a
 |.raw _,_=>by simp only[AV.bT]
 |.any,_=>by simp only[AV.bT]
 |.agg cs,h=>by simp only[AV.all]at h;simp only[AV.bT,rW cs h]
 |.bg cs,h=>by simp only[AV.all]at h;simp only[AV.bT,rW cs h]
 |.sl _ _ _ _,_=>by simp only[AV.bT]
 |.ip _,_=>by simp only[AV.bT]
 |.gd _ v,h=>by simp only[AV.all]at h;simp only[AV.bT,wA v h]
 |.fK _ cs,h=>by simp only[AV.all]at h;simp only[AV.bT,rW cs h]
 |.pt _ _ _ _,h=>by simp only[AV.all]at h;cases h
 |.rs _ _ _ _,h=>by simp only[AV.all]at h;cases h
 |.rv _ _ _ _ _,h=>by simp only[AV.all]at h;cases h
 |.mr _,h=>by simp only[AV.all]at h;cases h
 |.bd _ fs,h=>by simp only[AV.all]at h;simp only[AV.bT,rW fs h]
 |.j9 _ v,h=>by simp only[AV.all]at h;simp only[AV.bT,wA v h]
theorem rW{f:Nat->Nat}:∀l:List AV,aY dQ l=true->eJ f l=l
 |[],_=>rfl
 |a::l,h=>by
  simp only[aY,Bool.and_eq_true]at h;simp only[eJ,wA a h.1,rW l h.2]
end
theorem uy{f:Nat->Nat}{α:Type}{enc:α->List AV}{sz:Nat}[he:bL enc sz](l:List α):(l.map enc).map (eJ f)=l.map enc:=by
 rw[List.map_map];exact List.map_congr_left fun x _=>rW _ (he.free x)
def oQ(x y z a b c:Nat)(i:Nat):Nat:=if i=x then a else if i=y then b else if i=z then c else i+(a+b+c+1)
def wY(x y z a b c:Nat)(j:Nat):Nat:=if j=a then x else if j=b then y else if j=c then z else j-(a+b+c+1)
theorem D6{x y z a b c:Nat}(h1:a≠b)(h2:a≠c)(h3:b≠c)(i:Nat):wY x y z a b c (oQ x y z a b c i)=i:=by
 unfold oQ;split
 ·rename_i e;unfold wY;rw[if_pos rfl];exact e.symm
 ·split
  ·rename_i e;unfold wY;rw[if_neg (fun e=>h1 e.symm),if_pos rfl];exact e.symm
  ·split
   ·rename_i e;unfold wY;rw[if_neg (fun e=>h2 e.symm),if_neg (fun e=>h3 e.symm),if_pos rfl];exact e.symm
   ·unfold wY;rw[jN,jN,jN];omega
mutual
theorem Aq{f:Nat->Nat}{q q':Nat->Bool}(h:∀i,q i=true->q' (f i)=true):∀a:AV,a.all q=true->(a.bT f).all q'=true
 |.raw _,_=>by simp only[AV.bT,AV.all]
 |.any,_=>by simp only[AV.bT,AV.all]
 |.agg cs,k=>by simp only[AV.all]at k;simp only[AV.bT,AV.all];exact tZ h cs k
 |.bg cs,k=>by simp only[AV.all]at k;simp only[AV.bT,AV.all];exact tZ h cs k
 |.sl _ _ _ _,_=>by simp only[AV.bT,AV.all]
 |.ip _,_=>by simp only[AV.bT,AV.all]
 |.gd _ v,k=>by simp only[AV.all]at k;simp only[AV.bT,AV.all];exact Aq h v k
 |.fK _ cs,k=>by simp only[AV.all]at k;simp only[AV.bT,AV.all];exact tZ h cs k
 |.pt i _ _ _,k=>by simp only[AV.all]at k;simp only[AV.bT,AV.all];exact h i k
 |.rs i _ _ _,k=>by simp only[AV.all]at k;simp only[AV.bT,AV.all];exact h i k
 |.rv i _ _ _ _,k=>by simp only[AV.all]at k;simp only[AV.bT,AV.all];exact h i k
 |.mr i,k=>by simp only[AV.all]at k;simp only[AV.bT,AV.all];exact h i k
 |.bd _ fs,k=>by simp only[AV.all]at k;simp only[AV.bT,AV.all];exact tZ h fs k
 |.j9 _ v,k=>by simp only[AV.all]at k;simp only[AV.bT,AV.all];exact Aq h v k
theorem tZ{f:Nat->Nat}{q q':Nat->Bool}(h:∀i,q i=true->q' (f i)=true):∀l:List AV,aY q l=true->aY q' (eJ f l)=true
 |[],_=>rfl
 |a::l,k=>by
  simp only[aY,Bool.and_eq_true]at k;simp only[eJ,aY,Bool.and_eq_true];exact⟨Aq h a k.1,tZ h l k.2⟩
end
theorem aj.at{P:Program}{f:FuncId}{args:List AV}{s s' e:List (Nat×Row)}{r0:AV}{ρ g:Nat->Nat}(hg:∀i,g (ρ i)=i)(hc:aj P f args s fun r l=>r=r0/\l=s')(hs:∀i r,aD s i=some r->aD e (ρ i)=some (r.bT ρ))(ha:aY (fun i=>(ids s).contains i) args=true)
  (hcl:∀i r,aD s i=some r->aY (fun i=>(ids s).contains i) r.cells=true) (hn:(ids s').Nodup) (hs':∀i∈ids s',i∈ids s):aj P f (eJ ρ args) e fun r l=>r=r0.bT ρ/\l=iT e (kQ ρ s'):=by
 have mem:∀i,(ids s).contains i=true->(ids (kQ ρ s)).contains (ρ i)=true:=fun i hi=>by
  rw[yf,List.contains_iff_mem];exact List.mem_map_of_mem (List.contains_iff_mem.1 hi)
 have up:∀l:List AV,aY (fun i=>(ids s).contains i) l=true->aY (fun i=>(ids (kQ ρ s)).contains i) (eJ ρ l)=true:=fun l h=>tZ mem l h
 have:=aj.more (e:=e) (aj.bT hg hc) (fun i r hi=>?_) (up _ ha) (fun i r hi=>?_) (fun r l hR=>?_)
 ·refine this.mono fun r l ⟨l0,⟨r1,l1,e1,e2,e3,e4⟩,e5⟩=>?_
  rw[e1,e3,e5,e2,e4];exact⟨rfl,rfl⟩
 ·obtain⟨j,r0,rfl,rfl,h3⟩:=wH hg hi
  exact hs j r0 h3
 ·obtain⟨j,r0,rfl,rfl,h3⟩:=wH hg hi
  rw[Row.gj];exact up _ (hcl j r0 h3)
 ·obtain⟨r1,l1,e1,e2,e3,e4⟩:=hR
  subst e2 e4;refine⟨?_,fun i hi=>.inl ?_⟩
  ·rw[yf]
   exact hn.map _ (fun a b h1 h2=>h1 (by rw[<-hg a,<-hg b,h2]))
  ·obtain⟨r,hr⟩:=Option.ne_none_iff_exists'.1 hi
   obtain⟨j,r0,rfl,rfl,h3⟩:=wH hg hr;obtain⟨x,hx⟩:=Option.ne_none_iff_exists'.1 ((mb _ _).1 (hs' j ((mb _ _).2 (by rw[h3];simp))));rw[yL hg,hx];simp
def j7(P:Program)(f:FuncId)(args:List AV)(e:List (Nat×Row))(X:List Nat)(r0:AV)(Q:NM->List (Nat×Row)->Prop):Prop:=∃N' l,Q N' l/\Up X e l/\dW P f args e r0 l
namespace MV
variable {p:ab}{C:aF}{m:MV}{N:NM}{e:List (Nat×Row)}{P:Program}{f:FuncId}{rest:List AV}{r0:AV}{X:List Nat}
def kL(N:NM)(c':MC)(jk':List ak)(e:List (Nat×Row)):List (Nat×Row):=br (br (br e (hn 0 N.af.c) (.var 137 (cE c' ⟨N.af.c,N.af.v,jk'⟩))) (hn 2 N.af.v) (.aO 59 3 ((c'.stack++jk').map cI))) (hn 1 N.af.c) (.aO 59 3 (c'.slots.map cI))
variable{jk':List ak}
theorem bJ.mn(hR:bJ p C m N e)(h1:1<=m.calls.length){c':MC}(hb:c'.stack.length+jk'.length<=2000)(hrest:aY dQ rest=true)(hr:r0.all dQ=true)
  (hc:aj P f (.pt 6 0 0 0::rest) (kE m.af.fn m.af.at_ m.af.mark m.af.stack N.af.jk m.af.slots) fun r l=>r=r0/\l=kE c'.fn c'.at_ c'.mark c'.stack jk' c'.slots) :
  (bJ p C (m.aQ c') (N.aQ ⟨N.af.c,N.af.v,jk'⟩) (kL N c' jk' e)/\(N.aQ ⟨N.af.c,N.af.v,jk'⟩).af.c=N.af.c)/\Up X e (kL N c' jk' e)/\dW P f (.pt (hn 0 N.af.c) 0 0 0::rest) e r0 (kL N c' jk' e):=by
 have ht:=hR.af h1;unfold kL;have a1:hn 0 N.af.c≠hn 2 N.af.v:=cU jB jB jB;have a2:hn 0 N.af.c≠hn 1 N.af.c:=cU jB jB jB;have a3:hn 2 N.af.v≠hn 1 N.af.c:=cU jB jB jB;have q6:oQ 6 7 8 (hn 0 N.af.c) (hn 2 N.af.v) (hn 1 N.af.c) 6=hn 0 N.af.c:=rfl;have q7:oQ 6 7 8 (hn 0 N.af.c) (hn 2 N.af.v) (hn 1 N.af.c) 7=hn 2 N.af.v:=rfl;have q8:oQ 6 7 8 (hn 0 N.af.c) (hn 2 N.af.v) (hn 1 N.af.c) 8=hn 1 N.af.c:=rfl;have ea:eJ (oQ 6 7 8 (hn 0 N.af.c) (hn 2 N.af.v) (hn 1 N.af.c)) (.pt 6 0 0 0::rest)=.pt (hn 0 N.af.c) 0 0 0::rest:=by
  simp only[eJ,AV.bT,q6,rW _ hrest]
 have el:iT e (kQ (oQ 6 7 8 (hn 0 N.af.c) (hn 2 N.af.v) (hn 1 N.af.c)) (kE c'.fn c'.at_ c'.mark c'.stack jk' c'.slots))=br (br (br e (hn 0 N.af.c) (.var 137 (cE c' ⟨N.af.c,N.af.v,jk'⟩))) (hn 2 N.af.v) (.aO 59 3 ((c'.stack++jk').map cI))) (hn 1 N.af.c) (.aO 59 3 (c'.slots.map cI)):=by
  simp only[kE,kQ,List.map_cons,List.map_nil,iT,q6,q7,q8,Row.bT,eJ,AV.bT,uy (enc:=cI) (sz:=3),cE]
 have i0:=gD ht.var;have i1:=gD ht.eN;have i2:=gD ht.cv;have no:∀l:List ak,aY dQ ((l.map cI).flatten)=true:=fun l=>oD (lu (enc:=cI) (sz:=3) _)
 have hl:=hR.len;have hrep:bJ p C (m.aQ c') (N.aQ ⟨N.af.c,N.af.v,jk'⟩) (br (br (br e (hn 0 N.af.c) (.var 137 (cE c' ⟨N.af.c,N.af.v,jk'⟩))) (hn 2 N.af.v) (.aO 59 3 ((c'.stack++jk').map cI))) (hn 1 N.af.c) (.aO 59 3 (c'.slots.map cI))):=by
  refine hR.aQ h1 rfl ?_ ⟨?_,?_,?_,hb⟩ (.inl rfl) fun j hj n0 n1 n2=>?_
  ·refine((hR.ok.put (.inr (hJ _ _)) ?_).put (.inr (hJ _ _)) ?_).put (.inr (hJ _ _)) ?_
   ·simp only[Row.cells,cE,aY,AV.all,i1,i2,Bool.or_true,Bool.and_self]
   ·exact fN (fun _ h=>by cases h) _ (no _)
   ·exact fN (fun _ h=>by cases h) _ (no _)
  ·rw[bR,if_neg a2,bR,if_neg a1,bR,if_pos rfl]
  ·rw[bR,if_neg a3,bR,if_pos rfl]
  ·rw[bR,if_pos rfl]
  ·rw[bR,if_neg n1,bR,if_neg n2,bR,if_neg n0]
 have hup:Up X e (br (br (br e (hn 0 N.af.c) (.var 137 (cE c' ⟨N.af.c,N.af.v,jk'⟩))) (hn 2 N.af.v) (.aO 59 3 ((c'.stack++jk').map cI))) (hn 1 N.af.c) (.aO 59 3 (c'.slots.map cI))):=by
  refine((Up.put _ (.inl ?_)).trans (Up.put _ (.inl ?_))).trans (Up.put _ (.inl ?_))
  ·rw[ht.var];simp
  ·rw[bR,if_neg (fun e=>a1 e.symm),ht.cv];simp
  ·rw[bR,if_neg (fun e=>a3 e.symm),bR,if_neg (fun e=>a2 e.symm),ht.eN];simp
 refine⟨⟨hrep,?_⟩,hup,⟨?_,hR.ok,hrep.ok,hup.aX,?_⟩⟩
 ·show(nth (N.cs.set _ _) ((N.cs.set _ _).length-1)).c=_
  rw[List.length_set,Go.Gd.bc _ _ _ _ jB,if_pos rfl]
 ·rw[<-ea,<-el]
  refine(aj.at (e:=e) (D6 a1 a2 a3) hc (fun i r h=>?_) ?_ (fun i r h=>?_) ?_ (fun i h=>h)).mono fun r l ⟨e1,e2⟩=>⟨by rw[e1,wA _ hr],e2⟩
  ·simp only[kE,aD]at h
   split at h
   ·rename_i ei;subst ei;cases h
    rw[q6,ht.var];simp only[cE,Row.bT,eJ,AV.bT,q7,q8]
   ·split at h
    ·rename_i ei;subst ei;cases h
     rw[q7,ht.cv];simp only[Row.bT,uy (enc:=cI) (sz:=3)]
    ·split at h
     ·rename_i ei;subst ei;cases h
      rw[q8,ht.eN];simp only[Row.bT,uy (enc:=cI) (sz:=3)]
     ·cases h
  ·simp only[aY,Bool.and_eq_true]
   exact⟨rfl,fN (fun _ h=>by cases h) _ hrest⟩
  ·simp only[kE,aD]at h
   split at h
   ·cases h;rfl
   ·split at h
    ·cases h;exact fN (q:=dQ) (fun _ h=>by cases h) _ (no _)
    ·split at h
     ·cases h;exact fN (q:=dQ) (fun _ h=>by cases h) _ (no _)
     ·cases h
  ·show([6,7,8]:List Nat).Nodup
   decide
 ·simp only[aY,Bool.and_eq_true]
  exact⟨i0,fN (fun _ h=>by cases h) _ hrest⟩
theorem bJ.cA(hR:bJ p C m N e)(h1:1<=m.calls.length){c':MC}(hb:c'.stack.length+jk'.length<=2000)(hrest:aY dQ rest=true)(hr:r0.all dQ=true)
  (hc:aj P f (.pt 6 0 0 0::rest) (kE m.af.fn m.af.at_ m.af.mark m.af.stack N.af.jk m.af.slots) fun r l=>r=r0/\l=kE c'.fn c'.at_ c'.mark c'.stack jk' c'.slots) :
  j7 P f (.pt (hn 0 N.af.c) 0 0 0::rest) e X r0 fun N' l=>bJ p C (m.aQ c') N' l/\N'.k=N.k/\N'.af.c=N.af.c:=by
 obtain⟨h2,h3,h4⟩:=hR.mn (X:=X) h1 hb hrest hr hc;exact⟨_,_,⟨h2.1,rfl,h2.2⟩,h3,h4⟩
theorem bJ.rP(hR:bJ p C m N e)(h1:1<=m.calls.length)(hrest:aY dQ rest=true)(hr:r0.all dQ=true)
  (hc:aj P f (.pt 6 0 0 0::rest) (kE m.af.fn m.af.at_ m.af.mark m.af.stack N.af.jk m.af.slots) fun r l=>r=r0/\l=kE m.af.fn m.af.at_ m.af.mark m.af.stack N.af.jk m.af.slots):dW P f (.pt (hn 0 N.af.c) 0 0 0::rest) e r0 e:=by
 have ht:=hR.af h1;obtain⟨h2,h3,h4⟩:=hR.mn (X:=[]) (c':=m.af) (jk':=N.af.jk) h1 ht.bd hrest hr hc;have el:kL N m.af N.af.jk e=e:=by
  unfold kL;have e0:(⟨N.af.c,N.af.v,N.af.jk⟩:NC)=N.af:=rfl;rw[e0,tS ht.var,tS ht.cv,tS ht.eN]
 rw[el]at h4;exact h4
variable{h':List (List Int)}
theorem bJ.nb(hR:bJ p C m N e){e':List (Nat×Row)}(ok:fS 0 e')(h1:aD e' (hn 5 N.k)=some (.var 197 [.rs (hn 6 N.k) h'.flatten.length 1 h'.flatten.length,.rs (hn 7 N.k) h'.length 1 h'.length]))
  (h2:aD e' (hn 6 N.k)=some (.aO 3 1 (h'.flatten.map eI))) (h3:aD e' (hn 7 N.k)=some (.aO 3 1 ((ll h').map eI))) (hs:∀j,j≠hn 5 N.k->j≠hn 6 N.k->j≠hn 7 N.k->aD e' j=aD e j):bJ p C { m with heap:=h' } N e':=by
 have kind:∀(a k:Nat) (r:Row),a≠5->a≠6->a≠7->a<32->aD e (hn a k)=some r->aD e' (hn a k)=some r:=fun a k r h5 h6 h7 h16 h=>by
  rw[hs _ (cU h16 jB h5) (cU h16 jB h6) (cU h16 jB h7)];exact h
 exact⟨ok,kind _ _ _ jB jB jB jB hR.root,kind _ _ _ jB jB jB jB hR.row,h1,h2,h3,kind _ _ _ jB jB jB jB hR.outs,hR.len,fun k hk=>
  ⟨kind _ _ _ jB jB jB jB (hR.call k hk).var,kind _ _ _ jB jB jB jB (hR.call k hk).cv,kind _ _ _ jB jB jB jB (hR.call k hk).eN,(hR.call k hk).bd⟩,hR.nc,hR.nv,hR.bd⟩
def hL(N:NM)(h':List (List Int))(e:List (Nat×Row)):List (Nat×Row):=br (br (br e (hn 5 N.k) (.var 197 [.rs (hn 6 N.k) h'.flatten.length 1 h'.flatten.length,.rs (hn 7 N.k) h'.length 1 h'.length])) (hn 6 N.k) (.aO 3 1 (h'.flatten.map eI))) (hn 7 N.k) (.aO 3 1 ((ll h').map eI))
theorem bJ.pu(hR:bJ p C m N e)(hrest:aY dQ rest=true)(hr:r0.all dQ=true)(hc:aj P f (.pt 2 0 0 0::rest) (gr m.heap) fun r l=>r=r0/\l=gr h') :
  bJ p C { m with heap:=h' } N (hL N h' e)/\Up X e (hL N h' e)/\dW P f (.pt (hn 5 N.k) 0 0 0::rest) e r0 (hL N h' e):=by
 unfold hL;have a1:hn 5 N.k≠hn 6 N.k:=cU jB jB jB;have a2:hn 5 N.k≠hn 7 N.k:=cU jB jB jB;have a3:hn 6 N.k≠hn 7 N.k:=cU jB jB jB;have q6:oQ 2 3 4 (hn 5 N.k) (hn 6 N.k) (hn 7 N.k) 2=hn 5 N.k:=rfl;have q7:oQ 2 3 4 (hn 5 N.k) (hn 6 N.k) (hn 7 N.k) 3=hn 6 N.k:=rfl;have q8:oQ 2 3 4 (hn 5 N.k) (hn 6 N.k) (hn 7 N.k) 4=hn 7 N.k:=rfl;have ea:eJ (oQ 2 3 4 (hn 5 N.k) (hn 6 N.k) (hn 7 N.k)) (.pt 2 0 0 0::rest)=.pt (hn 5 N.k) 0 0 0::rest:=by
  simp only[eJ,AV.bT,q6,rW _ hrest]
 have el:iT e (kQ (oQ 2 3 4 (hn 5 N.k) (hn 6 N.k) (hn 7 N.k)) (gr h'))=br (br (br e (hn 5 N.k) (.var 197 [.rs (hn 6 N.k) h'.flatten.length 1 h'.flatten.length,.rs (hn 7 N.k) h'.length 1 h'.length])) (hn 6 N.k) (.aO 3 1 (h'.flatten.map eI))) (hn 7 N.k) (.aO 3 1 ((ll h').map eI)):=by
  simp only[gr,kQ,List.map_cons,List.map_nil,iT,q6,q7,q8,Row.bT,eJ,AV.bT,uy (enc:=eI) (sz:=1)]
 have i0:=gD hR.hp;have i1:=gD hR.cells;have i2:=gD hR.ends;have no:∀l:List Int,aY dQ ((l.map eI).flatten)=true:=fun l=>oD (lu (enc:=eI) (sz:=1) _)
 have hrep:bJ p C { m with heap:=h' } N (br (br (br e (hn 5 N.k) (.var 197 [.rs (hn 6 N.k) h'.flatten.length 1 h'.flatten.length,.rs (hn 7 N.k) h'.length 1 h'.length])) (hn 6 N.k) (.aO 3 1 (h'.flatten.map eI))) (hn 7 N.k) (.aO 3 1 ((ll h').map eI))):=by
  refine hR.nb ?_ ?_ ?_ ?_ fun j n0 n1 n2=>?_
  ·refine((hR.ok.put (.inr (hJ _ _)) ?_).put (.inr (hJ _ _)) ?_).put (.inr (hJ _ _)) ?_
   ·simp only[Row.cells,aY,AV.all,i1,i2,Bool.or_true,Bool.and_self]
   ·exact fN (fun _ h=>by cases h) _ (no _)
   ·exact fN (fun _ h=>by cases h) _ (no _)
  ·rw[bR,if_neg a2,bR,if_neg a1,bR,if_pos rfl]
  ·rw[bR,if_neg a3,bR,if_pos rfl]
  ·rw[bR,if_pos rfl]
  ·rw[bR,if_neg n2,bR,if_neg n1,bR,if_neg n0]
 have hup:Up X e (br (br (br e (hn 5 N.k) (.var 197 [.rs (hn 6 N.k) h'.flatten.length 1 h'.flatten.length,.rs (hn 7 N.k) h'.length 1 h'.length])) (hn 6 N.k) (.aO 3 1 (h'.flatten.map eI))) (hn 7 N.k) (.aO 3 1 ((ll h').map eI))):=by
  refine((Up.put _ (.inl ?_)).trans (Up.put _ (.inl ?_))).trans (Up.put _ (.inl ?_))
  ·rw[hR.hp];simp
  ·rw[bR,if_neg (fun e=>a1 e.symm),hR.cells];simp
  ·rw[bR,if_neg (fun e=>a3 e.symm),bR,if_neg (fun e=>a2 e.symm),hR.ends];simp
 refine⟨hrep,hup,⟨?_,hR.ok,hrep.ok,hup.aX,?_⟩⟩
 ·rw[<-ea,<-el]
  refine(aj.at (e:=e) (D6 a1 a2 a3) hc (fun i r h=>?_) ?_ (fun i r h=>?_) ?_ (fun i h=>h)).mono fun r l ⟨e1,e2⟩=>⟨by rw[e1,wA _ hr],e2⟩
  ·simp only[gr,aD]at h
   split at h
   ·rename_i ei;subst ei;cases h
    rw[q6,hR.hp];simp only[Row.bT,eJ,AV.bT,q7,q8]
   ·split at h
    ·rename_i ei;subst ei;cases h
     rw[q7,hR.cells];simp only[Row.bT,uy (enc:=eI) (sz:=1)]
    ·split at h
     ·rename_i ei;subst ei;cases h
      rw[q8,hR.ends];simp only[Row.bT,uy (enc:=eI) (sz:=1)]
     ·cases h
  ·simp only[aY,Bool.and_eq_true]
   exact⟨rfl,fN (fun _ h=>by cases h) _ hrest⟩
  ·simp only[gr,aD]at h
   split at h
   ·cases h;rfl
   ·split at h
    ·cases h;exact fN (q:=dQ) (fun _ h=>by cases h) _ (no _)
    ·split at h
     ·cases h;exact fN (q:=dQ) (fun _ h=>by cases h) _ (no _)
     ·cases h
  ·show([2,3,4]:List Nat).Nodup
   decide
 ·simp only[aY,Bool.and_eq_true]
  exact⟨i0,fN (fun _ h=>by cases h) _ hrest⟩
theorem bJ.rl(hR:bJ p C m N e)(hrest:aY dQ rest=true)(hr:r0.all dQ=true)(hc:aj P f (.pt 2 0 0 0::rest) (gr m.heap) fun r l=>r=r0/\l=gr h') :
  j7 P f (.pt (hn 5 N.k) 0 0 0::rest) e X r0 fun N' l=>bJ p C { m with heap:=h' } N' l/\N'.k=N.k/\N'.af.c=N.af.c:=by
 obtain⟨h2,h3,h4⟩:=hR.pu (X:=X) hrest hr hc;exact⟨_,_,⟨h2,rfl,rfl⟩,h3,h4⟩
theorem bJ.kJ(hR:bJ p C m N e)(hrest:aY dQ rest=true)(hr:r0.all dQ=true)(hc:aj P f (.pt 2 0 0 0::rest) (gr m.heap) fun r l=>r=r0/\l=gr m.heap):dW P f (.pt (hn 5 N.k) 0 0 0::rest) e r0 e:=by
 obtain⟨h2,h3,h4⟩:=hR.pu (X:=[]) (h':=m.heap) hrest hr hc;have el:hL N m.heap e=e:=by unfold hL;rw[tS hR.hp,tS hR.cells,tS hR.ends]
 rw[el]at h4;exact h4
end MV
theorem gH.fH{r:AV}{H:Hp}(i j k:Nat)(e:TypeId)(sz:Nat){t:TypeId}{cs:List AV}(hi:H.get i=none)(h0:0<sz)(hj:H.get j=some (.var t cs))(hk:cs[k]?=some (.raw (.slice none 0 0))):gH r H r ((H.put i (.aO e sz [])).put j (.var t (cs.set k (.rs i 0 sz 0)))):=fun w v h1 h2=>by
 obtain⟨a,b⟩:=wV h1 hi e h0;have hij:j≠i:=fun e=>by subst e;rw[hi]at hj;cases hj
 obtain⟨a',b'⟩:=AJ (cs':=cs.set k (.rs i 0 sz 0)) a (j:=j) (t:=t) (cs:=cs) (by rw[Hp.bf,if_neg hij];exact hj) jE fun n x x' v hx hx' hv=>by
  rw[List.getElem?_set]at hx';by_cases hn:k=n
  ·subst hn
   rw[if_pos rfl]at hx';split at hx'
   ·cases hx'
    rw[hk]at hx;cases hx;cases hv;exact .iq _ _ _ _ (NW.bY _ _ _ _)
   ·cases hx'
  ·rw[if_neg hn,hx]at hx'
   cases hx';exact hv
 exact⟨w.name i 0 .nil,rfl,a',h2.ext b,(b.trans b').qB⟩
abbrev mP(N:NM):AV:=.pt (hn 3 N.k) 0 0 0
abbrev cP(N:NM):AV:=.pt (hn 0 N.af.c) 0 0 0
def To(p:ab)(C:aF)(m':MV)(N:NM)(N':NM)(l:List (Nat×Row)):Prop:=MV.bJ p C m' N' l/\N'.k=N.k/\N'.af.c=N.af.c
end Go.Gd
namespace Go.Proofs.YtfkgcobaheegbaaGreatDoor
open Go Go.Gd Tryz Go.Gd.MV
section
variable {p:ab}{C:aF}{m:MV}{N:NM}{e:List (Nat×Row)}(X:List Nat)
theorem sd(hR:bJ p C m N e)(h1:1<=m.calls.length)(v:ak)(hb:m.af.stack.length<=1000):j7 prog 171 [cP N,rV v] e X (.bg []) (To p C (m.push v) N):=by
 have hb2:=(hR.af h1).bd;exact hR.cA h1 (c':=m.af.push v) (jk':=N.af.jk.drop 1) (by show(m.af.stack++[v]).length+_<=_;rw[List.length_append,List.length_drop,List.length_singleton];omega) rfl rfl (Lv _ _ _ _ _ _ v jB)
theorem Gy(hR:bJ p C m N e)(h1:1<=m.calls.length)(hb:1<=m.af.stack.length):j7 prog 175 [cP N] e X (rV m.af.last) (To p C (m.cut 1) N):=by
 have hb2:=(hR.af h1).bd;have e1:m.af.stack.take (m.af.stack.length-1)++[m.af.last]=m.af.stack:=by
  unfold MC.last;rw[dN jB,List.take_append_getElem,show m.af.stack.length-1+1=m.af.stack.length from jB,List.take_length]
 have hlt:(m.af.stack.take (m.af.stack.length-1)).length=m.af.stack.length-1:=by rw[List.length_take];omega
 have hc:=Dn m.af.fn m.af.at_ m.af.mark (m.af.stack.take (m.af.stack.length-1)) N.af.jk m.af.slots m.af.last (by rw[hlt];omega);rw[e1]at hc;have hb3:(m.af.cut 1).stack.length+(m.af.last::N.af.jk).length<=2000:=by
  show(m.af.stack.take (m.af.stack.length-1)).length+_<=_;rw[hlt,List.length_cons];omega
 exact hR.cA h1 (c':=m.af.cut 1) hb3 rfl rfl hc
theorem Nv(hR:bJ p C m N e)(h1:1<=m.calls.length)(hb:1<=m.af.stack.length):dW prog 184 [cP N] e (rV m.af.last) e:=by
 have hb2:=(hR.af h1).bd;exact hR.rP h1 rfl rfl (Hc _ _ _ _ _ _ hb jB)
theorem AN(hR:bJ p C m N e)(h1:1<=m.calls.length)(k t:Int)(hk:0<=k/\k<m.af.slots.length)(hb:m.af.slots.length<=1000):dW prog 174 [cP N,rI k,rI t] e (rV (df m.af.slots k t)) e:=
 hR.rP h1 rfl rfl (La _ _ _ _ _ _ k t hk jB)
theorem PU(hR:bJ p C m N e)(a i:Int)(hl:m.heap.length<=1000)(hf:m.heap.flatten.length<=1000):dW prog 180 [.pt (hn 5 N.k) 0 0 0,rI a,rI i] e (.bg [rI (if i<0\/((MV.bo m.heap a).length:Int)<=i then 0 else nth (MV.bo m.heap a) i.toNat),rI (if i<0\/((MV.bo m.heap a).length:Int)<=i then 2 else 0)]) e:=
 hR.kJ rfl rfl (NI m.heap a i hl hf)
theorem Me(hR:bJ p C m N e)(a:Int)(hl:m.heap.length<=1000)(hf:m.heap.flatten.length<=1000):dW prog 179 [.pt (hn 5 N.k) 0 0 0,rI a] e (rI (MV.bo m.heap a).length) e:=
 hR.kJ rfl rfl (M7 m.heap a hl hf)
theorem IC(hR:bJ p C m N e)(a i n:Int)(hl:m.heap.length<=1000)(hf:m.heap.flatten.length<=1000)(hi:¬(i<0\/((MV.bo m.heap a).length:Int)<=i)):j7 prog 181 [.pt (hn 5 N.k) 0 0 0,rI a,rI i,rI n] e X (rI 0) (To p C { m with heap:=m.heap.set (a-1).toNat ((nth m.heap (a-1).toNat).set i.toNat n) } N):=
 hR.rl rfl rfl (P1 m.heap a i n hl hf hi)
theorem JJ(hR:bJ p C m N e)(a i n:Int)(hl:m.heap.length<=1000)(hf:m.heap.flatten.length<=1000)(hi:i<0\/((MV.bo m.heap a).length:Int)<=i):dW prog 181 [.pt (hn 5 N.k) 0 0 0,rI a,rI i,rI n] e (rI 2) e:=
 hR.kJ rfl rfl (NP m.heap a i n hl hf hi)
theorem Io(hR:bJ p C m N e)(n:Int)(h0:0<=n/\n<=16)(hc:fg m.heap+n+1<=40)(hcv:fg m.heap=m.heap.length+m.heap.flatten.length):j7 prog 183 [.pt (hn 5 N.k) 0 0 0,rI n] e X (.bg [rI (m.heap.length+1:Nat),rI 0]) (To p C { m with heap:=m.heap++[List.replicate n.toNat 0] } N):=by
 obtain⟨k,rfl⟩:∃k:Nat,n=k:=⟨n.toNat,jB⟩;rw[Int.toNat_natCast];exact hR.rl rfl rfl (Po m.heap k jB jB)
theorem Ja(hR:bJ p C m N e)(n:Int)(h0:n<0\/16<n)(hl:m.heap.length<=40)(hf:m.heap.flatten.length<=40):dW prog 183 [.pt (hn 5 N.k) 0 0 0,rI n] e (.bg [rI 0,rI 7]) e:=
 hR.kJ rfl rfl (Pf m.heap n h0 hl hf)
theorem Mx(hR:bJ p C m N e)(n:Int)(h0:0<=n/\n<=16)(hc:40<(m.heap.length:Int)+m.heap.flatten.length+n+1)(hl:m.heap.length<=40)(hf:m.heap.flatten.length<=40):dW prog 183 [.pt (hn 5 N.k) 0 0 0,rI n] e (.bg [rI 0,rI 4]) e:=
 hR.kJ rfl rfl (Jc m.heap n h0 hc hl hf)
theorem LC(hR:bJ p C m N e)(h1:1<=m.calls.length):(List.map (fun j=>[AV.pt (hn 0 j) 0 0 0]) (List.map NC.c N.cs)++List.map (fun j=>[AV.pt (hn 0 j) 0 0 0]) N.cj).getD (N.cs.length-1) []=[cP N]:=by
 have hl:=hR.len;rw[<-List.map_append];rw[List.getD_eq_getElem?_getD,List.getElem?_map,List.getElem?_append_left (by rw[List.length_map];omega),List.getElem?_map,List.getElem?_eq_getElem jB];unfold cP NM.af;rw[dN jB];rfl
theorem uY(hR:bJ p C m N e)(h1:1<=m.calls.length):dW prog 82 [mP N] e (cP N) e:=by
 have hlo:=hR.ok.low;have hl:=hR.len;have hb:=hR.bd;have hg:=LC hR h1;refine⟨?_,hR.ok,hR.ok,fun _ h=>h,by simp only[aY,AV.all,gD hR.root,Bool.and_self]⟩;refine aU (L:=ids e) func82 ntmps82 ?_ (hL:=rfl);generalize hB:ids e=B;refine fe ?_
 (have W:=jA hlo (jA hR.root (jA hR.row (hg)));repeat' (first|refine aA fun K hK=>?_|refine aC ?_|(with_reducible refine gR 1 ?_);refine dE 1 [0,1,2,3,4,5,6,7,8,9,10,11,12] mixed ?_|(refine hK _ _ ?_;clear hK K)|(refine aB ?_ ?_<;>intro hc<;>try exact jz)|refine az ?_|exact jI|(clear hK K)));all_goals(try clear W)
 exact fp hB hR.ok hR.ok (tl:=[]) (fun _=>rfl) eF [.tmp 2]
theorem CS{N:NM}{n:NC}(h:1<=N.cs.length):(N.aQ n).af=n:=by
 show nth (N.cs.set _ n) ((N.cs.set _ n).length-1)=n;rw[List.length_set,Go.Gd.bc _ _ _ _ jB,if_pos rfl]
theorem u7(hR:bJ p C m N e)(h1:1<=m.calls.length)(s t:Int):j7 prog 182 [mP N,rI s,rI t] e X (.bg []) (To p C (m.stops s t) N):=by
 have ht:=uY hR h1;have hT:=hR.af h1;have hlo:=hR.ok.low;have hl:=hR.len;have hR0:bJ p C { m with status:=s,bn:=t } N (br e (hn 3 N.k) (.var 122 (mE p C { m with status:=s,bn:=t } N))):=hR.lO rfl rfl rfl;have hn1:=yJ e X 2 0;have hnX:=wZ e X 2 0;generalize qW (ids e++X)+0=k at hn1 hnX;have hn0:aD (br e (hn 3 N.k) (.var 122 (mE p C { m with status:=s,bn:=t } N))) (hn 2 k)=none:=by rw[bR,if_neg (cU jB jB jB)];exact hn1
 have i1:=gD hT.eN;have hR1:bJ p C (m.stops s t) (N.aQ ⟨N.af.c,k,[]⟩) (br (br (br e (hn 3 N.k) (.var 122 (mE p C { m with status:=s,bn:=t } N))) (hn 2 k) (.aO 59 3 [])) (hn 0 N.af.c) (.var 137 (MV.cE m.af.back ⟨N.af.c,k,[]⟩))):=by
  refine hR0.aQ (c':=m.af.back) (n':=⟨N.af.c,k,[]⟩) h1 rfl ?_ ⟨?_,?_,?_,by show 0+0<=2000;omega⟩ (.inr hn0) fun j hj n0 n1 n2=>?_
  ·refine(hR0.ok.put (.inr (hJ _ _)) rfl).put (.inr (hJ _ _)) ?_
   have j1:=gD (hR0.af h1).eN;have q1:=(nU (br e (hn 3 N.k) (.var 122 (mE p C { m with status:=s,bn:=t } N))) (hn 2 k) (hn 2 k) (.aO 59 3 [])).2 (.inl rfl);have q2:=(nU (br e (hn 3 N.k) (.var 122 (mE p C { m with status:=s,bn:=t } N))) (hn 2 k) (hn 1 N.af.c) (.aO 59 3 [])).2 (.inr (List.contains_iff_mem.1 j1));rw[<-List.contains_iff_mem]at q1 q2;simp only[Row.cells,MV.cE,aY,AV.all,q1,q2,Bool.or_true,Bool.and_self]
  ·rw[bR,if_pos rfl]
  ·rw[bR,if_neg (cU jB jB jB),bR,if_pos rfl];rfl
  ·rw[bR,if_neg (cU jB jB jB),bR,if_neg (cU jB jB jB)];exact(hR0.af h1).eN
  ·rw[bR,if_neg n0,bR,if_neg (fun e'=>by subst e';exact hj hn0)]
 have hU:Up X e (br (br (br e (hn 3 N.k) (.var 122 (mE p C { m with status:=s,bn:=t } N))) (hn 2 k) (.aO 59 3 [])) (hn 0 N.af.c) (.var 137 (MV.cE m.af.back ⟨N.af.c,k,[]⟩))):=by
  refine((Up.put _ (.inl ?_)).trans (Up.put _ (.inr hnX))).trans (Up.put _ (.inl ?_))
  ·rw[hR.root];simp
  ·rw[bR,if_neg (cU jB jB jB),bR,if_neg (cU jB jB jB),hT.var];simp
 refine⟨_,_,⟨hR1,rfl,by rw[CS jB]⟩,hU,⟨?_,hR.ok,hR1.ok,hU.aX,by simp only[aY,AV.all,gD hR.root,Bool.and_self]⟩⟩;have k2:=hR1.ok;clear hR1 hU;generalize hE:br (br (br e (hn 3 N.k) (.var 122 (mE p C { m with status:=s,bn:=t } N))) (hn 2 k) (.aO 59 3 [])) (hn 0 N.af.c) (.var 137 (MV.cE m.af.back ⟨N.af.c,k,[]⟩))=E at k2 ⊢;refine aU (L:=ids e) func182 ntmps182 ?_ (hL:=rfl);generalize hB:ids e=B;refine fe ?_
 (have W:=jA hlo (jA hR.root (hT.var));repeat' (first|refine aA fun K hK=>?_|refine aC ?_|(refine hK _ _ ?_;clear hK K)|(refine aB ?_ ?_<;>intro hc<;>try exact jz)|refine cT ht ?_|refine az ?_|exact jI|(clear hK K)));all_goals(try clear W)
 refine HB hB hR.ok k2 (gH.fH (t:=137) (cs:=[.raw (.slice none 0 0),rI m.af.fn,rI m.af.mark,rI m.af.mark,.rs (hn 1 N.af.c) m.af.slots.length 3 m.af.slots.length]) (hn 2 k) (hn 0 N.af.c) 0 59 3 ?_ jC ?_ rfl) (tl:=[]) (fun i=>?_) eF []
 ·show aD (tie _ []) _=_
  simp(disch:=first|omega|assumption|fail) only[go_sem,↓reduceIte,hn1]
 ·show aD (tie _ []) _=_
  simp(disch:=first|omega|assumption|fail) only[go_sem,↓reduceIte,hT.var]
 ·subst hE
  simp only[Hp.put,kT,bR,aD,Option.or_none];by_cases a:i=hn 0 N.af.c
  ·rw[if_pos a,if_pos a];rfl
  ·simp only[if_neg a]
   by_cases b:i=hn 2 k
   ·simp only[if_pos b]
   ·simp only[if_neg b]
    by_cases c:i=hn 3 N.k
    ·simp only[if_pos c];rfl
    ·simp only[if_neg c]
theorem v8(hR:bJ p C m N e)(h1:1<=m.calls.length)(r:ak×Int)(hb:m.af.stack.length<=1000):j7 prog 176 [mP N,rV r.1,rI r.2] e X (.bg []) (To p C (m.dI r) N):=by
 have ht:=uY hR h1;have hlo:=hR.ok.low;have ha:∀v t:AV,v.all dQ=true->t.all dQ=true->aY (fun i=>(ids e).contains i) [mP N,v,t]=true:=fun v t h h'=>by
  simp only[aY,AV.all,gD hR.root,Bool.true_and,Bool.and_true];exact Bool.and_eq_true _ _ ▸ ⟨sP (fun _ h=>by cases h) _ h,sP (fun _ h=>by cases h) _ h'⟩
 unfold MV.dI;by_cases h0:r.2≠0
 ·rw[if_pos h0]
  obtain⟨N',l,hT,hU,hp⟩:=u7 X hR h1 3 r.2;refine⟨N',l,hT,hU,⟨?_,hR.ok,hp.e2,hU.aX,ha _ _ rfl rfl⟩⟩;refine aU (L:=ids e) func176 ntmps176 ?_ (hL:=rfl);generalize hB:ids e=B;refine fe ?_
  (have W:=hlo;repeat' (first|refine aA fun K hK=>?_|refine aC ?_|(refine hK _ _ ?_;clear hK K)|(refine aB ?_ ?_<;>intro hc<;>try exact jz)|refine eW 9 ?_|refine cT hp ?_|refine az ?_|exact jI|(clear hK K)));all_goals(try clear W)
  exact fp hB hR.ok hp.e2 (fun _=>rfl) (eG jC eF) []
 ·rw[if_neg h0]
  have h0:r.2=0:=jB
  obtain⟨N',l,hT,hU,hp⟩:=sd X hR h1 r.1 hb;refine⟨N',l,hT,hU,⟨?_,hR.ok,hp.e2,hU.aX,ha _ _ rfl rfl⟩⟩;refine aU (L:=ids e) func176 ntmps176 ?_ (hL:=rfl);generalize hB:ids e=B;refine fe ?_
  (have W:=jA hlo h0;repeat' (first|refine aA fun K hK=>?_|refine aC ?_|(with_reducible refine gR 3 ?_);refine dC 3 ([],[12],[]) [] [0,1,2,3,4,5] mixed ?_|(refine hK _ _ ?_;clear hK K)|(refine aB ?_ ?_<;>intro hc<;>try exact jz)|refine eW 9 ?_|refine pY ht ?_|refine cT hp ?_|refine az ?_|exact jI|(clear hK K)));all_goals(try clear W)
  exact fp hB hR.ok hp.e2 (fun _=>rfl) (eG jC eF) []
end
end Go.Proofs.YtfkgcobaheegbaaGreatDoor

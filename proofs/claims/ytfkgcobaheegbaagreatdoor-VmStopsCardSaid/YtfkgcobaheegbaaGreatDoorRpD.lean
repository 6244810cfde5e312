/- Lemmas. No conditions. -/
import Derived.Test.YtfkgcobaheegbaaGreatDoorRpA
import Derived.Test.YtfkgcobaheegbaaGreatDoorCmB
set_option linter.all false
set_option maxHeartbeats 4000000
set_option maxRecDepth 10000
namespace Go.Gd
open Go
structure NC where
 c:Nat
 v:Nat
 jk:List ak
 deriving Inhabited
structure NM where
 k:Nat
 cs:List NC
 cj:List Nat
namespace MV
def cE(c:MC)(n:NC):List AV:=[.rs (hn 2 n.v) (c.stack.length+n.jk.length) 3 c.stack.length,.raw (.int .i64 c.fn),.raw (.int .i64 c.at_),.raw (.int .i64 c.mark),.rs (hn 1 n.c) c.slots.length 3 c.slots.length]
def mE(p:ab)(C:aE)(m:MV)(N:NM):List AV:=iN p++[bp cZ 4 C.ins,bp eI 1 C.entry,.rs (hn 4 N.k) (N.cs.length+N.cj.length) 1 N.cs.length,.pt (hn 5 N.k) 0 0 0,.rs (hn 8 N.k) m.ax.length 1 m.ax.length,.raw (.int .i64 m.in_),.raw (.int .i64 m.status),.raw (.int .i64 m.aZ),.raw (.int .i64 m.time)]
structure gQ(c:MC)(n:NC)(e:List (Nat×Row)):Prop where
 var:av e (hn 0 n.c)=some (.var 137 (cE c n))
 cw:av e (hn 2 n.v)=some (.aL 59 3 ((c.stack++n.jk).map cv))
 eP:av e (hn 1 n.c)=some (.aL 59 3 (c.slots.map cv))
 bd:c.stack.length+n.jk.length<=2000
structure bD(p:ab)(C:aE)(m:MV)(N:NM)(e:List (Nat×Row)):Prop where
 ok:eF 0 e
 root:av e (hn 3 N.k)=some (.var 122 (mE p C m N))
 row:av e (hn 4 N.k)=some (.aL 133 1 ((N.cs.map NC.c++N.cj).map fun j=>[.pt (hn 0 j) 0 0 0]))
 hp:av e (hn 5 N.k)=some (.var 197 [.rs (hn 6 N.k) m.heap.flatten.length 1 m.heap.flatten.length,.rs (hn 7 N.k) m.heap.length 1 m.heap.length])
 cells:av e (hn 6 N.k)=some (.aL 3 1 (m.heap.flatten.map eI))
 ends:av e (hn 7 N.k)=some (.aL 3 1 ((jh m.heap).map eI))
 outs:av e (hn 8 N.k)=some (.aL 9 1 (m.ax.map eS))
 len:N.cs.length=m.calls.length
 call:∀k,k<m.calls.length->gQ (nth m.calls k) (nth N.cs k) e
 nc:(N.cs.map NC.c).Nodup
 nv:(N.cs.map NC.v).Nodup
 bd:N.cs.length+N.cj.length<=1000
end MV
def NM.af(N:NM):NC:=nth N.cs (N.cs.length-1)
def NM.aQ(N:NM)(n:NC):NM:={ N with cs:=N.cs.set (N.cs.length-1) n }
attribute [go_sem] MV.cE MV.mE
variable{α:Type}
theorem sI{β:Type}[Inhabited α][Inhabited β](f:α->β)(l:List α)(k:Nat)(h:k<l.length):nth (l.map f) k=f (nth l k):=by rw[dN (by simpa using h),dN h];simp
theorem Ej[Inhabited α]{l:List α}(h:l.Nodup){i j:Nat}(hi:i<l.length)(hj:j<l.length)(e:nth l i=nth l j):i=j:=by rw[dN hi,dN hj]at e;exact(List.getElem_inj h).1 e
theorem IT[Inhabited α]{l:List α}(h:l.Nodup){i:Nat}(hi:i<l.length){v:α}(hv:∀j,j<l.length->j≠i->nth l j≠v):(l.set i v).Nodup:=by
 unfold List.Nodup;rw[List.pairwise_iff_getElem];intro a b ha hb hab e;rw[List.length_set]at ha hb;rw[List.getElem_set,List.getElem_set]at e;split at e<;>split at e
 ·omega
 ·rename_i h1 h2;exact hv b hb jB (by rw[dN hb];exact e.symm)
 ·rename_i h1 h2;exact hv a jB jB (by rw[dN jB];exact e)
 ·have:=(List.getElem_inj h).1 e;omega
namespace MV
variable {p:ab}{C:aE}{m:MV}{N:NM}{e:List (Nat×Row)}
theorem bD.af(h:bD p C m N e)(h1:1<=m.calls.length):gQ m.af N.af e:=by have:=h.call (m.calls.length-1) jB;unfold NM.af MV.af;rw[h.len];exact this
theorem bD.ne{k j:Nat}(h:bD p C m N e)(hk:k<N.cs.length)(hj:j<N.cs.length)(hkj:k≠j):(nth N.cs k).c≠(nth N.cs j).c/\(nth N.cs k).v≠(nth N.cs j).v:=by
 constructor
 ·intro e';exact hkj (Ej h.nc (by simpa using hk) (by simpa using hj) (by rw[sI _ _ _ hk,sI _ _ _ hj];exact e'))
 ·intro e';exact hkj (Ej h.nv (by simpa using hk) (by simpa using hj) (by rw[sI _ _ _ hk,sI _ _ _ hj];exact e'))
theorem bD.aQ(hR:bD p C m N e)(h1:1<=m.calls.length){c':MC}{n':NC}{e':List (Nat×Row)}(hnc:n'.c=N.af.c)(ok:eF 0 e')(hc:gQ c' n' e')(hv:n'.v=N.af.v\/av e (hn 2 n'.v)=none)
  (hs:∀j,av e j≠none->j≠hn 0 N.af.c->j≠hn 1 N.af.c->j≠hn 2 N.af.v->av e' j=av e j):bD p C (m.aQ c') (N.aQ n') e':=by
 have hl:=hR.len;have kind:∀(a k:Nat) (r:Row),2<a->a<32->av e (hn a k)=some r->av e' (hn a k)=some r:=fun a k r h2 h16 h=>by rw[hs _ (by rw[h];simp) (db h16 jB jB) (db h16 jB jB) (db h16 jB jB)];exact h
 have cs:(N.aQ n').cs.map NC.c=N.cs.map NC.c:=by show(N.cs.set _ n').map NC.c=_;rw[List.map_set,hnc];unfold NM.af;rw[<-sI NC.c N.cs _ jB,dN (by rw[List.length_map];omega),List.set_getElem_self]
 have ln:(N.aQ n').cs.length=N.cs.length:=by show(N.cs.set _ n').length=_;simp
 have nu:∀k,nth (N.aQ n').cs k=if k=N.cs.length-1 then n' else nth N.cs k:=fun k=>Go.Gd.bh _ _ _ _ jB
 have mu:∀k,nth (m.aQ c').calls k=if k=m.calls.length-1 then c' else nth m.calls k:=fun k=>Go.Gd.bh _ _ _ _ jB
 have ml:(m.aQ c').calls.length=m.calls.length:=by show(m.calls.set _ c').length=_;simp
 refine⟨ok,?_,?_,kind 5 _ _ jB jB hR.hp,kind 6 _ _ jB jB hR.cells,kind 7 _ _ jB jB hR.ends,kind 8 _ _ jB jB hR.outs,by rw[ln,ml];exact hl,fun k hk=>?_,by rw[cs];exact hR.nc,?_,by rw[ln];exact hR.bd⟩
 ·rw[show mE p C (m.aQ c') (N.aQ n')=mE p C m N by unfold mE;rw[ln];rfl];exact kind 3 _ _ jB jB hR.root
 ·rw[cs];exact kind 4 _ _ jB jB hR.row
 ·rw[ml]at hk;rw[nu,mu,hl];by_cases ek:k=m.calls.length-1
  ·rw[if_pos ek,if_pos ek];exact hc
  ·rw[if_neg ek,if_neg ek];have hca:=hR.call k hk;obtain⟨n1,n2⟩:=hR.ne (k:=k) (j:=N.cs.length-1) jB jB jB;have n1:(nth N.cs k).c≠N.af.c:=n1;have n2:(nth N.cs k).v≠N.af.v:=n2;exact⟨by rw[hs _ (by rw[hca.var];simp) (fun e=>n1 (wG jB jB e).2) (db jB jB jB) (db jB jB jB)];exact hca.var,
    by rw[hs _ (by rw[hca.cw];simp) (db jB jB jB) (db jB jB jB) (fun e=>n2 (wG jB jB e).2)];exact hca.cw,
    by rw[hs _ (by rw[hca.eP];simp) (db jB jB jB) (fun e=>n1 (wG jB jB e).2) (db jB jB jB)];exact hca.eP,hca.bd⟩
 ·show((N.cs.set _ n').map NC.v).Nodup;rw[List.map_set];refine IT hR.nv (by rw[List.length_map];omega) fun j hj hj2 e'=>?_
  rw[List.length_map]at hj;rw[sI _ _ _ hj]at e';rcases hv with hv|hv
  ·rw[hv]at e';exact(hR.ne hj jB hj2).2 e'
  ·have hca:=(hR.call j jB).cw;rw[e',hv]at hca;cases hca
theorem bD.mf(hR:bD p C m N e){m':MV}(h1:m'.calls=m.calls)(h2:m'.heap=m.heap)(h3:m'.ax=m.ax):bD p C m' N (br e (hn 3 N.k) (.var 122 (mE p C m' N))):=by
 have kind:∀(a k:Nat) (r:Row),a≠3->a<32->av e (hn a k)=some r->av (br e (hn 3 N.k) (.var 122 (mE p C m' N))) (hn a k)=some r:=fun a k r h3 h16 h=>by rw[bM,if_neg (db h16 jB h3)];exact h
 refine⟨hR.ok.put (.inr (iw _ _)) ?_,by rw[bM,if_pos rfl],kind _ _ _ jB jB hR.row,?_,?_,?_,?_,by rw[h1];exact hR.len,fun k hk=>?_,hR.nc,hR.nv,hR.bd⟩
 ·have c4:=gG hR.row;have c5:=gG hR.hp;have c8:=gG hR.outs;have up:aW (fun j=>decide (j=hn 3 N.k) || (ids e).contains j) (iN p)=true:=fh (q:=dY) (fun _ h=>by cases h) _ rfl;unfold mE;simp only[Row.cells];rw[qD,up];simp only[aW,AV.all,c4,c5,c8,Bool.or_true,Bool.and_self,bp]
 ·rw[h2];exact kind _ _ _ jB jB hR.hp
 ·rw[h2];exact kind _ _ _ jB jB hR.cells
 ·rw[h2];exact kind _ _ _ jB jB hR.ends
 ·rw[h3];exact kind _ _ _ jB jB hR.outs
 ·rw[h1]at hk ⊢;have hc:=hR.call k hk;exact⟨kind _ _ _ jB jB hc.var,kind _ _ _ jB jB hc.cw,kind _ _ _ jB jB hc.eP,hc.bd⟩
end MV
def kE(fn at_ mark:Int)(vs jk slots:List ak):List (Nat×Row):=[(6,.var 137 [.rs 7 (vs.length+jk.length) 3 vs.length,.raw (.int .i64 fn),.raw (.int .i64 at_),.raw (.int .i64 mark),.rs 8 slots.length 3 slots.length]),(7,.aL 59 3 ((vs++jk).map cv)),(8,.aL 59 3 (slots.map cv))]
attribute [go_sem] kE
end Go.Gd
namespace Go.Proofs.YtfkgcobaheegbaaGreatDoor
open Go Go.Gd Tryz
theorem QJ(fn at_ mark:Int)(vs jk slots:List ak)(v:ak)(hL:¬(100000<vs.length+jk.length)):aj prog 171 [.pt 6 0 0 0,rV v] (kE fn at_ mark vs jk slots) (fun r l=>r=.bj []/\l=kE fn at_ mark (vs++[v]) (jk.drop 1) slots):=by
 refine aT func171 ntmps171 ?_
 (refine S ?_;try exact jI)
 (repeat' (first|refine aB fun K hK=>?_|refine aC ?_|(with_reducible refine gR 1 ?_);refine dE 1 [0,1,2,3,4,5,6,7,8,9,10] mixed ?_|(refine hK _ _ ?_;clear hK K)|(refine aA ?_ ?_<;>intro hc<;>try exact jz)|refine fa 9 ?_|refine qN vs jk [v] ?_|refine aD ?_|exact jI|(clear hK K)))
 (refine bH [] ?_;try simp only[go_sem])
theorem HD(fn at_ mark:Int)(vs jk slots:List ak)(h1:1<=vs.length)(hL:¬(100000<vs.length+jk.length)):aj prog 184 [.pt 6 0 0 0] (kE fn at_ mark vs jk slots) (fun r l=>r=rV (nth vs (vs.length-1))/\l=kE fn at_ mark vs jk slots):=by
 refine aT func184 ntmps184 ?_
 (refine S ?_;try exact jI)
 (repeat' (first|refine aB fun K hK=>?_|refine aC ?_|(with_reducible refine gR 1 ?_);refine dE 1 [0,1,2,3,4,5,6,7,8,9,10,11,12] mixed ?_|(refine hK _ _ ?_;clear hK K)|(refine aA ?_ ?_<;>intro hc<;>try exact jz)|refine al 9 ?_|refine aD ?_|exact jI|(clear hK K)))
 (refine bH [.cell 2 59] ?_;try simp only[go_sem])
theorem H4(fn at_ mark:Int)(vs jk slots:List ak)(v:ak)(hL:¬(100000<vs.length+1+jk.length)):aj prog 175 [.pt 6 0 0 0] (kE fn at_ mark (vs++[v]) jk slots) (fun r l=>r=rV v/\l=kE fn at_ mark vs (v::jk) slots):=by
 have hla:=HD fn at_ mark (vs++[v]) jk slots jE (by rw[List.length_append,List.length_singleton];omega);rw[show nth (vs++[v]) ((vs++[v]).length-1)=v by simp[nth]]at hla;have e:(vs++[v])++jk=vs++(v::jk):=jE;have e2:((vs++[v]).length:Int)-1=vs.length:=jE;have e3:(vs++[v]).length=vs.length+1:=jE;have e4:vs.length+(v::jk).length=vs.length+1+jk.length:=by simp only[List.length_cons];omega
 unfold kE at hla ⊢;rw[e,e3]at hla ⊢;rw[e4];refine aT func175 ntmps175 ?_
 (refine S ?_;try exact jI)
 (repeat' (first|refine aB fun K hK=>?_|refine aC ?_|(with_reducible refine gR 2 ?_);refine dE 2 [0,1,2,3,4,5,6,7,8,9,10,11,12,13,14] mixed ?_|(refine hK _ _ ?_;clear hK K)|(refine aA ?_ ?_<;>intro hc<;>try exact jz)|refine al 9 ?_|refine al 10 ?_|refine cm (hla) ?_|refine aD ?_|exact jI|(clear hK K)))
 refine bH [.cell 2 59] rfl (h2:=?_);simp[eu,mH]
theorem KF(fn at_ mark:Int)(vs jk slots:List ak)(k t:Int)(hk:0<=k/\k<slots.length)(hL:¬(100000<slots.length)):aj prog 174 [.pt 6 0 0 0,rI k,rI t] (kE fn at_ mark vs jk slots) (fun r l=>r=rV (dp slots k t)/\l=kE fn at_ mark vs jk slots):=by
 refine aT func174 ntmps174 ?_
 (refine S ?_;try exact jI)
 (repeat' (first|refine aB fun K hK=>?_|refine aC ?_|(refine hK _ _ ?_;clear hK K)|(refine aA ?_ ?_<;>intro hc<;>try exact jz)|refine al 9 ?_|refine al 10 ?_|refine cp (BD _) ?_|(first|refine cg (G6 _) ?_|refine xH (G6 _) ?_)|refine aD ?_|exact jI|(clear hK K)))
 all_goals(refine bH [.cell 6 59] ?_;try simp only[go_sem])
 all_goals(unfold dp;(repeat' split)<;>first|rfl|omega|(exfalso;simp_all;done)|(simp_all;done)|skip)
end Go.Proofs.YtfkgcobaheegbaaGreatDoor
namespace Go.Gd
open Go
mutual
theorem xr{f:Nat->Nat}:∀a:AV,a.all dY=true->a.bU f=a
 |.raw _,_=>by simp only[AV.bU]
 |.any,_=>by simp only[AV.bU]
 |.agg cs,h=>by simp only[AV.all]at h;simp only[AV.bU,sd cs h]
 |.bj cs,h=>by simp only[AV.all]at h;simp only[AV.bU,sd cs h]
 |.sl _ _ _ _,_=>by simp only[AV.bU]
 |.ip _,_=>by simp only[AV.bU]
 |.gd _ v,h=>by simp only[AV.all]at h;simp only[AV.bU,xr v h]
 |.fQ _ cs,h=>by simp only[AV.all]at h;simp only[AV.bU,sd cs h]
 |.pt _ _ _ _,h=>by simp only[AV.all]at h;cases h
 |.rs _ _ _ _,h=>by simp only[AV.all]at h;cases h
 |.rv _ _ _ _ _,h=>by simp only[AV.all]at h;cases h
 |.mr _,h=>by simp only[AV.all]at h;cases h
 |.bd _ fs,h=>by simp only[AV.all]at h;simp only[AV.bU,sd fs h]
 |.kH _ v,h=>by simp only[AV.all]at h;simp only[AV.bU,xr v h]
theorem sd{f:Nat->Nat}:∀l:List AV,aW dY l=true->fc f l=l
 |[],_=>rfl
 |a::l,h=>by simp only[aW,Bool.and_eq_true]at h;simp only[fc,xr a h.1,sd l h.2]
end
theorem vp{f:Nat->Nat}{α:Type}{enc:α->List AV}{sz:Nat}[he:bG enc sz](l:List α):(l.map enc).map (fc f)=l.map enc:=by rw[List.map_map];exact List.map_congr_left fun x _=>sd _ (he.free x)
def oH(x y z a b c:Nat)(i:Nat):Nat:=if i=x then a else if i=y then b else if i=z then c else i+(a+b+c+1)
def xE(x y z a b c:Nat)(j:Nat):Nat:=if j=a then x else if j=b then y else if j=c then z else j-(a+b+c+1)
theorem HE{x y z a b c:Nat}(h1:a≠b)(h2:a≠c)(h3:b≠c)(i:Nat):xE x y z a b c (oH x y z a b c i)=i:=by
 unfold oH;split
 ·rename_i e;unfold xE;rw[if_pos rfl];exact e.symm
 ·split
  ·rename_i e;unfold xE;rw[if_neg (fun e=>h1 e.symm),if_pos rfl];exact e.symm
  ·split
   ·rename_i e;unfold xE;rw[if_neg (fun e=>h2 e.symm),if_neg (fun e=>h3 e.symm),if_pos rfl];exact e.symm
   ·unfold xE;rw[jN,jN,jN];omega
mutual
theorem BT{f:Nat->Nat}{q q':Nat->Bool}(h:∀i,q i=true->q' (f i)=true):∀a:AV,a.all q=true->(a.bU f).all q'=true
 |.raw _,_=>by simp only[AV.bU,AV.all]
 |.any,_=>by simp only[AV.bU,AV.all]
 |.agg cs,k=>by simp only[AV.all]at k;simp only[AV.bU,AV.all];exact vG h cs k
 |.bj cs,k=>by simp only[AV.all]at k;simp only[AV.bU,AV.all];exact vG h cs k
 |.sl _ _ _ _,_=>by simp only[AV.bU,AV.all]
 |.ip _,_=>by simp only[AV.bU,AV.all]
 |.gd _ v,k=>by simp only[AV.all]at k;simp only[AV.bU,AV.all];exact BT h v k
 |.fQ _ cs,k=>by simp only[AV.all]at k;simp only[AV.bU,AV.all];exact vG h cs k
 |.pt i _ _ _,k=>by simp only[AV.all]at k;simp only[AV.bU,AV.all];exact h i k
 |.rs i _ _ _,k=>by simp only[AV.all]at k;simp only[AV.bU,AV.all];exact h i k
 |.rv i _ _ _ _,k=>by simp only[AV.all]at k;simp only[AV.bU,AV.all];exact h i k
 |.mr i,k=>by simp only[AV.all]at k;simp only[AV.bU,AV.all];exact h i k
 |.bd _ fs,k=>by simp only[AV.all]at k;simp only[AV.bU,AV.all];exact vG h fs k
 |.kH _ v,k=>by simp only[AV.all]at k;simp only[AV.bU,AV.all];exact BT h v k
theorem vG{f:Nat->Nat}{q q':Nat->Bool}(h:∀i,q i=true->q' (f i)=true):∀l:List AV,aW q l=true->aW q' (fc f l)=true
 |[],_=>rfl
 |a::l,k=>by simp only[aW,Bool.and_eq_true]at k;simp only[fc,aW,Bool.and_eq_true];exact⟨BT h a k.1,vG h l k.2⟩
end
theorem aj.at{P:Program}{f:FuncId}{args:List AV}{s s' e:List (Nat×Row)}{r0:AV}{ρ g:Nat->Nat}(hg:∀i,g (ρ i)=i)(hc:aj P f args s fun r l=>r=r0/\l=s')(hs:∀i r,av s i=some r->av e (ρ i)=some (r.bU ρ))(ha:aW (fun i=>(ids s).contains i) args=true)
  (hcl:∀i r,av s i=some r->aW (fun i=>(ids s).contains i) r.cells=true) (hn:(ids s').Nodup) (hs':∀i∈ids s',i∈ids s):aj P f (fc ρ args) e fun r l=>r=r0.bU ρ/\l=gZ e (lg ρ s'):=by
 have mem:∀i,(ids s).contains i=true->(ids (lg ρ s)).contains (ρ i)=true:=fun i hi=>by rw[yL,List.contains_iff_mem];exact List.mem_map_of_mem (List.contains_iff_mem.1 hi)
 have up:∀l:List AV,aW (fun i=>(ids s).contains i) l=true->aW (fun i=>(ids (lg ρ s)).contains i) (fc ρ l)=true:=fun l h=>vG mem l h
 have:=aj.more (e:=e) (aj.bU hg hc) (fun i r hi=>?_) (up _ ha) (fun i r hi=>?_) (fun r l hR=>?_)
 ·refine this.mono fun r l ⟨l0,⟨r1,l1,e1,e2,e3,e4⟩,e5⟩=>?_
  rw[e1,e3,e5,e2,e4];exact⟨rfl,rfl⟩
 ·obtain⟨j,r0,rfl,rfl,h3⟩:=wE hg hi;exact hs j r0 h3
 ·obtain⟨j,r0,rfl,rfl,h3⟩:=wE hg hi;rw[Row.gD];exact up _ (hcl j r0 h3)
 ·obtain⟨r1,l1,e1,e2,e3,e4⟩:=hR;subst e2 e4;refine⟨?_,fun i hi=>.inl ?_⟩
  ·rw[yL];exact hn.map _ (fun a b h1 h2=>h1 (by rw[<-hg a,<-hg b,h2]))
  ·obtain⟨r,hr⟩:=Option.ne_none_iff_exists'.1 hi;obtain⟨j,r0,rfl,rfl,h3⟩:=wE hg hr;obtain⟨x,hx⟩:=Option.ne_none_iff_exists'.1 ((gX _ _).1 (hs' j ((gX _ _).2 (by rw[h3];simp))));rw[yI hg,hx];simp
def kv(P:Program)(f:FuncId)(args:List AV)(e:List (Nat×Row))(X:List Nat)(r0:AV)(Q:NM->List (Nat×Row)->Prop):Prop:=∃N' l,Q N' l/\Up X e l/\du P f args e r0 l
namespace MV
variable {p:ab}{C:aE}{m:MV}{N:NM}{e:List (Nat×Row)}{P:Program}{f:FuncId}{rest:List AV}{r0:AV}{X:List Nat}
def kL(N:NM)(c':MC)(jk':List ak)(e:List (Nat×Row)):List (Nat×Row):=br (br (br e (hn 0 N.af.c) (.var 137 (cE c' ⟨N.af.c,N.af.v,jk'⟩))) (hn 2 N.af.v) (.aL 59 3 ((c'.stack++jk').map cv))) (hn 1 N.af.c) (.aL 59 3 (c'.slots.map cv))
theorem bD.mX(hR:bD p C m N e)(h1:1<=m.calls.length){c':MC}{jk':List ak}(hb:c'.stack.length+jk'.length<=2000)(hrest:aW dY rest=true)(hr:r0.all dY=true)
  (hc:aj P f (.pt 6 0 0 0::rest) (kE m.af.fn m.af.at_ m.af.mark m.af.stack N.af.jk m.af.slots) fun r l=>r=r0/\l=kE c'.fn c'.at_ c'.mark c'.stack jk' c'.slots) :
  (bD p C (m.aQ c') (N.aQ ⟨N.af.c,N.af.v,jk'⟩) (kL N c' jk' e)/\(N.aQ ⟨N.af.c,N.af.v,jk'⟩).af.c=N.af.c)/\Up X e (kL N c' jk' e)/\du P f (.pt (hn 0 N.af.c) 0 0 0::rest) e r0 (kL N c' jk' e):=by
 have ht:=hR.af h1;unfold kL;have a1:hn 0 N.af.c≠hn 2 N.af.v:=db jB jB jB;have a2:hn 0 N.af.c≠hn 1 N.af.c:=db jB jB jB;have a3:hn 2 N.af.v≠hn 1 N.af.c:=db jB jB jB;have q6:oH 6 7 8 (hn 0 N.af.c) (hn 2 N.af.v) (hn 1 N.af.c) 6=hn 0 N.af.c:=rfl;have q7:oH 6 7 8 (hn 0 N.af.c) (hn 2 N.af.v) (hn 1 N.af.c) 7=hn 2 N.af.v:=rfl;have q8:oH 6 7 8 (hn 0 N.af.c) (hn 2 N.af.v) (hn 1 N.af.c) 8=hn 1 N.af.c:=rfl;have ea:fc (oH 6 7 8 (hn 0 N.af.c) (hn 2 N.af.v) (hn 1 N.af.c)) (.pt 6 0 0 0::rest)=.pt (hn 0 N.af.c) 0 0 0::rest:=by simp only[fc,AV.bU,q6,sd _ hrest]
 have el:gZ e (lg (oH 6 7 8 (hn 0 N.af.c) (hn 2 N.af.v) (hn 1 N.af.c)) (kE c'.fn c'.at_ c'.mark c'.stack jk' c'.slots))=br (br (br e (hn 0 N.af.c) (.var 137 (cE c' ⟨N.af.c,N.af.v,jk'⟩))) (hn 2 N.af.v) (.aL 59 3 ((c'.stack++jk').map cv))) (hn 1 N.af.c) (.aL 59 3 (c'.slots.map cv)):=by simp only[kE,lg,List.map_cons,List.map_nil,gZ,q6,q7,q8,Row.bU,fc,AV.bU,vp (enc:=cv) (sz:=3),cE]
 have i0:=gG ht.var;have i1:=gG ht.eP;have i2:=gG ht.cw;have no:∀l:List ak,aW dY ((l.map cv).flatten)=true:=fun l=>o3 (lJ (enc:=cv) (sz:=3) _)
 have hl:=hR.len;have hrep:bD p C (m.aQ c') (N.aQ ⟨N.af.c,N.af.v,jk'⟩) (br (br (br e (hn 0 N.af.c) (.var 137 (cE c' ⟨N.af.c,N.af.v,jk'⟩))) (hn 2 N.af.v) (.aL 59 3 ((c'.stack++jk').map cv))) (hn 1 N.af.c) (.aL 59 3 (c'.slots.map cv))):=by
  refine hR.aQ h1 rfl ?_ ⟨?_,?_,?_,hb⟩ (.inl rfl) fun j hj n0 n1 n2=>?_
  ·refine((hR.ok.put (.inr (iw _ _)) ?_).put (.inr (iw _ _)) ?_).put (.inr (iw _ _)) ?_
   ·simp only[Row.cells,cE,aW,AV.all,i1,i2,Bool.or_true,Bool.and_self]
   ·exact fh (fun _ h=>by cases h) _ (no _)
   ·exact fh (fun _ h=>by cases h) _ (no _)
  ·rw[bM,if_neg a2,bM,if_neg a1,bM,if_pos rfl]
  ·rw[bM,if_neg a3,bM,if_pos rfl]
  ·rw[bM,if_pos rfl]
  ·rw[bM,if_neg n1,bM,if_neg n2,bM,if_neg n0]
 have hup:Up X e (br (br (br e (hn 0 N.af.c) (.var 137 (cE c' ⟨N.af.c,N.af.v,jk'⟩))) (hn 2 N.af.v) (.aL 59 3 ((c'.stack++jk').map cv))) (hn 1 N.af.c) (.aL 59 3 (c'.slots.map cv))):=by
  refine((Up.put _ (.inl ?_)).trans (Up.put _ (.inl ?_))).trans (Up.put _ (.inl ?_))
  ·rw[ht.var];simp
  ·rw[bM,if_neg (fun e=>a1 e.symm),ht.cw];simp
  ·rw[bM,if_neg (fun e=>a3 e.symm),bM,if_neg (fun e=>a2 e.symm),ht.eP];simp
 refine⟨⟨hrep,?_⟩,hup,⟨?_,hR.ok,hrep.ok,hup.aY,?_⟩⟩
 ·show(nth (N.cs.set _ _) ((N.cs.set _ _).length-1)).c=_;rw[List.length_set,Go.Gd.bh _ _ _ _ jB,if_pos rfl]
 ·rw[<-ea,<-el];refine(aj.at (e:=e) (HE a1 a2 a3) hc (fun i r h=>?_) ?_ (fun i r h=>?_) ?_ (fun i h=>h)).mono fun r l ⟨e1,e2⟩=>⟨by rw[e1,xr _ hr],e2⟩
  ·simp only[kE,av]at h;split at h
   ·rename_i ei;subst ei;cases h;rw[q6,ht.var];simp only[cE,Row.bU,fc,AV.bU,q7,q8]
   ·split at h
    ·rename_i ei;subst ei;cases h;rw[q7,ht.cw];simp only[Row.bU,vp (enc:=cv) (sz:=3)]
    ·split at h
     ·rename_i ei;subst ei;cases h;rw[q8,ht.eP];simp only[Row.bU,vp (enc:=cv) (sz:=3)]
     ·cases h
  ·simp only[aW,Bool.and_eq_true];exact⟨rfl,fh (fun _ h=>by cases h) _ hrest⟩
  ·simp only[kE,av]at h;split at h
   ·cases h;rfl
   ·split at h
    ·cases h;exact fh (q:=dY) (fun _ h=>by cases h) _ (no _)
    ·split at h
     ·cases h;exact fh (q:=dY) (fun _ h=>by cases h) _ (no _)
     ·cases h
  ·show([6,7,8]:List Nat).Nodup;decide
 ·simp only[aW,Bool.and_eq_true];exact⟨i0,fh (fun _ h=>by cases h) _ hrest⟩
theorem bD.cC(hR:bD p C m N e)(h1:1<=m.calls.length){c':MC}{jk':List ak}(hb:c'.stack.length+jk'.length<=2000)(hrest:aW dY rest=true)(hr:r0.all dY=true)
  (hc:aj P f (.pt 6 0 0 0::rest) (kE m.af.fn m.af.at_ m.af.mark m.af.stack N.af.jk m.af.slots) fun r l=>r=r0/\l=kE c'.fn c'.at_ c'.mark c'.stack jk' c'.slots) :
  kv P f (.pt (hn 0 N.af.c) 0 0 0::rest) e X r0 fun N' l=>bD p C (m.aQ c') N' l/\N'.k=N.k/\N'.af.c=N.af.c:=by
 obtain⟨h2,h3,h4⟩:=hR.mX (X:=X) h1 hb hrest hr hc;exact⟨_,_,⟨h2.1,rfl,h2.2⟩,h3,h4⟩
theorem bD.rJ(hR:bD p C m N e)(h1:1<=m.calls.length)(hrest:aW dY rest=true)(hr:r0.all dY=true)
  (hc:aj P f (.pt 6 0 0 0::rest) (kE m.af.fn m.af.at_ m.af.mark m.af.stack N.af.jk m.af.slots) fun r l=>r=r0/\l=kE m.af.fn m.af.at_ m.af.mark m.af.stack N.af.jk m.af.slots):du P f (.pt (hn 0 N.af.c) 0 0 0::rest) e r0 e:=by
 have ht:=hR.af h1;obtain⟨h2,h3,h4⟩:=hR.mX (X:=[]) (c':=m.af) (jk':=N.af.jk) h1 ht.bd hrest hr hc;have el:kL N m.af N.af.jk e=e:=by unfold kL;have e0:(⟨N.af.c,N.af.v,N.af.jk⟩:NC)=N.af:=rfl;rw[e0,tQ ht.var,tQ ht.cw,tQ ht.eP]
 rw[el]at h4;exact h4
variable{h':List (List Int)}
theorem bD.ns(hR:bD p C m N e){e':List (Nat×Row)}(ok:eF 0 e')(h1:av e' (hn 5 N.k)=some (.var 197 [.rs (hn 6 N.k) h'.flatten.length 1 h'.flatten.length,.rs (hn 7 N.k) h'.length 1 h'.length]))
  (h2:av e' (hn 6 N.k)=some (.aL 3 1 (h'.flatten.map eI))) (h3:av e' (hn 7 N.k)=some (.aL 3 1 ((jh h').map eI))) (hs:∀j,j≠hn 5 N.k->j≠hn 6 N.k->j≠hn 7 N.k->av e' j=av e j):bD p C { m with heap:=h' } N e':=by
 have kind:∀(a k:Nat) (r:Row),a≠5->a≠6->a≠7->a<32->av e (hn a k)=some r->av e' (hn a k)=some r:=fun a k r h5 h6 h7 h16 h=>by rw[hs _ (db h16 jB h5) (db h16 jB h6) (db h16 jB h7)];exact h
 exact⟨ok,kind _ _ _ jB jB jB jB hR.root,kind _ _ _ jB jB jB jB hR.row,h1,h2,h3,kind _ _ _ jB jB jB jB hR.outs,hR.len,fun k hk=> ⟨kind _ _ _ jB jB jB jB (hR.call k hk).var,kind _ _ _ jB jB jB jB (hR.call k hk).cw,kind _ _ _ jB jB jB jB (hR.call k hk).eP,(hR.call k hk).bd⟩,hR.nc,hR.nv,hR.bd⟩
def hL(N:NM)(h':List (List Int))(e:List (Nat×Row)):List (Nat×Row):=br (br (br e (hn 5 N.k) (.var 197 [.rs (hn 6 N.k) h'.flatten.length 1 h'.flatten.length,.rs (hn 7 N.k) h'.length 1 h'.length])) (hn 6 N.k) (.aL 3 1 (h'.flatten.map eI))) (hn 7 N.k) (.aL 3 1 ((jh h').map eI))
theorem bD.pJ(hR:bD p C m N e)(hrest:aW dY rest=true)(hr:r0.all dY=true)(hc:aj P f (.pt 2 0 0 0::rest) (gx m.heap) fun r l=>r=r0/\l=gx h') :
  bD p C { m with heap:=h' } N (hL N h' e)/\Up X e (hL N h' e)/\du P f (.pt (hn 5 N.k) 0 0 0::rest) e r0 (hL N h' e):=by
 unfold hL;have a1:hn 5 N.k≠hn 6 N.k:=db jB jB jB;have a2:hn 5 N.k≠hn 7 N.k:=db jB jB jB;have a3:hn 6 N.k≠hn 7 N.k:=db jB jB jB;have q6:oH 2 3 4 (hn 5 N.k) (hn 6 N.k) (hn 7 N.k) 2=hn 5 N.k:=rfl;have q7:oH 2 3 4 (hn 5 N.k) (hn 6 N.k) (hn 7 N.k) 3=hn 6 N.k:=rfl;have q8:oH 2 3 4 (hn 5 N.k) (hn 6 N.k) (hn 7 N.k) 4=hn 7 N.k:=rfl;have ea:fc (oH 2 3 4 (hn 5 N.k) (hn 6 N.k) (hn 7 N.k)) (.pt 2 0 0 0::rest)=.pt (hn 5 N.k) 0 0 0::rest:=by simp only[fc,AV.bU,q6,sd _ hrest]
 have el:gZ e (lg (oH 2 3 4 (hn 5 N.k) (hn 6 N.k) (hn 7 N.k)) (gx h'))=br (br (br e (hn 5 N.k) (.var 197 [.rs (hn 6 N.k) h'.flatten.length 1 h'.flatten.length,.rs (hn 7 N.k) h'.length 1 h'.length])) (hn 6 N.k) (.aL 3 1 (h'.flatten.map eI))) (hn 7 N.k) (.aL 3 1 ((jh h').map eI)):=by simp only[gx,lg,List.map_cons,List.map_nil,gZ,q6,q7,q8,Row.bU,fc,AV.bU,vp (enc:=eI) (sz:=1)]
 have i0:=gG hR.hp;have i1:=gG hR.cells;have i2:=gG hR.ends;have no:∀l:List Int,aW dY ((l.map eI).flatten)=true:=fun l=>o3 (lJ (enc:=eI) (sz:=1) _)
 have hrep:bD p C { m with heap:=h' } N (br (br (br e (hn 5 N.k) (.var 197 [.rs (hn 6 N.k) h'.flatten.length 1 h'.flatten.length,.rs (hn 7 N.k) h'.length 1 h'.length])) (hn 6 N.k) (.aL 3 1 (h'.flatten.map eI))) (hn 7 N.k) (.aL 3 1 ((jh h').map eI))):=by
  refine hR.ns ?_ ?_ ?_ ?_ fun j n0 n1 n2=>?_
  ·refine((hR.ok.put (.inr (iw _ _)) ?_).put (.inr (iw _ _)) ?_).put (.inr (iw _ _)) ?_
   ·simp only[Row.cells,aW,AV.all,i1,i2,Bool.or_true,Bool.and_self]
   ·exact fh (fun _ h=>by cases h) _ (no _)
   ·exact fh (fun _ h=>by cases h) _ (no _)
  ·rw[bM,if_neg a2,bM,if_neg a1,bM,if_pos rfl]
  ·rw[bM,if_neg a3,bM,if_pos rfl]
  ·rw[bM,if_pos rfl]
  ·rw[bM,if_neg n2,bM,if_neg n1,bM,if_neg n0]
 have hup:Up X e (br (br (br e (hn 5 N.k) (.var 197 [.rs (hn 6 N.k) h'.flatten.length 1 h'.flatten.length,.rs (hn 7 N.k) h'.length 1 h'.length])) (hn 6 N.k) (.aL 3 1 (h'.flatten.map eI))) (hn 7 N.k) (.aL 3 1 ((jh h').map eI))):=by
  refine((Up.put _ (.inl ?_)).trans (Up.put _ (.inl ?_))).trans (Up.put _ (.inl ?_))
  ·rw[hR.hp];simp
  ·rw[bM,if_neg (fun e=>a1 e.symm),hR.cells];simp
  ·rw[bM,if_neg (fun e=>a3 e.symm),bM,if_neg (fun e=>a2 e.symm),hR.ends];simp
 refine⟨hrep,hup,⟨?_,hR.ok,hrep.ok,hup.aY,?_⟩⟩
 ·rw[<-ea,<-el];refine(aj.at (e:=e) (HE a1 a2 a3) hc (fun i r h=>?_) ?_ (fun i r h=>?_) ?_ (fun i h=>h)).mono fun r l ⟨e1,e2⟩=>⟨by rw[e1,xr _ hr],e2⟩
  ·simp only[gx,av]at h;split at h
   ·rename_i ei;subst ei;cases h;rw[q6,hR.hp];simp only[Row.bU,fc,AV.bU,q7,q8]
   ·split at h
    ·rename_i ei;subst ei;cases h;rw[q7,hR.cells];simp only[Row.bU,vp (enc:=eI) (sz:=1)]
    ·split at h
     ·rename_i ei;subst ei;cases h;rw[q8,hR.ends];simp only[Row.bU,vp (enc:=eI) (sz:=1)]
     ·cases h
  ·simp only[aW,Bool.and_eq_true];exact⟨rfl,fh (fun _ h=>by cases h) _ hrest⟩
  ·simp only[gx,av]at h;split at h
   ·cases h;rfl
   ·split at h
    ·cases h;exact fh (q:=dY) (fun _ h=>by cases h) _ (no _)
    ·split at h
     ·cases h;exact fh (q:=dY) (fun _ h=>by cases h) _ (no _)
     ·cases h
  ·show([2,3,4]:List Nat).Nodup;decide
 ·simp only[aW,Bool.and_eq_true];exact⟨i0,fh (fun _ h=>by cases h) _ hrest⟩
theorem bD.sK(hR:bD p C m N e)(hrest:aW dY rest=true)(hr:r0.all dY=true)(hc:aj P f (.pt 2 0 0 0::rest) (gx m.heap) fun r l=>r=r0/\l=gx h') :
  kv P f (.pt (hn 5 N.k) 0 0 0::rest) e X r0 fun N' l=>bD p C { m with heap:=h' } N' l/\N'.k=N.k/\N'.af.c=N.af.c:=by
 obtain⟨h2,h3,h4⟩:=hR.pJ (X:=X) hrest hr hc;exact⟨_,_,⟨h2,rfl,rfl⟩,h3,h4⟩
theorem bD.k8(hR:bD p C m N e)(hrest:aW dY rest=true)(hr:r0.all dY=true)(hc:aj P f (.pt 2 0 0 0::rest) (gx m.heap) fun r l=>r=r0/\l=gx m.heap):du P f (.pt (hn 5 N.k) 0 0 0::rest) e r0 e:=by
 obtain⟨h2,h3,h4⟩:=hR.pJ (X:=[]) (h':=m.heap) hrest hr hc;have el:hL N m.heap e=e:=by unfold hL;rw[tQ hR.hp,tQ hR.cells,tQ hR.ends]
 rw[el]at h4;exact h4
end MV
theorem hZ.fM{r:AV}{H:Hp}(i j k:Nat)(e:TypeId)(sz:Nat){t:TypeId}{cs:List AV}(hi:H.get i=none)(h0:0<sz)(hj:H.get j=some (.var t cs))(hk:cs[k]?=some (.raw (.slice none 0 0))):hZ r H r ((H.put i (.aL e sz [])).put j (.var t (cs.set k (.rs i 0 sz 0)))):=fun w v h1 h2=>by
 obtain⟨a,b⟩:=xB h1 hi e h0;have hij:j≠i:=fun e=>by subst e;rw[hi]at hj;cases hj
 obtain⟨a',b'⟩:=B5 (cs':=cs.set k (.rs i 0 sz 0)) a (j:=j) (t:=t) (cs:=cs) (by rw[Hp.ba,if_neg hij];exact hj) jE fun n x x' v hx hx' hv=>by
  rw[List.getElem?_set]at hx';by_cases hn:k=n
  ·subst hn;rw[if_pos rfl]at hx';split at hx'
   ·cases hx';rw[hk]at hx;cases hx;cases hv;exact .iO _ _ _ _ (NW.ca _ _ _ _)
   ·cases hx'
  ·rw[if_neg hn,hx]at hx';cases hx';exact hv
 exact⟨w.name i 0 .nil,rfl,a',h2.ext b,(b.trans b').pB⟩
abbrev mP(N:NM):AV:=.pt (hn 3 N.k) 0 0 0
abbrev cP(N:NM):AV:=.pt (hn 0 N.af.c) 0 0 0
def To(p:ab)(C:aE)(m':MV)(N:NM)(N':NM)(l:List (Nat×Row)):Prop:=MV.bD p C m' N' l/\N'.k=N.k/\N'.af.c=N.af.c
end Go.Gd
namespace Go.Proofs.YtfkgcobaheegbaaGreatDoor
open Go Go.Gd Tryz Go.Gd.MV
section
variable {p:ab}{C:aE}{m:MV}{N:NM}{e:List (Nat×Row)}(X:List Nat)
theorem sr(hR:bD p C m N e)(h1:1<=m.calls.length)(v:ak)(hb:m.af.stack.length<=1000):kv prog 171 [cP N,rV v] e X (.bj []) (To p C (m.push v) N):=by have hb2:=(hR.af h1).bd;exact hR.cC h1 (c':=m.af.push v) (jk':=N.af.jk.drop 1) (by show(m.af.stack++[v]).length+_<=_;rw[List.length_append,List.length_drop,List.length_singleton];omega) rfl rfl (QJ _ _ _ _ _ _ v jB)
theorem Df(hR:bD p C m N e)(h1:1<=m.calls.length)(hb:1<=m.af.stack.length):kv prog 175 [cP N] e X (rV m.af.last) (To p C (m.cut 1) N):=by
 have hb2:=(hR.af h1).bd;have e1:m.af.stack.take (m.af.stack.length-1)++[m.af.last]=m.af.stack:=by unfold MC.last;rw[dN jB,List.take_append_getElem,show m.af.stack.length-1+1=m.af.stack.length from jB,List.take_length]
 have hlt:(m.af.stack.take (m.af.stack.length-1)).length=m.af.stack.length-1:=by rw[List.length_take];omega
 have hc:=H4 m.af.fn m.af.at_ m.af.mark (m.af.stack.take (m.af.stack.length-1)) N.af.jk m.af.slots m.af.last (by rw[hlt];omega);rw[e1]at hc;have hb3:(m.af.cut 1).stack.length+(m.af.last::N.af.jk).length<=2000:=by show(m.af.stack.take (m.af.stack.length-1)).length+_<=_;rw[hlt,List.length_cons];omega
 exact hR.cC h1 (c':=m.af.cut 1) hb3 rfl rfl hc
theorem Lk(hR:bD p C m N e)(h1:1<=m.calls.length)(hb:1<=m.af.stack.length):du prog 184 [cP N] e (rV m.af.last) e:=by have hb2:=(hR.af h1).bd;exact hR.rJ h1 rfl rfl (HD _ _ _ _ _ _ hb jB)
theorem Cr(hR:bD p C m N e)(h1:1<=m.calls.length)(k t:Int)(hk:0<=k/\k<m.af.slots.length)(hb:m.af.slots.length<=1000):du prog 174 [cP N,rI k,rI t] e (rV (dp m.af.slots k t)) e:=
 hR.rJ h1 rfl rfl (KF _ _ _ _ _ _ k t hk jB)
theorem JN(hR:bD p C m N e)(a i:Int)(hl:m.heap.length<=1000)(hf:m.heap.flatten.length<=1000):du prog 180 [.pt (hn 5 N.k) 0 0 0,rI a,rI i] e (.bj [rI (if i<0\/((MV.bq m.heap a).length:Int)<=i then 0 else nth (MV.bq m.heap a) i.toNat),rI (if i<0\/((MV.bq m.heap a).length:Int)<=i then 2 else 0)]) e:=
 hR.k8 rfl rfl (Qh m.heap a i hl hf)
theorem QP(hR:bD p C m N e)(a:Int)(hl:m.heap.length<=1000)(hf:m.heap.flatten.length<=1000):du prog 179 [.pt (hn 5 N.k) 0 0 0,rI a] e (rI (MV.bq m.heap a).length) e:=
 hR.k8 rfl rfl (J4 m.heap a hl hf)
theorem P8(hR:bD p C m N e)(a i n:Int)(hl:m.heap.length<=1000)(hf:m.heap.flatten.length<=1000)(hi:¬(i<0\/((MV.bq m.heap a).length:Int)<=i)):kv prog 181 [.pt (hn 5 N.k) 0 0 0,rI a,rI i,rI n] e X (rI 0) (To p C { m with heap:=m.heap.set (a-1).toNat ((nth m.heap (a-1).toNat).set i.toNat n) } N):=
 hR.sK rfl rfl (Ls m.heap a i n hl hf hi)
theorem KC(hR:bD p C m N e)(a i n:Int)(hl:m.heap.length<=1000)(hf:m.heap.flatten.length<=1000)(hi:i<0\/((MV.bq m.heap a).length:Int)<=i):du prog 181 [.pt (hn 5 N.k) 0 0 0,rI a,rI i,rI n] e (rI 2) e:=
 hR.k8 rfl rfl (Qd m.heap a i n hl hf hi)
theorem P7(hR:bD p C m N e)(n:Int)(h0:0<=n/\n<=16)(hc:ga m.heap+n+1<=40)(hcv:ga m.heap=m.heap.length+m.heap.flatten.length):kv prog 183 [.pt (hn 5 N.k) 0 0 0,rI n] e X (.bj [rI (m.heap.length+1:Nat),rI 0]) (To p C { m with heap:=m.heap++[List.replicate n.toNat 0] } N):=by obtain⟨k,rfl⟩:∃k:Nat,n=k:=⟨n.toNat,jB⟩;rw[Int.toNat_natCast];exact hR.sK rfl rfl (QR m.heap k jB jB)
theorem LF(hR:bD p C m N e)(n:Int)(h0:n<0\/16<n)(hl:m.heap.length<=40)(hf:m.heap.flatten.length<=40):du prog 183 [.pt (hn 5 N.k) 0 0 0,rI n] e (.bj [rI 0,rI 7]) e:=
 hR.k8 rfl rfl (Kb m.heap n h0 hl hf)
theorem Nf(hR:bD p C m N e)(n:Int)(h0:0<=n/\n<=16)(hc:40<(m.heap.length:Int)+m.heap.flatten.length+n+1)(hl:m.heap.length<=40)(hf:m.heap.flatten.length<=40):du prog 183 [.pt (hn 5 N.k) 0 0 0,rI n] e (.bj [rI 0,rI 4]) e:=
 hR.k8 rfl rfl (MJ m.heap n h0 hc hl hf)
theorem Pb(hR:bD p C m N e)(h1:1<=m.calls.length):(List.map (fun j=>[AV.pt (hn 0 j) 0 0 0]) (List.map NC.c N.cs)++List.map (fun j=>[AV.pt (hn 0 j) 0 0 0]) N.cj).getD (N.cs.length-1) []=[cP N]:=by have hl:=hR.len;rw[<-List.map_append];rw[List.getD_eq_getElem?_getD,List.getElem?_map,List.getElem?_append_left (by rw[List.length_map];omega),List.getElem?_map,List.getElem?_eq_getElem jB];unfold cP NM.af;rw[dN jB];rfl
theorem uu(hR:bD p C m N e)(h1:1<=m.calls.length):du prog 82 [mP N] e (cP N) e:=by
 have hlo:=hR.ok.low;have hl:=hR.len;have hb:=hR.bd;have hg:=Pb hR h1;refine⟨?_,hR.ok,hR.ok,fun _ h=>h,by simp only[aW,AV.all,gG hR.root,Bool.and_self]⟩;refine aT (L:=ids e) func82 ntmps82 ?_ (hL:=rfl);generalize hB:ids e=B;refine fk ?_
 (have W:=jA hlo (jA hR.root (jA hR.row (hg)));repeat' (first|refine aB fun K hK=>?_|refine aC ?_|(with_reducible refine gR 1 ?_);refine dE 1 [0,1,2,3,4,5,6,7,8,9,10,11,12] mixed ?_|(refine hK _ _ ?_;clear hK K)|(refine aA ?_ ?_<;>intro hc<;>try exact jz)|refine aD ?_|exact jI|(clear hK K)));all_goals(try clear W)
 exact fp hB hR.ok hR.ok (tl:=[]) (fun _=>rfl) er [.tmp 2]
theorem Ef{N:NM}{n:NC}(h:1<=N.cs.length):(N.aQ n).af=n:=by show nth (N.cs.set _ n) ((N.cs.set _ n).length-1)=n;rw[List.length_set,Go.Gd.bh _ _ _ _ jB,if_pos rfl]
theorem vX(hR:bD p C m N e)(h1:1<=m.calls.length)(s t:Int):kv prog 182 [mP N,rI s,rI t] e X (.bj []) (To p C (m.stops s t) N):=by
 have ht:=uu hR h1;have hT:=hR.af h1;have hlo:=hR.ok.low;have hl:=hR.len;have hR0:bD p C { m with status:=s,aZ:=t } N (br e (hn 3 N.k) (.var 122 (mE p C { m with status:=s,aZ:=t } N))):=hR.mf rfl rfl rfl;have hn1:=wF e X 2 0;have hnX:=yV e X 2 0;generalize pY (ids e++X)+0=k at hn1 hnX;have hn0:av (br e (hn 3 N.k) (.var 122 (mE p C { m with status:=s,aZ:=t } N))) (hn 2 k)=none:=by rw[bM,if_neg (db jB jB jB)];exact hn1
 have i1:=gG hT.eP;have hR1:bD p C (m.stops s t) (N.aQ ⟨N.af.c,k,[]⟩) (br (br (br e (hn 3 N.k) (.var 122 (mE p C { m with status:=s,aZ:=t } N))) (hn 2 k) (.aL 59 3 [])) (hn 0 N.af.c) (.var 137 (MV.cE m.af.back ⟨N.af.c,k,[]⟩))):=by
  refine hR0.aQ (c':=m.af.back) (n':=⟨N.af.c,k,[]⟩) h1 rfl ?_ ⟨?_,?_,?_,by show 0+0<=2000;omega⟩ (.inr hn0) fun j hj n0 n1 n2=>?_
  ·refine(hR0.ok.put (.inr (iw _ _)) rfl).put (.inr (iw _ _)) ?_;have j1:=gG (hR0.af h1).eP;have q1:=(oj (br e (hn 3 N.k) (.var 122 (mE p C { m with status:=s,aZ:=t } N))) (hn 2 k) (hn 2 k) (.aL 59 3 [])).2 (.inl rfl);have q2:=(oj (br e (hn 3 N.k) (.var 122 (mE p C { m with status:=s,aZ:=t } N))) (hn 2 k) (hn 1 N.af.c) (.aL 59 3 [])).2 (.inr (List.contains_iff_mem.1 j1));rw[<-List.contains_iff_mem]at q1 q2;simp only[Row.cells,MV.cE,aW,AV.all,q1,q2,Bool.or_true,Bool.and_self]
  ·rw[bM,if_pos rfl]
  ·rw[bM,if_neg (db jB jB jB),bM,if_pos rfl];rfl
  ·rw[bM,if_neg (db jB jB jB),bM,if_neg (db jB jB jB)];exact(hR0.af h1).eP
  ·rw[bM,if_neg n0,bM,if_neg (fun e'=>by subst e';exact hj hn0)]
 have hU:Up X e (br (br (br e (hn 3 N.k) (.var 122 (mE p C { m with status:=s,aZ:=t } N))) (hn 2 k) (.aL 59 3 [])) (hn 0 N.af.c) (.var 137 (MV.cE m.af.back ⟨N.af.c,k,[]⟩))):=by
  refine((Up.put _ (.inl ?_)).trans (Up.put _ (.inr hnX))).trans (Up.put _ (.inl ?_))
  ·rw[hR.root];simp
  ·rw[bM,if_neg (db jB jB jB),bM,if_neg (db jB jB jB),hT.var];simp
 refine⟨_,_,⟨hR1,rfl,by rw[Ef jB]⟩,hU,⟨?_,hR.ok,hR1.ok,hU.aY,by simp only[aW,AV.all,gG hR.root,Bool.and_self]⟩⟩;have k2:=hR1.ok;clear hR1 hU;generalize hE:br (br (br e (hn 3 N.k) (.var 122 (mE p C { m with status:=s,aZ:=t } N))) (hn 2 k) (.aL 59 3 [])) (hn 0 N.af.c) (.var 137 (MV.cE m.af.back ⟨N.af.c,k,[]⟩))=E at k2 ⊢;refine aT (L:=ids e) func182 ntmps182 ?_ (hL:=rfl);generalize hB:ids e=B;refine fk ?_
 (have W:=jA hlo (jA hR.root (hT.var));repeat' (first|refine aB fun K hK=>?_|refine aC ?_|(refine hK _ _ ?_;clear hK K)|(refine aA ?_ ?_<;>intro hc<;>try exact jz)|refine cT ht ?_|refine aD ?_|exact jI|(clear hK K)));all_goals(try clear W)
 refine Ht hB hR.ok k2 (hZ.fM (t:=137) (cs:=[.raw (.slice none 0 0),rI m.af.fn,rI m.af.mark,rI m.af.mark,.rs (hn 1 N.af.c) m.af.slots.length 3 m.af.slots.length]) (hn 2 k) (hn 0 N.af.c) 0 59 3 ?_ jC ?_ rfl) (tl:=[]) (fun i=>?_) er []
 ·show av (tie _ []) _=_;simp(disch:=first|omega|assumption|fail) only[go_sem,↓reduceIte,hn1]
 ·show av (tie _ []) _=_;simp(disch:=first|omega|assumption|fail) only[go_sem,↓reduceIte,hT.var]
 ·subst hE;simp only[Hp.put,gF,bM,av,Option.or_none];by_cases a:i=hn 0 N.af.c
  ·rw[if_pos a,if_pos a];rfl
  ·simp only[if_neg a];by_cases b:i=hn 2 k
   ·simp only[if_pos b]
   ·simp only[if_neg b];by_cases c:i=hn 3 N.k
    ·simp only[if_pos c];rfl
    ·simp only[if_neg c]
theorem xc(hR:bD p C m N e)(h1:1<=m.calls.length)(r:ak×Int)(hb:m.af.stack.length<=1000):kv prog 176 [mP N,rV r.1,rI r.2] e X (.bj []) (To p C (m.dX r) N):=by
 have ht:=uu hR h1;have hlo:=hR.ok.low;have ha:∀v t:AV,v.all dY=true->t.all dY=true->aW (fun i=>(ids e).contains i) [mP N,v,t]=true:=fun v t h h'=>by simp only[aW,AV.all,gG hR.root,Bool.true_and,Bool.and_true];exact Bool.and_eq_true _ _ ▸ ⟨rZ (fun _ h=>by cases h) _ h,rZ (fun _ h=>by cases h) _ h'⟩
 unfold MV.dX;by_cases h0:r.2≠0
 ·rw[if_pos h0];obtain⟨N',l,hT,hU,hp⟩:=vX X hR h1 3 r.2;refine⟨N',l,hT,hU,⟨?_,hR.ok,hp.e2,hU.aY,ha _ _ rfl rfl⟩⟩;refine aT (L:=ids e) func176 ntmps176 ?_ (hL:=rfl);generalize hB:ids e=B;refine fk ?_
  (have W:=hlo;repeat' (first|refine aB fun K hK=>?_|refine aC ?_|(refine hK _ _ ?_;clear hK K)|(refine aA ?_ ?_<;>intro hc<;>try exact jz)|refine fa 9 ?_|refine cT hp ?_|refine aD ?_|exact jI|(clear hK K)));all_goals(try clear W)
  exact fp hB hR.ok hp.e2 (fun _=>rfl) (eO jC er) []
 ·rw[if_neg h0];have h0:r.2=0:=jB;obtain⟨N',l,hT,hU,hp⟩:=sr X hR h1 r.1 hb;refine⟨N',l,hT,hU,⟨?_,hR.ok,hp.e2,hU.aY,ha _ _ rfl rfl⟩⟩;refine aT (L:=ids e) func176 ntmps176 ?_ (hL:=rfl);generalize hB:ids e=B;refine fk ?_
  (have W:=jA hlo h0;repeat' (first|refine aB fun K hK=>?_|refine aC ?_|(with_reducible refine gR 3 ?_);refine dC 3 ([],[12],[]) [] [0,1,2,3,4,5] mixed ?_|(refine hK _ _ ?_;clear hK K)|(refine aA ?_ ?_<;>intro hc<;>try exact jz)|refine fa 9 ?_|refine o8 ht ?_|refine cT hp ?_|refine aD ?_|exact jI|(clear hK K)));all_goals(try clear W)
  exact fp hB hR.ok hp.e2 (fun _=>rfl) (eO jC er) []
end
end Go.Proofs.YtfkgcobaheegbaaGreatDoor

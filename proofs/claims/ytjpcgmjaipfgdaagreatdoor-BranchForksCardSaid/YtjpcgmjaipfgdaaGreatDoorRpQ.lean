/- Lemmas. No conditions. -/
import Derived.Test.YtjpcgmjaipfgdaaGreatDoorRpA
import Derived.Test.YtjpcgmjaipfgdaaGreatDoorCmG
set_option linter.all false
set_option maxHeartbeats 4000000
set_option maxRecDepth 10000
namespace Go.Gd
open Go
structure NC where
 c:Nat
 v:Nat
 jk:List aj
 deriving Inhabited
structure NM where
 k:Nat
 cs:List NC
 cj:List Nat
namespace MV
def cE(c:MC)(n:NC):UU:=[.rs (hn 2 n.v) (c.stack.length+n.jk.length) 3 c.stack.length,.raw (.int .i64 c.fn),.raw (.int .i64 c.at_),.raw (.int .i64 c.mark),.rs (hn 1 n.c) c.slots.length 3 c.slots.length]
def mE(p:ab)(C:aI)(m:MV)(N:NM):UU:=kH p++[aM dw 4 C.ins,aM eI 1 C.entry,.rs (hn 4 N.k) (N.cs.length+N.cj.length) 1 N.cs.length,.pt (hn 5 N.k) 0 0 0,.rs (hn 8 N.k) m.aZ.length 1 m.aZ.length,.raw (.int .i64 m.in_),.raw (.int .i64 m.status),.raw (.int .i64 m.cf),.raw (.int .i64 m.time)]
structure je(c:MC)(n:NC)(e:List (Nat×Row)):Prop where
 var:aC e (hn 0 n.c)=some (.var 217 (cE c n))
 cO:aC e (hn 2 n.v)=some (.aJ 54 3 ((c.stack++n.jk).map bY))
 ff:aC e (hn 1 n.c)=some (.aJ 54 3 (c.slots.map bY))
 bd:c.stack.length+n.jk.length<=2000
structure bO(p:ab)(C:aI)(m:MV)(N:NM)(e:List (Nat×Row)):Prop where
 ok:fQ 0 e
 root:aC e (hn 3 N.k)=some (.var 205 (mE p C m N))
 row:aC e (hn 4 N.k)=some (.aJ 213 1 ((N.cs.map NC.c++N.cj).map fun j=>[.pt (hn 0 j) 0 0 0]))
 hp:aC e (hn 5 N.k)=some (.var 269 [.rs (hn 6 N.k) m.heap.flatten.length 1 m.heap.flatten.length,.rs (hn 7 N.k) m.heap.length 1 m.heap.length])
 cells:aC e (hn 6 N.k)=some (.aJ 3 1 (m.heap.flatten.map eI))
 ends:aC e (hn 7 N.k)=some (.aJ 3 1 ((lG m.heap).map eI))
 outs:aC e (hn 8 N.k)=some (.aJ 9 1 (m.aZ.map eS))
 len:N.cs.length=m.calls.length
 call:∀k,k<m.calls.length->je (nth m.calls k) (nth N.cs k) e
 nc:(N.cs.map NC.c).Nodup
 nv:(N.cs.map NC.v).Nodup
 bd:N.cs.length+N.cj.length<=1000
end MV
def NM.ah(N:NM):NC:=nth N.cs (N.cs.length-1)
def NM.aU(N:NM)(n:NC):NM:={ N with cs:=N.cs.set (N.cs.length-1) n }
attribute [go_sem] MV.cE MV.mE
variable{α:Type}
def wm{β:Type}[Inhabited α][Inhabited β](f:α->β)(l:List α)(k:Nat)(h:k<l.length):nth (l.map f) k=f (nth l k):=by rw[fA (by simpa using h),fA h];simp
def FT[Inhabited α]{l:List α}(h:l.Nodup){i j:Nat}(hi:i<l.length)(hj:j<l.length)(e:nth l i=nth l j):i=j:=by rw[fA hi,fA hj]at e;exact(List.getElem_inj h).1 e
def Rj[Inhabited α]{l:List α}(h:l.Nodup){i:Nat}(hi:i<l.length){v:α}(hv:∀j,j<l.length->j≠i->nth l j≠v):(l.set i v).Nodup:=by
 unfold List.Nodup;rw[List.pairwise_iff_getElem];intro a b ha hb hab e;rw[List.length_set]at ha hb;rw[List.getElem_set,List.getElem_set]at e;split at e<;>split at e
 ·omega
 ·rename_i h1 h2;exact hv b hb jB (by rw[fA hb];exact e.symm)
 ·rename_i h1 h2;exact hv a jB jB (by rw[fA jB];exact e)
 ·have:=(List.getElem_inj h).1 e;omega
namespace MV
variable {p:ab}{C:aI}{m:MV}{N:NM}{e:UT}
theorem bO.ah(h:bO p C m N e)(h1:1<=m.calls.length):je m.ah N.ah e:=by have:=h.call (m.calls.length-1) jB;unfold NM.ah MV.ah;rw[h.len];exact this
def bO.ne{k j:Nat}(h:bO p C m N e)(hk:k<N.cs.length)(hj:j<N.cs.length)(hkj:k≠j):(nth N.cs k).c≠(nth N.cs j).c/\(nth N.cs k).v≠(nth N.cs j).v:=by
 constructor
 ·intro e';exact hkj (FT h.nc (by simpa using hk) (by simpa using hj) (by rw[wm _ _ _ hk,wm _ _ _ hj];exact e'))
 ·intro e';exact hkj (FT h.nv (by simpa using hk) (by simpa using hj) (by rw[wm _ _ _ hk,wm _ _ _ hj];exact e'))
theorem bO.aU(hR:bO p C m N e)(h1:1<=m.calls.length){c':MC}{n':NC}{e':UT}(hnc:n'.c=N.ah.c)(ok:fQ 0 e')(hc:je c' n' e')(hv:n'.v=N.ah.v\/aC e (hn 2 n'.v)=none)
  (hs:∀j,aC e j≠none->j≠hn 0 N.ah.c->j≠hn 1 N.ah.c->j≠hn 2 N.ah.v->aC e' j=aC e j):bO p C (m.aU c') (N.aU n') e':=by
 have hl:=hR.len;have kind:∀(a k:Nat) (r:Row),2<a->a<32->aC e (hn a k)=some r->aC e' (hn a k)=some r:=fun a k r h2 WY h=>by rw[hs _ (by rw[h];simp) (dt WY jB jB) (dt WY jB jB) (dt WY jB jB)];exact h
 have cs:(N.aU n').cs.map NC.c=N.cs.map NC.c:=by show(N.cs.set _ n').map NC.c=_;rw[List.map_set,hnc];unfold NM.ah;rw[<-wm NC.c N.cs _ jB,fA (by rw[List.length_map];omega),List.set_getElem_self]
 have ln:(N.aU n').cs.length=N.cs.length:=by show(N.cs.set _ n').length=_;simp
 have nu:∀k,nth (N.aU n').cs k=if k=N.cs.length-1 then n' else nth N.cs k:=fun k=>Go.Gd.dH _ _ _ _ jB
 have mu:∀k,nth (m.aU c').calls k=if k=m.calls.length-1 then c' else nth m.calls k:=fun k=>Go.Gd.dH _ _ _ _ jB
 have ml:(m.aU c').calls.length=m.calls.length:=by show(m.calls.set _ c').length=_;simp
 refine⟨ok,?_,?_,kind 5 _ _ jB jB hR.hp,kind 6 _ _ jB jB hR.cells,kind 7 _ _ jB jB hR.ends,kind 8 _ _ jB jB hR.outs,by rw[ln,ml];exact hl,fun k hk=>?_,by rw[cs];exact hR.nc,?_,by rw[ln];exact hR.bd⟩
 ·rw[show mE p C (m.aU c') (N.aU n')=mE p C m N by unfold mE;rw[ln];rfl];exact kind 3 _ _ jB jB hR.root
 ·rw[cs];exact kind 4 _ _ jB jB hR.row
 ·rw[ml]at hk;rw[nu,mu,hl];by_cases ek:k=m.calls.length-1
  ·rw[if_pos ek,if_pos ek];exact hc
  ·rw[if_neg ek,if_neg ek];have Wr:=hR.call k hk;obtain⟨n1,n2⟩:=hR.ne (k:=k) (j:=N.cs.length-1) jB jB jB;have n1:(nth N.cs k).c≠N.ah.c:=n1;have n2:(nth N.cs k).v≠N.ah.v:=n2;exact⟨by rw[hs _ (by rw[Wr.var];simp) (fun e=>n1 (xF jB jB e).2) (dt jB jB jB) (dt jB jB jB)];exact Wr.var,
    by rw[hs _ (by rw[Wr.cO];simp) (dt jB jB jB) (dt jB jB jB) (fun e=>n2 (xF jB jB e).2)];exact Wr.cO,
    by rw[hs _ (by rw[Wr.ff];simp) (dt jB jB jB) (fun e=>n1 (xF jB jB e).2) (dt jB jB jB)];exact Wr.ff,Wr.bd⟩
 ·show((N.cs.set _ n').map NC.v).Nodup;rw[List.map_set];refine Rj hR.nv (by rw[List.length_map];omega) fun j hj XI e'=>?_
  rw[List.length_map]at hj;rw[wm _ _ _ hj]at e';rcases hv with hv|hv
  ·rw[hv]at e';exact(hR.ne hj jB XI).2 e'
  ·have Wr:=(hR.call j jB).cO;rw[e',hv]at Wr;cases Wr
def bO.mq(hR:bO p C m N e){m':MV}(h1:m'.calls=m.calls)(h2:m'.heap=m.heap)(h3:m'.aZ=m.aZ):bO p C m' N (bp e (hn 3 N.k) (.var 205 (mE p C m' N))):=by
 have kind:∀(a k:Nat) (r:Row),a≠3->a<32->aC e (hn a k)=some r->aC (bp e (hn 3 N.k) (.var 205 (mE p C m' N))) (hn a k)=some r:=fun a k r h3 WY h=>by rw[bP,if_neg (dt WY jB h3)];exact h
 refine⟨hR.ok.put (.inr (iN _ _)) ?_,by rw[bP,if_pos rfl],kind _ _ _ jB jB hR.row,?_,?_,?_,?_,by rw[h1];exact hR.len,fun k hk=>?_,hR.nc,hR.nv,hR.bd⟩
 ·have c4:=gl hR.row;have c5:=gl hR.hp;have c8:=gl hR.outs;have up:aY (fun j=>decide (j=hn 3 N.k) || (ids e).contains j) (kH p)=true:=gf (q:=eJ) (fun _ h=>by cases h) _ rfl;unfold mE;simp only[Row.cells];rw[tD,up];simp only[aY,AV.all,c4,c5,c8,Bool.or_true,Bool.and_self,aM]
 ·rw[h2];exact kind _ _ _ jB jB hR.hp
 ·rw[h2];exact kind _ _ _ jB jB hR.cells
 ·rw[h2];exact kind _ _ _ jB jB hR.ends
 ·rw[h3];exact kind _ _ _ jB jB hR.outs
 ·rw[h1]at hk ⊢;have hc:=hR.call k hk;exact⟨kind _ _ _ jB jB hc.var,kind _ _ _ jB jB hc.cO,kind _ _ _ jB jB hc.ff,hc.bd⟩
end MV
def kE(fn at_ mark:Int)(vs jk slots:List aj):UT:=[(6,.var 217 [.rs 7 (vs.length+jk.length) 3 vs.length,.raw (.int .i64 fn),.raw (.int .i64 at_),.raw (.int .i64 mark),.rs 8 slots.length 3 slots.length]),(7,.aJ 54 3 ((vs++jk).map bY)),(8,.aJ 54 3 (slots.map bY))]
attribute [go_sem] kE
mutual
theorem u9{f:Nat->Nat}:∀a:AV,a.all eJ=true->a.bV f=a
 |.raw _,_=>by simp only[AV.bV]
 |.any,_=>by simp only[AV.bV]
 |.agg cs,h=>by simp only[AV.all]at h;simp only[AV.bV,sO cs h]
 |.ba cs,h=>by simp only[AV.all]at h;simp only[AV.bV,sO cs h]
 |.sl _ _ _ _,_=>by simp only[AV.bV]
 |.ip _,_=>by simp only[AV.bV]
 |.gd _ v,h=>by simp only[AV.all]at h;simp only[AV.bV,u9 v h]
 |.eW _ cs,h=>by simp only[AV.all]at h;simp only[AV.bV,sO cs h]
 |.pt _ _ _ _,h=>by simp only[AV.all]at h;cases h
 |.rs _ _ _ _,h=>by simp only[AV.all]at h;cases h
 |.rc _ _ _ _,h=>by simp only[AV.all]at h;cases h
 |.rv _ _ _ _ _,h=>by simp only[AV.all]at h;cases h
 |.mr _,h=>by simp only[AV.all]at h;cases h
 |.bd _ fs,h=>by simp only[AV.all]at h;simp only[AV.bV,sO fs h]
 |.iZ _ v,h=>by simp only[AV.all]at h;simp only[AV.bV,u9 v h]
 |.mv _ v,h=>by simp only[AV.all]at h;simp only[AV.bV,u9 v h]
theorem sO{f:Nat->Nat}:∀l:UU,aY eJ l=true->fm f l=l
 |[],_=>rfl
 |a::l,h=>by simp only[aY,Bool.and_eq_true]at h;simp only[fm,u9 a h.1,sO l h.2]
end
variable{α:Type}{sz:Nat}
def wk{f:Nat->Nat}{enc:α->UU}[he:bG enc sz](l:List α):(l.map enc).map (fm f)=l.map enc:=by rw[List.map_map];exact List.map_congr_left fun x _=>sO _ (he.free x)
def pq(x y z a b c:Nat)(i:Nat):Nat:=if i=x then a else if i=y then b else if i=z then c else i+(a+b+c+1)
def wR(x y z a b c:Nat)(j:Nat):Nat:=if j=a then x else if j=b then y else if j=c then z else j-(a+b+c+1)
def HB{x y z a b c:Nat}(h1:a≠b)(h2:a≠c)(h3:b≠c)(i:Nat):wR x y z a b c (pq x y z a b c i)=i:=by
 unfold pq;split
 ·rename_i e;unfold wR;rw[if_pos rfl];exact e.symm
 ·split
  ·rename_i e;unfold wR;rw[if_neg (fun e=>h1 e.symm),if_pos rfl];exact e.symm
  ·split
   ·rename_i e;unfold wR;rw[if_neg (fun e=>h2 e.symm),if_neg (fun e=>h3 e.symm),if_pos rfl];exact e.symm
   ·unfold wR;rw[jN,jN,jN];omega
mutual
theorem yz{f:Nat->Nat}{q q':U5}(h:∀i,q i=true->q' (f i)=true):∀a:AV,a.all q=true->(a.bV f).all q'=true
 |.raw _,_=>by simp only[AV.bV,AV.all]
 |.any,_=>by simp only[AV.bV,AV.all]
 |.agg cs,k=>by simp only[AV.all]at k;simp only[AV.bV,AV.all];exact vU h cs k
 |.ba cs,k=>by simp only[AV.all]at k;simp only[AV.bV,AV.all];exact vU h cs k
 |.sl _ _ _ _,_=>by simp only[AV.bV,AV.all]
 |.ip _,_=>by simp only[AV.bV,AV.all]
 |.gd _ v,k=>by simp only[AV.all]at k;simp only[AV.bV,AV.all];exact yz h v k
 |.eW _ cs,k=>by simp only[AV.all]at k;simp only[AV.bV,AV.all];exact vU h cs k
 |.pt i _ _ _,k=>by simp only[AV.all]at k;simp only[AV.bV,AV.all];exact h i k
 |.rs i _ _ _,k=>by simp only[AV.all]at k;simp only[AV.bV,AV.all];exact h i k
 |.rc i _ _ _,k=>by simp only[AV.all]at k;simp only[AV.bV,AV.all];exact h i k
 |.rv i _ _ _ _,k=>by simp only[AV.all]at k;simp only[AV.bV,AV.all];exact h i k
 |.mr i,k=>by simp only[AV.all]at k;simp only[AV.bV,AV.all];exact h i k
 |.bd _ fs,k=>by simp only[AV.all]at k;simp only[AV.bV,AV.all];exact vU h fs k
 |.iZ _ v,k=>by simp only[AV.all]at k;simp only[AV.bV,AV.all];exact yz h v k
 |.mv _ v,k=>by simp only[AV.all]at k;simp only[AV.bV,AV.all];exact yz h v k
theorem vU{f:Nat->Nat}{q q':U5}(h:∀i,q i=true->q' (f i)=true):∀l:UU,aY q l=true->aY q' (fm f l)=true
 |[],_=>rfl
 |a::l,k=>by simp only[aY,Bool.and_eq_true]at k;simp only[fm,aY,Bool.and_eq_true];exact⟨yz h a k.1,vU h l k.2⟩
end
variable{P:U6}{f:FuncId}
def af.at{args:UU}{s s' e:UT}{r0:AV}{ρ g:Nat->Nat}(hg:∀i,g (ρ i)=i)(hc:af P f args s fun r l=>r=r0/\l=s')(hs:∀i r,aC s i=some r->aC e (ρ i)=some (r.bV ρ))(ha:aY (fun i=>(ids s).contains i) args=true)
  (Vf:∀i r,aC s i=some r->aY (fun i=>(ids s).contains i) r.cells=true) (hn:(ids s').Nodup) (Yu:∀i∈ids s',i∈ids s):af P f (fm ρ args) e fun r l=>r=r0.bV ρ/\l=gI e (lp ρ s'):=by
 have mem:∀i,(ids s).contains i=true->(ids (lp ρ s)).contains (ρ i)=true:=fun i hi=>by rw[ze,List.contains_iff_mem];exact List.mem_map_of_mem (List.contains_iff_mem.1 hi)
 have up:∀l:UU,aY (fun i=>(ids s).contains i) l=true->aY (fun i=>(ids (lp ρ s)).contains i) (fm ρ l)=true:=fun l h=>vU mem l h
 have:=af.more (e:=e) (af.bV hg hc) (fun i r hi=>?_) (up _ ha) (fun i r hi=>?_) (fun r l hR=>?_)
 ·refine this.mono fun r l ⟨l0,⟨r1,l1,e1,e2,e3,e4⟩,e5⟩=>?_
  rw[e1,e3,e5,e2,e4];exact⟨rfl,rfl⟩
 ·obtain⟨j,r0,rfl,rfl,h3⟩:=xh hg hi;exact hs j r0 h3
 ·obtain⟨j,r0,rfl,rfl,h3⟩:=xh hg hi;rw[Row.gQ];exact up _ (Vf j r0 h3)
 ·obtain⟨r1,l1,e1,e2,e3,e4⟩:=hR;subst e2 e4;refine⟨?_,fun i hi=>.inl ?_⟩
  ·rw[ze];exact hn.map _ (fun a b h1 h2=>h1 (by rw[<-hg a,<-hg b,h2]))
  ·obtain⟨r,hr⟩:=Option.ne_none_iff_exists'.1 hi;obtain⟨j,r0,rfl,rfl,h3⟩:=xh hg hr;obtain⟨x,hx⟩:=Option.ne_none_iff_exists'.1 ((lT _ _).1 (Yu j ((lT _ _).2 (by rw[h3];simp))));rw[y6 hg,hx];simp
def k6(P:U6)(f:FuncId)(args:UU)(e:UT)(X:UZ)(r0:AV)(Q:NM->List U8->Prop):Prop:=∃N' l,Q N' l/\Up X e l/\de P f args e r0 l
namespace MV
variable {p:ab}{C:aI}{m:MV}{N:NM}{e:UT}{P:U6}{f:FuncId}{rest:UU}{r0:AV}{X:UZ}
def kL(N:NM)(c':MC)(jk':List aj)(e:UT):UT:=bp (bp (bp e (hn 0 N.ah.c) (.var 217 (cE c' ⟨N.ah.c,N.ah.v,jk'⟩))) (hn 2 N.ah.v) (.aJ 54 3 ((c'.stack++jk').map bY))) (hn 1 N.ah.c) (.aJ 54 3 (c'.slots.map bY))
def bO.nI(hR:bO p C m N e)(h1:1<=m.calls.length){c':MC}{jk':List aj}(hb:c'.stack.length+jk'.length<=2000)(Vr:aY eJ rest=true)(hr:r0.all eJ=true)
  (hc:af P f (.pt 6 0 0 0::rest) (kE m.ah.fn m.ah.at_ m.ah.mark m.ah.stack N.ah.jk m.ah.slots) fun r l=>r=r0/\l=kE c'.fn c'.at_ c'.mark c'.stack jk' c'.slots) :
  (bO p C (m.aU c') (N.aU ⟨N.ah.c,N.ah.v,jk'⟩) (kL N c' jk' e)/\(N.aU ⟨N.ah.c,N.ah.v,jk'⟩).ah.c=N.ah.c)/\Up X e (kL N c' jk' e)/\de P f (.pt (hn 0 N.ah.c) 0 0 0::rest) e r0 (kL N c' jk' e):=by
 have ht:=hR.ah h1;unfold kL;have a1:hn 0 N.ah.c≠hn 2 N.ah.v:=dt jB jB jB;have a2:hn 0 N.ah.c≠hn 1 N.ah.c:=dt jB jB jB;have a3:hn 2 N.ah.v≠hn 1 N.ah.c:=dt jB jB jB;have q6:pq 6 7 8 (hn 0 N.ah.c) (hn 2 N.ah.v) (hn 1 N.ah.c) 6=hn 0 N.ah.c:=rfl;have q7:pq 6 7 8 (hn 0 N.ah.c) (hn 2 N.ah.v) (hn 1 N.ah.c) 7=hn 2 N.ah.v:=rfl;have q8:pq 6 7 8 (hn 0 N.ah.c) (hn 2 N.ah.v) (hn 1 N.ah.c) 8=hn 1 N.ah.c:=rfl;have ea:fm (pq 6 7 8 (hn 0 N.ah.c) (hn 2 N.ah.v) (hn 1 N.ah.c)) (.pt 6 0 0 0::rest)=.pt (hn 0 N.ah.c) 0 0 0::rest:=by simp only[fm,AV.bV,q6,sO _ Vr]
 have el:gI e (lp (pq 6 7 8 (hn 0 N.ah.c) (hn 2 N.ah.v) (hn 1 N.ah.c)) (kE c'.fn c'.at_ c'.mark c'.stack jk' c'.slots))=bp (bp (bp e (hn 0 N.ah.c) (.var 217 (cE c' ⟨N.ah.c,N.ah.v,jk'⟩))) (hn 2 N.ah.v) (.aJ 54 3 ((c'.stack++jk').map bY))) (hn 1 N.ah.c) (.aJ 54 3 (c'.slots.map bY)):=by simp only[kE,lp,List.map_cons,List.map_nil,gI,q6,q7,q8,Row.bV,fm,AV.bV,wk (enc:=bY) (sz:=3),cE]
 have i0:=gl ht.var;have i1:=gl ht.ff;have i2:=gl ht.cO;have no:∀l:List aj,aY eJ ((l.map bY).flatten)=true:=fun l=>pB (ot (enc:=bY) (sz:=3) _)
 have hl:=hR.len;have Zn:bO p C (m.aU c') (N.aU ⟨N.ah.c,N.ah.v,jk'⟩) (bp (bp (bp e (hn 0 N.ah.c) (.var 217 (cE c' ⟨N.ah.c,N.ah.v,jk'⟩))) (hn 2 N.ah.v) (.aJ 54 3 ((c'.stack++jk').map bY))) (hn 1 N.ah.c) (.aJ 54 3 (c'.slots.map bY))):=by
  refine hR.aU h1 rfl ?_ ⟨?_,?_,?_,hb⟩ (.inl rfl) fun j hj n0 n1 n2=>?_
  ·refine((hR.ok.put (.inr (iN _ _)) ?_).put (.inr (iN _ _)) ?_).put (.inr (iN _ _)) ?_
   ·simp only[Row.cells,cE,aY,AV.all,i1,i2,Bool.or_true,Bool.and_self]
   ·exact gf (fun _ h=>by cases h) _ (no _)
   ·exact gf (fun _ h=>by cases h) _ (no _)
  ·rw[bP,if_neg a2,bP,if_neg a1,bP,if_pos rfl]
  ·rw[bP,if_neg a3,bP,if_pos rfl]
  ·rw[bP,if_pos rfl]
  ·rw[bP,if_neg n1,bP,if_neg n2,bP,if_neg n0]
 have hup:Up X e (bp (bp (bp e (hn 0 N.ah.c) (.var 217 (cE c' ⟨N.ah.c,N.ah.v,jk'⟩))) (hn 2 N.ah.v) (.aJ 54 3 ((c'.stack++jk').map bY))) (hn 1 N.ah.c) (.aJ 54 3 (c'.slots.map bY))):=by
  refine((Up.put _ (.inl ?_)).trans (Up.put _ (.inl ?_))).trans (Up.put _ (.inl ?_))
  ·rw[ht.var];simp
  ·rw[bP,if_neg (fun e=>a1 e.symm),ht.cO];simp
  ·rw[bP,if_neg (fun e=>a3 e.symm),bP,if_neg (fun e=>a2 e.symm),ht.ff];simp
 refine⟨⟨Zn,?_⟩,hup,⟨?_,hR.ok,Zn.ok,hup.aW,?_⟩⟩
 ·show(nth (N.cs.set _ _) ((N.cs.set _ _).length-1)).c=_;rw[List.length_set,Go.Gd.dH _ _ _ _ jB,if_pos rfl]
 ·rw[<-ea,<-el];refine(af.at (e:=e) (HB a1 a2 a3) hc (fun i r h=>?_) ?_ (fun i r h=>?_) ?_ (fun i h=>h)).mono fun r l ⟨e1,e2⟩=>⟨by rw[e1,u9 _ hr],e2⟩
  ·simp only[kE,aC]at h;split at h
   ·rename_i ei;subst ei;cases h;rw[q6,ht.var];simp only[cE,Row.bV,fm,AV.bV,q7,q8]
   ·split at h
    ·rename_i ei;subst ei;cases h;rw[q7,ht.cO];simp only[Row.bV,wk (enc:=bY) (sz:=3)]
    ·split at h
     ·rename_i ei;subst ei;cases h;rw[q8,ht.ff];simp only[Row.bV,wk (enc:=bY) (sz:=3)]
     ·cases h
  ·simp only[aY,Bool.and_eq_true];exact⟨rfl,gf (fun _ h=>by cases h) _ Vr⟩
  ·simp only[kE,aC]at h;split at h
   ·cases h;rfl
   ·split at h
    ·cases h;exact gf (q:=eJ) (fun _ h=>by cases h) _ (no _)
    ·split at h
     ·cases h;exact gf (q:=eJ) (fun _ h=>by cases h) _ (no _)
     ·cases h
  ·show([6,7,8]:UZ).Nodup;decide
 ·simp only[aY,Bool.and_eq_true];exact⟨i0,gf (fun _ h=>by cases h) _ Vr⟩
def bO.cM(hR:bO p C m N e)(h1:1<=m.calls.length){c':MC}{jk':List aj}(hb:c'.stack.length+jk'.length<=2000)(Vr:aY eJ rest=true)(hr:r0.all eJ=true)
  (hc:af P f (.pt 6 0 0 0::rest) (kE m.ah.fn m.ah.at_ m.ah.mark m.ah.stack N.ah.jk m.ah.slots) fun r l=>r=r0/\l=kE c'.fn c'.at_ c'.mark c'.stack jk' c'.slots) :
  k6 P f (.pt (hn 0 N.ah.c) 0 0 0::rest) e X r0 fun N' l=>bO p C (m.aU c') N' l/\N'.k=N.k/\N'.ah.c=N.ah.c:=by
 obtain⟨h2,h3,h4⟩:=hR.nI (X:=X) h1 hb Vr hr hc;exact⟨_,_,⟨h2.1,rfl,h2.2⟩,h3,h4⟩
def bO.sI(hR:bO p C m N e)(h1:1<=m.calls.length)(Vr:aY eJ rest=true)(hr:r0.all eJ=true)
  (hc:af P f (.pt 6 0 0 0::rest) (kE m.ah.fn m.ah.at_ m.ah.mark m.ah.stack N.ah.jk m.ah.slots) fun r l=>r=r0/\l=kE m.ah.fn m.ah.at_ m.ah.mark m.ah.stack N.ah.jk m.ah.slots):de P f (.pt (hn 0 N.ah.c) 0 0 0::rest) e r0 e:=by
 have ht:=hR.ah h1;obtain⟨h2,h3,h4⟩:=hR.nI (X:=[]) (c':=m.ah) (jk':=N.ah.jk) h1 ht.bd Vr hr hc;have el:kL N m.ah N.ah.jk e=e:=by unfold kL;have e0:(⟨N.ah.c,N.ah.v,N.ah.jk⟩:NC)=N.ah:=rfl;rw[e0,uy ht.var,uy ht.cO,uy ht.ff]
 rw[el]at h4;exact h4
variable{h':UW}
def bO.oc(hR:bO p C m N e){e':UT}(ok:fQ 0 e')(h1:aC e' (hn 5 N.k)=some (.var 269 [.rs (hn 6 N.k) h'.flatten.length 1 h'.flatten.length,.rs (hn 7 N.k) h'.length 1 h'.length]))
  (h2:aC e' (hn 6 N.k)=some (.aJ 3 1 (h'.flatten.map eI))) (h3:aC e' (hn 7 N.k)=some (.aJ 3 1 ((lG h').map eI))) (hs:∀j,j≠hn 5 N.k->j≠hn 6 N.k->j≠hn 7 N.k->aC e' j=aC e j):bO p C { m with heap:=h' } N e':=by
 have kind:∀(a k:Nat) (r:Row),a≠5->a≠6->a≠7->a<32->aC e (hn a k)=some r->aC e' (hn a k)=some r:=fun a k r h5 h6 h7 WY h=>by rw[hs _ (dt WY jB h5) (dt WY jB h6) (dt WY jB h7)];exact h
 exact⟨ok,kind _ _ _ jB jB jB jB hR.root,kind _ _ _ jB jB jB jB hR.row,h1,h2,h3,kind _ _ _ jB jB jB jB hR.outs,hR.len,fun k hk=> ⟨kind _ _ _ jB jB jB jB (hR.call k hk).var,kind _ _ _ jB jB jB jB (hR.call k hk).cO,kind _ _ _ jB jB jB jB (hR.call k hk).ff,(hR.call k hk).bd⟩,hR.nc,hR.nv,hR.bd⟩
def hL(N:NM)(h':UW)(e:UT):UT:=bp (bp (bp e (hn 5 N.k) (.var 269 [.rs (hn 6 N.k) h'.flatten.length 1 h'.flatten.length,.rs (hn 7 N.k) h'.length 1 h'.length])) (hn 6 N.k) (.aJ 3 1 (h'.flatten.map eI))) (hn 7 N.k) (.aJ 3 1 ((lG h').map eI))
def bO.qa(hR:bO p C m N e)(Vr:aY eJ rest=true)(hr:r0.all eJ=true)(hc:af P f (.pt 2 0 0 0::rest) (gO m.heap) fun r l=>r=r0/\l=gO h') :
  bO p C { m with heap:=h' } N (hL N h' e)/\Up X e (hL N h' e)/\de P f (.pt (hn 5 N.k) 0 0 0::rest) e r0 (hL N h' e):=by
 unfold hL;have a1:hn 5 N.k≠hn 6 N.k:=dt jB jB jB;have a2:hn 5 N.k≠hn 7 N.k:=dt jB jB jB;have a3:hn 6 N.k≠hn 7 N.k:=dt jB jB jB;have q6:pq 2 3 4 (hn 5 N.k) (hn 6 N.k) (hn 7 N.k) 2=hn 5 N.k:=rfl;have q7:pq 2 3 4 (hn 5 N.k) (hn 6 N.k) (hn 7 N.k) 3=hn 6 N.k:=rfl;have q8:pq 2 3 4 (hn 5 N.k) (hn 6 N.k) (hn 7 N.k) 4=hn 7 N.k:=rfl;have ea:fm (pq 2 3 4 (hn 5 N.k) (hn 6 N.k) (hn 7 N.k)) (.pt 2 0 0 0::rest)=.pt (hn 5 N.k) 0 0 0::rest:=by simp only[fm,AV.bV,q6,sO _ Vr]
 have el:gI e (lp (pq 2 3 4 (hn 5 N.k) (hn 6 N.k) (hn 7 N.k)) (gO h'))=bp (bp (bp e (hn 5 N.k) (.var 269 [.rs (hn 6 N.k) h'.flatten.length 1 h'.flatten.length,.rs (hn 7 N.k) h'.length 1 h'.length])) (hn 6 N.k) (.aJ 3 1 (h'.flatten.map eI))) (hn 7 N.k) (.aJ 3 1 ((lG h').map eI)):=by simp only[gO,lp,List.map_cons,List.map_nil,gI,q6,q7,q8,Row.bV,fm,AV.bV,wk (enc:=eI) (sz:=1)]
 have i0:=gl hR.hp;have i1:=gl hR.cells;have i2:=gl hR.ends;have no:∀l:UY,aY eJ ((l.map eI).flatten)=true:=fun l=>pB (ot (enc:=eI) (sz:=1) _)
 have Zn:bO p C { m with heap:=h' } N (bp (bp (bp e (hn 5 N.k) (.var 269 [.rs (hn 6 N.k) h'.flatten.length 1 h'.flatten.length,.rs (hn 7 N.k) h'.length 1 h'.length])) (hn 6 N.k) (.aJ 3 1 (h'.flatten.map eI))) (hn 7 N.k) (.aJ 3 1 ((lG h').map eI))):=by
  refine hR.oc ?_ ?_ ?_ ?_ fun j n0 n1 n2=>?_
  ·refine((hR.ok.put (.inr (iN _ _)) ?_).put (.inr (iN _ _)) ?_).put (.inr (iN _ _)) ?_
   ·simp only[Row.cells,aY,AV.all,i1,i2,Bool.or_true,Bool.and_self]
   ·exact gf (fun _ h=>by cases h) _ (no _)
   ·exact gf (fun _ h=>by cases h) _ (no _)
  ·rw[bP,if_neg a2,bP,if_neg a1,bP,if_pos rfl]
  ·rw[bP,if_neg a3,bP,if_pos rfl]
  ·rw[bP,if_pos rfl]
  ·rw[bP,if_neg n2,bP,if_neg n1,bP,if_neg n0]
 have hup:Up X e (bp (bp (bp e (hn 5 N.k) (.var 269 [.rs (hn 6 N.k) h'.flatten.length 1 h'.flatten.length,.rs (hn 7 N.k) h'.length 1 h'.length])) (hn 6 N.k) (.aJ 3 1 (h'.flatten.map eI))) (hn 7 N.k) (.aJ 3 1 ((lG h').map eI))):=by
  refine((Up.put _ (.inl ?_)).trans (Up.put _ (.inl ?_))).trans (Up.put _ (.inl ?_))
  ·rw[hR.hp];simp
  ·rw[bP,if_neg (fun e=>a1 e.symm),hR.cells];simp
  ·rw[bP,if_neg (fun e=>a3 e.symm),bP,if_neg (fun e=>a2 e.symm),hR.ends];simp
 refine⟨Zn,hup,⟨?_,hR.ok,Zn.ok,hup.aW,?_⟩⟩
 ·rw[<-ea,<-el];refine(af.at (e:=e) (HB a1 a2 a3) hc (fun i r h=>?_) ?_ (fun i r h=>?_) ?_ (fun i h=>h)).mono fun r l ⟨e1,e2⟩=>⟨by rw[e1,u9 _ hr],e2⟩
  ·simp only[gO,aC]at h;split at h
   ·rename_i ei;subst ei;cases h;rw[q6,hR.hp];simp only[Row.bV,fm,AV.bV,q7,q8]
   ·split at h
    ·rename_i ei;subst ei;cases h;rw[q7,hR.cells];simp only[Row.bV,wk (enc:=eI) (sz:=1)]
    ·split at h
     ·rename_i ei;subst ei;cases h;rw[q8,hR.ends];simp only[Row.bV,wk (enc:=eI) (sz:=1)]
     ·cases h
  ·simp only[aY,Bool.and_eq_true];exact⟨rfl,gf (fun _ h=>by cases h) _ Vr⟩
  ·simp only[gO,aC]at h;split at h
   ·cases h;rfl
   ·split at h
    ·cases h;exact gf (q:=eJ) (fun _ h=>by cases h) _ (no _)
    ·split at h
     ·cases h;exact gf (q:=eJ) (fun _ h=>by cases h) _ (no _)
     ·cases h
  ·show([2,3,4]:UZ).Nodup;decide
 ·simp only[aY,Bool.and_eq_true];exact⟨i0,gf (fun _ h=>by cases h) _ Vr⟩
def bO.tv(hR:bO p C m N e)(Vr:aY eJ rest=true)(hr:r0.all eJ=true)(hc:af P f (.pt 2 0 0 0::rest) (gO m.heap) fun r l=>r=r0/\l=gO h') :
  k6 P f (.pt (hn 5 N.k) 0 0 0::rest) e X r0 fun N' l=>bO p C { m with heap:=h' } N' l/\N'.k=N.k/\N'.ah.c=N.ah.c:=by
 obtain⟨h2,h3,h4⟩:=hR.qa (X:=X) Vr hr hc;exact⟨_,_,⟨h2,rfl,rfl⟩,h3,h4⟩
def bO.lq(hR:bO p C m N e)(Vr:aY eJ rest=true)(hr:r0.all eJ=true)(hc:af P f (.pt 2 0 0 0::rest) (gO m.heap) fun r l=>r=r0/\l=gO m.heap):de P f (.pt (hn 5 N.k) 0 0 0::rest) e r0 e:=by
 obtain⟨h2,h3,h4⟩:=hR.qa (X:=[]) (h':=m.heap) Vr hr hc;have el:hL N m.heap e=e:=by unfold hL;rw[uy hR.hp,uy hR.cells,uy hR.ends]
 rw[el]at h4;exact h4
end MV
variable{H:Hp}{t:U1}
def iT.fS{r:AV}(i j k:Nat)(e:U1)(sz:Nat){cs:UU}(hi:H.get i=none)(h0:0<sz)(hj:H.get j=some (.var t cs))(hk:cs[k]?=some (.raw (.slice none 0 0))):iT r H r ((H.put i (.aJ e sz [])).put j (.var t (cs.set k (.rs i 0 sz 0)))):=fun w v h1 h2=>by
 obtain⟨a,b⟩:=yh h1 hi e h0;have hij:j≠i:=fun e=>by subst e;rw[hi]at hj;cases hj
 obtain⟨a',b'⟩:=B7 (cs':=cs.set k (.rs i 0 sz 0)) a (j:=j) (t:=t) (cs:=cs) (by rw[Hp.bn,if_neg hij];exact hj) jE fun n x x' v hx Vx hv=>by
  rw[List.getElem?_set]at Vx;by_cases hn:k=n
  ·subst hn;rw[if_pos rfl]at Vx;split at Vx
   ·cases Vx;rw[hk]at hx;cases hx;cases hv;exact .iO _ _ _ _ (NW.cA _ _ _ _)
   ·cases Vx
  ·rw[if_neg hn,hx]at Vx;cases Vx;exact hv
 exact⟨w.name i 0 .nil,rfl,a',h2.ext b,(b.trans b').pS⟩
abbrev mP(N:NM):AV:=.pt (hn 3 N.k) 0 0 0
abbrev cP(N:NM):AV:=.pt (hn 0 N.ah.c) 0 0 0
def To(p:ab)(C:aI)(m':MV)(N:NM)(N':NM)(l:UT):Prop:=MV.bO p C m' N' l/\N'.k=N.k/\N'.ah.c=N.ah.c
def NM.pop(N:NM):NM:={ N with cs:=N.cs.take (N.cs.length-1),cj:=N.ah.c::N.cj }
def NM.oh(N:NM)(j:Nat):NM:={ N with cs:=N.cs++[⟨j,j,[]⟩],cj:=N.cj.drop 1 }
namespace MV
variable {p:ab}{C:aI}{m:MV}{N:NM}{e:UT}
def bO.gF(hR:bO p C m N e){e':UT}(h:∀j,j∈ids e->j∈ids e')(m':MV)(N':NM)(hk:N'.k=N.k):aY (fun j=>(ids e').contains j) (mE p C m' N')=true:=by have c4:=List.contains_iff_mem.2 (h _ (List.contains_iff_mem.1 (gl hR.row)));have c5:=List.contains_iff_mem.2 (h _ (List.contains_iff_mem.1 (gl hR.hp)));have c8:=List.contains_iff_mem.2 (h _ (List.contains_iff_mem.1 (gl hR.outs)));have up:aY (fun j=>(ids e').contains j) (kH p)=true:=gf (q:=eJ) (fun _ h=>by cases h) _ rfl;unfold mE;rw[tD,up,hk];simp only[aY,AV.all,c4,c5,c8,Bool.and_self,aM]
def TF(h1:1<=N.cs.length):N.pop.cs.map NC.c++N.pop.cj=N.cs.map NC.c++N.cj:=by
 show(N.cs.take (N.cs.length-1)).map NC.c++(N.ah.c::N.cj)=_;have e1:N.cs.take (N.cs.length-1)++[N.ah]=N.cs:=by unfold NM.ah;rw[fA jB,List.take_append_getElem,show N.cs.length-1+1=N.cs.length from jB,List.take_length]
 have:(N.cs.take (N.cs.length-1)).map NC.c++(N.ah.c::N.cj)=((N.cs.take (N.cs.length-1)++[N.ah]).map NC.c)++N.cj:=jE;rw[this,e1]
def bO.xR(hR:bO p C m N e)(h1:1<=m.calls.length){m':MV}(hc:m'.calls=m.calls.take (m.calls.length-1))(h2:m'.heap=m.heap)(h3:m'.aZ=m.aZ):bO p C m' N.pop (bp e (hn 3 N.k) (.var 205 (mE p C m' N.pop))):=by
 have hl:=hR.len;have kind:∀(a k:Nat) (r:Row),a≠3->a<32->aC e (hn a k)=some r->aC (bp e (hn 3 N.k) (.var 205 (mE p C m' N.pop))) (hn a k)=some r:=fun a k r h3 WY h=>by rw[bP,if_neg (dt WY jB h3)];exact h
 have lt:(N.cs.take (N.cs.length-1)).length=N.cs.length-1:=by rw[List.length_take];omega
 have ml:m'.calls.length=m.calls.length-1:=by rw[hc,List.length_take];omega
 refine⟨hR.ok.put (.inr (iN _ _)) ?_,by show aC _ (hn 3 N.k)=_;rw[bP,if_pos rfl],?_,?_,?_,?_,?_,by rw[ml,<-hl];exact lt,fun k hk=>?_,?_,?_,?_⟩
 ·exact gf (fun j hj=>by rw[Bool.or_eq_true];exact .inr hj) _ (hR.gF (fun _ h=>h) m' N.pop rfl)
 ·rw[TF jB];exact kind _ _ _ jB jB hR.row
 ·rw[h2];exact kind _ _ _ jB jB hR.hp
 ·rw[h2];exact kind _ _ _ jB jB hR.cells
 ·rw[h2];exact kind _ _ _ jB jB hR.ends
 ·rw[h3];exact kind _ _ _ jB jB hR.outs
 ·rw[ml]at hk;have Wr:=hR.call k jB;have e1:nth m'.calls k=nth m.calls k:=by
   rw[hc];unfold nth;rw[List.getD_eq_getElem?_getD,List.getElem?_take,if_pos hk,List.getD_eq_getElem?_getD]
  have e2:nth N.pop.cs k=nth N.cs k:=by show nth (N.cs.take _) k=_;unfold nth;rw[List.getD_eq_getElem?_getD,List.getElem?_take,jP,List.getD_eq_getElem?_getD]
  rw[e1,e2];exact⟨kind _ _ _ jB jB Wr.var,kind _ _ _ jB jB Wr.cO,kind _ _ _ jB jB Wr.ff,Wr.bd⟩
 ·show((N.cs.take _).map NC.c).Nodup;rw[List.map_take];exact(List.take_sublist _ _).nodup hR.nc
 ·show((N.cs.take _).map NC.v).Nodup;rw[List.map_take];exact(List.take_sublist _ _).nodup hR.nv
 ·show(N.cs.take _).length+(N.ah.c::N.cj).length<=1000;have:=hR.bd;rw[lt,List.length_cons];omega
def ou(p:ab)(C:aI)(m':MV)(N:NM)(c':MC)(j:Nat)(e:UT):UT:=
 bp (bp (bp (bp (bp e (hn 1 j) (.aJ 54 3 (c'.slots.map bY))) (hn 2 j) (.aJ 54 3 (c'.stack.map bY))) (hn 0 j) (.var 217 (cE c' ⟨j,j,[]⟩))) (hn 4 N.k) (.aJ 213 1 (((N.oh j).cs.map NC.c++(N.oh j).cj).map fun j=>[.pt (hn 0 j) 0 0 0]))) (hn 3 N.k) (.var 205 (mE p C m' (N.oh j)))
def bO.De(hR:bO p C m N e)(h8:m.calls.length<=100){m':MV}{c':MC}{j:Nat}(hc:m'.calls=m.calls++[c'])(h2:m'.heap=m.heap)(h3:m'.aZ=m.aZ)(j0:aC e (hn 0 j)=none)(j1:aC e (hn 1 j)=none)(j2:aC e (hn 2 j)=none)(hb:c'.stack.length<=2000) :
  bO p C m' (N.oh j) (ou p C m' N c' j e):=by
 have hl:=hR.len;have no:∀l:List aj,aY eJ ((l.map bY).flatten)=true:=fun l=>pB (ot (enc:=bY) (sz:=3) _)
 have kind:∀(a k:Nat) (r:Row),a<32->(hn a k≠hn 1 j)->(hn a k≠hn 2 j)->(hn a k≠hn 0 j)->a≠4->a≠3->aC e (hn a k)=some r->aC (ou p C m' N c' j e) (hn a k)=some r:=fun a k r WY n1 n2 n0 h4 h3 h=>by unfold ou;rw[bP,if_neg (dt WY jB h3),bP,if_neg (dt WY jB h4),bP,if_neg n0,bP,if_neg n2,bP,if_neg n1];exact h
 have pK:∀(a k:Nat) (r:Row),a<32->4<a->aC e (hn a k)=some r->aC (ou p C m' N c' j e) (hn a k)=some r:=fun a k r WY h4 h=>kind a k r WY (dt WY jB jB) (dt WY jB jB) (dt WY jB jB) jB jB h
 have ml:m'.calls.length=m.calls.length+1:=by rw[hc];simp
 have nl:(N.oh j).cs.length=N.cs.length+1:=by show(N.cs++[_]).length=_;simp
 refine⟨?_,by show aC _ (hn 3 N.k)=_;unfold ou;rw[bP,if_pos rfl],by show aC _ (hn 4 N.k)=_;unfold ou;rw[bP,if_neg (dt jB jB jB),bP,if_pos rfl],by rw[h2];exact pK 5 _ _ jB jB hR.hp,by rw[h2];exact pK 6 _ _ jB jB hR.cells,by rw[h2];exact pK 7 _ _ jB jB hR.ends,by rw[h3];exact pK 8 _ _ jB jB hR.outs,by rw[nl,ml,hl],fun k hk=>?_,?_,?_,?_⟩
 ·unfold ou;have k1:=((hR.ok.put (i:=hn 1 j) (r:=.aJ 54 3 (c'.slots.map bY)) (.inr (iN _ _)) (gf (fun _ h=>by cases h) _ (no _))).put (i:=hn 2 j) (r:=.aJ 54 3 (c'.stack.map bY)) (.inr (iN _ _)) (gf (fun _ h=>by cases h) _ (no _)));have m1:∀x,x∈ids e->x∈ids (bp (bp e (hn 1 j) (.aJ 54 3 (c'.slots.map bY))) (hn 2 j) (.aJ 54 3 (c'.stack.map bY))):=fun x hx=>(o6 _ _ _ _).2 (.inr ((o6 _ _ _ _).2 (.inr hx)))
  have i1:hn 1 j∈ids (bp (bp e (hn 1 j) (.aJ 54 3 (c'.slots.map bY))) (hn 2 j) (.aJ 54 3 (c'.stack.map bY))):=(o6 _ _ _ _).2 (.inr ((o6 _ _ _ _).2 (.inl rfl)));have i2:hn 2 j∈ids (bp (bp e (hn 1 j) (.aJ 54 3 (c'.slots.map bY))) (hn 2 j) (.aJ 54 3 (c'.stack.map bY))):=(o6 _ _ _ _).2 (.inl rfl);generalize bp (bp e (hn 1 j) (.aJ 54 3 (c'.slots.map bY))) (hn 2 j) (.aJ 54 3 (c'.stack.map bY))=e1 at k1 m1 i1 i2;rw[<-List.contains_iff_mem]at i1 i2;have k2:=k1.put (i:=hn 0 j) (r:=.var 217 (cE c' ⟨j,j,[]⟩)) (.inr (iN _ _)) (by simp only[Row.cells,cE,aY,AV.all,i1,i2,Bool.or_true,Bool.and_self]);have m2:∀x,x∈ids e->x∈ids (bp e1 (hn 0 j) (.var 217 (cE c' ⟨j,j,[]⟩))):=fun x hx=>(o6 _ _ _ _).2 (.inr (m1 x hx))
  have i0:hn 0 j∈ids (bp e1 (hn 0 j) (.var 217 (cE c' ⟨j,j,[]⟩))):=(o6 _ _ _ _).2 (.inl rfl);generalize bp e1 (hn 0 j) (.var 217 (cE c' ⟨j,j,[]⟩))=e2 at k2 m2 i0;have hold:∀x∈N.cs.map NC.c++N.cj,hn 0 x∈ids e:=fun x hx=>by have:=BT (hR.ok.closed _ _ hR.row) [.pt (hn 0 x) 0 0 0] (List.mem_map.2 ⟨x,hx,rfl⟩);simp only[aY,AV.all,Bool.and_true]at this;exact List.contains_iff_mem.1 this
  have Ys:∀x∈(N.oh j).cs.map NC.c++(N.oh j).cj,hn 0 x∈ids e2:=fun x hx=>by
   have hx:x∈(N.cs++[(⟨j,j,[]⟩:NC)]).map NC.c++N.cj.drop 1:=hx;rw[List.map_append]at hx;simp only[List.mem_append,List.map_cons,List.map_nil,List.mem_singleton]at hx;rcases hx with(hx|rfl)|hx
   ·exact m2 _ (hold x (List.mem_append_left _ hx))
   ·exact i0
   ·exact m2 _ (hold x (List.mem_append_right _ (List.mem_of_mem_drop hx)))
  have k3:=k2.put (i:=hn 4 N.k) (r:=.aJ 213 1 (((N.oh j).cs.map NC.c++(N.oh j).cj).map fun j=>[.pt (hn 0 j) 0 0 0])) (.inr (iN _ _)) (pB fun y hy=>by obtain⟨x,hx,rfl⟩:=List.mem_map.1 hy;have:=List.contains_iff_mem.2 (Ys x hx);simp only[aY,AV.all,this,Bool.or_true,Bool.and_self])
  refine k3.put (.inr (iN _ _)) ?_;exact gf (fun j hj=>by rw[Bool.or_eq_true];exact .inr hj) _ (hR.gF (fun x hx=>(o6 _ _ _ _).2 (.inr (m2 x hx))) m' (N.oh j) rfl)
 ·rw[ml]at hk;by_cases Vk:k<m.calls.length
  ·have Wr:=hR.call k Vk;have e1:nth m'.calls k=nth m.calls k:=by rw[hc,pZ Vk]
   have e2:nth (N.oh j).cs k=nth N.cs k:=by show nth (N.cs++_) k=_;rw[pZ jB]
   have q0:hn 0 (nth N.cs k).c≠hn 0 j:=fun e'=>by rw[<-e',Wr.var]at j0;cases j0
   have q1:hn 1 (nth N.cs k).c≠hn 1 j:=fun e'=>by rw[<-e',Wr.ff]at j1;cases j1
   have q2:hn 2 (nth N.cs k).v≠hn 2 j:=fun e'=>by rw[<-e',Wr.cO]at j2;cases j2
   rw[e1,e2];exact⟨kind _ _ _ jB (dt jB jB jB) (dt jB jB jB) q0 jB jB Wr.var,kind _ _ _ jB (dt jB jB jB) q2 (dt jB jB jB) jB jB Wr.cO,kind _ _ _ jB q1 (dt jB jB jB) (dt jB jB jB) jB jB Wr.ff,Wr.bd⟩
  ·have ek:k=m.calls.length:=jB;subst ek;have e1:nth m'.calls m.calls.length=c':=by rw[hc,qq]
   have e2:nth (N.oh j).cs m.calls.length=⟨j,j,[]⟩:=by show nth (N.cs++[_]) _=_;rw[<-hl,qq]
   rw[e1,e2];refine⟨?_,?_,?_,by show c'.stack.length+0<=2000;omega⟩
   ·unfold ou;rw[bP,if_neg (dt jB jB jB),bP,if_neg (dt jB jB jB),bP,if_pos rfl]
   ·unfold ou;rw[bP,if_neg (dt jB jB jB),bP,if_neg (dt jB jB jB),bP,if_neg (dt jB jB jB),bP,if_pos rfl,List.append_nil]
   ·unfold ou;rw[bP,if_neg (dt jB jB jB),bP,if_neg (dt jB jB jB),bP,if_neg (dt jB jB jB),bP,if_neg (dt jB jB jB),bP,if_pos rfl]
 ·show((N.cs++[(⟨j,j,[]⟩:NC)]).map NC.c).Nodup;rw[List.map_append,List.nodup_append];refine⟨hR.nc,jE,fun a ha b hb e'=>?_⟩;have hb:b=j:=by simpa using hb
  obtain⟨x,hx,rfl⟩:=List.mem_map.1 ha;obtain⟨k,hk,rfl⟩:=List.getElem_of_mem hx;have:=(hR.call k jB).var;rw[fA jB,e',hb,j0]at this;cases this
 ·show((N.cs++[(⟨j,j,[]⟩:NC)]).map NC.v).Nodup;rw[List.map_append,List.nodup_append];refine⟨hR.nv,jE,fun a ha b hb e'=>?_⟩;have hb:b=j:=by simpa using hb
  obtain⟨x,hx,rfl⟩:=List.mem_map.1 ha;obtain⟨k,hk,rfl⟩:=List.getElem_of_mem hx;have:=(hR.call k jB).cO;rw[fA jB,e',hb,j2]at this;cases this
 ·show(N.cs++[_]).length+(N.cj.drop 1).length<=1000;have:=hR.bd;rw[List.length_append,List.length_drop,List.length_singleton];omega
end MV
namespace MV
variable {p:ab}{C:aI}{m:MV}{N:NM}{e:UT}
def HQ(h:1<=N.cs.length):N.aU N.ah=N:=by unfold NM.aU NM.ah;rw[fA jB,List.set_getElem_self]
def bO.kg(hR:bO p C m N e)(h1:1<=m.calls.length){c':MC}(hs:c'.stack=m.ah.stack)(hl:c'.slots=m.ah.slots):bO p C (m.aU c') N (bp e (hn 0 N.ah.c) (.var 217 (MV.cE c' N.ah))):=by
 have ht:=hR.ah h1;have O':=hR.len;have h:=hR.aU (e':=bp e (hn 0 N.ah.c) (.var 217 (MV.cE c' N.ah))) h1 (c':=c') (n':=N.ah) rfl ?_ ⟨?_,?_,?_,by rw[hs];exact ht.bd⟩ (.inl rfl) fun j hj n0 n1 n2=>by rw[bP,if_neg n0]
 ·rw[HQ jB]at h;exact h
 ·refine hR.ok.put (.inr (iN _ _)) ?_;have i1:=gl ht.ff;have i2:=gl ht.cO;simp only[Row.cells,MV.cE,aY,AV.all,i1,i2,Bool.or_true,Bool.and_self]
 ·rw[bP,if_pos rfl]
 ·rw[bP,if_neg (dt jB jB jB),hs];exact ht.cO
 ·rw[bP,if_neg (dt jB jB jB),hl];exact ht.ff
end MV
namespace MV
structure Bd(n:Nat)(m:MV):Prop where
 deep:∀k,k+1<m.calls.length->(nth m.calls k).stack.length<=1000
 slots:∀k,k<m.calls.length->(nth m.calls k).slots.length<=24
 heap:gq m.heap<=40
 outs:m.aZ.length<=24
 np:0<=m.in_
 mY:m.in_<=n
variable {n:Nat}{m:MV}
theorem Bd.ah(h:Bd n m)(h1:1<=m.calls.length):m.ah.slots.length<=24:=h.slots (m.calls.length-1) jB
theorem Bd.aU(h:Bd n m){c:MC}(hc:c.slots.length<=24):Bd n (m.aU c):=by
 have hl:(m.aU c).calls.length=m.calls.length:=bL _ _;have e:∀k,k<m.calls.length->nth (m.aU c).calls k=if k=m.calls.length-1 then c else nth m.calls k:=fun k hk=>Go.Gd.dH _ _ _ _ jB
 refine⟨fun k hk=>?_,fun k hk=>?_,h.heap,h.outs,h.np,h.mY⟩
 ·rw[hl]at hk;rw[e k jB,jN];exact h.deep k hk
 ·rw[hl]at hk;rw[e k hk];split
  ·exact hc
  ·exact h.slots k hk
theorem Bd.status(h:Bd n m)(s t:Int):Bd n { m with status:=s,cf:=t }:=⟨h.deep,h.slots,h.heap,h.outs,h.np,h.mY⟩
theorem Bd.push(h:Bd n m)(h1:1<=m.calls.length)(v:aj):Bd n (m.push v):=h.aU (h.ah h1)
theorem Bd.cut(h:Bd n m)(h1:1<=m.calls.length)(k:Nat):Bd n (m.cut k):=h.aU (h.ah h1)
theorem Bd.stops(h:Bd n m)(h1:1<=m.calls.length)(s t:Int):Bd n (m.stops s t):=(h.aU (c:=m.ah.back) (h.ah h1)).status s t
theorem Bd.dP(h:Bd n m)(h1:1<=m.calls.length)(r:aj×Int):Bd n (m.dP r):=by
 unfold MV.dP;split
 ·exact h.stops h1 _ _
 ·exact h.push h1 _
def gY{α:Type}[Inhabited α]{l:List α}{n k:Nat}(h:k<n):nth (l.take n) k=nth l k:=by unfold nth;rw[List.getD_eq_getElem?_getD,List.getElem?_take,if_pos h,List.getD_eq_getElem?_getD]
theorem Bd.pop(h:Bd n m):Bd n m.pop:=by
 have hl:m.pop.calls.length=m.calls.length-1:=by show(m.calls.take _).length=_;rw[List.length_take];omega
 have e:∀k,k<m.calls.length-1->nth m.pop.calls k=nth m.calls k:=fun k hk=>gY hk
 refine⟨fun k hk=>?_,fun k hk=>?_,h.heap,h.outs,h.np,h.mY⟩
 ·rw[hl]at hk;rw[e k jB];exact h.deep k jB
 ·rw[hl]at hk;rw[e k hk];exact h.slots k jB
theorem Bd.ends(h:Bd n m)(v:aj):Bd n (m.ends v):=by
 unfold MV.ends;split
 ·exact h.pop.status 2 m.pop.cf
 ·rename_i h2;refine h.pop.push ?_ v;show 1<=(m.calls.take _).length;rw[List.length_take];omega
theorem Bd.cR{p:ab}{C:aI}(h:Bd n m)(h1:1<=m.calls.length)(hd:m.ah.stack.length<=1000){fn:Int}{args:List aj}(s1:nth p.size fn.toNat<=24)(s2:(args.length:Int)<=nth p.size fn.toNat):Bd n (m.cR p C fn args):=by
 have hl:(m.cR p C fn args).calls.length=m.calls.length+1:=by show(m.calls++[_]).length=_;simp
 have e:∀k,k<m.calls.length->nth (m.cR p C fn args).calls k=nth m.calls k:=fun k hk=>pZ hk
 refine⟨fun k hk=>?_,fun k hk=>?_,h.heap,h.outs,h.np,h.mY⟩
 ·rw[hl]at hk;rw[e k jB];by_cases Vk:k=m.calls.length-1
  ·subst Vk;exact hd
  ·exact h.deep k jB
 ·rw[hl]at hk;by_cases Vk:k<m.calls.length
  ·rw[e k Vk];exact h.slots k Vk
  ·have:k=m.calls.length:=jB;subst this;have:nth (m.cR p C fn args).calls m.calls.length=iJ p C fn args:=qq _ _;rw[this];show(args++List.replicate _ v0).length<=24;rw[List.length_append,List.length_replicate];omega
def Bd.oc(h:Bd n m){h':UW}(hc:gq h'<=40):Bd n { m with heap:=h' }:=⟨h.deep,h.slots,hc,h.outs,h.np,h.mY⟩
end MV
namespace MV
variable (m:MV)(p:ab)(C:aI)(inp:UY)(x:az)
def O7(h:x.op=2):m.ins p C inp x=m.push (vI x.a):=by unfold MV.ins;dsimp only;rw[if_pos h]
def PH(h:x.op=3):m.ins p C inp x=m.push (vB (decide (x.a=1))):=by unfold MV.ins;dsimp only;rw[jN,if_pos h]
def L9(h:x.op=4):m.ins p C inp x=m.push (vT x.s):=by unfold MV.ins;dsimp only;rw[jN,jN,if_pos h]
def QH(h:x.op=5):m.ins p C inp x=m.push (dU m.ah.slots x.a x.b):=by unfold MV.ins;dsimp only;rw[jN,jN,jN,if_pos h]
def Ig(h:x.op=6):m.ins p C inp x=m.aU { m.ah.cut 1 with slots:=m.ah.slots.set x.a.toNat m.ah.last }:=by unfold MV.ins;dsimp only;rw[jN,jN,jN,jN,if_pos h]
def JP(h:x.op=7):m.ins p C inp x=(m.cut 2).dP (qP x.s (m.ah.cut 1).last m.ah.last):=by unfold MV.ins;dsimp only;rw[jN,jN,jN,jN,jN,if_pos h]
def Kg(h:x.op=8):m.ins p C inp x=(m.cut 1).push (mQ (⟨#[45]⟩:U0) m.ah.last):=by unfold MV.ins;dsimp only;rw[jN,jN,jN,jN,jN,jN,if_pos h]
def GW(h:x.op=9):m.ins p C inp x=(m.cut 1).push (mQ (⟨#[33]⟩:U0) m.ah.last):=by unfold MV.ins;dsimp only;rw[jN,jN,jN,jN,jN,jN,jN,if_pos h]
def JE(h:x.op=10):m.ins p C inp x=(m.cut 1).push (vI (if m.ah.last.ty=4 then((bo m.heap m.ah.last.n).length:Int)else(m.ah.last.s.size:Int))):=by unfold MV.ins;dsimp only;rw[jN,jN,jN,jN,jN,jN,jN,jN,if_pos h]
def E1(h:x.op=11):m.ins p C inp x=if m.ah.last.n<0\/((bo m.heap (dU m.ah.slots x.a 4).n).length:Int)<=m.ah.last.n then(m.cut 1).stops 3 2 else(m.cut 1).push (vI (nth (bo m.heap (dU m.ah.slots x.a 4).n) m.ah.last.n.toNat)):=by unfold MV.ins;dsimp only;rw[jN,jN,jN,jN,jN,jN,jN,jN,jN,if_pos h]
def D5(h:x.op=12):m.ins p C inp x=if(m.ah.cut 1).last.n<0\/((bo m.heap (dU m.ah.slots x.a 4).n).length:Int)<=(m.ah.cut 1).last.n then(m.cut 2).stops 3 2 else{ m.cut 2 with heap:=m.heap.set ((dU m.ah.slots x.a 4).n-1).toNat ((nth m.heap ((dU m.ah.slots x.a 4).n-1).toNat).set (m.ah.cut 1).last.n.toNat m.ah.last.n) }:=by unfold MV.ins;dsimp only;rw[jN,jN,jN,jN,jN,jN,jN,jN,jN,jN,if_pos h]
def Hc(h:x.op=13):m.ins p C inp x=if m.ah.last.n<0\/16<m.ah.last.n then(m.cut 1).stops 3 7 else if 40<gq m.heap+m.ah.last.n+1 then(m.cut 1).stops 3 4 else{ (m.cut 1).push ⟨4,m.heap.length+1,sE⟩with heap:=m.heap++[List.replicate m.ah.last.n.toNat 0] }:=by unfold MV.ins;dsimp only;rw[jN,jN,jN,jN,jN,jN,jN,jN,jN,jN,jN,if_pos h]
def fk(h:x.op=14):m.ins p C inp x=if(inp.length:Int)<=m.in_ then m.stops 1 0 else{ m.push (vI (nth inp m.in_.toNat))with in_:=m.in_+1 }:=by unfold MV.ins;dsimp only;rw[jN,jN,jN,jN,jN,jN,jN,jN,jN,jN,jN,jN,if_pos h]
def Hk(h:x.op=15):m.ins p C inp x=if 24<=m.aZ.length then m.stops 3 5 else{ m.cut 1 with aZ:=m.aZ++[mA m.ah.last] }:=by unfold MV.ins;dsimp only;rw[jN,jN,jN,jN,jN,jN,jN,jN,jN,jN,jN,jN,jN,if_pos h]
def SE(h:x.op=16):m.ins p C inp x=m.aU (m.ah.jump x.a):=by unfold MV.ins;dsimp only;rw[jN,jN,jN,jN,jN,jN,jN,jN,jN,jN,jN,jN,jN,jN,if_pos h]
def Q8(h:x.op=17):m.ins p C inp x=if m.ah.last.n=0 then m.aU ((m.ah.cut 1).jump x.a)else m.cut 1:=by unfold MV.ins;dsimp only;rw[jN,jN,jN,jN,jN,jN,jN,jN,jN,jN,jN,jN,jN,jN,jN,if_pos h]
def M3(h:x.op=18\/x.op=19):m.ins p C inp x=if(m.ah.last.n=1<->x.op=19)then m.aU (m.ah.jump x.a)else m.cut 1:=by unfold MV.ins;dsimp only;rw[jN,jN,jN,jN,jN,jN,jN,jN,jN,jN,jN,jN,jN,jN,jN,jN,if_pos h]
def Dh(h:x.op=20):m.ins p C inp x=if 8<=m.calls.length then(m.cut x.b.toNat).stops 3 3 else(m.cut x.b.toNat).cR p C x.a (m.ah.stack.drop (m.ah.stack.length-x.b.toNat)):=by unfold MV.ins;dsimp only;rw[jN,jN,jN,jN,jN,jN,jN,jN,jN,jN,jN,jN,jN,jN,jN,jN,jN,if_pos h]
def Ep(h:x.op=21):m.ins p C inp x=(m.cut 1).ends m.ah.last:=by unfold MV.ins;dsimp only;rw[jN,jN,jN,jN,jN,jN,jN,jN,jN,jN,jN,jN,jN,jN,jN,jN,jN,jN,if_pos h]
def JG(h:x.op=22):m.ins p C inp x=m.ends (vZ x.a):=by unfold MV.ins;dsimp only;rw[jN,jN,jN,jN,jN,jN,jN,jN,jN,jN,jN,jN,jN,jN,jN,jN,jN,jN,jN,if_pos h]
def Hv(h:x.op=23):m.ins p C inp x=m.cut 1:=by unfold MV.ins;dsimp only;rw[jN,jN,jN,jN,jN,jN,jN,jN,jN,jN,jN,jN,jN,jN,jN,jN,jN,jN,jN,jN,if_pos h]
def NE(h:x.op<2\/23<x.op):m.ins p C inp x=m:=by unfold MV.ins;dsimp only;rw[jN,jN,jN,jN,jN,jN,jN,jN,jN,jN,jN,jN,jN,jN,jN,jN,jN,jN,jN,jN,jN]
end MV
namespace MV
variable {p:ab}{C:aI}{m:MV}{N:NM}{e:UT}
def bO.tB(hR:bO p C m N e)(h1:1<=m.calls.length)(l:List aj)(hl:l.length=m.ah.slots.length):bO p C (m.aU { m.ah with slots:=l }) N (bp e (hn 1 N.ah.c) (.aJ 54 3 (l.map bY))):=by
 have ht:=hR.ah h1;have O':=hR.len;have h:=hR.aU (e':=bp e (hn 1 N.ah.c) (.aJ 54 3 (l.map bY))) h1 (c':={ m.ah with slots:=l }) (n':=N.ah) rfl ?_ ⟨?_,?_,?_,ht.bd⟩ (.inl rfl) fun j hj n0 n1 n2=>by rw[bP,if_neg n1]
 ·rw[HQ jB]at h;exact h
 ·exact hR.ok.put (.inr (iN _ _)) (gf (q:=eJ) (fun _ h=>by cases h) _ (pB (ot (enc:=bY) (sz:=3) _)))
 ·rw[bP,if_neg (dt jB jB jB),ht.var];unfold MV.cE;rw[<-hl]
 ·rw[bP,if_neg (dt jB jB jB)];exact ht.cO
 ·rw[bP,if_pos rfl]
end MV
theorem iT.nil{r:AV}{H:Hp}(i:Nat)(e:U1){sz:Nat}(hi:H.get i=none)(h0:0<sz)(hs:r=.raw (.slice none 0 0)):iT r H (.rs i 0 sz 0) (H.put i (.aJ e sz [])):=fun w v h1 h2=>by
 obtain⟨w',e,a,b,c⟩:=dI.nil (F:=[r]) i 0 e hi h0 (.inl (by rw[hs];rfl)) w #[v] h1 ⟨rfl,fun k a x ha hx=>by
  match k with
  |0=>cases ha;cases hx;exact h2
  |k+1=>simp at ha⟩
 exact⟨w',e,a,b.2 0 _ v rfl rfl,c⟩
variable{F:UU}
def zi{fn:Func}{out:UU}{e:Exit}(i:Nat)(t:U1)(sz:Nat)(h0:0<sz)(rs:List ResultVar)(haA:kS out=.raw (.slice none 0 0))(ho:jV P ⟨[],[]⟩ F rs=some out)(hok:kR P ⟨[],[]⟩ F rs)(Xr:fn.results.toList=rs:=by rfl)(he:e=.normal\/e=.ret:=by first|exact Or.inr rfl|exact Or.inl rfl|fail) :
  lQ P fn (fun r l=>r=.rs i 0 sz 0/\l=[(i,.aJ t sz [])]) e F ⟨[],[]⟩:=by
 subst Xr;exact vO he ho hok _ _ (iT.nil i t rfl h0 haA) ⟨rfl,rfl⟩
variable{args':UU}{q:Prop}
def AX{args:UU}{K:UR}[Inhabited α]{enc:α->UU}[he:bG enc sz]{xs:List α}(i:Nat)(Wp:∀x,lw (enc x)=true)
  (hc:af P f args' [] fun r l=>r=.rs i xs.length sz xs.length/\l=[(i,.aJ t sz (xs.map enc))]) (hi:H.get i=none) (hv:∀w vs,aL w H->bu w args vs->bu (w.cX fun _=>true) args' vs) (k:q) (h0:aX P f=true:=by exact dv) (e:K (aM enc sz xs) H=q:=by exact fq):fi P (.raw (.func (.func f) #[] #[])) args H K:=
 nw h0 (C8 Wp hi hc hv (e ▸ k))
def H4{w w':NW}{a b:AV}{vs:U3}(h:bu w [a] vs)(hab:∀v,ay w a v->ay w' b v):bu w' [b] vs:=⟨h.1,fun i x v hx hv=>by
 match i with
 |0=>cases hx;exact hab v (h.2 0 a v rfl hv)
 |i+1=>simp at hx⟩
variable{i n:Nat}
def Gn{m o:Nat}[Inhabited α]{enc:α->UU}[he:bG enc sz](l more:List α)(hi:H.get i=some (.aJ t sz ((l++more).map enc)))(hm:m=l.length+more.length)(hn:o+n=l.length)(h0:0<sz):∀w vs,aL w H->bu w [.rv i m sz o n] vs->bu (w.cX fun _=>true) [aM enc sz (l.drop o)] vs:=fun w vs hw hv=>
 H4 hv fun v h=>by
  have:=EU (d:=enc default) hw hi (by rw[List.length_map,List.length_append];exact hm) jB h0 (ot (enc:=enc) (sz:=sz) _) h;have e:(((l++more).map enc).drop o).take n=(l.drop o).map enc:=by rw[<-List.map_drop,<-List.map_take,List.drop_append_of_le_length jB,List.take_append_of_le_length (by rw[List.length_drop];omega),List.take_of_length_le (by rw[List.length_drop];omega)]
  rw[e]at this;exact this
namespace MV
variable {p:ab}{C:aI}{m:MV}{N:NM}{e:UT}
def bO.AI(hR:bO p C m N e)(h1:1<=m.calls.length)(b:Nat)(hb:b<=m.ah.stack.length):bO p C (m.cut b) (N.aU ⟨N.ah.c,N.ah.v,m.ah.stack.drop (m.ah.stack.length-b)++N.ah.jk⟩) (bp e (hn 0 N.ah.c) (.var 217 (MV.cE (m.ah.cut b) ⟨N.ah.c,N.ah.v,m.ah.stack.drop (m.ah.stack.length-b)++N.ah.jk⟩))):=by
 have ht:=hR.ah h1;have hbd:=ht.bd;refine hR.aU h1 (c':=m.ah.cut b) rfl ?_ ⟨?_,?_,?_,?_⟩ (.inl rfl) fun j hj n0 n1 n2=>by rw[bP,if_neg n0]
 ·refine hR.ok.put (.inr (iN _ _)) ?_;have i1:=gl ht.ff;have i2:=gl ht.cO;simp only[Row.cells,MV.cE,aY,AV.all,i1,i2,Bool.or_true,Bool.and_self]
 ·rw[bP,if_pos rfl]
 ·rw[bP,if_neg (dt jB jB jB)];show _=some (Row.aJ _ 3 ((m.ah.stack.take (m.ah.stack.length-b)++(m.ah.stack.drop (m.ah.stack.length-b)++N.ah.jk)).map bY));rw[<-List.append_assoc,List.take_append_drop];exact ht.cO
 ·rw[bP,if_neg (dt jB jB jB)];exact ht.ff
 ·show(m.ah.stack.take (m.ah.stack.length-b)).length+(m.ah.stack.drop (m.ah.stack.length-b)++N.ah.jk).length<=2000;rw[List.length_take,List.length_append,List.length_drop];omega
end MV
namespace MV
variable {p:ab}{C:aI}{m:MV}{N:NM}{e:UT}
def bO.Dd(hR:bO p C m N e){m':MV}(h1:m'.calls=m.calls)(h2:m'.heap=m.heap):bO p C m' N (bp (bp e (hn 8 N.k) (.aJ 9 1 (m'.aZ.map eS))) (hn 3 N.k) (.var 205 (mE p C m' N))):=by
 have kind:∀(a k:Nat) (r:Row),a≠3->a≠8->a<32->aC e (hn a k)=some r->aC (bp (bp e (hn 8 N.k) (.aJ 9 1 (m'.aZ.map eS))) (hn 3 N.k) (.var 205 (mE p C m' N))) (hn a k)=some r:=fun a k r h3 h8 WY h=>by rw[bP,if_neg (dt WY jB h3),bP,if_neg (dt WY jB h8)];exact h
 refine⟨?_,by rw[bP,if_pos rfl],kind _ _ _ jB jB jB hR.row,?_,?_,?_,?_,by rw[h1];exact hR.len,fun k hk=>?_,hR.nc,hR.nv,hR.bd⟩
 ·refine(hR.ok.put (.inr (iN _ _)) (gf (q:=eJ) (fun _ h=>by cases h) _ (pB (ot (enc:=eS) (sz:=1) _)))).put (.inr (iN _ _)) ?_;exact gf (fun j hj=>by rw[Bool.or_eq_true];exact .inr hj) _ (hR.gF (fun _ h=>(o6 _ _ _ _).2 (.inr h)) m' N rfl)
 ·rw[h2];exact kind _ _ _ jB jB jB hR.hp
 ·rw[h2];exact kind _ _ _ jB jB jB hR.cells
 ·rw[h2];exact kind _ _ _ jB jB jB hR.ends
 ·rw[bP,if_neg (dt jB jB jB),bP,if_pos rfl]
 ·rw[h1]at hk ⊢;have hc:=hR.call k hk;exact⟨kind _ _ _ jB jB jB hc.var,kind _ _ _ jB jB jB hc.cO,kind _ _ _ jB jB jB hc.ff,hc.bd⟩
end MV
theorem de.args{P:U6}{f:FuncId}{args args':UU}{e l:UT}{r0:AV}(h:de P f args' e r0 l)(hv:∀w vs,aL w (entry e)->bu w args vs->bu w args' vs)(ha:aY (fun i=>(ids e).contains i) args=true):de P f args e r0 l:=⟨h.c.args hv,h.e1,h.e2,h.aW,ha⟩
theorem Hu:∀(l:UT) (i:Nat) (r r':Row),bp (bp l i r) i r'=bp l i r'
 |[],i,r,r'=>by simp[bp]
 |(j,s)::l,i,r,r'=>by
  show bp (if i=j then(i,r)::l else(j,s)::bp l i r) i r'=(if i=j then(i,r')::l else(j,s)::bp l i r');by_cases e:i=j
  ·subst e;rw[if_pos rfl,if_pos rfl];simp[bp]
  ·rw[if_neg e,if_neg e];show(if i=j then _ else(j,s)::bp (bp l i r) i r')=_;rw[if_neg e,Hu l i r r']
def Lk(l:UT)(a k:Nat)(r r':Row):bp (bp l (hn a k) r) (hn a k) r'=bp l (hn a k) r':=Hu _ _ _ _
namespace MV
variable {p:ab}{C:aI}{m:MV}{N:NM}{e:UT}
def Qp(hR:bO p C m N e)(h1:1<=m.calls.length):bO p C m.eu N (bp (bp e (hn 3 N.k) (.var 205 (mE p C { m with status:=0 } N))) (hn 0 N.ah.c) (.var 217 (MV.cE { m.ah with mark:=m.ah.at_,at_:=m.ah.at_+1 } N.ah))):=
 (hR.mq (m':={ m with status:=0 }) rfl rfl rfl).kg h1 (c':={ m.ah with mark:=m.ah.at_,at_:=m.ah.at_+1 }) rfl rfl
end MV
def OO{m o:Nat}[Inhabited α]{enc:α->UU}[he:bG enc sz](l:List α)(hi:H.get i=some (.aJ t sz (l.map enc)))(hm:m=l.length)(hn:o+n<=l.length)(h0:0<sz):∀w vs,aL w H->bu w [.rv i m sz o n] vs->bu (w.cX fun _=>true) [aM enc sz ((l.drop o).take n)] vs:=fun w vs hw hv=>
 H4 hv fun v h=>by have:=EU (d:=enc default) hw hi (by rw[List.length_map];exact hm) jB h0 (ot (enc:=enc) (sz:=sz) _) h;rw[<-List.map_drop,<-List.map_take]at this;exact this
def Rq{h:UW}{k:Nat}(hk:k<h.length):(h.flatten.drop (kT h k)).take (nth h k).length=nth h k:=by
 have e:h.flatten=(h.take k).flatten++(nth h k++(h.drop (k+1)).flatten):=by rw[fA hk,<-List.flatten_cons,List.getElem_cons_drop,<-List.flatten_append,List.take_append_drop]
 rw[e];unfold kT;rw[List.drop_left,List.take_left]
def Ou{fn:Func}{B:UZ}{L:UT}{out:UU}{ex:Exit}{r0:AV}{e l tl:UT}(hB:ids e=B)(k1:fQ 0 e)(k2:fQ 0 l)(hp:L=tie l tl)(hl:oe 0 tl)(rs:List ResultVar)(hv:db (fR 0) ⟨B,tie l tl⟩ (kS out) r0)
  (Xr:fn.results.toList=rs:=by rfl) (he:ex=.normal\/ex=.ret:=by first|exact Or.inr rfl|exact Or.inl rfl|fail) (ho:jV P ⟨B,L⟩ F rs=some out:=by first|rfl|(simp(disch:=first|omega|fail) only[go_sem,↓reduceIte,Nat.reduceEqDiff,Nat.reduceLeDiff,Nat.reduceSub,Nat.reduceAdd];rfl)) (hok:kR P ⟨B,L⟩ F rs:=by first|exact jI|(simp(disch:=first|omega|fail) only[go_sem,↓reduceIte,Nat.reduceEqDiff,Nat.reduceLeDiff,Nat.reduceSub,Nat.reduceAdd])):lQ P fn (fun r l'=>r=r0/\l'=l) ex F ⟨B,L⟩:=by
 subst Xr hp;obtain⟨h1,h2,h3⟩:=k1.free k2 hB hl;have:=iT.free (r:=kS out) (r':=r0) (H:=⟨B,l++tl⟩) (Go.Gd.fR 0) h1 h2 hv;rw[show(Hp.mk B (l++tl)).l=l++tl from rfl,h3]at this;exact vO he ho hok r0 ⟨B,l⟩ this ⟨rfl,rfl⟩
def FZ{args:UU}{R:AV->Prop}[Inhabited α]{enc:α->UU}[he:bG enc sz]{xs:List α}(i:Nat)(Wp:∀x,lw (enc x)=true)
  (hc:af P f args' [] fun r l=>r=.rs i xs.length sz xs.length/\l=[(i,.aJ t sz (xs.map enc))]) (hi:H.get i=none) (hv:∀w vs,aL w H->bu w args vs->bu (w.cX fun _=>true) args' vs) (k:q) (h0:aX P f=true:=by exact dv) (e:R (aM enc sz xs)=q:=by exact fq):∃r,(fi P (.raw (.func (.func f) #[] #[])) args H fun r' H'=>r'=r/\H'=H)/\R r:=
 ⟨_,nw h0 (C8 (K:=fun r' H'=>r'=aM enc sz xs/\H'=H) Wp hi hc hv ⟨rfl,rfl⟩),e ▸ k⟩
def Qb{A:AS}{args:UU}{g:UR}{d:ir fun r H'=>eD A H H'/\g r H'}[Inhabited α]{enc:α->UU}[he:bG enc sz]{xs:List α}(i:Nat)(Wp:∀x,lw (enc x)=true)
  (hc:af P f args' [] fun r l=>r=.rs i xs.length sz xs.length/\l=[(i,.aJ t sz (xs.map enc))]) (hi:H.get i=none) (hv:∀w vs,aL w H->bu w args vs->bu (w.cX fun _=>true) args' vs) (k:q) (h0:aX P f=true:=by exact dv) (e:g (aM enc sz xs) H=q:=by exact fq):fi P (.raw (.func (.func f) #[] #[])) args H (AP (fun r H'=>eD A H H'/\g r H') d):=
 nw h0 (C8 (K:=AP (fun r H'=>eD A H H'/\g r H') d) Wp hi hc hv ⟨eD.refl _ _,e ▸ k⟩)
def AZ[Inhabited α]{enc:α->UU}[he:bG enc sz](l:List α)(hi:H.get i=some (.aJ t sz (l.map enc)))(hn:n=l.length):∀w vs,aL w H->bu w [.rs i n sz n] vs->bu (w.cX fun _=>true) [aM enc sz l] vs:=
 Ls ⟨db.row (dd:=enc default) l rfl hi hn,trivial⟩
namespace MV
def fW(m:MV)(k:Nat):Int:=if(k:Int)=(m.calls.length:Int)-1 then(nth m.calls k).at_ else(nth m.calls k).mark
def spot(C:aI)(m:MV)(k:Nat):gr:=⟨(nth m.calls k).fn,(nth C.ins (m.fW k).toNat).a,(nth m.calls k).slots⟩
def da(C:aI)(m:MV):iq:=⟨(List.range m.calls.length).map (m.spot C),m.heap,m.in_,m.aZ,m.status,m.cf,m.time⟩
end MV
def MV.mn:MV:=⟨[],0,[],0,[],0,0,0⟩
def xu(p:ab)(C:aI)(k:Nat):UT:=
 [(hn 5 k,.var 269 [.rs (hn 6 k) 0 1 0,.rs (hn 7 k) 0 1 0]),(hn 3 k,.var 205 (MV.mE p C MV.mn ⟨k,[],[]⟩)),(hn 4 k,.aJ 213 1 []),(hn 8 k,.aJ 9 1 []),(hn 6 k,.aJ 3 1 []),(hn 7 k,.aJ 3 1 [])]
def Ae(p:ab)(C:aI)(k i:Nat):aC (xu p C k) i=if i=hn 5 k then some (.var 269 [.rs (hn 6 k) 0 1 0,.rs (hn 7 k) 0 1 0])else if i=hn 3 k then some (.var 205 (MV.mE p C MV.mn ⟨k,[],[]⟩))else if i=hn 4 k then some (.aJ 213 1 [])else if i=hn 8 k then some (.aJ 9 1 [])else if i=hn 6 k then some (.aJ 3 1 [])else if i=hn 7 k then some (.aJ 3 1 [])else none:=rfl
def Ds(p:ab)(C:aI)(k:Nat):ids (xu p C k)=[hn 5 k,hn 3 k,hn 4 k,hn 8 k,hn 6 k,hn 7 k]:=rfl
def Ly(p:ab)(C:aI)(k:Nat):MV.bO p C MV.mn ⟨k,[],[]⟩ (xu p C k):=by
 have nd:∀a b:Nat,a<32->b<32->a≠b->hn a k≠hn b k:=fun a b ha hb h=>dt ha hb h
 have ok:fQ 0 (xu p C k):=by
  refine⟨fun i _ hi=>?_,?_,fun i r hi=>?_⟩
  ·rw[Ae];have g:=fun a=>iN a k
   rw[if_neg (by have:=g 5;omega),if_neg (by have:=g 3;omega),if_neg (by have:=g 4;omega),if_neg (by have:=g 8;omega),if_neg (by have:=g 6;omega),if_neg (by have:=g 7;omega)]
  ·rw[Ds];simp[hn]
  ·rw[Ds];rw[Ae]at hi;have up:aY (fun j=>[hn 5 k,hn 3 k,hn 4 k,hn 8 k,hn 6 k,hn 7 k].contains j) (kH p)=true:=gf (q:=eJ) (fun _ h=>by cases h) _ rfl;split at hi
   ·cases hi;simp[Row.cells,aY,AV.all]
   ·split at hi
    ·cases hi;show aY _ (MV.mE _ _ _ _)=true;unfold MV.mE;rw[tD,up];simp[aY,AV.all,aM]
    ·split at hi
     ·cases hi;rfl
     ·split at hi
      ·cases hi;rfl
      ·split at hi
       ·cases hi;rfl
       ·split at hi
        ·cases hi;rfl
        ·cases hi
 refine⟨ok,?_,?_,?_,?_,?_,?_,rfl,(fun k hk=>by cases hk),List.nodup_nil,List.nodup_nil,by show 0+0<=1000;omega⟩;all_goals rw[Ae]
 ·rw[if_neg (nd 3 5 jB jB jB),if_pos rfl]
 ·rw[if_neg (nd 4 5 jB jB jB),if_neg (nd 4 3 jB jB jB),if_pos rfl];rfl
 ·rw[if_pos rfl];rfl
 ·rw[if_neg (nd 6 5 jB jB jB),if_neg (nd 6 3 jB jB jB),if_neg (nd 6 4 jB jB jB),if_neg (nd 6 8 jB jB jB),if_pos rfl];rfl
 ·rw[if_neg (nd 7 5 jB jB jB),if_neg (nd 7 3 jB jB jB),if_neg (nd 7 4 jB jB jB),if_neg (nd 7 8 jB jB jB),if_neg (nd 7 6 jB jB jB),if_pos rfl];rfl
 ·rw[if_neg (nd 8 5 jB jB jB),if_neg (nd 8 3 jB jB jB),if_neg (nd 8 4 jB jB jB),if_pos rfl];rfl
def Sy(p:ab)(C:aI)(k:Nat)(r9:Row):dI F ⟨[],[(9,r9),(hn 5 k,.var 269 [.raw (.slice none 0 0),.raw (.slice none 0 0)]),(hn 3 k,.var 205 (kH p++[aM dw 4 C.ins,aM eI 1 C.entry,.raw (.slice none 0 0),.pt (hn 5 k) 0 0 0,.raw (.slice none 0 0),.raw (.int .i64 0),.raw (.int .i64 0),.raw (.int .i64 0),.raw (.int .i64 0)]))]⟩ F ⟨[],tie (xu p C k) [(9,r9)]⟩:=by
 have n9:∀a,hn a k≠9:=fun a e=>by have:=iN a k;omega
 have nd:∀a b:Nat,a<32->b<32->a≠b->hn a k≠hn b k:=fun a b ha hb h=>dt ha hb h
 have s1:=dI.fS (F:=F) (H:=⟨[],[(9,r9),(hn 5 k,.var 269 [.raw (.slice none 0 0),.raw (.slice none 0 0)]),(hn 3 k,.var 205 (kH p++[aM dw 4 C.ins,aM eI 1 C.entry,.raw (.slice none 0 0),.pt (hn 5 k) 0 0 0,.raw (.slice none 0 0),.raw (.int .i64 0),.raw (.int .i64 0),.raw (.int .i64 0),.raw (.int .i64 0)]))]⟩) (hn 4 k) (hn 3 k) 8 213 1 (t:=205) (cs:=kH p++[aM dw 4 C.ins,aM eI 1 C.entry,.raw (.slice none 0 0),.pt (hn 5 k) 0 0 0,.raw (.slice none 0 0),.raw (.int .i64 0),.raw (.int .i64 0),.raw (.int .i64 0),.raw (.int .i64 0)])
  (by show aC _ _=_;simp only[aC,if_neg (n9 4),if_neg (nd 4 5 jB jB jB),if_neg (nd 4 3 jB jB jB)]) jC (by show aC _ _=_;simp only[aC,if_neg (n9 3),if_neg (nd 3 5 jB jB jB),if_pos]) rfl
 have s2:=dI.fS (F:=F) (H:=(((⟨[],[(9,r9),(hn 5 k,.var 269 [.raw (.slice none 0 0),.raw (.slice none 0 0)]),(hn 3 k,.var 205 (kH p++[aM dw 4 C.ins,aM eI 1 C.entry,.raw (.slice none 0 0),.pt (hn 5 k) 0 0 0,.raw (.slice none 0 0),.raw (.int .i64 0),.raw (.int .i64 0),.raw (.int .i64 0),.raw (.int .i64 0)]))]⟩:Hp).put (hn 4 k) (.aJ 213 1 [])).put (hn 3 k) (.var 205 (kH p++[aM dw 4 C.ins,aM eI 1 C.entry,.rs (hn 4 k) 0 1 0,.pt (hn 5 k) 0 0 0,.raw (.slice none 0 0),.raw (.int .i64 0),.raw (.int .i64 0),.raw (.int .i64 0),.raw (.int .i64 0)])))) (hn 8 k) (hn 3 k) 10 9 1 (t:=205) (cs:=kH p++[aM dw 4 C.ins,aM eI 1 C.entry,.rs (hn 4 k) 0 1 0,.pt (hn 5 k) 0 0 0,.raw (.slice none 0 0),.raw (.int .i64 0),.raw (.int .i64 0),.raw (.int .i64 0),.raw (.int .i64 0)])
  (by rw[Hp.bn,if_neg (nd 8 3 jB jB jB),Hp.bn,if_neg (nd 8 4 jB jB jB)];show aC _ _=_;simp only[aC,if_neg (n9 8),if_neg (nd 8 5 jB jB jB),if_neg (nd 8 3 jB jB jB)]) jC (by rw[Hp.bn,if_pos rfl]) rfl
 have s3:=dI.fS (F:=F) (H:=((((((⟨[],[(9,r9),(hn 5 k,.var 269 [.raw (.slice none 0 0),.raw (.slice none 0 0)]),(hn 3 k,.var 205 (kH p++[aM dw 4 C.ins,aM eI 1 C.entry,.raw (.slice none 0 0),.pt (hn 5 k) 0 0 0,.raw (.slice none 0 0),.raw (.int .i64 0),.raw (.int .i64 0),.raw (.int .i64 0),.raw (.int .i64 0)]))]⟩:Hp).put (hn 4 k) (.aJ 213 1 [])).put (hn 3 k) (.var 205 (kH p++[aM dw 4 C.ins,aM eI 1 C.entry,.rs (hn 4 k) 0 1 0,.pt (hn 5 k) 0 0 0,.raw (.slice none 0 0),.raw (.int .i64 0),.raw (.int .i64 0),.raw (.int .i64 0),.raw (.int .i64 0)])))).put (hn 8 k) (.aJ 9 1 [])).put (hn 3 k) (.var 205 (kH p++[aM dw 4 C.ins,aM eI 1 C.entry,.rs (hn 4 k) 0 1 0,.pt (hn 5 k) 0 0 0,.rs (hn 8 k) 0 1 0,.raw (.int .i64 0),.raw (.int .i64 0),.raw (.int .i64 0),.raw (.int .i64 0)]))))
  (hn 6 k) (hn 5 k) 0 3 1 (t:=269) (cs:=[.raw (.slice none 0 0),.raw (.slice none 0 0)])
  (by rw[Hp.bn,if_neg (nd 6 3 jB jB jB),Hp.bn,if_neg (nd 6 8 jB jB jB),Hp.bn,if_neg (nd 6 3 jB jB jB),Hp.bn,if_neg (nd 6 4 jB jB jB)];show aC _ _=_;simp only[aC,if_neg (n9 6),if_neg (nd 6 5 jB jB jB),if_neg (nd 6 3 jB jB jB)]) jC
  (by rw[Hp.bn,if_neg (nd 5 3 jB jB jB),Hp.bn,if_neg (nd 5 8 jB jB jB),Hp.bn,if_neg (nd 5 3 jB jB jB),Hp.bn,if_neg (nd 5 4 jB jB jB)];show aC _ _=_;simp only[aC,if_neg (n9 5),if_pos]) rfl
 refine s1.trans (s2.trans (s3.trans ?_));refine dI.trans (dI.fS (hn 7 k) (hn 5 k) 1 3 1 (t:=269) (cs:=[.rs (hn 6 k) 0 1 0,.raw (.slice none 0 0)]) ?_ jC ?_ rfl) (dI.perm _ fun i=>?_)
 ·simp only[Hp.bn,if_neg (nd 7 5 jB jB jB),if_neg (nd 7 6 jB jB jB),if_neg (nd 7 3 jB jB jB),if_neg (nd 7 8 jB jB jB),if_neg (nd 7 4 jB jB jB)];show aC _ _=_;simp only[aC,if_neg (n9 7),if_neg (nd 7 5 jB jB jB),if_neg (nd 7 3 jB jB jB)]
 ·rw[Hp.bn,if_pos rfl];rfl
 ·simp only[Hp.put,bP,ko,Ae];by_cases a5:i=hn 5 k
  ·simp only[if_pos a5];rfl
  simp only[if_neg a5];by_cases a7:i=hn 7 k
  ·subst a7;simp(disch:=omega) only[go_sem,↓reduceIte]
  simp only[if_neg a7];by_cases a6:i=hn 6 k
  ·subst a6;simp(disch:=omega) only[go_sem,↓reduceIte]
  simp only[if_neg a6];by_cases a3:i=hn 3 k
  ·simp only[if_pos a3];rfl
  simp only[if_neg a3];by_cases a8:i=hn 8 k
  ·subst a8;simp(disch:=omega) only[go_sem,↓reduceIte]
  simp only[if_neg a8];by_cases a4:i=hn 4 k
  ·subst a4;simp(disch:=omega) only[go_sem,↓reduceIte]
  simp only[if_neg a4,aC,if_neg a5,if_neg a3,Option.none_or]
end Go.Gd
namespace Go.Proofs.YtjpcgmjaipfgdaaGreatDoor
open Go Go.Gd Tryz
def N9(fn at_ mark:Int)(vs jk slots:List aj)(v:aj)(hL:¬(100000<vs.length+jk.length)):af prog 203 [.pt 6 0 0 0,rV v] (kE fn at_ mark vs jk slots) (fun r l=>r=.ba []/\l=kE fn at_ mark (vs++[v]) (jk.drop 1) slots):=by
 refine aQ func203 ntmps203 ?_;refine S ?_
 (repeat' (first|refine ar fun K hK=>?_|refine av ?_|(with_reducible refine gR 1 ?_);refine dE 1 (bf 0 11) mixed ?_|(refine hK _ _ ?_;clear hK K)|(refine au ?_ ?_<;>intro hc<;>try exact jz)|refine bv 9 ?_|refine sr vs jk [v] ?_|refine aq ?_|exact jI|(clear hK K)))
 (refine bq [] ?_;try simp only[go_sem])
def Kh(fn at_ mark:Int)(vs jk slots:List aj)(h1:1<=vs.length)(hL:¬(100000<vs.length+jk.length)):af prog 217 [.pt 6 0 0 0] (kE fn at_ mark vs jk slots) (fun r l=>r=rV (nth vs (vs.length-1))/\l=kE fn at_ mark vs jk slots):=by
 refine aQ func217 ntmps217 ?_;refine S ?_
 (repeat' (first|refine ar fun K hK=>?_|refine av ?_|(with_reducible refine gR 1 ?_);refine dE 1 (bf 0 13) mixed ?_|(refine hK _ _ ?_;clear hK K)|(refine au ?_ ?_<;>intro hc<;>try exact jz)|refine al 9 ?_|refine aq ?_|exact jI|(clear hK K)))
 (refine bq [.cell 2 54] ?_;try simp only[go_sem])
def JD(fn at_ mark:Int)(vs jk slots:List aj)(v:aj)(hL:¬(100000<vs.length+1+jk.length)):af prog 208 [.pt 6 0 0 0] (kE fn at_ mark (vs++[v]) jk slots) (fun r l=>r=rV v/\l=kE fn at_ mark vs (v::jk) slots):=by
 have Xp:=Kh fn at_ mark (vs++[v]) jk slots jE (by rw[List.length_append,List.length_singleton];omega);rw[show nth (vs++[v]) ((vs++[v]).length-1)=v by simp[nth]]at Xp;have e:(vs++[v])++jk=vs++(v::jk):=jE;have e2:((vs++[v]).length:Int)-1=vs.length:=jE;have e3:(vs++[v]).length=vs.length+1:=jE;have e4:vs.length+(v::jk).length=vs.length+1+jk.length:=by simp only[List.length_cons];omega
 unfold kE at Xp ⊢;rw[e,e3]at Xp ⊢;rw[e4];refine aQ func208 ntmps208 ?_;refine S ?_
 (repeat' (first|refine ar fun K hK=>?_|refine av ?_|(with_reducible refine gR 2 ?_);refine dE 2 (bf 0 15) mixed ?_|(refine hK _ _ ?_;clear hK K)|(refine au ?_ ?_<;>intro hc<;>try exact jz)|refine al 9 ?_|refine al 10 ?_|refine cm (Xp) ?_|refine aq ?_|exact jI|(clear hK K)))
 refine bq [.cell 2 54] rfl (h2:=?_);simp[fB,mX]
def Lm(fn at_ mark:Int)(vs jk slots:List aj)(k t:Int)(hk:0<=k/\k<slots.length)(hL:¬(100000<slots.length)):af prog 207 [.pt 6 0 0 0,rI k,rI t] (kE fn at_ mark vs jk slots) (fun r l=>r=rV (dU slots k t)/\l=kE fn at_ mark vs jk slots):=by
 refine aQ func207 ntmps207 ?_;refine S ?_
 (repeat' (first|refine ar fun K hK=>?_|refine av ?_|(refine hK _ _ ?_;clear hK K)|(refine au ?_ ?_<;>intro hc<;>try exact jz)|refine al 9 ?_|refine al 10 ?_|refine cp (zG _) ?_|(first|refine cg (uI _) ?_|refine oH (uI _) ?_)|refine aq ?_|exact jI|(clear hK K)))
 all_goals(refine bq [.cell 6 54] ?_;try simp only[go_sem])
 all_goals(unfold dU;(repeat' split)<;>first|rfl|omega|(exfalso;simp_all;done)|(simp_all;done)|skip)
end Go.Proofs.YtjpcgmjaipfgdaaGreatDoor
namespace Go.Proofs.YtjpcgmjaipfgdaaGreatDoor
open Go Go.Gd Tryz Go.Gd.MV
section
variable {p:ab}{C:aI}{m:MV}{N:NM}{e:UT}(X:UZ)
def sL(hR:bO p C m N e)(h1:1<=m.calls.length)(v:aj)(hb:m.ah.stack.length<=1000):k6 prog 203 [cP N,rV v] e X (.ba []) (To p C (m.push v) N):=by have Xc:=(hR.ah h1).bd;exact hR.cM h1 (c':=m.ah.push v) (jk':=N.ah.jk.drop 1) (by show(m.ah.stack++[v]).length+_<=_;rw[List.length_append,List.length_drop,List.length_singleton];omega) rfl rfl (N9 _ _ _ _ _ _ v jB)
def EK(hR:bO p C m N e)(h1:1<=m.calls.length)(hb:1<=m.ah.stack.length):k6 prog 208 [cP N] e X (rV m.ah.last) (To p C (m.cut 1) N):=by
 have Xc:=(hR.ah h1).bd;have e1:m.ah.stack.take (m.ah.stack.length-1)++[m.ah.last]=m.ah.stack:=by unfold MC.last;rw[fA jB,List.take_append_getElem,show m.ah.stack.length-1+1=m.ah.stack.length from jB,List.take_length]
 have D':(m.ah.stack.take (m.ah.stack.length-1)).length=m.ah.stack.length-1:=by rw[List.length_take];omega
 have hc:=JD m.ah.fn m.ah.at_ m.ah.mark (m.ah.stack.take (m.ah.stack.length-1)) N.ah.jk m.ah.slots m.ah.last (by rw[D'];omega);rw[e1]at hc;have hb3:(m.ah.cut 1).stack.length+(m.ah.last::N.ah.jk).length<=2000:=by show(m.ah.stack.take (m.ah.stack.length-1)).length+_<=_;rw[D',List.length_cons];omega
 exact hR.cM h1 (c':=m.ah.cut 1) hb3 rfl rfl hc
def Pb(hR:bO p C m N e)(h1:1<=m.calls.length)(hb:1<=m.ah.stack.length):de prog 217 [cP N] e (rV m.ah.last) e:=by have Xc:=(hR.ah h1).bd;exact hR.sI h1 rfl rfl (Kh _ _ _ _ _ _ hb jB)
def Dk(hR:bO p C m N e)(h1:1<=m.calls.length)(k t:Int)(hk:0<=k/\k<m.ah.slots.length)(hb:m.ah.slots.length<=1000):de prog 207 [cP N,rI k,rI t] e (rV (dU m.ah.slots k t)) e:=
 hR.sI h1 rfl rfl (Lm _ _ _ _ _ _ k t hk jB)
def PK(hR:bO p C m N e)(a i:Int)(hl:m.heap.length<=1000)(hf:m.heap.flatten.length<=1000):de prog 213 [.pt (hn 5 N.k) 0 0 0,rI a,rI i] e (.ba [rI (if i<0\/((MV.bo m.heap a).length:Int)<=i then 0 else nth (MV.bo m.heap a) i.toNat),rI (if i<0\/((MV.bo m.heap a).length:Int)<=i then 2 else 0)]) e:=
 hR.lq rfl rfl (OI m.heap a i hl hf)
def S0(hR:bO p C m N e)(a:Int)(hl:m.heap.length<=1000)(hf:m.heap.flatten.length<=1000):de prog 212 [.pt (hn 5 N.k) 0 0 0,rI a] e (rI (MV.bo m.heap a).length) e:=
 hR.lq rfl rfl (Te m.heap a hl hf)
def MG(hR:bO p C m N e)(a i n:Int)(hl:m.heap.length<=1000)(hf:m.heap.flatten.length<=1000)(hi:¬(i<0\/((MV.bo m.heap a).length:Int)<=i)):k6 prog 214 [.pt (hn 5 N.k) 0 0 0,rI a,rI i,rI n] e X (rI 0) (To p C { m with heap:=m.heap.set (a-1).toNat ((nth m.heap (a-1).toNat).set i.toNat n) } N):=
 hR.tv rfl rfl (L8 m.heap a i n hl hf hi)
def Sf(hR:bO p C m N e)(a i n:Int)(hl:m.heap.length<=1000)(hf:m.heap.flatten.length<=1000)(hi:i<0\/((MV.bo m.heap a).length:Int)<=i):de prog 214 [.pt (hn 5 N.k) 0 0 0,rI a,rI i,rI n] e (rI 2) e:=
 hR.lq rfl rfl (TD m.heap a i n hl hf hi)
def M6(hR:bO p C m N e)(n:Int)(h0:0<=n/\n<=16)(hc:gq m.heap+n+1<=40)(YK:gq m.heap=m.heap.length+m.heap.flatten.length):k6 prog 216 [.pt (hn 5 N.k) 0 0 0,rI n] e X (.ba [rI (m.heap.length+1:Nat),rI 0]) (To p C { m with heap:=m.heap++[List.replicate n.toNat 0] } N):=by obtain⟨k,rfl⟩:∃k:Nat,n=k:=⟨n.toNat,jB⟩;rw[Int.toNat_natCast];exact hR.tv rfl rfl (Qi m.heap k jB jB)
def Of(hR:bO p C m N e)(n:Int)(h0:n<0\/16<n)(hl:m.heap.length<=40)(hf:m.heap.flatten.length<=40):de prog 216 [.pt (hn 5 N.k) 0 0 0,rI n] e (.ba [rI 0,rI 7]) e:=
 hR.lq rfl rfl (Qa m.heap n h0 hl hf)
def Rx(hR:bO p C m N e)(n:Int)(h0:0<=n/\n<=16)(hc:40<(m.heap.length:Int)+m.heap.flatten.length+n+1)(hl:m.heap.length<=40)(hf:m.heap.flatten.length<=40):de prog 216 [.pt (hn 5 N.k) 0 0 0,rI n] e (.ba [rI 0,rI 4]) e:=
 hR.lq rfl rfl (NP m.heap n h0 hc hl hf)
def Pc(hR:bO p C m N e)(h1:1<=m.calls.length):(List.map (fun j=>[AV.pt (hn 0 j) 0 0 0]) (List.map NC.c N.cs)++List.map (fun j=>[AV.pt (hn 0 j) 0 0 0]) N.cj).getD (N.cs.length-1) []=[cP N]:=by have hl:=hR.len;rw[<-List.map_append];rw[List.getD_eq_getElem?_getD,List.getElem?_map,List.getElem?_append_left (by rw[List.length_map];omega),List.getElem?_map,List.getElem?_eq_getElem jB];unfold cP NM.ah;rw[fA jB];rfl
def uC(hR:bO p C m N e)(h1:1<=m.calls.length):de prog 163 [mP N] e (cP N) e:=by
 have U9:=hR.ok.low;have hl:=hR.len;have hb:=hR.bd;have hg:=Pc hR h1;refine⟨?_,hR.ok,hR.ok,fun _ h=>h,by simp only[aY,AV.all,gl hR.root,Bool.and_self]⟩;refine aQ (L:=ids e) func163 ntmps163 ?_ (hL:=rfl);generalize hB:ids e=B;refine fg ?_
 (have W:=jA U9 (jA hR.root (jA hR.row (hg)));repeat' (first|refine ar fun K hK=>?_|refine av ?_|(with_reducible refine gR 1 ?_);refine dE 1 (bf 0 13) mixed ?_|(refine hK _ _ ?_;clear hK K)|(refine au ?_ ?_<;>intro hc<;>try exact jz)|refine aq ?_|exact jI|(clear hK K)))
 exact eO hB hR.ok hR.ok (tl:=[]) (fun _=>rfl) dO [.tmp 2]
def Fv{N:NM}{n:NC}(h:1<=N.cs.length):(N.aU n).ah=n:=by show nth (N.cs.set _ n) ((N.cs.set _ n).length-1)=n;rw[List.length_set,Go.Gd.dH _ _ _ _ jB,if_pos rfl]
def xB(hR:bO p C m N e)(h1:1<=m.calls.length)(s t:Int):k6 prog 215 [mP N,rI s,rI t] e X (.ba []) (To p C (m.stops s t) N):=by
 have ht:=uC hR h1;have hT:=hR.ah h1;have U9:=hR.ok.low;have hl:=hR.len;have YT:bO p C { m with status:=s,cf:=t } N (bp e (hn 3 N.k) (.var 205 (mE p C { m with status:=s,cf:=t } N))):=hR.mq rfl rfl rfl;have V9:=yH e X 2 0;have hnX:=Aa e X 2 0;generalize rA (ids e++X)+0=k at V9 hnX;have YO:aC (bp e (hn 3 N.k) (.var 205 (mE p C { m with status:=s,cf:=t } N))) (hn 2 k)=none:=by rw[bP,if_neg (dt jB jB jB)];exact V9
 have i1:=gl hT.ff;have Wd:bO p C (m.stops s t) (N.aU ⟨N.ah.c,k,[]⟩) (bp (bp (bp e (hn 3 N.k) (.var 205 (mE p C { m with status:=s,cf:=t } N))) (hn 2 k) (.aJ 54 3 [])) (hn 0 N.ah.c) (.var 217 (MV.cE m.ah.back ⟨N.ah.c,k,[]⟩))):=by
  refine YT.aU (c':=m.ah.back) (n':=⟨N.ah.c,k,[]⟩) h1 rfl ?_ ⟨?_,?_,?_,by show 0+0<=2000;omega⟩ (.inr YO) fun j hj n0 n1 n2=>?_
  ·refine(YT.ok.put (.inr (iN _ _)) rfl).put (.inr (iN _ _)) ?_;have j1:=gl (YT.ah h1).ff;have q1:=(o6 (bp e (hn 3 N.k) (.var 205 (mE p C { m with status:=s,cf:=t } N))) (hn 2 k) (hn 2 k) (.aJ 54 3 [])).2 (.inl rfl);have q2:=(o6 (bp e (hn 3 N.k) (.var 205 (mE p C { m with status:=s,cf:=t } N))) (hn 2 k) (hn 1 N.ah.c) (.aJ 54 3 [])).2 (.inr (List.contains_iff_mem.1 j1));rw[<-List.contains_iff_mem]at q1 q2;simp only[Row.cells,MV.cE,aY,AV.all,q1,q2,Bool.or_true,Bool.and_self]
  ·rw[bP,if_pos rfl]
  ·rw[bP,if_neg (dt jB jB jB),bP,if_pos rfl];rfl
  ·rw[bP,if_neg (dt jB jB jB),bP,if_neg (dt jB jB jB)];exact(YT.ah h1).ff
  ·rw[bP,if_neg n0,bP,if_neg (fun e'=>by subst e';exact hj YO)]
 have hU:Up X e (bp (bp (bp e (hn 3 N.k) (.var 205 (mE p C { m with status:=s,cf:=t } N))) (hn 2 k) (.aJ 54 3 [])) (hn 0 N.ah.c) (.var 217 (MV.cE m.ah.back ⟨N.ah.c,k,[]⟩))):=by
  refine((Up.put _ (.inl ?_)).trans (Up.put _ (.inr hnX))).trans (Up.put _ (.inl ?_))
  ·rw[hR.root];simp
  ·rw[bP,if_neg (dt jB jB jB),bP,if_neg (dt jB jB jB),hT.var];simp
 refine⟨_,_,⟨Wd,rfl,by rw[Fv jB]⟩,hU,⟨?_,hR.ok,Wd.ok,hU.aW,by simp only[aY,AV.all,gl hR.root,Bool.and_self]⟩⟩;have k2:=Wd.ok;clear Wd hU;generalize hE:bp (bp (bp e (hn 3 N.k) (.var 205 (mE p C { m with status:=s,cf:=t } N))) (hn 2 k) (.aJ 54 3 [])) (hn 0 N.ah.c) (.var 217 (MV.cE m.ah.back ⟨N.ah.c,k,[]⟩))=E at k2 ⊢;refine aQ (L:=ids e) func215 ntmps215 ?_ (hL:=rfl);generalize hB:ids e=B;refine fg ?_
 (have W:=jA U9 (jA hR.root (hT.var));repeat' (first|refine ar fun K hK=>?_|refine av ?_|(refine hK _ _ ?_;clear hK K)|(refine au ?_ ?_<;>intro hc<;>try exact jz)|refine cT ht ?_|refine aq ?_|exact jI|(clear hK K)))
 refine HY hB hR.ok k2 (iT.fS (t:=217) (cs:=[.raw (.slice none 0 0),rI m.ah.fn,rI m.ah.mark,rI m.ah.mark,.rs (hn 1 N.ah.c) m.ah.slots.length 3 m.ah.slots.length]) (hn 2 k) (hn 0 N.ah.c) 0 54 3 ?_ jC ?_ rfl) (tl:=[]) (fun i=>?_) dO []
 ·show aC (tie _ []) _=_;simp(disch:=first|omega|assumption|fail) only[go_sem,↓reduceIte,V9]
 ·show aC (tie _ []) _=_;simp(disch:=first|omega|assumption|fail) only[go_sem,↓reduceIte,hT.var]
 ·subst hE;simp only[Hp.put,ko,bP,aC,Option.or_none];by_cases a:i=hn 0 N.ah.c
  ·rw[if_pos a,if_pos a];rfl
  ·simp only[if_neg a];by_cases b:i=hn 2 k
   ·simp only[if_pos b]
   ·simp only[if_neg b];by_cases c:i=hn 3 N.k
    ·simp only[if_pos c];rfl
    ·simp only[if_neg c]
def xb(hR:bO p C m N e)(h1:1<=m.calls.length)(r:aj×Int)(hb:m.ah.stack.length<=1000):k6 prog 209 [mP N,rV r.1,rI r.2] e X (.ba []) (To p C (m.dP r) N):=by
 have ht:=uC hR h1;have U9:=hR.ok.low;have ha:∀v t:AV,v.all eJ=true->t.all eJ=true->aY (fun i=>(ids e).contains i) [mP N,v,t]=true:=fun v t h h'=>by simp only[aY,AV.all,gl hR.root,Bool.true_and,Bool.and_true];exact Bool.and_eq_true _ _ ▸ ⟨rk (fun _ h=>by cases h) _ h,rk (fun _ h=>by cases h) _ h'⟩
 unfold MV.dP;by_cases h0:r.2≠0
 ·rw[if_pos h0];obtain⟨N',l,hT,hU,hp⟩:=xB X hR h1 3 r.2;refine⟨N',l,hT,hU,⟨?_,hR.ok,hp.e2,hU.aW,ha _ _ rfl rfl⟩⟩;refine aQ (L:=ids e) func209 ntmps209 ?_ (hL:=rfl);generalize hB:ids e=B;refine fg ?_
  (have W:=U9;repeat' (first|refine ar fun K hK=>?_|refine av ?_|(refine hK _ _ ?_;clear hK K)|(refine au ?_ ?_<;>intro hc<;>try exact jz)|refine bv 9 ?_|refine cT hp ?_|refine aq ?_|exact jI|(clear hK K)))
  exact eO hB hR.ok hp.e2 (fun _=>rfl) (dB jC dO) []
 ·rw[if_neg h0];have h0:r.2=0:=jB;obtain⟨N',l,hT,hU,hp⟩:=sL X hR h1 r.1 hb;refine⟨N',l,hT,hU,⟨?_,hR.ok,hp.e2,hU.aW,ha _ _ rfl rfl⟩⟩;refine aQ (L:=ids e) func209 ntmps209 ?_ (hL:=rfl);generalize hB:ids e=B;refine fg ?_
  (have W:=jA U9 h0;repeat' (first|refine ar fun K hK=>?_|refine av ?_|(with_reducible refine gR 3 ?_);refine dC 3 ([],[12],[]) [] (bf 0 6) mixed ?_|(refine hK _ _ ?_;clear hK K)|(refine au ?_ ?_<;>intro hc<;>try exact jz)|refine bv 9 ?_|refine nh ht ?_|refine cT hp ?_|refine aq ?_|exact jI|(clear hK K)))
  exact eO hB hR.ok hp.e2 (fun _=>rfl) (dB jC dO) []
end
section
variable {p:ab}{C:aI}{m:MV}{N:NM}{e:UT}(X:UZ)
def qs(hR:bO p C m N e){l:UU}(h:aY eJ l=true):aY (fun i=>(ids e).contains i) (mP N::l)=true:=by simp only[aY,AV.all,gl hR.root,Bool.true_and];exact gf (fun _ h=>by cases h) _ h
def H7(hR:bO p C m N e)(h1:1<=m.calls.length)(v:aj)(hb:∀k,k<m.calls.length->(nth m.calls k).stack.length<=1000):k6 prog 218 [mP N,rV v] e X (.ba []) (fun N' l=>bO p C (m.ends v) N' l/\N'.k=N.k):=by
 have U9:=hR.ok.low;have hl:=hR.len;have hbd:=hR.bd;unfold MV.ends;by_cases h2:m.calls.length<=1
 ·rw[if_pos h2];have Wd:bO p C { m.pop with status:=2 } N.pop (bp e (hn 3 N.k) (.var 205 (mE p C { m.pop with status:=2 } N.pop))):=hR.xR h1 rfl rfl rfl;have hU:Up X e (bp e (hn 3 N.k) (.var 205 (mE p C { m.pop with status:=2 } N.pop))):=Up.put _ (.inl (by rw[hR.root];simp));refine⟨_,_,⟨Wd,rfl⟩,hU,⟨?_,hR.ok,Wd.ok,hU.aW,qs hR rfl⟩⟩;have k2:=Wd.ok;clear Wd hU;generalize hE:bp e (hn 3 N.k) (.var 205 (mE p C { m.pop with status:=2 } N.pop))=E at k2 ⊢;refine aQ (L:=ids e) func218 ntmps218 ?_ (hL:=rfl);generalize hB:ids e=B;refine fg ?_
  (have W:=jA U9 (hR.root);repeat' (first|refine ar fun K hK=>?_|refine av ?_|(with_reducible refine gR 1 ?_);refine dE 1 (bf 0 15) mixed ?_|(refine hK _ _ ?_;clear hK K)|(refine au ?_ ?_<;>intro hc<;>try exact jz)|refine bv 9 ?_|refine aq ?_|exact jI|(clear hK K)))
  refine eO (tl:=[(9,.var 54 (bY v))]) hB hR.ok k2 (fun i=>?_) (dB jC dO) [];subst hE;have e1:N.cs.length=1:=jB;simp only[ko,bP];by_cases a:i=hn 3 N.k
  ·simp only[if_pos a,Option.some_or];unfold mE NM.pop;simp[MV.pop,kH,e1,Nat.add_comm]
  ·simp only[if_neg a]
 ·rw[if_neg h2];have Wd:bO p C m.pop N.pop (bp e (hn 3 N.k) (.var 205 (mE p C m.pop N.pop))):=hR.xR h1 rfl rfl rfl;have eE:bp e (hn 3 N.k) (.var 205 (mE p C m.pop N.pop))=bp e (hn 3 N.k) (.var 205 (kH p++[aM dw 4 C.ins,aM eI 1 C.entry,.rs (hn 4 N.k) (N.cs.length+N.cj.length) 1 (N.cs.length-1),.pt (hn 5 N.k) 0 0 0,.rs (hn 8 N.k) m.aZ.length 1 m.aZ.length,.raw (.int .i64 m.in_),.raw (.int .i64 m.status),.raw (.int .i64 m.cf),.raw (.int .i64 m.time)])):=by
   unfold mE NM.pop;have:N.cs.length-1+(N.cj.length+1)=N.cs.length+N.cj.length:=jB;simp[MV.pop,this]
  rw[eE]at Wd;have hU:Up X e (bp e (hn 3 N.k) (.var 205 (kH p++[aM dw 4 C.ins,aM eI 1 C.entry,.rs (hn 4 N.k) (N.cs.length+N.cj.length) 1 (N.cs.length-1),.pt (hn 5 N.k) 0 0 0,.rs (hn 8 N.k) m.aZ.length 1 m.aZ.length,.raw (.int .i64 m.in_),.raw (.int .i64 m.status),.raw (.int .i64 m.cf),.raw (.int .i64 m.time)]))):=Up.put _ (.inl (by rw[hR.root];simp));have p1:1<=m.pop.calls.length:=by show 1<=(m.calls.take _).length;rw[List.length_take];omega
  have ht:=uC Wd p1;have hbt:m.pop.ah.stack.length<=1000:=by have:m.pop.ah=nth m.calls (m.calls.length-1-1):=MV.sk jB;rw[this];exact hb _ jB
  obtain⟨N',l,hT,V',hp⟩:=sL X Wd p1 v hbt;refine⟨N',l,⟨hT.1,hT.2.1⟩,hU.trans V',⟨?_,hR.ok,hp.e2,(hU.trans V').aW,qs hR rfl⟩⟩;clear hU V' eE;refine aQ (L:=ids e) func218 ntmps218 ?_ (hL:=rfl);generalize hB:ids e=B;refine fg ?_
  (have W:=jA U9 (hR.root);repeat' (first|refine ar fun K hK=>?_|refine av ?_|(with_reducible refine gR 1 ?_);refine dE 1 (bf 0 15) mixed ?_|(with_reducible refine gR 4 ?_);refine dC 4 ([],[28],[]) [] (bf 0 6) mixed ?_|(refine hK _ _ ?_;clear hK K)|(refine au ?_ ?_<;>intro hc<;>try exact jz)|refine bv 9 ?_|refine nh ht ?_|refine cT hp ?_|refine aq ?_|exact jI|(clear hK K)))
  exact eO hB hR.ok hp.e2 (fun _=>rfl) (dB jC dO) []
structure pY(p:ab)(C:aI)(m:MV)(fn:Int)(args:List aj):Prop where
 f0:0<=fn
 f1:fn<C.entry.length
 f2:fn<p.size.length
 s0:0<=nth p.size fn.toNat
 s1:nth p.size fn.toNat<=24
 s2:(args.length:Int)<=nth p.size fn.toNat
 pK:C.entry.length<=1000/\p.size.length<=1000
 calls:m.calls.length<=8
def FY(hR:bO p C m N e)(fn:Int)(args:List aj)(hk:pY p C m fn args):k6 prog 112 [mP N,rI fn,aM bY 3 args] e X (.ba []) (fun N' l=>bO p C (m.cR p C fn args) N' l/\N'.k=N.k):=by
 have U9:=hR.ok.low;have hl:=hR.len;have hbd:=hR.bd;obtain⟨f0,f1,f2,s0,s1,s2,⟨b1,b2⟩,h8⟩:=hk;have n0:=yH e X 0 0;have n1:=yH e X 1 0;have n2:=yH e X 2 0;have x0:=Aa e X 0 0;have x1:=Aa e X 1 0;have x2:=Aa e X 2 0;generalize rA (ids e++X)+0=k at n0 n1 n2 x0 x1 x2;have Wd:=hR.De (m':=m.cR p C fn args) (c':=iJ p C fn args) (j:=k) jB rfl rfl rfl n0 n1 n2 (by show 0<=2000;omega);have hU:Up X e (ou p C (m.cR p C fn args) N (iJ p C fn args) k e):=by
  unfold ou;refine((((Up.put _ (.inr x1)).trans (Up.put _ (.inr x2))).trans (Up.put _ (.inr x0))).trans (Up.put _ (.inl ?_))).trans (Up.put _ (.inl ?_))
  ·rw[bP,if_neg (dt jB jB jB),bP,if_neg (dt jB jB jB),bP,if_neg (dt jB jB jB),hR.row];simp
  ·rw[bP,if_neg (dt jB jB jB),bP,if_neg (dt jB jB jB),bP,if_neg (dt jB jB jB),bP,if_neg (dt jB jB jB),hR.root];simp
 obtain⟨n,Z4⟩:∃n:Nat,nth p.size fn.toNat=(n:Int):=⟨(nth p.size fn.toNat).toNat,jB⟩;refine⟨_,_,⟨Wd,rfl⟩,hU,⟨?_,hR.ok,Wd.ok,hU.aW,qs hR rfl⟩⟩;have k2:=Wd.ok;clear Wd hU;generalize hE:ou p C (m.cR p C fn args) N (iJ p C fn args) k e=E at k2 ⊢;have han:args.length<=n:=jB;refine aQ (L:=ids e) func112 ntmps112 ?_ (hL:=rfl);generalize hB:ids e=B;refine fg ?_
 (have W:=jA U9 (jA hR.root (jA hR.row (jA Z4 (jA n0 (n1)))));repeat' (first|refine ar fun K hK=>?_|refine av ?_|(with_reducible refine gR 0 ?_);refine dC 0 ([],[],[32]) [] (bf 0 29) mixed ?_|(refine hK _ _ ?_;clear hK K)|(refine au ?_ ?_<;>intro hc<;>try exact jz)|refine bv (hn 0 k) ?_|refine Og (n:=n) (hn 1 k) ?_|refine Sl ?_ (hd:=by(show aC (tie _ _) _=_;rw[ko,n1,Option.none_or];exact if_pos rfl))|refine sV 10 ?_|refine sr (enc:=fun j=>[.pt (hn 0 j) 0 0 0]) (N.cs.map NC.c) N.cj [k] ?_ (hm:=by rw[List.length_map]) (hn:=by rw[List.length_map])|refine aq ?_|exact jI|(clear hK K)))
 refine HY (tl:=[(10,.aJ 213 1 [[.pt (hn 0 k) 0 0 0]])]) hB hR.ok k2 (iT.fS (t:=217) (cs:=[.raw (.slice none 0 0),rI fn,rI (nth C.entry fn.toNat),rI (nth C.entry fn.toNat),.rs (hn 1 k) n 3 n]) (hn 2 k) (hn 0 k) 0 54 3 ?_ jC ?_ rfl) (fun i=>?_) (dB jC dO) []
 ·show aC (tie _ _) _=_;simp(disch:=first|omega|assumption|fail) only[go_sem,↓reduceIte,n2]
 ·show aC (tie _ _) _=_;simp(disch:=first|omega|assumption|fail) only[go_sem,↓reduceIte,n0]
 ·subst hE;have en:((nth p.size fn.toNat)-(args.length:Int)).toNat=n-args.length:=jB;have es:(iJ p C fn args).slots.map bY=eH (List.replicate n (bY v0)) 0 (args.map bY):=by
   show(args++List.replicate _ v0).map bY=_;unfold eH;rw[en,List.map_append,List.map_replicate];simp
  have el:(iJ p C fn args).slots.length=n:=by show(args++List.replicate _ v0).length=n;rw[en,List.length_append,List.length_replicate];omega
  have q4:hn 4 N.k≠hn 3 N.k:=dt jB jB jB;simp only[ou,Hp.put,ko,bP,es];by_cases a:i=hn 3 N.k
  ·subst a;simp(disch:=first|omega|assumption|fail) only[go_sem,↓reduceIte,NM.oh,List.length_append,List.length_drop,List.length_singleton,MV.cR]
  simp only[if_neg a];by_cases b:i=hn 4 N.k
  ·subst b;simp(disch:=first|omega|assumption|fail) only[go_sem,↓reduceIte,NM.oh,List.map_append,List.append_assoc]
  simp only[if_neg b];by_cases c:i=hn 0 k
  ·subst c;simp(disch:=first|omega|assumption|fail) only[go_sem,↓reduceIte,el];rfl
  simp only[if_neg c];by_cases d:i=hn 2 k
  ·subst d;simp(disch:=first|omega|assumption|fail) only[go_sem,↓reduceIte];rfl
  simp only[if_neg d];by_cases f:i=hn 1 k
  ·subst f;simp(disch:=first|omega|assumption|fail) only[go_sem,↓reduceIte,n1];rfl
  simp only[if_neg f,aC,if_neg c]
end
structure qj(p:ab)(C:aI)(m:MV)(x:az):Prop where
 calls:1<=m.calls.length
 nR:m.calls.length<=8
 one:x.op=6\/x.op=8\/x.op=9\/x.op=10\/x.op=11\/x.op=13\/x.op=15\/x.op=17\/x.op=18\/x.op=19\/x.op=21\/x.op=23->1<=m.ah.stack.length
 two:x.op=7\/x.op=12->2<=m.ah.stack.length
 slot:x.op=5\/x.op=6\/x.op=11\/x.op=12->0<=x.a/\x.a<m.ah.slots.length
 call:x.op=20->0<=x.b/\x.b<=m.ah.stack.length/\(m.calls.length<8->pY p C m x.a (m.ah.stack.drop (m.ah.stack.length-x.b.toNat)))
 word:x.op=15->bz m.ah.last.n
 ka:∀v∈m.ah.stack,v.s.size<=40
 deep:∀k,k<m.calls.length->(nth m.calls k).stack.length<=1000
 slots:m.ah.slots.length<=24
 heap:gq m.heap<=40
 outs:m.aZ.length<=24
 np:0<=m.in_
 mY:m.in_<=1000
theorem qj.ah{p:ab}{C:aI}{m:MV}{x:az}(h:qj p C m x):m.ah.stack.length<=1000:=h.deep (m.calls.length-1) (by have:=h.calls;omega)
section
variable {p:ab}{C:aI}{m:MV}{N:NM}{e:UT}(X:UZ)
def iw(hR:bO p C m N e)(h1:1<=m.calls.length){l:UU}(h:aY eJ l=true):aY (fun i=>(ids e).contains i) (mP N::cP N::l)=true:=by simp only[aY,AV.all,gl hR.root,gl (hR.ah h1).var,Bool.true_and];exact gf (fun _ h=>by cases h) _ h
def OR(hR:bO p C m N e)(h1:1<=m.calls.length)(x:az)(hx:¬(x.op=2\/x.op=3\/x.op=4\/x.op=5)):de prog 164 [mP N,cP N,.agg (dw x)] e (rB false) e:=by
 have U9:=hR.ok.low;refine⟨?_,hR.ok,hR.ok,fun _ h=>h,iw hR h1 rfl⟩;refine aQ (L:=ids e) func164 ntmps164 ?_ (hL:=rfl);generalize hB:ids e=B;refine fg ?_
 (have W:=U9;repeat' (first|refine ar fun K hK=>?_|refine av ?_|(with_reducible refine gR 4 ?_);refine dE 4 (bf 0 7) mixed ?_|(with_reducible refine gR 6 ?_);refine dE 6 (bf 0 8) mixed ?_|(with_reducible refine gR 8 ?_);refine dE 8 (bf 0 7) mixed ?_|(with_reducible refine gR 10 ?_);refine dE 10 (bf 0 10) mixed ?_|(refine hK _ _ ?_;clear hK K)|(refine au ?_ ?_<;>intro hc<;>try exact jz)|refine bv 9 ?_|refine aq ?_|exact jI|(clear hK K)))
 exact eO hB hR.ok hR.ok (fun _=>rfl) (dB jC dO) [.tmp 6]
def Me(hR:bO p C m N e)(inp:UY)(x:az)(hk:qj p C m x)(hx:x.op=2\/x.op=3\/x.op=4\/x.op=5):k6 prog 164 [mP N,cP N,.agg (dw x)] e X (rB true) (To p C (m.ins p C inp x) N):=by
 have h1:=hk.calls;have U9:=hR.ok.low;have h5:x.op=5->de prog 207 [cP N,rI x.a,rI x.b] e (rV (dU m.ah.slots x.a x.b)) e:=fun h=>Dk hR h1 x.a x.b (hk.slot (.inl h)) (by have:=hk.slots;omega)
 have key:∀v:aj,((x.op=2/\v=vI x.a)\/(x.op=3/\v=vB (decide (x.a=1)))\/(x.op=4/\v=vT x.s)\/(x.op=5/\v=dU m.ah.slots x.a x.b))->k6 prog 164 [mP N,cP N,.agg (dw x)] e X (rB true) (To p C (m.push v) N):=fun v hv=>by
  obtain⟨N',l,hT,hU,hp⟩:=sL X hR h1 v hk.ah;refine⟨N',l,hT,hU,⟨?_,hR.ok,hp.e2,hU.aW,iw hR h1 rfl⟩⟩;refine aQ (L:=ids e) func164 ntmps164 ?_ (hL:=rfl);generalize hB:ids e=B;refine fg ?_;rcases hv with⟨h,rfl⟩|⟨h,rfl⟩|⟨h,rfl⟩|⟨h,rfl⟩
  all_goals
   (have W:=U9;repeat' (first|refine ar fun K hK=>?_|refine av ?_|(with_reducible refine gR 4 ?_);refine dE 4 (bf 0 7) mixed ?_|(with_reducible refine gR 6 ?_);refine dE 6 (bf 0 8) mixed ?_|(with_reducible refine gR 8 ?_);refine dE 8 (bf 0 7) mixed ?_|(with_reducible refine gR 10 ?_);refine dC 10 ([],[47],[]) [] (bf 0 10) mixed ?_|(refine hK _ _ ?_;clear hK K)|(refine au ?_ ?_<;>intro hc<;>try exact jz)|refine bv 9 ?_|refine cp (ud _) ?_|refine cp (yc _) ?_|refine cp (Jt _) ?_|refine nh (h5 h) ?_|refine cT hp ?_|refine aq ?_|exact jI|(clear hK K)))
  all_goals exact eO hB hR.ok hp.e2 (fun _=>rfl) (dB jC dO) [.tmp 6]
 unfold MV.ins;rcases hx with h|h|h|h
 ·have:=key (vI x.a) (.inl ⟨h,rfl⟩);simpa[h]using this
 ·have:=key (vB (decide (x.a=1))) (.inr (.inl ⟨h,rfl⟩));simpa[h]using this
 ·have:=key (vT x.s) (.inr (.inr (.inl ⟨h,rfl⟩)));simpa[h]using this
 ·have:=key (dU m.ah.slots x.a x.b) (.inr (.inr (.inr ⟨h,rfl⟩)));simpa[h]using this
end
section
variable {p:ab}{C:aI}{m:MV}{N:NM}{e:UT}(X:UZ)
def Nq(hR:bO p C m N e)(h1:1<=m.calls.length)(x:az)(hx:¬(x.op=16\/x.op=17\/x.op=18\/x.op=19)):de prog 167 [mP N,cP N,.agg (dw x)] e (rB false) e:=by
 have U9:=hR.ok.low;refine⟨?_,hR.ok,hR.ok,fun _ h=>h,iw hR h1 rfl⟩;refine aQ (L:=ids e) func167 ntmps167 ?_ (hL:=rfl);generalize hB:ids e=B;refine fg ?_
 (have W:=U9;repeat' (first|refine ar fun K hK=>?_|refine av ?_|(with_reducible refine gR 10 ?_);refine dQ 10 mixed ?_|(refine hK _ _ ?_;clear hK K)|(refine au ?_ ?_<;>intro hc<;>try exact jz)|refine bv 9 ?_|refine aq ?_|exact jI|(clear hK K)))
 exact eO hB hR.ok hR.ok (fun _=>rfl) (dB jC dO) [.tmp 6]
def SM(hR:bO p C m N e)(inp:UY)(x:az)(hk:qj p C m x)(hx:x.op=16\/x.op=17\/x.op=18\/x.op=19):k6 prog 167 [mP N,cP N,.agg (dw x)] e X (rB true) (To p C (m.ins p C inp x) N):=by
 have h1:=hk.calls;have U9:=hR.ok.low;have hT:=hR.ah h1;by_cases WY:x.op=16
 ·have ei:m.ins p C inp x=m.aU (m.ah.jump x.a):=by unfold MV.ins;simp[WY]
  rw[ei];have Wd:=hR.kg h1 (c':=m.ah.jump x.a) rfl rfl;have hU:Up X e (bp e (hn 0 N.ah.c) (.var 217 (MV.cE (m.ah.jump x.a) N.ah))):=Up.put _ (.inl (by rw[hT.var];simp));refine⟨_,_,⟨Wd,rfl,rfl⟩,hU,⟨?_,hR.ok,Wd.ok,hU.aW,iw hR h1 rfl⟩⟩;have k2:=Wd.ok;clear Wd hU;generalize hE:bp e (hn 0 N.ah.c) (.var 217 (MV.cE (m.ah.jump x.a) N.ah))=E at k2 ⊢;refine aQ (L:=ids e) func167 ntmps167 ?_ (hL:=rfl);generalize hB:ids e=B;refine fg ?_
  (have W:=jA U9 (hT.var);repeat' (first|refine ar fun K hK=>?_|refine av ?_|(with_reducible refine gR 10 ?_);refine dQ 10 mixed ?_|(refine hK _ _ ?_;clear hK K)|(refine au ?_ ?_<;>intro hc<;>try exact jz)|refine bv 9 ?_|refine aq ?_|exact jI|(clear hK K)))
  subst hE;exact eO hB hR.ok k2 (fun _=>rfl) (dB jC dO) [.tmp 6]
 have Xg:=hk.one jB;obtain⟨N1,l1,Vg,VB,Wn⟩:=EK X hR h1 Xg;have Z8:1<=(m.cut 1).calls.length:=by rw[show(m.cut 1).calls.length=m.calls.length from MV.bL _ _];exact h1
 have Vz:=Vg.1.ok.low;have Zx:=(Vg.1.ah Z8).var;rw[Vg.2.2]at Zx;have VZ:=Vg.1.kg Z8 (c':=(m.cut 1).ah.jump x.a) rfl rfl;have V':Up X l1 (bp l1 (hn 0 N1.ah.c) (.var 217 (MV.cE ((m.cut 1).ah.jump x.a) N1.ah))):=Up.put _ (.inl (by rw[Vg.2.2,Zx];simp));by_cases h17:x.op=17
 ·by_cases hz:m.ah.last.n=0
  ·have ei:m.ins p C inp x=(m.cut 1).aU ((m.cut 1).ah.jump x.a):=by
    unfold MV.ins;simp only[h17,hz];unfold MV.cut;rw[MV.dx,MV.bs h1];rfl
   rw[ei];refine⟨_,_,⟨VZ,Vg.2.1,Vg.2.2⟩,VB.trans V',⟨?_,hR.ok,VZ.ok,(VB.trans V').aW,iw hR h1 rfl⟩⟩;have k2:=VZ.ok;clear VZ VB V';generalize hE:bp l1 (hn 0 N1.ah.c) (.var 217 (MV.cE ((m.cut 1).ah.jump x.a) N1.ah))=E at k2 ⊢;refine aQ (L:=ids e) func167 ntmps167 ?_ (hL:=rfl);generalize hB:ids e=B;refine fg ?_
   (have W:=jA U9 (jA Vz (jA Zx (hz)));repeat' (first|refine ar fun K hK=>?_|refine av ?_|(with_reducible refine gR 10 ?_);refine dQ 10 mixed ?_|(refine hK _ _ ?_;clear hK K)|(refine au ?_ ?_<;>intro hc<;>try exact jz)|refine bv 9 ?_|refine cT Wn ?_|refine aq ?_|exact jI|(clear hK K)))
   subst hE;refine eO (tl:=[(9,.var 219 (dw x))]) hB hR.ok k2 (fun i=>?_) (dB jC dO) [.tmp 6];have:=Vg.2.2;unfold MV.cE;rw[this];rfl
  ·have ei:m.ins p C inp x=m.cut 1:=by unfold MV.ins;simp only[h17];simp[hz]
   rw[ei];refine⟨_,_,Vg,VB,⟨?_,hR.ok,Wn.e2,VB.aW,iw hR h1 rfl⟩⟩;refine aQ (L:=ids e) func167 ntmps167 ?_ (hL:=rfl);generalize hB:ids e=B;refine fg ?_
   (have W:=jA U9 Vz;repeat' (first|refine ar fun K hK=>?_|refine av ?_|(with_reducible refine gR 10 ?_);refine dQ 10 mixed ?_|(refine hK _ _ ?_;clear hK K)|(refine au ?_ ?_<;>intro hc<;>try exact jz)|refine bv 9 ?_|refine cT Wn ?_|refine aq ?_|exact jI|(clear hK K)))
   exact eO hB hR.ok Wn.e2 (fun _=>rfl) (dB jC dO) [.tmp 6]
 have Xp:=Pb hR h1 Xg;have h2:x.op=18\/x.op=19:=jB;have Yy:m.ins p C inp x=if(m.ah.last.n=1<->x.op=19)then m.aU (m.ah.jump x.a)else m.cut 1:=by unfold MV.ins;rcases h2 with h|h<;>simp only[h]<;>rfl
 by_cases hj:(m.ah.last.n=1<->x.op=19)
 ·have ei:m.ins p C inp x=m.aU (m.ah.jump x.a):=by rw[Yy,if_pos hj]
  rw[ei];have ZO:=hR.kg h1 (c':=m.ah.jump x.a) rfl rfl;have hU:Up X e (bp e (hn 0 N.ah.c) (.var 217 (MV.cE (m.ah.jump x.a) N.ah))):=Up.put _ (.inl (by rw[hT.var];simp));refine⟨_,_,⟨ZO,rfl,rfl⟩,hU,⟨?_,hR.ok,ZO.ok,hU.aW,iw hR h1 rfl⟩⟩;have k2:=ZO.ok;clear ZO hU VZ V' VB;generalize hE:bp e (hn 0 N.ah.c) (.var 217 (MV.cE (m.ah.jump x.a) N.ah))=E at k2 ⊢;have hj':(decide (m.ah.last.n=1) == decide (x.op=19))=true:=by by_cases a:m.ah.last.n=1<;>by_cases b:x.op=19<;>simp[a,b]at hj ⊢
  refine aQ (L:=ids e) func167 ntmps167 ?_ (hL:=rfl);generalize hB:ids e=B;refine fg ?_;rcases h2 with h|h
  all_goals
   (have W:=jA U9 (jA hT.var (hj'));repeat' (first|refine ar fun K hK=>?_|refine av ?_|(with_reducible refine gR 10 ?_);refine dC 10 ([],[35],[]) [] (bf 0 10) mixed ?_|(refine hK _ _ ?_;clear hK K)|(refine au ?_ ?_<;>intro hc<;>try exact jz)|refine bv 9 ?_|refine nh Xp ?_|refine aq ?_|exact jI|(clear hK K)))
  all_goals
   subst hE;exact eO hB hR.ok k2 (fun _=>rfl) (dB jC dO) [.tmp 6]
 ·have ei:m.ins p C inp x=m.cut 1:=by rw[Yy,if_neg hj]
  rw[ei];refine⟨_,_,Vg,VB,⟨?_,hR.ok,Wn.e2,VB.aW,iw hR h1 rfl⟩⟩;have hj':(decide (m.ah.last.n=1) == decide (x.op=19))=false:=by by_cases a:m.ah.last.n=1<;>by_cases b:x.op=19<;>simp[a,b]at hj ⊢
  refine aQ (L:=ids e) func167 ntmps167 ?_ (hL:=rfl);generalize hB:ids e=B;refine fg ?_;rcases h2 with h|h
  all_goals
   (have W:=jA U9 (hj');repeat' (first|refine ar fun K hK=>?_|refine av ?_|(with_reducible refine gR 10 ?_);refine dC 10 ([],[35],[]) [] (bf 0 10) mixed ?_|(refine hK _ _ ?_;clear hK K)|(refine au ?_ ?_<;>intro hc<;>try exact jz)|refine bv 9 ?_|refine nh Xp ?_|refine cT Wn ?_|refine aq ?_|exact jI|(clear hK K)))
  all_goals exact eO hB hR.ok Wn.e2 (fun _=>rfl) (dB jC dO) [.tmp 6]
end
end Go.Proofs.YtjpcgmjaipfgdaaGreatDoor
namespace Go.Proofs.YtjpcgmjaipfgdaaGreatDoor
open Go Go.Gd Tryz
theorem Gu:∀h:UW,h.foldl lH (0:Int)=(h.flatten.length:Int)
 |[]=>rfl
 |x::h=>by show h.foldl lH (lH 0 x)=_;rw[nE,Gu h,List.flatten_cons,List.length_append];show(0:Int)+(x.length:Int)+_=_;omega
def wu(h:UW):gq h=h.length+h.flatten.length:=by unfold gq;rw[nE,Gu]
end Go.Proofs.YtjpcgmjaipfgdaaGreatDoor
namespace Go.Proofs.YtjpcgmjaipfgdaaGreatDoor
open Go Go.Gd Tryz Go.Gd.MV
section
variable {p:ab}{C:aI}{m:MV}{N:NM}{e:UT}(X:UZ)
def wZ(hR:bO p C m N e)(h1:1<=m.calls.length)(hb:1<=m.ah.stack.length):∃N' l,(To p C (m.cut 1) N N' l/\N'.ah.v=N.ah.v)/\Up X e l/\de prog 208 [cP N] e (rV m.ah.last) l/\∀C D,Dx ([hn 2 N.ah.v,hn 16 N.ah.c],C,D) e l:=by
 have ht:=hR.ah h1;have Xc:=ht.bd;have hl:=hR.len;have e1:m.ah.stack.take (m.ah.stack.length-1)++[m.ah.last]=m.ah.stack:=by unfold MC.last;rw[fA jB,List.take_append_getElem,show m.ah.stack.length-1+1=m.ah.stack.length from jB,List.take_length]
 have D':(m.ah.stack.take (m.ah.stack.length-1)).length=m.ah.stack.length-1:=by rw[List.length_take];omega
 have hc:=JD m.ah.fn m.ah.at_ m.ah.mark (m.ah.stack.take (m.ah.stack.length-1)) N.ah.jk m.ah.slots m.ah.last (by rw[D'];omega);rw[e1]at hc;have hb3:(m.ah.cut 1).stack.length+(m.ah.last::N.ah.jk).length<=2000:=by show(m.ah.stack.take (m.ah.stack.length-1)).length+_<=_;rw[D',List.length_cons];omega
 obtain⟨⟨h2,h3⟩,h4,h5⟩:=hR.nI (X:=X) h1 (c':=m.ah.cut 1) hb3 rfl rfl hc;refine⟨_,_,⟨⟨h2,rfl,h3⟩,by rw[Fv jB]⟩,h4,h5,fun C D j hj hje=>?_⟩;have XI:j≠hn 2 N.ah.v:=fun e'=>by subst e';simp at hj
 unfold kL;by_cases h0:j=hn 0 N.ah.c
 ·right
  subst h0;refine⟨by rw[UK];simp,217,_,.rs (hn 2 N.ah.v) ((m.ah.cut 1).stack.length+(m.ah.last::N.ah.jk).length) 3 (m.ah.cut 1).stack.length,_,ht.var,?_⟩;rw[bP,if_neg (dt jB jB jB),bP,if_neg (dt jB jB jB),bP,if_pos rfl];rfl
 ·left
  rw[bP];by_cases YX:j=hn 1 N.ah.c
  ·rw[if_pos YX];subst YX;rw[ht.ff];rfl
  ·rw[if_neg YX,bP,if_neg XI,bP,if_neg h0]
def Np(hR:bO p C m N e)(h1:1<=m.calls.length)(x:az)(hx:¬(x.op=7\/x.op=8\/x.op=9\/x.op=10)):de prog 165 [mP N,cP N,.agg (dw x)] e (rB false) e:=by
 have U9:=hR.ok.low;refine⟨?_,hR.ok,hR.ok,fun _ h=>h,iw hR h1 rfl⟩;refine aQ (L:=ids e) func165 ntmps165 ?_ (hL:=rfl);generalize hB:ids e=B;refine fg ?_
 (have W:=U9;repeat' (first|refine ar fun K hK=>?_|refine av ?_|(refine hK _ _ ?_;clear hK K)|(refine au ?_ ?_<;>intro hc<;>try exact jz)|refine bv 9 ?_|refine aq ?_|exact jI|(clear hK K)))
 exact eO hB hR.ok hR.ok (fun _=>rfl) (dB jC dO) [.tmp 6]
def JT(h1:1<=m.calls.length)(a b:Nat)(hab:a+b<=m.ah.stack.length):(m.cut a).cut b=m.cut (a+b):=by
 unfold MV.cut;rw[MV.dx,MV.bs h1];congr 1
 unfold MC.cut;simp only[List.length_take];rw[Nat.min_eq_left jB,List.take_take,Nat.min_eq_left jB];congr 1
 ·congr 1;omega
 ·omega
def Il(hb:1<=m.ah.stack.length):m.ah.last∈m.ah.stack:=by unfold MC.last;rw[fA jB];exact List.getElem_mem _
def L7(hb:2<=m.ah.stack.length):(m.ah.cut 1).last∈m.ah.stack:=by unfold MC.last MC.cut;simp only[List.length_take];rw[Nat.min_eq_left jB,Go.Gd.MV.gY jB,fA jB];exact List.getElem_mem _
def TQ(hR:bO p C m N e)(inp:UY)(x:az)(hk:qj p C m x)(hx:x.op=7\/x.op=8\/x.op=9\/x.op=10):k6 prog 165 [mP N,cP N,.agg (dw x)] e X (rB true) (To p C (m.ins p C inp x) N):=by
 have h1:=hk.calls;have U9:=hR.ok.low;have hdp:=hk.ah;have WD:1<=m.ah.stack.length:=by
  by_cases h7:x.op=7
  ·have:=hk.two (.inl h7);omega
  ·exact hk.one jB
 obtain⟨N1,l1,⟨Vg,Zx⟩,VB,Wn,Xd⟩:=wZ X hR h1 WD;have VM:(m.cut 1).calls.length=m.calls.length:=MV.bL _ _;have YG:(m.cut 1).ah=m.ah.cut 1:=MV.bs h1 _;have YU:(m.cut 1).ah.stack.length=m.ah.stack.length-1:=by rw[YG];show(m.ah.stack.take _).length=_;rw[List.length_take];omega
 have Vz:=Vg.1.ok.low;have eN1:cP N1=cP N:=by unfold cP;rw[Vg.2.2]
 have eM1:mP N1=mP N:=by unfold mP;rw[Vg.2.1]
 by_cases h7:x.op=7
 ·have h2:=hk.two (.inl h7);rw[JP _ _ _ _ _ h7];obtain⟨N2,l2,⟨V0,Y9⟩,V',YE,Zo⟩:=wZ X Vg.1 jB jB;rw[eN1,YG]at YE;rw[Zx,Vg.2.2]at Zo;have ecc:(m.cut 1).cut 1=m.cut 2:=JT h1 1 1 jB;rw[ecc]at V0;have V6:=V0.1.ok.low;have hc2:(m.cut 2).calls.length=m.calls.length:=MV.bL _ _;have hs2:(m.cut 2).ah.stack.length<=1000:=by rw[show(m.cut 2).ah=m.ah.cut 2 from MV.bs h1 _];show(m.ah.stack.take _).length<=_;rw[List.length_take];omega
  obtain⟨N',l,hT,hU,hp⟩:=xb X V0.1 jB (qP x.s (m.ah.cut 1).last m.ah.last) hs2;rw[show mP N2=mP N by unfold mP;rw[V0.2.1,Vg.2.1]]at hp;have hbB:=hk.ka _ (Il WD);have hsz2:=hk.ka _ (L7 h2);have Zv:=Ll x.s (m.ah.cut 1).last m.ah.last jB jB;refine⟨N',l,⟨hT.1,hT.2.1.trans (V0.2.1.trans Vg.2.1),hT.2.2.trans (V0.2.2.trans Vg.2.2)⟩,VB.trans (V'.trans hU),⟨?_,hR.ok,hp.e2,(VB.trans (V'.trans hU)).aW,iw hR h1 rfl⟩⟩;refine aQ (L:=ids e) func165 ntmps165 ?_ (hL:=rfl);generalize hB:ids e=B;refine fg ?_
  (have W:=jA U9 (jA Vz (V6));repeat' (first|refine ar fun K hK=>?_|refine av ?_|(with_reducible refine gR 5 ?_);refine qw 5 [hn 2 N.ah.v,hn 16 N.ah.c] [] [24] [] [0,1,2,3,4,5,7,6,8,9,10,11] mixed ?_|(refine hK _ _ ?_;clear hK K)|(refine au ?_ ?_<;>intro hc<;>try exact jz)|refine bv 9 ?_|refine cC 10 ?_|refine cT Wn ?_|refine o8 YE (Zo _ _) ?_|refine cp (Zv) ?_|refine cT hp ?_|refine aq ?_|exact jI|(clear hK K)))
  exact eO hB hR.ok hp.e2 (fun _=>rfl) (dB jC (dB jC dO)) [.tmp 6]
 by_cases h10:x.op=10
 ·rw[JE _ _ _ _ _ h10];have hbB:=hk.ka _ (Il WD);have YK:=hk.heap;rw[wu]at YK;have Vd:=S0 Vg.1 m.ah.last.n (by show m.heap.length<=1000;omega) (by show m.heap.flatten.length<=1000;omega);have hv3:=Vg.1.root;rw[Vg.2.1]at hv3 Vd;by_cases XK:m.ah.last.ty=4
  ·rw[if_pos XK];obtain⟨N',l,hT,hU,hp⟩:=sL X Vg.1 jB (vI (bo m.heap m.ah.last.n).length) jB;rw[eN1]at hp;refine⟨N',l,⟨hT.1,hT.2.1.trans Vg.2.1,hT.2.2.trans Vg.2.2⟩,VB.trans hU,⟨?_,hR.ok,hp.e2,(VB.trans hU).aW,iw hR h1 rfl⟩⟩;refine aQ (L:=ids e) func165 ntmps165 ?_ (hL:=rfl);generalize hB:ids e=B;refine fg ?_
   (have W:=jA U9 (jA Vz (jA hv3 (Vg.2.1)));repeat' (first|refine ar fun K hK=>?_|refine av ?_|(with_reducible refine gR 14 ?_);refine dC 14 ([],[70],[]) [] (bf 0 8) mixed ?_|(with_reducible refine gR 15 ?_);refine dE 15 (bf 0 6) mixed ?_|(refine hK _ _ ?_;clear hK K)|(refine au ?_ ?_<;>intro hc<;>try exact jz)|refine bv 9 ?_|refine cC 10 ?_|refine nh Vd ?_|refine cT Wn ?_|refine cp (ud _) ?_|refine cT hp ?_|refine aq ?_|exact jI|(clear hK K)))
   exact eO hB hR.ok hp.e2 (fun _=>rfl) (dB jC (dB jC dO)) [.tmp 6]
  ·rw[if_neg XK];obtain⟨N',l,hT,hU,hp⟩:=sL X Vg.1 jB (vI m.ah.last.s.size) jB;rw[eN1]at hp;refine⟨N',l,⟨hT.1,hT.2.1.trans Vg.2.1,hT.2.2.trans Vg.2.2⟩,VB.trans hU,⟨?_,hR.ok,hp.e2,(VB.trans hU).aW,iw hR h1 rfl⟩⟩;refine aQ (L:=ids e) func165 ntmps165 ?_ (hL:=rfl);generalize hB:ids e=B;refine fg ?_
   (have W:=jA U9 Vz;repeat' (first|refine ar fun K hK=>?_|refine av ?_|(with_reducible refine gR 15 ?_);refine dE 15 (bf 0 6) mixed ?_|(refine hK _ _ ?_;clear hK K)|(refine au ?_ ?_<;>intro hc<;>try exact jz)|refine bv 9 ?_|refine cC 10 ?_|refine cT Wn ?_|refine cp (ud _) ?_|refine cT hp ?_|refine aq ?_|exact jI|(clear hK K)))
   exact eO hB hR.ok hp.e2 (fun _=>rfl) (dB jC (dB jC dO)) [.tmp 6]
 have key:∀g:U0,((x.op=8/\g=(⟨#[45]⟩:U0))\/(x.op=9/\g=(⟨#[33]⟩:U0)))->k6 prog 165 [mP N,cP N,.agg (dw x)] e X (rB true) (To p C ((m.cut 1).push (mQ g m.ah.last)) N):=fun g hg=>by
  obtain⟨N',l,hT,hU,hp⟩:=sL X Vg.1 jB (mQ g m.ah.last) jB;rw[eN1]at hp;refine⟨N',l,⟨hT.1,hT.2.1.trans Vg.2.1,hT.2.2.trans Vg.2.2⟩,VB.trans hU,⟨?_,hR.ok,hp.e2,(VB.trans hU).aW,iw hR h1 rfl⟩⟩;refine aQ (L:=ids e) func165 ntmps165 ?_ (hL:=rfl);generalize hB:ids e=B;refine fg ?_;rcases hg with⟨h,rfl⟩|⟨h,rfl⟩
  all_goals
   (have W:=jA U9 Vz;repeat' (first|refine ar fun K hK=>?_|refine av ?_|(with_reducible refine gR 7 ?_);refine dE 7 (bf 0 9) mixed ?_|(with_reducible refine gR 9 ?_);refine dE 9 (bf 0 9) mixed ?_|(refine hK _ _ ?_;clear hK K)|(refine au ?_ ?_<;>intro hc<;>try exact jz)|refine bv 9 ?_|refine cT Wn ?_|refine cp (PR _ _) ?_|refine cT hp ?_|refine aq ?_|exact jI|(clear hK K)))
  all_goals exact eO hB hR.ok hp.e2 (fun _=>rfl) (dB jC dO) [.tmp 6]
 by_cases h8:x.op=8
 ·rw[Kg _ _ _ _ _ h8];exact key _ (.inl ⟨h8,rfl⟩)
 ·have h9:x.op=9:=jB;rw[GW _ _ _ _ _ h9];exact key _ (.inr ⟨h9,rfl⟩)
end
section
variable {p:ab}{C:aI}{m:MV}{N:NM}{e:UT}(X:UZ)
def LP(hR:bO p C m N e)(h1:1<=m.calls.length)(x:az)(hx:¬(x.op=6\/x.op=23\/x.op=11\/x.op=12\/x.op=13)):de prog 166 [mP N,cP N,.agg (dw x)] e (rB false) e:=by
 have U9:=hR.ok.low;refine⟨?_,hR.ok,hR.ok,fun _ h=>h,iw hR h1 rfl⟩;refine aQ (L:=ids e) func166 ntmps166 ?_ (hL:=rfl);generalize hB:ids e=B;refine fg ?_
 (have W:=U9;repeat' (first|refine ar fun K hK=>?_|refine av ?_|(refine hK _ _ ?_;clear hK K)|(refine au ?_ ?_<;>intro hc<;>try exact jz)|refine bv 9 ?_|refine aq ?_|exact jI|(clear hK K)))
 exact eO hB hR.ok hR.ok (fun _=>rfl) (dB jC dO) [.tmp 6]
def Ox(hR:bO p C m N e)(inp:UY)(x:az)(hk:qj p C m x)(hx:x.op=6\/x.op=23\/x.op=11\/x.op=12\/x.op=13):k6 prog 166 [mP N,cP N,.agg (dw x)] e X (rB true) (To p C (m.ins p C inp x) N):=by
 have h1:=hk.calls;have U9:=hR.ok.low;have hdp:=hk.ah;have hT:=hR.ah h1;have WD:1<=m.ah.stack.length:=by
  by_cases Z6:x.op=12
  ·have:=hk.two (.inr Z6);omega
  ·exact hk.one jB
 obtain⟨N1,l1,⟨Vg,Zx⟩,VB,Wn,Xd⟩:=wZ X hR h1 WD;have VM:(m.cut 1).calls.length=m.calls.length:=MV.bL _ _;have YG:(m.cut 1).ah=m.ah.cut 1:=MV.bs h1 _;have YU:(m.cut 1).ah.stack.length=m.ah.stack.length-1:=by rw[YG];show(m.ah.stack.take _).length=_;rw[List.length_take];omega
 have Vz:=Vg.1.ok.low;have eN1:cP N1=cP N:=by unfold cP;rw[Vg.2.2]
 have eM1:mP N1=mP N:=by unfold mP;rw[Vg.2.1]
 have YK:=hk.heap;rw[wu]at YK;have hv3:=Vg.1.root;rw[Vg.2.1]at hv3;by_cases h23:x.op=23
 ·rw[Hv _ _ _ _ _ h23];refine⟨N1,l1,Vg,VB,⟨?_,hR.ok,Wn.e2,VB.aW,iw hR h1 rfl⟩⟩;refine aQ (L:=ids e) func166 ntmps166 ?_ (hL:=rfl);generalize hB:ids e=B;refine fg ?_
  (have W:=jA U9 Vz;repeat' (first|refine ar fun K hK=>?_|refine av ?_|(refine hK _ _ ?_;clear hK K)|(refine au ?_ ?_<;>intro hc<;>try exact jz)|refine bv 9 ?_|refine cT Wn ?_|refine aq ?_|exact jI|(clear hK K)))
  exact eO hB hR.ok Wn.e2 (fun _=>rfl) (dB jC dO) [.tmp 6]
 by_cases h6:x.op=6
 ·rw[Ig _ _ _ _ _ h6];have V5:=hk.slot jB;have hss:=hk.slots;have VZ:=Vg.1.tB jB (m.ah.slots.set x.a.toNat m.ah.last) (by rw[List.length_set,YG];rfl);have em:(m.cut 1).aU { (m.cut 1).ah with slots:=m.ah.slots.set x.a.toNat m.ah.last }=m.aU { m.ah.cut 1 with slots:=m.ah.slots.set x.a.toNat m.ah.last }:=by
   rw[YG];unfold MV.cut;rw[MV.dx]
  rw[em]at VZ;have Zp:=(Vg.1.ah jB).ff;rw[Vg.2.2,YG]at Zp;have Zp:aC l1 (hn 1 N.ah.c)=some (.aJ 54 3 (m.ah.slots.map bY)):=Zp;rw[Vg.2.2]at VZ;have V':Up X l1 (bp l1 (hn 1 N.ah.c) (.aJ 54 3 ((m.ah.slots.set x.a.toNat m.ah.last).map bY))):=Up.put _ (.inl (by rw[Zp];simp));refine⟨N1,_,⟨VZ,Vg.2.1,Vg.2.2⟩,VB.trans V',⟨?_,hR.ok,VZ.ok,(VB.trans V').aW,iw hR h1 rfl⟩⟩;have k2:=VZ.ok;clear VZ V' VB em;generalize hE:bp l1 (hn 1 N.ah.c) (.aJ 54 3 ((m.ah.slots.set x.a.toNat m.ah.last).map bY))=E at k2 ⊢;refine aQ (L:=ids e) func166 ntmps166 ?_ (hL:=rfl);generalize hB:ids e=B;refine fg ?_
  (have W:=jA U9 (jA Vz (jA hT.var (Zp)));repeat' (first|refine ar fun K hK=>?_|refine av ?_|(with_reducible refine gR 4 ?_);refine qw 4 [hn 2 N.ah.v,hn 16 N.ah.c] [] [26,1000000] [] (bf 0 12) mixed ?_|(refine hK _ _ ?_;clear hK K)|(refine au ?_ ?_<;>intro hc<;>try exact jz)|refine bv 9 ?_|refine o8 Wn (Xd _ _) ?_|refine aq ?_|exact jI|(clear hK K)))
  subst hE;refine eO (tl:=[(9,.var 219 (dw x))]) hB hR.ok k2 (fun i=>?_) (dB jC dO) [.tmp 6];rw[List.map_set];rfl
 by_cases Z8:x.op=11
 ·rw[E1 _ _ _ _ _ Z8];have V5:=hk.slot jB;have W4:=Dk hR h1 x.a 4 V5 (by have:=hk.slots;omega);have XE:=PK Vg.1 (dU m.ah.slots x.a 4).n m.ah.last.n (by show m.heap.length<=1000;omega) (by show m.heap.flatten.length<=1000;omega);rw[Vg.2.1]at XE;have XE:de prog 213 [.pt (hn 5 N.k) 0 0 0,rI (dU m.ah.slots x.a 4).n,rI m.ah.last.n] l1 (.ba [rI (if m.ah.last.n<0\/((bo m.heap (dU m.ah.slots x.a 4).n).length:Int)<=m.ah.last.n then 0 else nth (bo m.heap (dU m.ah.slots x.a 4).n) m.ah.last.n.toNat),rI (if m.ah.last.n<0\/((bo m.heap (dU m.ah.slots x.a 4).n).length:Int)<=m.ah.last.n then 2 else 0)]) l1:=XE;have eg:(if m.ah.last.n<0\/((bo m.heap (dU m.ah.slots x.a 4).n).length:Int)<=m.ah.last.n then(m.cut 1).stops 3 2 else(m.cut 1).push (vI (nth (bo m.heap (dU m.ah.slots x.a 4).n) m.ah.last.n.toNat)))=(m.cut 1).dP (vI (if m.ah.last.n<0\/((bo m.heap (dU m.ah.slots x.a 4).n).length:Int)<=m.ah.last.n then 0 else nth (bo m.heap (dU m.ah.slots x.a 4).n) m.ah.last.n.toNat),if m.ah.last.n<0\/((bo m.heap (dU m.ah.slots x.a 4).n).length:Int)<=m.ah.last.n then 2 else 0):=by
   unfold MV.dP;split
   ·rename_i h;simp only[if_pos h];rfl
   ·rename_i h;simp only[if_neg h];rfl
  rw[eg];generalize (if m.ah.last.n<0\/((bo m.heap (dU m.ah.slots x.a 4).n).length:Int)<=m.ah.last.n then(0:Int)else nth (bo m.heap (dU m.ah.slots x.a 4).n) m.ah.last.n.toNat)=gn at XE ⊢;generalize (if m.ah.last.n<0\/((bo m.heap (dU m.ah.slots x.a 4).n).length:Int)<=m.ah.last.n then(2:Int)else 0)=gt at XE ⊢;obtain⟨N',l,V0,hU,hp⟩:=xb X Vg.1 jB (vI gn,gt) jB;rw[eM1]at hp;refine⟨N',l,⟨V0.1,V0.2.1.trans Vg.2.1,V0.2.2.trans Vg.2.2⟩,VB.trans hU,⟨?_,hR.ok,hp.e2,(VB.trans hU).aW,iw hR h1 rfl⟩⟩;refine aQ (L:=ids e) func166 ntmps166 ?_ (hL:=rfl);generalize hB:ids e=B;refine fg ?_
  (have W:=jA U9 (jA Vz (hR.root));repeat' (first|refine ar fun K hK=>?_|refine av ?_|(with_reducible refine gR 8 ?_);refine qw 8 [hn 2 N.ah.v,hn 16 N.ah.c] [44,51] [49] [] (bf 0 20) mixed ?_|(refine hK _ _ ?_;clear hK K)|(refine au ?_ ?_<;>intro hc<;>try exact jz)|refine bv 9 ?_|refine nh W4 ?_|refine o8 Wn (Xd _ _) ?_|refine nh XE ?_|refine cp (ud _) ?_|refine cT hp ?_|refine aq ?_|exact jI|(clear hK K)))
  exact eO hB hR.ok hp.e2 (fun _=>rfl) (dB jC dO) [.tmp 6]
 by_cases h13:x.op=13
 ·rw[Hc _ _ _ _ _ h13];by_cases c1:m.ah.last.n<0\/16<m.ah.last.n
  ·rw[if_pos c1];have Yq:=Of Vg.1 m.ah.last.n c1 (by show m.heap.length<=40;omega) (by show m.heap.flatten.length<=40;omega);rw[Vg.2.1]at Yq;obtain⟨N',l,V0,hU,hp⟩:=xb X Vg.1 jB (⟨4,0,sE⟩,7) jB;rw[eM1]at hp;refine⟨N',l,⟨V0.1,V0.2.1.trans Vg.2.1,V0.2.2.trans Vg.2.2⟩,VB.trans hU,⟨?_,hR.ok,hp.e2,(VB.trans hU).aW,iw hR h1 rfl⟩⟩;refine aQ (L:=ids e) func166 ntmps166 ?_ (hL:=rfl);generalize hB:ids e=B;refine fg ?_
   (have W:=jA U9 (jA Vz (hR.root));repeat' (first|refine ar fun K hK=>?_|refine av ?_|(with_reducible refine gR 16 ?_);refine qw 16 [hn 2 N.ah.v,hn 16 N.ah.c] [] [97] [] (bf 0 15) mixed ?_|(refine hK _ _ ?_;clear hK K)|(refine au ?_ ?_<;>intro hc<;>try exact jz)|refine bv 9 ?_|refine o8 Wn (Xd _ _) ?_|refine cT Yq ?_|refine cT hp ?_|refine aq ?_|exact jI|(clear hK K)))
   exact eO hB hR.ok hp.e2 (fun _=>rfl) (dB jC dO) [.tmp 6]
  rw[if_neg c1];by_cases c2:40<gq m.heap+m.ah.last.n+1
  ·rw[if_pos c2];have Yq:=Rx Vg.1 m.ah.last.n jB (by show 40<(m.heap.length:Int)+m.heap.flatten.length+m.ah.last.n+1;rw[wu]at c2;omega) (by show m.heap.length<=40;omega) (by show m.heap.flatten.length<=40;omega);rw[Vg.2.1]at Yq;obtain⟨N',l,V0,hU,hp⟩:=xb X Vg.1 jB (⟨4,0,sE⟩,4) jB;rw[eM1]at hp;refine⟨N',l,⟨V0.1,V0.2.1.trans Vg.2.1,V0.2.2.trans Vg.2.2⟩,VB.trans hU,⟨?_,hR.ok,hp.e2,(VB.trans hU).aW,iw hR h1 rfl⟩⟩;refine aQ (L:=ids e) func166 ntmps166 ?_ (hL:=rfl);generalize hB:ids e=B;refine fg ?_
   (have W:=jA U9 (jA Vz (hR.root));repeat' (first|refine ar fun K hK=>?_|refine av ?_|(with_reducible refine gR 16 ?_);refine qw 16 [hn 2 N.ah.v,hn 16 N.ah.c] [] [97] [] (bf 0 15) mixed ?_|(refine hK _ _ ?_;clear hK K)|(refine au ?_ ?_<;>intro hc<;>try exact jz)|refine bv 9 ?_|refine o8 Wn (Xd _ _) ?_|refine cT Yq ?_|refine cT hp ?_|refine aq ?_|exact jI|(clear hK K)))
   exact eO hB hR.ok hp.e2 (fun _=>rfl) (dB jC dO) [.tmp 6]
  rw[if_neg c2];obtain⟨N2,l2,V0,V',Yq⟩:=M6 X Vg.1 m.ah.last.n jB (by show gq m.heap+_+1<=40;omega) (wu _);rw[Vg.2.1]at Yq;have Yq:de prog 216 [.pt (hn 5 N.k) 0 0 0,rI m.ah.last.n] l1 (.ba [rI (m.heap.length+1:Nat),rI 0]) l2:=Yq;obtain⟨N',l,Z9,hU3,hp⟩:=sL X V0.1 (by show 1<=(m.cut 1).calls.length;omega) ⟨4,m.heap.length+1,sE⟩ (by show(m.cut 1).ah.stack.length<=1000;omega);obtain⟨N'',l',hT4,hU4,hp4⟩:=xb X V0.1 (by show 1<=(m.cut 1).calls.length;omega) (⟨4,m.heap.length+1,sE⟩,0) (by show(m.cut 1).ah.stack.length<=1000;omega);rw[show mP N2=mP N by unfold mP;rw[V0.2.1,Vg.2.1]]at hp4;have V6:=V0.1.ok.low;refine⟨N'',l',⟨hT4.1,hT4.2.1.trans (V0.2.1.trans Vg.2.1),hT4.2.2.trans (V0.2.2.trans Vg.2.2)⟩,VB.trans (V'.trans hU4),⟨?_,hR.ok,hp4.e2,(VB.trans (V'.trans hU4)).aW,iw hR h1 rfl⟩⟩;refine aQ (L:=ids e) func166 ntmps166 ?_ (hL:=rfl);generalize hB:ids e=B;refine fg ?_
  (have W:=jA U9 (jA Vz (jA V6 (hR.root)));repeat' (first|refine ar fun K hK=>?_|refine av ?_|(with_reducible refine gR 16 ?_);refine qw 16 [hn 2 N.ah.v,hn 16 N.ah.c] [] [97] [] (bf 0 15) mixed ?_|(refine hK _ _ ?_;clear hK K)|(refine au ?_ ?_<;>intro hc<;>try exact jz)|refine bv 9 ?_|refine o8 Wn (Xd _ _) ?_|refine cT Yq ?_|refine cT hp4 ?_|refine aq ?_|exact jI|(clear hK K)))
  exact eO hB hR.ok hp4.e2 (fun _=>rfl) (dB jC dO) [.tmp 6]
 have Z6:x.op=12:=jB;rw[D5 _ _ _ _ _ Z6];have h2:=hk.two (.inr Z6);have V5:=hk.slot jB;have W4:=Dk Vg.1 jB x.a 4 (by rw[YG];exact V5) (by rw[YG];have:=hk.slots;show m.ah.slots.length<=1000;omega);rw[eN1,YG]at W4;have W4:de prog 207 [cP N,rI x.a,rI 4] l1 (rV (dU m.ah.slots x.a 4)) l1:=W4;obtain⟨N2,l2,⟨V0,Y9⟩,V',YE,Zo⟩:=wZ X Vg.1 jB jB;rw[eN1,YG]at YE;rw[Zx,Vg.2.2]at Zo;have ecc:(m.cut 1).cut 1=m.cut 2:=JT h1 1 1 jB;rw[ecc]at V0;have V6:=V0.1.ok.low;have hc2:(m.cut 2).calls.length=m.calls.length:=MV.bL _ _;have ek:N2.k=N.k:=V0.2.1.trans Vg.2.1;by_cases hi:(m.ah.cut 1).last.n<0\/((bo m.heap (dU m.ah.slots x.a 4).n).length:Int)<=(m.ah.cut 1).last.n
 ·rw[if_pos hi];have YS:=Sf V0.1 (dU m.ah.slots x.a 4).n (m.ah.cut 1).last.n m.ah.last.n (by show m.heap.length<=1000;omega) (by show m.heap.flatten.length<=1000;omega) hi;rw[ek]at YS;obtain⟨N',l,Z9,hU,hp⟩:=xB X V0.1 jB 3 2;rw[show mP N2=mP N by unfold mP;rw[ek]]at hp;refine⟨N',l,⟨Z9.1,Z9.2.1.trans ek,Z9.2.2.trans (V0.2.2.trans Vg.2.2)⟩,VB.trans (V'.trans hU),⟨?_,hR.ok,hp.e2,(VB.trans (V'.trans hU)).aW,iw hR h1 rfl⟩⟩;refine aQ (L:=ids e) func166 ntmps166 ?_ (hL:=rfl);generalize hB:ids e=B;refine fg ?_
  (have W:=jA U9 (jA Vz (jA V6 (jA hv3 (Vg.2.1))));repeat' (first|refine ar fun K hK=>?_|refine av ?_|(with_reducible refine gR 12 ?_);refine qw 12 [hn 2 N.ah.v,hn 16 N.ah.c] [73] [78] [] [0,1,2,3,4,5,6,7,8,9,10,11,14,12,13,15,16] mixed ?_|(refine hK _ _ ?_;clear hK K)|(refine au ?_ ?_<;>intro hc<;>try exact jz)|refine bv 9 ?_|refine cT Wn ?_|refine nh W4 ?_|refine o8 YE (Zo _ _) ?_|refine cT YS ?_|refine cT hp ?_|refine aq ?_|exact jI|(clear hK K)))
  exact eO hB hR.ok hp.e2 (fun _=>rfl) (dB jC dO) [.tmp 6]
 ·rw[if_neg hi];obtain⟨N',l,Z9,hU,hp⟩:=MG X V0.1 (dU m.ah.slots x.a 4).n (m.ah.cut 1).last.n m.ah.last.n (by show m.heap.length<=1000;omega) (by show m.heap.flatten.length<=1000;omega) hi;rw[ek]at hp;refine⟨N',l,⟨Z9.1,Z9.2.1.trans ek,Z9.2.2.trans (V0.2.2.trans Vg.2.2)⟩,VB.trans (V'.trans hU),⟨?_,hR.ok,hp.e2,(VB.trans (V'.trans hU)).aW,iw hR h1 rfl⟩⟩;refine aQ (L:=ids e) func166 ntmps166 ?_ (hL:=rfl);generalize hB:ids e=B;refine fg ?_
  (have W:=jA U9 (jA Vz (jA V6 (jA hv3 (Vg.2.1))));repeat' (first|refine ar fun K hK=>?_|refine av ?_|(with_reducible refine gR 12 ?_);refine qw 12 [hn 2 N.ah.v,hn 16 N.ah.c] [73] [78] [] [0,1,2,3,4,5,6,7,8,9,10,11,14,12,13,15,16] mixed ?_|(refine hK _ _ ?_;clear hK K)|(refine au ?_ ?_<;>intro hc<;>try exact jz)|refine bv 9 ?_|refine cT Wn ?_|refine nh W4 ?_|refine o8 YE (Zo _ _) ?_|refine cT hp ?_|refine aq ?_|exact jI|(clear hK K)))
  exact eO hB hR.ok hp.e2 (fun _=>rfl) (dB jC dO) [.tmp 6]
end
end Go.Proofs.YtjpcgmjaipfgdaaGreatDoor
namespace Go.Proofs.YtjpcgmjaipfgdaaGreatDoor
open Go Go.Gd Tryz
def LI(l:List U0)(hl:l.length<=1000)(i:Nat):af prog 119 [aM eS 1 l] [] (fun r l'=>r=.rs i l.length 1 l.length/\l'=[(i,.aJ 9 1 (l.map eS))]):=by
 refine aQ func119 ntmps119 ?_
 (repeat' (first|refine ar fun K hK=>?_|refine av ?_|(refine hK _ _ ?_;clear hK K)|(refine au ?_ ?_<;>intro hc<;>try exact jz)|(with_reducible refine fun(b:Bool) hb=>?_)|refine sV i ?_|refine aq ?_|exact jI|(clear hK K)))
 ·have VJ:l=[]:=by simpa using hb hc
  subst VJ;exact zi i 9 1 jC [.tmp 2] rfl rfl trivial
 ·(refine cd [.tmp 2] ?_ ?_<;>(try simp only[go_sem]))
def Ii(l:List (aj))(hl:l.length<=1000)(i:Nat):af prog 120 [aM bY 3 l] [] (fun r l'=>r=.rs i l.length 3 l.length/\l'=[(i,.aJ 54 3 (l.map bY))]):=by
 refine aQ func120 ntmps120 ?_
 (repeat' (first|refine ar fun K hK=>?_|refine av ?_|(refine hK _ _ ?_;clear hK K)|(refine au ?_ ?_<;>intro hc<;>try exact jz)|(with_reducible refine fun(b:Bool) hb=>?_)|refine sV i ?_|refine aq ?_|exact jI|(clear hK K)))
 ·have VJ:l=[]:=by simpa using hb hc
  subst VJ;exact zi i 54 3 jC [.tmp 2] rfl rfl trivial
 ·(refine cd [.tmp 2] ?_ ?_<;>(try simp only[go_sem]))
def yF(l:List (Int))(hl:l.length<=1000)(i:Nat):af prog 55 [aM eI 1 l] [] (fun r l'=>r=.rs i l.length 1 l.length/\l'=[(i,.aJ 3 1 (l.map eI))]):=by
 refine aQ func55 ntmps55 ?_
 (repeat' (first|refine ar fun K hK=>?_|refine av ?_|(refine hK _ _ ?_;clear hK K)|(refine au ?_ ?_<;>intro hc<;>try exact jz)|(with_reducible refine fun(b:Bool) hb=>?_)|refine sV i ?_|refine aq ?_|exact jI|(clear hK K)))
 ·have VJ:l=[]:=by simpa using hb hc
  subst VJ;exact zi i 3 1 jC [.tmp 2] rfl rfl trivial
 ·(refine cd [.tmp 2] ?_ ?_<;>(try simp only[go_sem]))
def im(v:aj):Prop:=bz v.n/\v.s.size<=40
def sn{n:Int}(h:bz n):im (vI n):=⟨h,by show sE.size<=40;decide⟩
def uA(b:Bool):im (vB b):=⟨Ic b,by show sE.size<=40;decide⟩
def J5(t:Int):im (vZ t):=⟨sF,by show sE.size<=40;decide⟩
def Kx{s:U0}(h:s.size<=40):im (vT s):=⟨sF,h⟩
def RK{l:List aj}(h:pH l)(k t:Int):im (dU l k t):=⟨FX h k t,by
 unfold dU;split
 ·show sE.size<=40;decide
 split
 ·rename_i h;exact En h.1
 ·show sE.size<=40;decide⟩
def rE(r:aj×Int):Prop:=im r.1/\0<=r.2/\r.2<=9
def lB{c:Prop}[Decidable c]{x y:aj×Int}(h:c->rE x)(k:¬c->rE y):rE (if c then x else y):=by
 by_cases e:c
 ·rw[if_pos e];exact h e
 ·rw[if_neg e];exact k e
def mO{v:aj}(h:im v):rE (v,0):=⟨h,Int.le_refl _,by show(0:Int)<=9;decide⟩
def sA{t:Int}(h:0<=t/\t<=9):rE (v0,t):=⟨J5 0,h⟩
def Py(s:U0){a b:Int}(ha:bz a):rE (vv s a b):=by unfold vv;refine lB (fun _=>mO (sn (xn _))) fun _=>lB (fun _=>mO (sn (xn _))) fun _=>lB (fun _=>mO (sn (xn _))) fun _=>lB (fun _=>lB (fun _=>sA jC) fun _=>mO (sn (xn _))) fun _=>lB (fun _=>lB (fun _=>sA jC) fun _=>mO (sn (NY ha))) fun _=>lB (fun _=>mO (uA _)) fun _=>lB (fun _=>mO (uA _)) fun _=>sA jC
def Lh(s:U0){a b:aj}(ha:im a):rE (qP s a b):=by
 unfold qP;refine lB (fun _=>sA jC) fun _=>lB (fun _=>mO (uA _)) fun _=>lB (fun _=>mO (uA _)) fun _=>lB (fun _=>Py _ ha.1) fun _=>lB (fun _=>lB (fun _=>mO (uA _)) fun _=>lB (fun _=>mO (uA _)) fun _=>sA jC) fun _=>lB (fun _=>lB (fun _=>lB (fun _=>sA jC) fun h=>mO (Kx ?_)) fun _=>sA jC) fun _=>sA jC
 rw[ByteArray.size_append];omega
def FJ(s:U0)(a:aj):im (mQ s a):=⟨TV s a,by
 unfold mQ
 (repeat' split)<;>(show sE.size<=40;decide)⟩
def D1{h:UW}(hc:gq h<=40)(hr:p8 h)(n:Int):((MV.bo h n).length:Int)<=40/\∀k,k<(MV.bo h n).length->bz (nth (MV.bo h n) k):=by
 unfold MV.bo;split
 ·exact⟨jE,fun k hk=>by simp at hk⟩
 ·rename_i e;have hl:(n-1).toNat<h.length:=jB;have:=T3 h (n-1).toNat hl;exact⟨jB,fun k hk=>hr _ (fc hl) _ (fc hk)⟩
def oC{p:ab}{C:aI}{M:MV}{c:MC}{k:Nat}{x:az}(h1:1<=M.calls.length)(h8:M.calls.length<=8)(hk:c.at_=k)(D':k<C.ins.length)(hx:nth C.ins k=x)(hz:∀v∈c.stack,im v)(hd:c.stack.length<=1000)(op:1<=x.op/\x.op<=23)
  (n:Nat) (hn:n<=c.stack.length) (V9:n=0->x.op=2\/x.op=3\/x.op=4\/x.op=5\/x.op=14\/x.op=16\/x.op=20\/x.op=22) (Xb:n=1->¬(x.op=7\/x.op=12))
  (slot:x.op=5\/x.op=6\/x.op=11\/x.op=12->0<=x.a/\x.a<c.slots.length)
  (call:x.op=20->0<=x.b/\x.b<=c.stack.length/\x.b<=3/\0<=x.a/\x.a<C.entry.length/\x.a<p.size.length/\0<=nth p.size x.a.toNat/\nth p.size x.a.toNat<=24/\x.b<=nth p.size x.a.toNat):(M.aU c).fP p C:=by
 refine fP.N4 h1 h8 hk D' hx (fun h=>?_) (fun h=>?_) slot call op (fun h=>?_) (fun v hv=>(hz v hv).2) hd
 ·by_cases e:n=0
  ·have:=V9 e;omega
  ·omega
 ·by_cases e:n=0
  ·have:=V9 e;omega
  ·by_cases e1:n=1
   ·exact(Xb e1 h).elim
   ·omega
 ·have:1<=c.stack.length:=by
   by_cases e:n=0
   ·have:=V9 e;omega
   ·omega
  exact(hz _ (fc jB)).1
def lV(p:ab)(C:aI)(inp:UY)(M:MV)(c:MC)(k:Int):Prop:=
 (∃v q,im v/\bg p C inp (M.aU c) (M.aU { c with at_:=k,stack:=c.stack++[v],aT:=q }))\/∃t:Int,(1<=t/\t<=9)/\bg p C inp (M.aU c) (M.js c 3 t)
section
variable {p:ab}{C:aI}{inp:UY}{M:MV}
def zV{c:MC}{k:Nat}{x:az}{v:aj}(h1:1<=M.calls.length)(h8:M.calls.length<=8)(hs:M.status=0)(hk:c.at_=k)(hl:bM C.ins k [x])(Xd:x.op≠1)(hok:(M.aU c).fP p C)(hv:im v)
  (hi:(M.aU { c with at_:=(k:Int)+1 }).ins p C inp x=M.aU (MC.push { c with at_:=(k:Int)+1 } v)):lV p C inp M c (k+1):=
 .inl ⟨v,c.aT-1,hv,bg.ins h1 h8 hs hk hl.head.1 hl.head.2.1 Xd hok (by rw[hi];exact bg.refl _)⟩
def lV.bind{c:MC}{k1 k2:Int}(hd:lV p C inp M c k1)(hn:∀v q,im v->(∃w q',im w/\bg p C inp (M.aU { c with at_:=k1,stack:=c.stack++[v],aT:=q }) (M.aU { c with at_:=k2,stack:=c.stack++[w],aT:=q' }))\/∃t:Int,(1<=t/\t<=9)/\bg p C inp (M.aU { c with at_:=k1,stack:=c.stack++[v],aT:=q }) (M.js c 3 t)):lV p C inp M c k2:=by
 rcases hd with⟨v,q,hv,g⟩|⟨t,ht,g⟩
 ·rcases hn v q hv with⟨w,q',hw,g'⟩|⟨t,ht,g'⟩
  ·exact .inl ⟨w,q',hw,g.trans g'⟩
  ·exact .inr ⟨t,ht,g.trans g'⟩
 ·exact .inr ⟨t,ht,g⟩
def Kf{c d:MC}{k:Nat}{x:az}{r:aj×Int}{q:Nat}(h1:1<=M.calls.length)(h8:M.calls.length<=8)(hs:M.status=0)(hl:bM C.ins k [x])(Xd:x.op≠1)(hd:d.at_=(k:Int))
  (hok:(M.aU d).fP p C) (hr:rE r)
  (hi:(M.aU { d with at_:=(k:Int)+1 }).ins p C inp x=(M.aU { c with at_:=(k:Int)+1,aT:=q }).dP r) :
  (∃w q',im w/\bg p C inp (M.aU d) (M.aU { c with at_:=(k:Int)+1,stack:=c.stack++[w],aT:=q' }))\/∃t:Int,(1<=t/\t<=9)/\bg p C inp (M.aU d) (M.js c 3 t):=by
 have g:∀m',bg p C inp ((M.aU { c with at_:=(k:Int)+1,aT:=q }).dP r) m'->bg p C inp (M.aU d) m':=fun m' hg=> bg.ins (c:=d) h1 h8 hs hd hl.head.1 hl.head.2.1 Xd hok (by rw[hi];exact hg)
 by_cases e:r.2=0
 ·refine .inl ⟨r.1,q-1,hr.1,g _ ?_⟩;unfold MV.dP;rw[if_neg (fun h=>h e),MV.fu h1];exact bg.refl _
 ·refine .inr ⟨r.2,by have:=hr.2;omega,g _ ?_⟩;unfold MV.dP;rw[if_pos e,MV.eK h1];exact bg.refl _
def u5{l:List aj}{v:aj}(h:∀u∈l,im u)(hv:im v):∀u∈l++[v],im u:=Tc h hv
theorem yS(hs:fO p)(h1:1<=M.calls.length)(h8:M.calls.length<=8)(P':M.status=0)(hhc:gq M.heap<=40)(hhr:p8 M.heap){j:Nat}(hj:j<p.aa.ao.length){slots:List aj}(V5:(slots.length:Int)=nth p.size j)(Yd:pH slots) :
  ∀(n:Nat) (a:Int) (k:Nat) (c:MC),0<=a->a.toNat<p.aa.nodes.length->jy p j a->cW (bX p.aa.nodes a)->a.toNat<n->c.slots=slots->c.at_=k->bM C.ins k (br p n a k)->(∀v∈c.stack,im v)->c.stack.length+a.toNat<=900->
   lV p C inp M c (k+(br p n a k).length)
 |0,a,k,c,h0,hl,hi,hk,hn,hc,VL,hC,hz,hd=>by omega
 |n+1,a,k,c,h0,hl,hi,hk,hn,hc,VL,hC,hz,hd=>by
  have sh:=(hs.ok.aa.shape a.toNat hl).1;have Vv:cW (ak p a).kind:=hk;unfold cW at Vv;have XN:jM (ak p a).kind->0<=nth p.slots a.toNat/\nth p.slots a.toNat<c.slots.length:=fun h=>by have:=(hs.ao j hj).all a.toNat hi.1 (by have:=hi.2;omega) h;rw[hc];omega
  have ok0:∀(x:az),bM C.ins k [x]->x.op=2\/x.op=3\/x.op=4\/(x.op=5/\0<=x.a/\x.a<c.slots.length)->(M.aU c).fP p C:=fun x hx ho=> oC h1 h8 VL hx.head.1 hx.head.2.1 hz jB jB 0 jB (fun _=>jB) (fun h=>jB) (fun h=>jB) (fun h=>jB)
  have okU:∀(k':Nat) (x:az) (u:aj) (q:Nat),bM C.ins k' [x]->im u->x.op=8\/x.op=9\/x.op=10\/(x.op=11/\0<=x.a/\x.a<c.slots.length)\/x.op=18\/x.op=19->(M.aU { c with at_:=(k':Int),stack:=c.stack++[u],aT:=q }).fP p C:=fun k' x u q hx hu ho=> oC h1 h8 rfl hx.head.1 hx.head.2.1 (u5 hz hu) jF jB 1 jE (fun h=>jB) (fun _=>jB) (fun h=>by show 0<=x.a/\x.a<c.slots.length;omega) (fun h=>jB)
  -- what is below it
  have sub:∀b∈(ak p a).l,cW (bX p.aa.nodes b)->∀(k':Nat) (c':MC),c'.slots=slots->c'.at_=k'->bM C.ins k' (br p n b k')->(∀v∈c'.stack,im v)->c'.stack.length<=c.stack.length+1->lV p C inp M c' (k'+(br p n b k').length):=fun b hb hbE k' c' g1 g2 g3 g4 g5=>by obtain⟨b1,b2,b3,b4⟩:=hi.aH hs hj hb;exact yS hs h1 h8 P' hhc hhr hj V5 Yd n b k' c' b2 b4 b1 hbE jB g1 g2 g3 g4 jB
  have VP:(ak p a).kind=1\/(ak p a).kind=2\/(ak p a).kind=3\/(ak p a).kind=4\/(ak p a).kind=5\/(ak p a).kind=6\/(ak p a).kind=7\/(ak p a).kind=8\/(ak p a).kind=9:=jB;have Xa:=fun h=>(sh.one (h:(nth p.aa.nodes a.toNat).kind=5\/(nth p.aa.nodes a.toNat).kind=6\/(nth p.aa.nodes a.toNat).kind=7\/(nth p.aa.nodes a.toNat).kind=8\/(nth p.aa.nodes a.toNat).kind=14\/(nth p.aa.nodes a.toNat).kind=20))
  -- an operation on one value
  have un:∀(x:Int) (i:az) (f:aj->aj×Int),(ak p a).l=[x]->cW (bX p.aa.nodes x)->br p (n+1) a k=br p n x k++[i]->i.op=8\/i.op=9\/i.op=10\/(i.op=11/\0<=i.a/\i.a<c.slots.length)->(∀v,im v->rE (f v))->
    (∀v q,(M.aU { c with at_:=((k+(br p n x k).length:Nat):Int)+1,stack:=c.stack++[v],aT:=q }).ins p C inp i=(M.aU { c with at_:=((k+(br p n x k).length:Nat):Int)+1,aT:=q+1 }).dP (f v))->lV p C inp M c (k+(br p (n+1) a k).length):=fun x i f u' VE e Xx hf Wj=>by
   rw[e]at hC ⊢;have d:=sub x (by rw[u'];simp) VE k c hc VL hC.last.1 hz jB;have Vn:=hC.app.2;rw[List.length_append,List.length_singleton,Int.natCast_add,show((k:Int)+(((br p n x k).length:Int)+((1:Nat):Int)))=((k+(br p n x k).length:Nat):Int)+1 by push_cast;omega];refine d.bind fun v q hv=>?_
   exact Kf (d:={ c with at_:=((k:Int)+((br p n x k).length:Int)),stack:=c.stack++[v],aT:=q }) h1 h8 P' Vn (fun h=>jB) (by push_cast;rfl) (by have:=okU _ i v q Vn hv jB;rw[Int.natCast_add]at this;exact this) (hf v hv) (Wj v q)
  rcases VP with e|e|e|e|e|e|e|e|e
  ·rw[l5]at hC ⊢;simp only[e,Int.reduceEq,↓reduceIte]at hC ⊢;exact zV h1 h8 P' VL hC (fun h=>by cases h) (ok0 _ hC (.inl rfl)) (sn (hs.ok.bz _ hl e)) (by rw[MV.rC,MV.fu h1];rfl)
  ·rw[l5]at hC ⊢;simp only[e,Int.reduceEq,↓reduceIte]at hC ⊢;exact zV h1 h8 P' VL hC (fun h=>by cases h) (ok0 _ hC (.inr (.inl rfl))) (uA _) (by rw[MV.qh,MV.fu h1])
  ·rw[l5]at hC ⊢;simp only[e,Int.reduceEq,↓reduceIte]at hC ⊢;exact zV h1 h8 P' VL hC (fun h=>by cases h) (ok0 _ hC (.inr (.inr (.inl rfl)))) (Kx (by have:=sh.text e;show(nth p.aa.nodes a.toNat).name.size<=40;omega)) (by rw[MV.pW,MV.fu h1];rfl)
  ·have hs4:=XN (.inl e);rw[l5]at hC ⊢;simp only[e,Int.reduceEq,↓reduceIte]at hC ⊢;exact zV h1 h8 P' VL hC (fun h=>by cases h) (ok0 _ hC (.inr (.inr (.inr ⟨rfl,hs4⟩)))) (RK (l:=c.slots) (by rw[hc];exact Yd) _ _) (by rw[MV.p7,MV.fu h1,MV.bs h1])
  ·obtain⟨x,u',VE⟩:=Xa (.inl e);have u':(ak p a).l=[x]:=u';have Wh:nth (ak p a).l 0=x:=by rw[u'];rfl
   have Xy:=D1 hhc hhr (dU c.slots (nth p.slots a.toNat) 4).n;refine un x (iI 11 (nth p.slots a.toNat)) (fun v=>if v.n<0\/((MV.bo M.heap (dU c.slots (nth p.slots a.toNat) 4).n).length:Int)<=v.n then(v0,2)else(vI (nth (MV.bo M.heap (dU c.slots (nth p.slots a.toNat) 4).n) v.n.toNat),0)) u' VE (by rw[l5,Wh];simp only[e,Int.reduceEq,↓reduceIte]) (.inr (.inr (.inr ⟨rfl,XN (.inr (.inl e))⟩))) (fun v hv=>?_) fun v q=>?_
   ·exact lB (fun _=>sA jC) fun _=>mO (sn (Xy.2 _ jB))
   ·rw[MV.o9,MV.bs h1,MV.fl,MV.dp h1,MV.fY,MV.kq];dsimp only;split<;>rfl
  ·obtain⟨x,u',VE⟩:=Xa (by have e:(nth p.aa.nodes a.toNat).kind=6:=e;omega);have u':(ak p a).l=[x]:=u';have Wh:nth (ak p a).l 0=x:=by rw[u'];rfl
   refine un x (iI 10 0) (fun v=>(vI (if v.ty=4 then((MV.bo M.heap v.n).length:Int)else(v.s.size:Int)),0)) u' VE (by rw[l5,Wh];simp only[e,Int.reduceEq,↓reduceIte]) (.inr (.inr (.inl rfl))) (fun v hv=>mO (sn ?_)) fun v q=>?_
   ·have:=(D1 hhc hhr v.n).1;have:=hv.2;unfold bz;split<;>omega
   ·rw[MV.j5,MV.bs h1,MV.fl,MV.dp h1,MV.fY,MV.kq];rfl
  ·obtain⟨x,u',VE⟩:=Xa (by have e:(nth p.aa.nodes a.toNat).kind=7:=e;omega);have u':(ak p a).l=[x]:=u';have Wh:nth (ak p a).l 0=x:=by rw[u'];rfl
   exact un x (iI 8 0) (fun v=>(mQ (⟨#[45]⟩:U0) v,0)) u' VE (by rw[l5,Wh];simp only[e,Int.reduceEq,↓reduceIte]) (.inl rfl) (fun v hv=>mO (FJ _ _)) fun v q=>by rw[MV.rJ,MV.bs h1,MV.fl,MV.dp h1,MV.fY];rfl
  ·obtain⟨x,u',VE⟩:=Xa (by have e:(nth p.aa.nodes a.toNat).kind=8:=e;omega);have u':(ak p a).l=[x]:=u';have Wh:nth (ak p a).l 0=x:=by rw[u'];rfl
   exact un x (iI 9 0) (fun v=>(mQ (⟨#[33]⟩:U0) v,0)) u' VE (by rw[l5,Wh];simp only[e,Int.reduceEq,↓reduceIte]) (.inr (.inl rfl)) (fun v hv=>mO (FJ _ _)) fun v q=>by rw[MV.sj,MV.bs h1,MV.fl,MV.dp h1,MV.fY];rfl
  ·obtain⟨x,y,u',VE,YF⟩:=sh.two (.inl e);have u':(ak p a).l=[x,y]:=u';have Wh:nth (ak p a).l 0=x:=by rw[u'];rfl
   have Zb:nth (ak p a).l 1=y:=by rw[u'];rfl
   rw[l5]at hC ⊢;simp only[e,Wh,Zb,Int.reduceEq,↓reduceIte]at hC ⊢;by_cases Xa:lD (ak p a).name=7
   ·rw[if_pos Xa]at hC ⊢;have d:=sub x (by rw[u'];simp) VE k c hc VL hC.last.1.app.1 hz jB;have hCy:=hC.last.1.app.2;have Vn:=hC.app.2;rw[List.length_append,List.length_append,List.length_singleton,show((k:Int)+(((br p n x k).length+(br p n y (k+(br p n x k).length)).length+1:Nat):Int))=((k+(br p n x k++br p n y (k+(br p n x k).length)).length:Nat):Int)+1 by rw[List.length_append];push_cast;omega];refine d.bind fun v q hv=>?_
    have dy:=sub y (by rw[u'];simp) YF (k+(br p n x k).length) { c with at_:=((k:Int)+((br p n x k).length:Int)),stack:=c.stack++[v],aT:=q } hc (by push_cast;rfl) (by rw[Int.natCast_add];exact hCy) (u5 hz hv) jE;rw[Int.natCast_add]at dy;rcases dy with⟨w,q2,hw,g⟩|⟨t,ht,g⟩
    ·have hbC:((k:Int)+((br p n x k).length:Int)+((br p n y (k+(br p n x k).length)).length:Int))=((k+(br p n x k++br p n y (k+(br p n x k).length)).length:Nat):Int):=by rw[List.length_append];push_cast;omega
     rw[hbC]at g;rcases Kf (p:=p) (C:=C) (inp:=inp) (M:=M) (c:=c) (d:={ c with at_:=((k+(br p n x k++br p n y (k+(br p n x k).length)).length:Nat):Int),stack:=c.stack++[v]++[w],aT:=q2 }) (r:=qP (ak p a).name v w) (q:=q2+2) h1 h8 P' Vn (fun h=>by cases h) rfl
      (oC h1 h8 rfl Vn.head.1 Vn.head.2.1 (u5 (u5 hz hv) hw) jF ⟨by show(1:Int)<=7;decide,by show(7:Int)<=23;decide⟩ 2 jE (fun h=>by cases h) (fun h=>by cases h) (fun h=>by rcases h with h|h|h|h<;>cases h) (fun h=>by cases h)) (Lh _ hv)
      (by rw[MV.rp,MV.bs h1,MV.fl,MV.fY c w (c.stack++[v]),MV.fl,MV.dp h1,MV.ph])with⟨u,q3,hu,g'⟩|⟨t,ht,g'⟩
     ·exact .inl ⟨u,q3,hu,g.trans g'⟩
     ·exact .inr ⟨t,ht,g.trans g'⟩
    ·exact .inr ⟨t,ht,g⟩
   ·rw[if_neg Xa]at hC ⊢;have hsg:lD (ak p a).name=18\/lD (ak p a).name=19:=by
     unfold lD at Xa ⊢;split
     ·exact .inl rfl
     ·split
      ·exact .inr rfl
      ·rename_i h1 h2;rw[if_neg h1,if_neg h2]at Xa;exact(Xa rfl).elim
    have d:=sub x (by rw[u'];simp) VE k c hc VL hC.app.1.last.1 hz jB;have Vn:=hC.app.1.last;have haZ:=hC.app.1.app.2;have hCy:=hC.app.2;generalize hX:(br p n x k)=X at*;have eL:((k:Int)+(X.length:Int)+1)=((k+X.length+1:Nat):Int):=by push_cast;omega
    rw[eL]at hCy Vn haZ ⊢;have hCy:bM C.ins (k+X.length+1) (br p n y ((k+X.length+1:Nat):Int)):=by rw[List.length_append,List.length_singleton,<-Nat.add_assoc]at hCy;exact hCy
    have Vh:((k:Int)+((X++[iI (lD (ak p a).name) (((k+X.length+1:Nat):Int)+(br p n y ((k+X.length+1:Nat):Int)).length)]++br p n y ((k+X.length+1:Nat):Int)).length:Int))=((k+X.length+1:Nat):Int)+(br p n y ((k+X.length+1:Nat):Int)).length:=by simp only[List.length_append,List.length_cons,List.length_nil];push_cast;omega
    rw[Vh];refine d.bind fun v q hv=>?_
    have hok:=okU (k+X.length) _ v q haZ hv (by rcases hsg with h|h<;>rw[h]<;>simp[iI]);rw[Int.natCast_add]at hok;have go:∀m',bg p C inp ((M.aU { c with at_:=((k+X.length:Nat):Int)+1,stack:=c.stack++[v],aT:=q }).ins p C inp (iI (lD (ak p a).name) (((k+X.length+1:Nat):Int)+(br p n y ((k+X.length+1:Nat):Int)).length))) m'->bg p C inp (M.aU { c with at_:=(k:Int)+X.length,stack:=c.stack++[v],aT:=q }) m':=fun m' hg=> bg.ins (c:={ c with at_:=(k:Int)+X.length,stack:=c.stack++[v],aT:=q }) (k:=k+X.length) h1 h8 P' (by push_cast;rfl) Vn.2.1 Vn.2.2 (by rcases hsg with h|h<;>rw[h]<;>(intro h;cases h)) hok hg
    have dy:=fun q2=>sub y (by rw[u'];simp) YF (k+X.length+1) { c with at_:=((k+X.length+1:Nat):Int),aT:=q2 } hc rfl hCy hz (by show c.stack.length<=_;omega)
    -- the other side is taken, or not
    have take:lV p C inp M { c with at_:=((k+X.length+1:Nat):Int),aT:=q+1 } (((k+X.length+1:Nat):Int)+(br p n y ((k+X.length+1:Nat):Int)).length):=dy (q+1);have e1:M.aU (({ c with at_:=((k+X.length:Nat):Int)+1,stack:=c.stack++[v],aT:=q }:MC).cut 1)=M.aU { c with at_:=((k+X.length+1:Nat):Int),aT:=q+1 }:=by rw[MV.fY,show((k+X.length:Nat):Int)+1=((k+X.length+1:Nat):Int) by push_cast;rfl]
    have fin:(M.aU { c with at_:=((k+X.length:Nat):Int)+1,stack:=c.stack++[v],aT:=q }).ins p C inp (iI (lD (ak p a).name) (((k+X.length+1:Nat):Int)+(br p n y ((k+X.length+1:Nat):Int)).length))=M.aU { c with at_:=((k+X.length+1:Nat):Int),aT:=q+1 }\/
      (M.aU { c with at_:=((k+X.length:Nat):Int)+1,stack:=c.stack++[v],aT:=q }).ins p C inp (iI (lD (ak p a).name) (((k+X.length+1:Nat):Int)+(br p n y ((k+X.length+1:Nat):Int)).length))=M.aU { c with at_:=(((k+X.length+1:Nat):Int)+(br p n y ((k+X.length+1:Nat):Int)).length),stack:=c.stack++[v],aT:=q }:=by
     rcases hsg with h|h
     ·rw[h,MV.rY,MV.bs h1,MV.dp h1,e1,MV.dx];split
      ·exact .inl rfl
      ·exact .inr rfl
     ·rw[h,MV.uY,MV.bs h1,MV.dp h1,e1,MV.dx];split
      ·exact .inr rfl
      ·exact .inl rfl
    rcases fin with fin|fin
    ·rw[fin]at go;rcases take with⟨w,q2,hw,g⟩|⟨t,ht,g⟩
     ·exact .inl ⟨w,q2,hw,go _ g⟩
     ·exact .inr ⟨t,ht,go _ g⟩
    ·rw[fin]at go;exact .inl ⟨v,q,hv,go _ (bg.refl _)⟩
end
inductive dX(p:ab)(C:aI)(j:Nat):Nat->Prop
 |mark {k n:Nat} {a:Int} (h0:0<=a) (hn:a.toNat<n+1) (hl:a.toNat<p.aa.nodes.length) (hi:jy p j a) (hk:fF (bX p.aa.nodes a)) (hC:bM C.ins k (gv p (n+1) a k)) (h:dX p C j (k+(gv p (n+1) a k).length)):dX p C j k
 |jump {k k':Nat} (hk:k<C.ins.length) (hx:nth C.ins k=iI 16 (k':Int)) (h:dX p C j k'):dX p C j k
 |fin {k:Nat} {r:Int} (hk:k<C.ins.length) (hx:nth C.ins k=iI 22 r):dX p C j k
structure lz(p:ab)(C:aI)(j k n:Nat)(a:Int):Prop where
 h0:0<=a
 hn:a.toNat<n+1
 hl:a.toNat<p.aa.nodes.length
 hi:jy p j a
 hk:fF (bX p.aa.nodes a)
 hC:bM C.ins k (gv p (n+1) a k)
 h:dX p C j (k+(gv p (n+1) a k).length)
def ua(p:ab)(C:aI)(j:Nat)(k:Int):Prop:=∃k0 n a,k=((k0:Nat):Int)/\lz p C j k0 n a
structure mc(p:ab)(c:MC):Prop where
 f0:0<=c.fn
 f1:c.fn<p.aa.ao.length
 sl:(c.slots.length:Int)=nth p.size c.fn.toNat
 rg:pH c.slots
def wM(c:MC)(x:az):Prop:=(∃s,x=iI 6 s/\0<=s/\s<c.slots.length)\/x=iI 23 0
structure so(p:ab)(C:aI)(c:MC):Prop where
 stack:c.stack=[]
 mark:ua p C c.fn.toNat c.mark
 at_:∃k:Nat,c.at_=(k:Int)/\k<C.ins.length/\wM c (nth C.ins k)/\dX p C c.fn.toNat (k+1)
structure fh(p:ab)(C:aI)(M:MV):Prop where
 one:1<=M.calls.length
 dY:M.calls.length<=8
 st:M.status=0
 tr:0<=M.cf/\M.cf<=9
 low:∀k,k+1<M.calls.length->mc p (nth M.calls k)/\so p C (nth M.calls k)
 cells:gq M.heap<=40
 rg:p8 M.heap
structure MI(p:ab)(C:aI)(m:MV):Prop where
 dY:m.calls.length<=8
 low:∀k,k+1<m.calls.length->mc p (nth m.calls k)/\so p C (nth m.calls k)
 ah:m.status≠2->1<=m.calls.length/\mc p m.ah/\m.ah.stack=[]/\ua p C m.ah.fn.toNat m.ah.at_
 xt:m.status=2->m.calls.length=0
 st:0<=m.status/\m.status<=3
 tr:0<=m.cf/\m.cf<=9
 cells:gq m.heap<=40
 rg:p8 m.heap
def lZ(p:ab)(C:aI)(M m:MV):Prop:=m.dG C/\MI p C m/\m.time=M.time
section
variable {p:ab}{C:aI}{inp:UY}
def My(p:ab)(n:Nat)(a k:Int):∃l,gv p (n+1) a k=iI 1 a::l:=⟨_,ym p n a k⟩
theorem lz.head{j k n:Nat}{a:Int}(h:lz p C j k n a):k<C.ins.length/\nth C.ins k=iI 1 a:=by obtain⟨l,e⟩:=My p n a k;have hC:=h.hC;rw[e]at hC;exact⟨hC.head.1,hC.head.2.1⟩
theorem fh.aU{M:MV}(h:fh p C M)(c:MC):fh p C (M.aU c):=
 ⟨by rw[MV.bL];exact h.one,by rw[MV.bL];exact h.dY,h.st,h.tr,fun k hk=>by rw[MV.bL]at hk;rw[show nth (M.aU c).calls k=nth M.calls k from(Go.Gd.dH _ _ _ _ (by have:=h.one;omega)).trans (jN)];exact h.low k hk,h.cells,h.rg⟩
variable{M:MV}
def fh.mi(h:fh p C M){c:MC}(hc:mc p c)(P':c.stack=[])(hm:ua p C c.fn.toNat c.at_){s t:Int}(hs:s=0\/s=1\/s=3)(ht:0<=t/\t<=9):MI p C { M.aU c with status:=s,cf:=t }:=by
 have hu:=h.aU c;refine⟨hu.dY,hu.low,fun _=>?_,fun e=>?_,?_,ht,h.cells,h.rg⟩
 ·have ht:MV.ah { M.aU c with status:=s,cf:=t }=c:=MV.bs h.one c;rw[ht];exact⟨hu.one,hc,P',hm⟩
 ·have e:s=2:=e;omega
 ·show 0<=s/\s<=3;omega
def wj(h:fh p C M){c:MC}(hc:mc p c)(hm:ua p C c.fn.toNat c.mark){s t:Int}(hs:s=1\/s=3)(ht:0<=t/\t<=9):lZ p C M (M.js c s t):=
 ⟨.inl (by show s≠0;omega),h.mi (c:=c.back) ⟨hc.f0,hc.f1,hc.sl,hc.rg⟩ rfl hm jB ht,rfl⟩
def RQ(c:MC):(M.aU c).pop=M.pop:=by show MV.mk ((M.calls.set (M.calls.length-1) c).take ((M.calls.set (M.calls.length-1) c).length-1)) _ _ _ _ _ _ _=_;rw[List.length_set,List.take_set_of_le jl];rfl
def Pt{α:Type}[Inhabited α](l:List α)(n k:Nat)(h:k<n):nth (l.take n) k=nth l k:=by unfold nth;rw[List.getD_eq_getElem?_getD,List.getElem?_take,if_pos h,List.getD_eq_getElem?_getD]
theorem fh.pop{M:MV}(h:fh p C M)(h2:2<=M.calls.length):fh p C M.pop/\M.pop.calls.length=M.calls.length-1/\mc p M.pop.ah/\so p C M.pop.ah:=by
 have hl:M.pop.calls.length=M.calls.length-1:=by show(M.calls.take _).length=_;rw[List.length_take];omega
 have hn:∀k,k<M.calls.length-1->nth M.pop.calls k=nth M.calls k:=fun k hk=>Pt _ _ _ hk
 have ht:M.pop.ah=nth M.calls (M.calls.length-2):=by unfold MV.ah;rw[hl,hn _ jB];rfl
 have Vn:=h.low (M.calls.length-2) jB;have:=h.dY;rw[ht];exact⟨⟨jB,jB,h.st,h.tr,fun k hk=>by rw[hn k jB];exact h.low k jB,h.cells,h.rg⟩,hl,Vn⟩
def Jj{N:Nat}(hM:fh p C M)(hN:M.calls.length=N)
  (ih:∀(M:MV) (c:MC) (k:Nat),fh p C M->M.calls.length=N->mc p c->c.stack=[]->c.at_=(k:Int)->dX p C c.fn.toNat k->∃m1,bg p C inp (M.aU c) m1/\lZ p C M m1)
  {c:MC} {v:aj} {k:Nat} (hc:mc p c) (P':c.stack=[v]) (hv:im v) (VL:c.at_=(k:Int)) (hk:k<C.ins.length) (hx:wM c (nth C.ins k)) (hn:dX p C c.fn.toNat (k+1)):∃m1,bg p C inp (M.aU c) m1/\lZ p C M m1:=by
 have h1:=hM.one;have ht:=MV.bs (M:=M) h1;have hz:∀u∈c.stack,im u:=fun u hu=>by rw[P']at hu;rw[List.mem_singleton.1 hu];exact hv
 rcases hx with⟨s,hx,s0,s1⟩|hx
 ·obtain⟨m1,g,d⟩:=ih M { c with at_:=((k+1:Nat):Int),slots:=c.slots.set s.toNat v,stack:=[],aT:=c.aT+1 } (k+1) hM hN ⟨hc.f0,hc.f1,by show((c.slots.set _ _).length:Int)=_;rw[List.length_set];exact hc.sl,Eo hc.rg _ hv.1⟩ rfl rfl hn;refine⟨m1,bg.ins h1 hM.dY hM.st VL hk hx (fun h=>by cases h) (oC h1 hM.dY VL hk hx hz (by rw[P'];simp) ⟨by show(1:Int)<=6;decide,by show(6:Int)<=23;decide⟩ 1 (by rw[P'];simp) (fun h=>by cases h) (fun _ h=>by rcases h with h|h<;>cases h) (fun _=>⟨s0,s1⟩) (fun h=>by cases h)) ?_,d⟩;rw[MV.o5,ht,MV.dx];have e:({ MC.cut { c with at_:=(k:Int)+1 } 1 with slots:=(MC.slots { c with at_:=(k:Int)+1 }).set s.toNat (MC.last { c with at_:=(k:Int)+1 }) }:MC)={ c with at_:=((k+1:Nat):Int),slots:=c.slots.set s.toNat v,stack:=[],aT:=c.aT+1 }:=by
   unfold MC.cut MC.last;simp only[P'];rfl
  rw[e];exact g
 ·obtain⟨m1,g,d⟩:=ih M { c with at_:=((k+1:Nat):Int),stack:=[],aT:=c.aT+1 } (k+1) hM hN ⟨hc.f0,hc.f1,hc.sl,hc.rg⟩ rfl rfl hn;refine⟨m1,bg.ins h1 hM.dY hM.st VL hk hx (fun h=>by cases h) (oC h1 hM.dY VL hk hx hz (by rw[P'];simp) ⟨by show(1:Int)<=23;decide,by show(23:Int)<=23;decide⟩ 1 (by rw[P'];simp) (fun h=>by cases h) (fun _ h=>by rcases h with h|h<;>cases h) (fun h=>by rcases h with h|h|h|h<;>cases h) (fun h=>by cases h)) ?_,d⟩;rw[MV.rH,MV.dp h1];have e:MC.cut { c with at_:=(k:Int)+1 } 1={ c with at_:=((k+1:Nat):Int),stack:=[],aT:=c.aT+1 }:=by
   unfold MC.cut;simp only[P'];rfl
  rw[e];exact g
def HG{N:Nat}(hM:fh p C M)(hN:M.calls.length=N+1)
  (ih:∀(M:MV) (c:MC) (k:Nat),fh p C M->M.calls.length=N->mc p c->c.stack=[]->c.at_=(k:Int)->dX p C c.fn.toNat k->∃m1,bg p C inp (M.aU c) m1/\lZ p C M m1) {v:aj} (hv:im v) (c:MC):∃m1,bg p C inp ((M.aU c).ends v) m1/\lZ p C M m1:=by
 unfold MV.ends;rw[RQ,MV.bL];by_cases h2:M.calls.length<=1
 ·rw[if_pos h2];have hl:M.pop.calls.length=0:=by show(M.calls.take _).length=_;rw[List.length_take];omega
  exact⟨_,bg.refl _,.inl (by show(2:Int)≠0;decide),⟨by show M.pop.calls.length<=8;omega,fun k hk=>by have hk:k+1<M.pop.calls.length:=hk;omega,fun e=>(e rfl).elim,fun _=>hl,⟨by show(0:Int)<=2;decide,by show(2:Int)<=3;decide⟩,hM.tr,hM.cells,hM.rg⟩,rfl⟩
 ·rw[if_neg h2];obtain⟨b,l,f,lo⟩:=hM.pop jB;obtain⟨k,k1,k2,k3,k4⟩:=lo.at_;have e:M.pop.push v=M.pop.aU { M.pop.ah with stack:=[v],aT:=M.pop.ah.aT-1 }:=by
   unfold MV.push MC.push;rw[lo.stack];rfl
  rw[e];exact Jj b jB ih (c:={ M.pop.ah with stack:=[v],aT:=M.pop.ah.aT-1 }) ⟨f.f0,f.f1,f.sl,f.rg⟩ rfl hv k1 k2 k3 k4
theorem vC:∀(N:Nat) (M:MV) (c:MC) (k:Nat),fh p C M->M.calls.length=N->mc p c->c.stack=[]->c.at_=(k:Int)->dX p C c.fn.toNat k->∃m1,bg p C inp (M.aU c) m1/\lZ p C M m1
 |0,M,c,k,hM,hN,_,_,_,_=>by have:=hM.one;omega
 |N+1,M,c,k,hM,hN,hc,P',VL,hk=>by
  generalize hj:c.fn.toNat=j at hk;have h1:=hM.one;have ht:=MV.bs (M:=M) h1;induction hk generalizing c with
  |@mark k n a h0 hn hl hi hkd hC h _=>
   have hm:lz p C j k n a:=⟨h0,hn,hl,hi,hkd,hC,h⟩;refine⟨_,bg.refl _,.inr ?_,?_,rfl⟩
   ·unfold MV.bh;rw[ht,VL,Int.toNat_natCast,hm.head.2];rfl
   ·have:=hM.mi hc P' (by rw[hj];exact⟨k,n,a,VL,hm⟩) (.inl rfl) hM.tr;have e:({ M.aU c with status:=0,cf:=M.cf }:MV)=M.aU c:=by
     have:=hM.st;unfold MV.aU;rw[this]
    rwa [e]at this
  |@jump k k' hk hx h ih=> obtain⟨m1,g,d⟩:=ih { c with at_:=(k':Int) } ⟨hc.f0,hc.f1,hc.sl,hc.rg⟩ P' rfl hj;refine⟨m1,bg.ins h1 hM.dY hM.st VL hk hx (fun h=>by cases h) (oC h1 hM.dY VL hk hx (fun u hu=>by rw[P']at hu;cases hu) (by rw[P'];simp) ⟨by show(1:Int)<=16;decide,by show(16:Int)<=23;decide⟩ 0 (Nat.zero_le _) (fun _=>.inr (.inr (.inr (.inr (.inr (.inl rfl)))))) (fun h=>by cases h) (fun h=>by rcases h with h|h|h|h<;>cases h) (fun h=>by cases h)) ?_,d⟩;rw[MV.mw,ht,MV.dx];exact g
  |@fin k r hk hx=>
   have go:∀m',bg p C inp ((M.aU { c with at_:=(k:Int)+1 }).ends (vZ r)) m'->bg p C inp (M.aU c) m':=fun m' g=> bg.ins h1 hM.dY hM.st VL hk hx (fun h=>by cases h) (oC h1 hM.dY VL hk hx (fun u hu=>by rw[P']at hu;cases hu) (by rw[P'];simp) ⟨by show(1:Int)<=22;decide,by show(22:Int)<=23;decide⟩ 0 (Nat.zero_le _) (fun _=>.inr (.inr (.inr (.inr (.inr (.inr (.inr rfl))))))) (fun h=>by cases h) (fun h=>by rcases h with h|h|h|h<;>cases h) (fun h=>by cases h)) g
   obtain⟨m1,g,d⟩:=HG (inp:=inp) hM hN (fun M c k a b=>vC N M c k a b) (J5 r) { c with at_:=(k:Int)+1 };exact⟨m1,go _ g,d⟩
end
def vL(p:ab)(C:aI):Prop:=∀j,j<p.aa.ao.length->∃k:Nat,nth C.entry j=(k:Int)/\dX p C j k
section
variable {p:ab}{C:aI}{inp:UY}
theorem FA{M:MV}(hs:fO p)(hM:fh p C M){j:Nat}(hj:j<p.aa.ao.length){n:Nat}(c:MC)(V5:(c.slots.length:Int)=nth p.size j)(Yd:pH c.slots) :
  ∀(L:UY) (Wu:List aj) (k q:Nat),(∀x∈L,0<=x/\x.toNat<p.aa.nodes.length/\jy p j x/\cW (bX p.aa.nodes x)/\x.toNat<n)->bM C.ins k (bA (br p n) k L [])->(∀v∈Wu,im v)->Wu.length+L.length<=10->
   (∃vs q',vs.length=L.length/\(∀v∈vs,im v)/\bg p C inp (M.aU { c with at_:=(k:Int),stack:=Wu,aT:=q }) (M.aU { c with at_:=((k+(bA (br p n) k L []).length:Nat):Int),stack:=Wu++vs,aT:=q' }))\/∃t:Int,(1<=t/\t<=9)/\bg p C inp (M.aU { c with at_:=(k:Int),stack:=Wu,aT:=q }) (M.js c 3 t)
 |[],Wu,k,q,hL,hl,hz,hd=>.inl ⟨[],q,rfl,fun v hv=>by(cases hv),by rw[List.append_nil];exact bg.refl _⟩
 |x::L,Wu,k,q,hL,hl,hz,hd=>by
  obtain⟨x0,x1,x2,x3,x4⟩:=hL x jE;have hm:=hs.ok.aa.many;have e0:bA (br p n) (k:Int) (x::L) []=br p n x k++bA (br p n) ((k+(br p n x k).length:Nat):Int) L []:=by show bA (br p n) k L ([]++br p n x ((k:Int)+((0:Nat):Int)))=_;rw[wA,List.nil_append,show((k:Int)+((0:Nat):Int))=(k:Int) from jB,Int.natCast_add]
  rw[e0]at hl ⊢;rcases yS (inp:=inp) hs hM.one hM.dY hM.st hM.cells hM.rg hj V5 Yd n x k { c with at_:=(k:Int),stack:=Wu,aT:=q } x0 x1 x2 x3 x4 rfl rfl hl.app.1 hz (by show Wu.length+x.toNat<=900;simp at hd;omega)with⟨v,q1,hv,g1⟩|⟨t,ht,g1⟩
  ·rcases FA hs hM hj c V5 Yd L (Wu++[v]) (k+(br p n x k).length) q1 (fun y hy=>hL y (by simp[hy])) hl.app.2 (u5 hz hv) (by simp at hd ⊢;omega)with⟨vs,q',e,WI,g2⟩|⟨t,ht,g2⟩
   ·refine .inl ⟨v::vs,q',by simp[e],fun u hu=>?_,?_⟩
    ·rcases List.mem_cons.1 hu with rfl|hu
     ·exact hv
     ·exact WI u hu
    ·rw[Int.natCast_add]at g2;rw[List.length_append,<-Nat.add_assoc];rw[List.append_assoc]at g2;exact g1.trans g2
   ·rw[Int.natCast_add]at g2;exact .inr ⟨t,ht,g1.trans g2⟩
  ·exact .inr ⟨t,ht,g1⟩
def GJ{M:MV}(hs:fO p)(hE:vL p C)(hCl:C.entry.length=p.aa.ao.length)(hM:fh p C M){c:MC}(hc:mc p c)(hm:ua p C c.fn.toNat c.mark)(P':c.stack=[]){n kc:Nat}{x:Int}(VL:c.at_=(kc:Int))(h0:0<=x)(hl:x.toNat<p.aa.nodes.length)(hk:(ak p x).kind=21)(VO:jy p c.fn.toNat x)(hn:x.toNat<n)
  (Z':bM C.ins kc (cM p n x kc)) (We:kc+(cM p n x kc).length<C.ins.length) (WJ:wM c (nth C.ins (kc+(cM p n x kc).length))) (Ze:dX p C c.fn.toNat (kc+(cM p n x kc).length+1)):∃m1,bg p C inp (M.aU c) m1/\lZ p C M m1:=by
 have h1:=hM.one;have h8:=hM.dY;have f0:=hc.f0;have f1:=hc.f1;obtain⟨cal,Wr⟩:=callee hs hl hk;have ZN:BX p x=(cal:Int):=Wr.last;have Zj:=hs.ok.aa.shape x.toNat hl;have hbA:=Wr.C1;have XT:=Z'.app.2.head;have Vf:(cM p n x kc).length=(bA (br p n) kc (ak p x).l []).length+1:=by unfold cM;rw[List.length_append];rfl
 rw[ZN]at XT;have Wo:=FA (inp:=inp) hs hM (j:=c.fn.toNat) jB (n:=n) c hc.sl hc.rg (ak p x).l [] kc c.aT (fun y hy=>by obtain⟨y1,y2,y3,y4⟩:=VO.aH hs jB hy;exact⟨y2,y4,y1,Zj.1.call hk y hy,jB⟩) Z'.app.1 (fun v hv=>by cases hv) jF
 have ec:({ c with at_:=(kc:Int),stack:=[],aT:=c.aT }:MC)=c:=by rw[<-VL,<-P']
 rw[ec]at Wo;generalize hke2:kc+(bA (br p n) kc (ak p x).l []).length=ke at*;rcases Wo with⟨A,q,Yr,hA,g⟩|⟨t,ht,g⟩
 rotate_left
 ·exact⟨_,g,wj hM hc hm (.inr rfl) jB⟩
 rw[List.nil_append]at g;have ha3:=hs.ao cal Wr.lt;have Vi:=hs.ok.size;have p1:=ha3.vy;have p2:=ha3.hi;have p3:=Wr.args;have p5:=Wr.lt;have hok:(M.aU { c with at_:=((ke:Nat):Int),stack:=A,aT:=q }).fP p C:=oC h1 h8 rfl XT.1 XT.2.1 hA (by show A.length<=1000;omega) ⟨by show(1:Int)<=20;decide,by show(20:Int)<=23;decide⟩ 0 (Nat.zero_le _) (fun _=>.inr (.inr (.inr (.inr (.inr (.inr (.inl rfl))))))) (fun h=>by cases h) (fun h=>by rcases h with h|h|h|h<;>cases h) (fun _=>by
  refine⟨?_,?_,?_,?_,?_,?_,?_,?_,?_⟩
  ·show(0:Int)<=((ak p x).l.length:Int);omega
  ·show((ak p x).l.length:Int)<=(A.length:Int);omega
  ·show((ak p x).l.length:Int)<=3;omega
  ·show(0:Int)<=(cal:Int);omega
  ·show(cal:Int)<(C.entry.length:Int);omega
  ·show(cal:Int)<(p.size.length:Int);omega
  ·show 0<=nth p.size ((cal:Int)).toNat;rw[Int.toNat_natCast];omega
  ·show nth p.size ((cal:Int)).toNat<=24;rw[Int.toNat_natCast];omega
  ·show((ak p x).l.length:Int)<=nth p.size ((cal:Int)).toNat;rw[Int.toNat_natCast];omega)
 have Wj:∀m',bg p C inp ((M.aU { c with at_:=(ke:Int)+1,stack:=A,aT:=q }).ins p C inp ⟨20,(cal:Int),((ak p x).l.length:Int),sE⟩) m'->bg p C inp (M.aU c) m':=fun m' hg=> g.trans (bg.ins (c:={ c with at_:=(ke:Int),stack:=A,aT:=q }) h1 h8 hM.st rfl XT.1 XT.2.1 (fun h=>by cases h) hok hg)
 have V7:(M.aU { c with at_:=(ke:Int)+1,stack:=A,aT:=q }).cut ((ak p x).l.length:Int).toNat=M.aU { c with at_:=(ke:Int)+1,stack:=[],aT:=q+(ak p x).l.length }:=by rw[MV.dp h1,Int.toNat_natCast];unfold MC.cut;show M.aU ⟨_,_,_,_,A.take (A.length-(ak p x).l.length),_⟩=_;rw[Yr,Nat.sub_self];rfl
 rw[MV.ql,V7,MV.bL]at Wj;by_cases h88:8<=M.calls.length
 ·rw[if_pos h88,MV.eK h1]at Wj;exact⟨_,Wj _ (bg.refl _),wj hM hc hm (.inr rfl) ⟨jC,jC⟩⟩
 rw[if_neg h88,MV.bs h1]at Wj;have Y8:A.drop (A.length-((ak p x).l.length:Int).toNat)=A:=by rw[Int.toNat_natCast,Yr,Nat.sub_self,List.drop_zero]
 have hbD:(MC.stack { c with at_:=(ke:Int)+1,stack:=A,aT:=q }).drop ((MC.stack { c with at_:=(ke:Int)+1,stack:=A,aT:=q }).length-((ak p x).l.length:Int).toNat)=A:=Y8;rw[hbD]at Wj;obtain⟨ek,e1,e2⟩:=hE cal Wr.lt;generalize Wk:({ c with at_:=(ke:Int)+1,stack:=[],aT:=q+(ak p x).l.length }:MC)=c' at*;have har:mc p c'/\so p C c':=by subst Wk;refine⟨⟨hc.f0,hc.f1,hc.sl,hc.rg⟩,rfl,hm,ke+1,by push_cast;rfl,?_⟩;have e:kc+(cM p n x kc).length=ke+1:=jB;rw[e]at We WJ Ze;exact⟨We,WJ,Ze⟩
 generalize hd:MV.iJ p C (cal:Int) A=d;have hnt:nth p.size ((cal:Int)).toNat=nth p.size cal:=by rw[Int.toNat_natCast]
 have hdF:mc p d:=by
  subst hd;refine⟨by show(0:Int)<=cal;omega,by show(cal:Int)<_;omega,?_,?_⟩
  ·show((A++List.replicate _ v0).length:Int)=nth p.size ((cal:Int)).toNat;rw[List.length_append,List.length_replicate,hnt];omega
  ·intro v hv;rcases List.mem_append.1 (show v∈A++List.replicate _ v0 from hv)with hv|hv
   ·exact(hA v hv).1
   ·rw[(List.mem_replicate.1 hv).2];exact sF
 have Vn:((M.aU c').cR p C (cal:Int) A).calls.length=M.calls.length+1:=by show((M.aU c').calls++[_]).length=_;rw[List.length_append,MV.bL];rfl
 have hnk:∀k,k<M.calls.length->nth ((M.aU c').cR p C (cal:Int) A).calls k=nth (M.aU c').calls k:=fun k hk=>by show nth ((M.aU c').calls++[_]) k=_;unfold nth;rw[List.getD_eq_getElem?_getD,List.getElem?_append_left (by rw[MV.bL];exact hk),List.getD_eq_getElem?_getD]
 have hbF:((M.aU c').cR p C (cal:Int) A).ah=d:=by
  unfold MV.ah;rw[Vn];show nth ((M.aU c').calls++[MV.iJ p C (cal:Int) A]) (M.calls.length+1-1)=d;have:M.calls.length+1-1=(M.aU c').calls.length:=by rw[MV.bL];omega
  rw[this,qq,hd]
 have hB:fh p C ((M.aU c').cR p C (cal:Int) A):=by
  refine⟨jB,jB,hM.st,hM.tr,fun k hk=>?_,hM.cells,hM.rg⟩;rw[hnk k jB];by_cases e:k=M.calls.length-1
  ·have:nth (M.aU c').calls k=c':=by rw[e];exact(Go.Gd.dH _ _ _ _ jB).trans (if_pos rfl)
   rw[this];exact har
  ·have:nth (M.aU c').calls k=nth M.calls k:=(Go.Gd.dH _ _ _ _ jB).trans (jN);rw[this];exact hM.low k jB
 obtain⟨m1,g1,d1⟩:=vC (inp:=inp) _ _ d ek hB rfl hdF (by subst hd;rfl) (by subst hd;show nth C.entry ((cal:Int)).toNat=_;rw[Int.toNat_natCast];exact e1) (by subst hd;show dX p C ((cal:Int)).toNat ek;rw[Int.toNat_natCast];exact e2);refine⟨m1,Wj _ ?_,d1⟩;have:=MV.sf ((M.aU c').cR p C (cal:Int) A) jB;rw[hbF]at this;rw[<-this];exact g1
theorem Bn{j n:Nat}:∀(L:UY) (k:Nat),(∀x∈L,0<=x/\x.toNat<n/\x.toNat<p.aa.nodes.length/\jy p j x/\fF (bX p.aa.nodes x))->bM C.ins k (bA (gv p n) k L [])->dX p C j (k+(bA (gv p n) k L []).length)->dX p C j k
 |[],k,hL,hl,hc=>hc
 |x::L,k,hL,hl,hc=>by
  obtain⟨x0,x1,x2,x3,x4⟩:=hL x jE;obtain⟨m,rfl⟩:∃m,n=m+1:=⟨n-1,jB⟩;have e0:bA (gv p (m+1)) (k:Int) (x::L) []=gv p (m+1) x k++bA (gv p (m+1)) ((k+(gv p (m+1) x k).length:Nat):Int) L []:=by show bA (gv p (m+1)) k L ([]++gv p (m+1) x ((k:Int)+((0:Nat):Int)))=_;rw[wA,List.nil_append,show((k:Int)+((0:Nat):Int))=(k:Int) from jB,Int.natCast_add]
  rw[e0]at hl hc;rw[List.length_append,<-Nat.add_assoc]at hc;exact .mark x0 x1 x2 x3 x4 hl.app.1 (Bn L _ (fun y hy=>hL y (by simp[hy])) hl.app.2 hc)
end
section
variable {p:ab}{C:aI}{inp:UY}
def Mt{l:UY}(h:∀x∈l,bz x)(k:Nat):bz (nth l k):=by
 rcases KS l k with e|e
 ·exact h _ e
 ·rw[e];exact sF
def LR{h:UW}(hr:p8 h)(i k:Nat){v:Int}(hv:bz v):p8 (h.set i ((nth h i).set k v)):=fun l hl x hx=>by
 rcases List.mem_or_eq_of_mem_set hl with hl|rfl
 ·exact hr l hl x hx
 ·rcases List.mem_or_eq_of_mem_set hx with hx|rfl
  ·rcases KS h i with e|e
   ·exact hr _ e x hx
   ·rw[e]at hx;cases hx
  ·exact hv
def RM{M:MV}(hs:fO p)(hE:vL p C)(hCl:C.entry.length=p.aa.ao.length)(hi:∀x∈inp,bz x)(hM:fh p C M){c:MC}(hc:mc p c){k n:Nat}{a:Int}(hm:lz p C c.fn.toNat k n a)(Yq:c.mark=(k:Int))(P':c.stack=[])(VL:c.at_=(k:Int)+1):∃m1,bg p C inp (M.aU c) m1/\lZ p C M m1:=by
 have h1:=hM.one;have h8:=hM.dY;have f0:=hc.f0;have f1:=hc.f1;have hj:c.fn.toNat<p.aa.ao.length:=jB;have hmA:ua p C c.fn.toNat c.mark:=⟨k,n,a,Yq,hm⟩;have hl:=hm.hl;have sh:=(hs.ok.aa.shape a.toNat hl).1;have Vm:=hs.ok.aa.many;have Vv:fF (ak p a).kind:=hm.hk;unfold fF at Vv;have XN:jM (ak p a).kind->0<=nth p.slots a.toNat/\nth p.slots a.toNat<c.slots.length:=fun h=>by have:=(hs.ao _ hj).all a.toNat hm.hi.1 (by have:=hm.hi.2;omega) h;rw[hc.sl];exact this
 have hC:=hm.hC;have Vh:=hm.h;have e0:=ym p n a k;have ek:(k:Int)+1=((k+1:Nat):Int):=by push_cast;rfl
 rw[ek]at e0 VL;have aH:∀x∈(ak p a).l,0<=x/\x.toNat<n/\x.toNat<p.aa.nodes.length/\jy p c.fn.toNat x:=fun x hx=>by obtain⟨b1,b2,b3,b4⟩:=hm.hi.aH hs hj hx;have:=hm.hn;exact⟨b2,jB,b4,b1⟩
 have ex:∀(M':MV) (d:MC) (kd:Nat),fh p C M'->mc p d->d.fn=c.fn->d.slots=c.slots->d.at_=(kd:Int)->(∀v∈d.stack,im v)->d.stack.length<=2->∀x∈(ak p a).l,cW (bX p.aa.nodes x)->bM C.ins kd (br p n x kd)->lV p C inp M' d (kd+(br p n x kd).length):=fun M' d kd ZP hd d1 d2 d3 d4 d5 x hx VE hCx=>by obtain⟨b1,b2,b3,b4⟩:=aH x hx;exact yS hs ZP.one ZP.dY ZP.st ZP.cells ZP.rg hj (slots:=c.slots) hc.sl hc.rg n x kd d b1 b3 b4 VE b2 d2 d3 hCx d4 jB
 have fr:∀(kd q:Nat) (st:List aj),mc p { c with at_:=(kd:Int),stack:=st,aT:=q }:=fun kd q st=>⟨hc.f0,hc.f1,hc.sl,hc.rg⟩
 have stop:∀(kd q:Nat) (st:List aj) (s t:Int),s=1\/s=3->0<=t/\t<=9->lZ p C M (M.js { c with at_:=(kd:Int),stack:=st,aT:=q } s t):=fun kd q st s t h h'=>wj hM (fr kd q st) hmA h h'
 have cont:∀(M':MV) (kd q:Nat),fh p C M'->dX p C c.fn.toNat kd->∃m1,bg p C inp (M'.aU { c with at_:=(kd:Int),stack:=[],aT:=q }) m1/\lZ p C M' m1:=fun M' kd q ZP h=>vC _ M' _ kd ZP rfl (fr kd q []) rfl rfl h
 have finr:∀(M':MV) (kd q:Nat) (v:aj),fh p C M'->im v->kd<C.ins.length->wM c (nth C.ins kd)->dX p C c.fn.toNat (kd+1)->∃m1,bg p C inp (M'.aU { c with at_:=(kd:Int),stack:=[v],aT:=q }) m1/\lZ p C M' m1:=fun M' kd q v ZP hv h2 h3 h4=> Jj ZP rfl (fun M c k a b=>vC _ M c k a b) (c:={ c with at_:=(kd:Int),stack:=[v],aT:=q }) (fr kd q [v]) rfl hv rfl h2 h3 h4
 -- an instruction on one value
 have go1:∀{kd q:Nat} {i:az} {v:aj} {m':MV},bM C.ins kd [i]->im v->i.op=13\/i.op=15\/i.op=17\/i.op=21->bg p C inp ((M.aU { c with at_:=(kd:Int)+1,stack:=[v],aT:=q }).ins p C inp i) m'->bg p C inp (M.aU { c with at_:=(kd:Int),stack:=[v],aT:=q }) m':=fun{kd q i v m'} hl hv ho g=> bg.ins (c:={ c with at_:=(kd:Int),stack:=[v],aT:=q }) h1 h8 hM.st rfl hl.head.1 hl.head.2.1 jB (oC h1 h8 rfl hl.head.1 hl.head.2.1 (fun u hu=>by rw[List.mem_singleton.1 hu];exact hv) jE jB 1 jE (fun h=>by cases h) (fun _=>jB) (fun h=>jB) (fun h=>jB)) g
 have last1:∀(kd:Int) (q:Nat) (v:aj),MC.last { c with at_:=kd,stack:=[v],aT:=q }=v:=fun _ _ _=>rfl
 have cut1:∀(kd:Int) (q:Nat) (v:aj),MC.cut { c with at_:=kd,stack:=[v],aT:=q } 1={ c with at_:=kd,stack:=[],aT:=q+1 }:=fun _ _ _=>rfl
 have nat1:∀kd:Nat,(kd:Int)+1=((kd+1:Nat):Int):=fun kd=>by push_cast;rfl
 have self:c={ c with at_:=((k+1:Nat):Int),stack:=[],aT:=c.aT }:=by rw[<-VL,<-P']
 -- an expression at the beginning, and what is behind it
 have first:∀x∈(ak p a).l,cW (bX p.aa.nodes x)->bM C.ins (k+1) (br p n x ((k+1:Nat):Int))->(∀v q,im v->∃m1,bg p C inp (M.aU { c with at_:=((k+1+(br p n x ((k+1:Nat):Int)).length:Nat):Int),stack:=[v],aT:=q }) m1/\lZ p C M m1)->∃m1,bg p C inp (M.aU c) m1/\lZ p C M m1:=fun x hx VE hCx h=>by
  rcases ex M c (k+1) hM hc rfl rfl VL (fun v hv=>by rw[P']at hv;cases hv) (by rw[P'];simp) x hx VE hCx with⟨v,q,hv,g⟩|⟨t,ht,g⟩
  ·obtain⟨m1,g1,d⟩:=h v q hv;rw[P',List.nil_append]at g;rw[Int.natCast_add (k+1)]at g1;exact⟨m1,g.trans g1,d⟩
  ·exact⟨_,g,wj hM hc hmA (.inr rfl) jB⟩
 -- a block below it
 have blk:∀b∈(ak p a).l,bX p.aa.nodes b=18->∀kb:Nat,bM C.ins kb (bA (gv p n) kb (ak p b).l [])->dX p C c.fn.toNat (kb+(bA (gv p n) kb (ak p b).l []).length)->dX p C c.fn.toNat kb:=fun b hb X8 kb hl h=>by obtain⟨b1,b2,b3,b4⟩:=aH b hb;refine Bn _ kb (fun x hx=>?_) hl h;obtain⟨x1,x2,x3,x4⟩:=b4.aH hs hj hx;exact⟨x2,jB,x4,x1,(hs.ok.aa.shape b.toNat b3).1.block X8 x hx⟩
 -- one way, or the other
 have branch:∀(kx q kt:Nat) (v:aj),bM C.ins kx [iI 17 (kt:Int)]->im v->dX p C c.fn.toNat kt->dX p C c.fn.toNat (kx+1)->∃m1,bg p C inp (M.aU { c with at_:=(kx:Int),stack:=[v],aT:=q }) m1/\lZ p C M m1:=fun kx q kt v hl hv ht hf=>by
  have go:∀m',_->bg p C inp (M.aU { c with at_:=(kx:Int),stack:=[v],aT:=q }) m':=fun m'=>go1 (m':=m') hl hv (.inr (.inr (.inl rfl)))
  rw[MV.oD,MV.bs h1,last1,MV.dp h1,cut1,MV.dx]at go;by_cases h:v.n=0
  ·rw[if_pos h]at go;obtain⟨m1,g,d⟩:=cont M kt (q+1) hM ht;exact⟨m1,go _ g,d⟩
  ·rw[if_neg h]at go;obtain⟨m1,g,d⟩:=cont M (kx+1) (q+1) hM hf;exact⟨m1,go _ g,d⟩
 have VP:((ak p a).kind=10\/(ak p a).kind=11)\/(ak p a).kind=12\/(ak p a).kind=13\/(ak p a).kind=14\/(ak p a).kind=15\/(ak p a).kind=16\/(ak p a).kind=17:=jB;rcases VP with e|e|e|e|e|e|e
 ·-- let, set
  obtain⟨x,u',Zz⟩:=sh.right e;have u':(ak p a).l=[x]:=u';have Wh:nth (ak p a).l 0=x:=by rw[u'];rfl
  have XD:x∈(ak p a).l:=by rw[u'];simp
  rw[if_pos e,Wh]at e0;rw[e0]at hC Vh;have hC:=hC.head.2.2;have V5:=XN (by unfold jM;omega);obtain⟨b1,b2,b3,b4⟩:=aH x XD;have hF:∀i,i=iI 6 (nth p.slots a.toNat)->wM c i:=fun i h=>.inl ⟨_,h,V5⟩
  have Vl:=hC.last;rw[List.length_cons,List.length_append,List.length_singleton]at Vh;rw[uV]at Vl Vh;by_cases k19:(ak p x).kind=19
  ·rw[if_pos k19]at Vl Vh;have hx:=Vl.1.head;have Vn:=Vl.2;rw[List.length_singleton]at Vn Vh;have go:∀m',bg p C inp ((M.aU { c with at_:=((k+1:Nat):Int)+1 }).ins p C inp (iI 14 0)) m'->bg p C inp (M.aU c) m':=fun m' g=>
    bg.ins h1 h8 hM.st VL hx.1 hx.2.1 (fun h=>by cases h) (oC h1 h8 VL hx.1 hx.2.1 (fun v hv=>by rw[P']at hv;cases hv) (by rw[P'];simp) ⟨by show(1:Int)<=14;decide,by show(14:Int)<=23;decide⟩ 0 (Nat.zero_le _) (fun _=>.inr (.inr (.inr (.inr (.inl rfl))))) (fun h=>by cases h) (fun h=>by rcases h with h|h|h|h<;>cases h) (fun h=>by cases h)) g
   rw[MV.o4]at go;by_cases hw:(inp.length:Int)<=M.in_
   ·have hw':(inp.length:Int)<=(M.aU { c with at_:=((k+1:Nat):Int)+1 }).in_:=hw;rw[if_pos hw',MV.eK h1]at go;exact⟨_,go _ (bg.refl _),wj hM (c:={ c with at_:=((k+1:Nat):Int)+1 }) ⟨hc.f0,hc.f1,hc.sl,hc.rg⟩ hmA (.inl rfl) ⟨Int.le_refl _,jC⟩⟩
   ·have hw':¬(inp.length:Int)<=(M.aU { c with at_:=((k+1:Nat):Int)+1 }).in_:=hw;rw[if_neg hw',MV.fu h1]at go;obtain⟨m1,g,d⟩:=finr { M with in_:=M.in_+1 } (k+1+1) (c.aT-1) (vI (nth inp M.in_.toNat)) ⟨hM.one,hM.dY,hM.st,hM.tr,hM.low,hM.cells,hM.rg⟩ (sn (Mt hi _)) Vn.1 (hF _ Vn.2) Vh;refine⟨m1,go _ ?_,d⟩;have e:MC.push { c with at_:=((k+1:Nat):Int)+1 } (vI (nth inp M.in_.toNat))={ c with at_:=((k+1+1:Nat):Int),stack:=[vI (nth inp M.in_.toNat)],aT:=c.aT-1 }:=by
     unfold MC.push;simp only[P'];rfl
    show bg p C inp { M.aU (MC.push { c with at_:=((k+1:Nat):Int)+1 } (vI (nth inp M.in_.toNat)))with in_:=M.in_+1 } m1;rw[e];exact g
  rw[if_neg k19]at Vl Vh;by_cases k20:(ak p x).kind=20
  ·rw[if_pos k20]at Vl Vh;obtain⟨y,hly,YF⟩:=(hs.ok.aa.shape x.toNat b3).1.one (.inr (.inr (.inr (.inr (.inr k20)))));have hly:(ak p x).l=[y]:=hly;have Zb:nth (ak p x).l 0=y:=by rw[hly];rfl
   rw[Zb]at Vl Vh;obtain⟨y1,y2,y3,y4⟩:=b4.aH hs hj (b:=y) (by rw[hly];simp);have ZQ:=Vl.1.last;rw[List.length_append,List.length_singleton]at Vl Vh;rcases yS (inp:=inp) hs h1 h8 hM.st hM.cells hM.rg hj (slots:=c.slots) hc.sl hc.rg n y (k+1) c y2 y4 y1 YF jB rfl VL ZQ.1 (fun v hv=>by rw[P']at hv;cases hv) (by rw[P'];show 0+y.toNat<=900;omega)with⟨v,q,hv,g⟩|⟨t,ht,g⟩
   rotate_left
   ·exact⟨_,g,wj hM hc hmA (.inr rfl) jB⟩
   rw[P',List.nil_append,<-Int.natCast_add]at g;generalize hX:br p n y ((k+1:Nat):Int)=X at*;have go:∀m',bg p C inp ((M.aU { c with at_:=((k+1+X.length:Nat):Int)+1,stack:=[v],aT:=q }).ins p C inp (iI 13 0)) m'->bg p C inp (M.aU c) m':=fun m' g'=>g.trans (go1 ⟨_,by rw[List.drop_eq_getElem_cons ZQ.2.1,<-fA ZQ.2.1,ZQ.2.2];rfl⟩ hv (.inl rfl) g')
   rw[MV.rT,MV.bs h1,last1,MV.dp h1,cut1,MV.eK h1,MV.eK h1,MV.fu h1,nat1]at go;by_cases hq:v.n<0\/16<v.n
   ·rw[if_pos hq]at go;exact⟨_,go _ (bg.refl _),stop _ _ _ _ _ (.inr rfl) jC⟩
   rw[if_neg hq]at go;by_cases hq2:40<gq M.heap+v.n+1
   ·have haB:40<gq (M.aU { c with at_:=((k+1+X.length+1:Nat):Int),stack:=[v],aT:=q }).heap+v.n+1:=hq2;rw[if_pos haB]at go;exact⟨_,go _ (bg.refl _),stop _ _ _ _ _ (.inr rfl) jC⟩
   have haB:¬40<gq (M.aU { c with at_:=((k+1+X.length+1:Nat):Int),stack:=[v],aT:=q }).heap+v.n+1:=hq2;rw[if_neg haB]at go;have V3:gq (M.heap++[List.replicate v.n.toNat 0])<=40:=by rw[EB,List.length_replicate];omega
   have hhl:=ME M.heap;obtain⟨m1,g',d⟩:=finr { M with heap:=M.heap++[List.replicate v.n.toNat 0] } (k+1+(X.length+1)) (q+1-1) ⟨4,M.heap.length+1,sE⟩ ⟨hM.one,hM.dY,hM.st,hM.tr,hM.low,V3,fun l hl x hx=>by
    rcases List.mem_append.1 hl with hl|hl
    ·exact hM.rg l hl x hx
    ·rw[List.mem_singleton.1 hl]at hx;rw[(List.mem_replicate.1 hx).2];exact sF⟩ ⟨by show bz ((M.heap.length:Int)+1);have:=hM.cells;unfold bz;omega,by show sE.size<=40;decide⟩ Vl.2.1 (hF _ Vl.2.2) (by rw[show k+1+(X.length+1)+1=k+(X.length+1+1+1) from jB];exact Vh)
   exact⟨m1,go _ g',d⟩
  rw[if_neg k20]at Vl Vh;by_cases k21:(ak p x).kind=21
  ·rw[if_pos k21]at Vl Vh;exact GJ hs hE hCl hM hc hmA P' VL b1 b3 k21 b4 b2 Vl.1 Vl.2.1 (hF _ Vl.2.2) (by rw[show k+1+(cM p n x ((k+1:Nat):Int)).length+1=k+((cM p n x ((k+1:Nat):Int)).length+1+1) from jB];exact Vh)
  rw[if_neg k21]at Vl Vh;have VE:cW (bX p.aa.nodes x):=by
   rcases Zz with h|h|h|h
   ·exact h
   ·exact(k19 h).elim
   ·exact(k20 h).elim
   ·exact(k21 h).elim
  exact first x XD VE Vl.1 fun v q hv=>finr M _ q v hM hv Vl.2.1 (hF _ Vl.2.2) (by rw[show k+1+(br p n x ((k+1:Nat):Int)).length+1=k+((br p n x ((k+1:Nat):Int)).length+1+1) from jB];exact Vh)
 ·-- put
  obtain⟨x,y,u',VE,YF⟩:=sh.two (.inr e);have u':(ak p a).l=[x,y]:=u';have Wh:nth (ak p a).l 0=x:=by rw[u'];rfl
  have Zb:nth (ak p a).l 1=y:=by rw[u'];rfl
  rw[jN,if_pos e,Wh,Zb]at e0;rw[e0]at hC Vh;have hC:=hC.head.2.2;have V5:=XN (by unfold jM;omega);have hxC:=hC.last.1.app.1;have hyC:=hC.last.1.app.2;have Vl:=hC.last.2;simp only[List.length_cons,List.length_append,List.length_nil]at Vl Vh;refine first x (by rw[u'];simp) VE hxC fun v q hv=>?_
  generalize hX:br p n x ((k+1:Nat):Int)=X at*;rw[<-Int.natCast_add]at hyC Vl Vh;rcases ex M { c with at_:=((k+1+X.length:Nat):Int),stack:=[v],aT:=q } (k+1+X.length) hM (fr _ _ _) rfl rfl rfl (fun u hu=>by rw[List.mem_singleton.1 hu];exact hv) jE y (by rw[u'];simp) YF hyC with⟨w,q2,hw,g⟩|⟨t,ht,g⟩
  rotate_left
  ·exact⟨_,g,stop _ _ _ _ _ (.inr rfl) jB⟩
  rw[<-Int.natCast_add]at g;generalize hY:br p n y ((k+1+X.length:Nat):Int)=Y at*;rw[<-Nat.add_assoc]at Vl;have go:∀m',bg p C inp ((M.aU { c with at_:=((k+1+X.length+Y.length:Nat):Int)+1,stack:=[v]++[w],aT:=q2 }).ins p C inp (iI 12 (nth p.slots a.toNat))) m'->bg p C inp (M.aU { c with at_:=((k+1+X.length:Nat):Int),stack:=[v],aT:=q }) m':=fun m' g'=>g.trans
   (bg.ins (c:={ c with at_:=((k+1+X.length+Y.length:Nat):Int),stack:=[v]++[w],aT:=q2 }) h1 h8 hM.st rfl Vl.1 Vl.2 (fun h=>by cases h) (oC h1 h8 rfl Vl.1 Vl.2 (u5 (fun u hu=>by rw[List.mem_singleton.1 hu];exact hv) hw) jE ⟨by show(1:Int)<=12;decide,by show(12:Int)<=23;decide⟩ 2 jE (fun h=>by cases h) (fun h=>by cases h) (fun _=>V5) (fun h=>by cases h)) g')
  have c2:MC.cut { c with at_:=((k+1+X.length+Y.length:Nat):Int)+1,stack:=[v]++[w],aT:=q2 } 2={ c with at_:=((k+1+X.length+Y.length+1:Nat):Int),stack:=[],aT:=q2+2 }:=rfl;have l1:MC.last (MC.cut { c with at_:=((k+1+X.length+Y.length:Nat):Int)+1,stack:=[v]++[w],aT:=q2 } 1)=v:=rfl;have l2:MC.last { c with at_:=((k+1+X.length+Y.length:Nat):Int)+1,stack:=[v]++[w],aT:=q2 }=w:=rfl;rw[MV.rn,MV.bs h1,l1,l2,MV.dp h1,c2,MV.eK h1,MV.kq]at go;have Xy:=D1 hM.cells hM.rg (dU c.slots (nth p.slots a.toNat) 4).n;by_cases hb:v.n<0\/((MV.bo M.heap (dU c.slots (nth p.slots a.toNat) 4).n).length:Int)<=v.n
  ·have VJ:v.n<0\/((MV.bo M.heap (dU (MC.slots { c with at_:=((k+1+X.length+Y.length:Nat):Int)+1,stack:=[v]++[w],aT:=q2 }) (nth p.slots a.toNat) 4).n).length:Int)<=v.n:=hb;rw[if_pos VJ]at go;exact⟨_,go _ (bg.refl _),stop _ _ _ _ _ (.inr rfl) jC⟩
  ·have VJ:¬(v.n<0\/((MV.bo M.heap (dU (MC.slots { c with at_:=((k+1+X.length+Y.length:Nat):Int)+1,stack:=[v]++[w],aT:=q2 }) (nth p.slots a.toNat) 4).n).length:Int)<=v.n):=hb;rw[if_neg VJ]at go;generalize hg:(dU c.slots (nth p.slots a.toNat) 4).n=g4 at*;have V3:gq (M.heap.set (g4-1).toNat ((nth M.heap (g4-1).toNat).set v.n.toNat w.n))<=40:=by
    by_cases D':(g4-1).toNat<M.heap.length
    ·rw[KI _ _ _ D' (by rw[List.length_set])];exact hM.cells
    ·rw[List.set_eq_of_length_le jB];exact hM.cells
   obtain⟨m1,g',d⟩:=cont { M with heap:=M.heap.set (g4-1).toNat ((nth M.heap (g4-1).toNat).set v.n.toNat w.n) } (k+1+X.length+Y.length+1) (q2+2) ⟨hM.one,hM.dY,hM.st,hM.tr,hM.low,V3,LR hM.rg _ _ hw.1⟩ (by rw[show k+1+X.length+Y.length+1=k+(X.length+Y.length+(0+1)+1) from jB];exact Vh);exact⟨m1,go _ g',d⟩
 ·-- do
  obtain⟨x,u',hbH⟩:=sh.sU e;have u':(ak p a).l=[x]:=u';have Wh:nth (ak p a).l 0=x:=by rw[u'];rfl
  rw[jN,jN,if_pos e,Wh]at e0;rw[e0]at hC Vh;have hC:=hC.head.2.2.last;obtain⟨b1,b2,b3,b4⟩:=aH x (by rw[u'];simp);rw[List.length_cons,List.length_append,List.length_singleton]at Vh;exact GJ hs hE hCl hM hc hmA P' VL b1 b3 hbH b4 b2 hC.1 hC.2.1 (.inr hC.2.2) (by rw[show k+1+(cM p n x ((k+1:Nat):Int)).length+1=k+((cM p n x ((k+1:Nat):Int)).length+1+1) from jB];exact Vh)
 ·-- print
  obtain⟨x,u',VE⟩:=sh.one (.inr (.inr (.inr (.inr (.inl e)))));have u':(ak p a).l=[x]:=u';have Wh:nth (ak p a).l 0=x:=by rw[u'];rfl
  rw[jN,jN,jN,if_pos e,Wh]at e0;rw[e0]at hC Vh;have hC:=hC.head.2.2;rw[List.length_cons,List.length_append,List.length_singleton]at Vh;refine first x (by rw[u'];simp) VE hC.last.1 fun v q hv=>?_
  have Vn:=hC.app.2;generalize hX:br p n x ((k+1:Nat):Int)=X at*;have go:∀m',_->bg p C inp (M.aU { c with at_:=((k+1+X.length:Nat):Int),stack:=[v],aT:=q }) m':=fun m'=>go1 (m':=m') Vn hv (.inr (.inl rfl))
  rw[MV.oQ,MV.bs h1,last1,MV.dp h1,cut1,MV.eK h1,nat1]at go;by_cases ho:24<=M.aZ.length
  ·have Xh:24<=(M.aU { c with at_:=((k+1+X.length+1:Nat):Int),stack:=[v],aT:=q }).aZ.length:=ho;rw[if_pos Xh]at go;exact⟨_,go _ (bg.refl _),stop _ _ _ _ _ (.inr rfl) jC⟩
  ·have Xh:¬24<=(M.aU { c with at_:=((k+1+X.length+1:Nat):Int),stack:=[v],aT:=q }).aZ.length:=ho;rw[if_neg Xh]at go;obtain⟨m1,g,d⟩:=cont { M with aZ:=M.aZ++[mA v] } (k+1+X.length+1) (q+1) ⟨hM.one,hM.dY,hM.st,hM.tr,hM.low,hM.cells,hM.rg⟩ (by rw[show k+1+X.length+1=k+(X.length+1+1) from jB];exact Vh);exact⟨m1,go _ g,d⟩
 ·-- if
  obtain⟨x,b,VE,X8,hll⟩:=sh.lg e;rw[jN,jN,jN,jN,jN]at e0;rcases hll with u'|⟨d,u',ZI⟩
  ·have u':(ak p a).l=[x,b]:=u';have Wh:nth (ak p a).l 0=x:=by rw[u'];rfl
   have hb0:nth (ak p a).l 1=b:=by rw[u'];rfl
   rw[Fl e (by rw[u'];show(2:Nat)≠3;decide),Wh,hb0]at e0;rw[e0]at hC Vh;have hC:=hC.head.2.2;refine first x (by rw[u'];simp) VE hC.app.1.last.1 fun v q hv=>?_
   have Vn:=hC.app.1.app.2;have hB:=hC.app.2;generalize hX:br p n x ((k+1:Nat):Int)=X at*;simp only[List.length_append,List.length_cons,List.length_nil]at hB Vh;rw[<-Int.natCast_add,nat1]at Vn hB Vh;generalize YJ:bA (gv p n) ((k+1+X.length+1:Nat):Int) (ak p b).l []=B at*;rw[<-Int.natCast_add]at Vn;have c1:dX p C c.fn.toNat (k+1+X.length+1+B.length):=by rw[show k+1+X.length+1+B.length=k+(X.length+(0+1)+B.length+1) from jB];exact Vh
   exact branch _ _ _ _ Vn hv c1 (blk b (by rw[u'];simp) X8 _ (by rw[YJ];exact hB) (by rw[YJ];exact c1))
  ·have u':(ak p a).l=[x,b,d]:=u';have Wh:nth (ak p a).l 0=x:=by rw[u'];rfl
   have hb0:nth (ak p a).l 1=b:=by rw[u'];rfl
   have hd0:nth (ak p a).l 2=d:=by rw[u'];rfl
   rw[Gc e (by rw[u'];rfl),Wh,hb0,hd0]at e0;rw[e0]at hC Vh;have hC:=hC.head.2.2;refine first x (by rw[u'];simp) VE hC.app.1.app.1.last.1 fun v q hv=>?_
   have Vn:=hC.app.1.app.1.app.2;have hB:=hC.app.1.app.2.last;have hD:=hC.app.2;generalize hX:br p n x ((k+1:Nat):Int)=X at*;simp only[List.length_append,List.length_cons,List.length_nil]at hB hD Vh;rw[<-Int.natCast_add,nat1]at Vn hB hD Vh;generalize YJ:bA (gv p n) ((k+1+X.length+1:Nat):Int) (ak p b).l []=B at*;have e2:(((k+1+X.length+1:Nat):Int)+(B.length:Int)+1)=((k+1+X.length+1+B.length+1:Nat):Int):=by push_cast;omega
   rw[e2]at hB hD Vh;generalize hDl:bA (gv p n) ((k+1+X.length+1+B.length+1:Nat):Int) (ak p d).l []=D at*;have c1:dX p C c.fn.toNat (k+1+X.length+1+B.length+1+D.length):=by rw[show k+1+X.length+1+B.length+1+D.length=k+(X.length+(0+1)+(B.length+(0+1))+D.length+1) from jB];exact Vh
   rw[show((k+1+X.length+1:Nat):Int)+((B.length:Int)+1)=((k+1+X.length+1+B.length+1:Nat):Int) by push_cast;omega]at Vn;rw[<-Int.natCast_add]at hB;have cD:=blk d (by rw[u'];simp) ZI (k+1+X.length+1+B.length+1) (by rw[hDl];rw[show k+1+(X.length+(0+1)+(B.length+(0+1)))=k+1+X.length+1+B.length+1 from jB]at hD;exact hD) (by rw[hDl];exact c1);have cJ:dX p C c.fn.toNat (k+1+X.length+1+B.length):=.jump (k':=k+1+X.length+1+B.length+1+D.length) (by have:=hB.2.1;omega) (by have:=hB.2.2;rw[show k+1+(X.length+(0+1))+B.length=k+1+X.length+1+B.length from jB]at this;exact this) c1;exact branch _ _ _ _ Vn hv cD (blk b (by rw[u'];simp) X8 _ (by rw[YJ];exact hB.1) (by rw[YJ];exact cJ))
 ·-- while
  obtain⟨x,b,u',VE,X8⟩:=sh.ee e;rw[jN,jN,jN,jN,jN]at e0;have u':(ak p a).l=[x,b]:=u';have Wh:nth (ak p a).l 0=x:=by rw[u'];rfl
  have hb0:nth (ak p a).l 1=b:=by rw[u'];rfl
  rw[Gr e,Wh,hb0]at e0;have cK:dX p C c.fn.toNat k:=.mark hm.h0 hm.hn hm.hl hm.hi hm.hk hm.hC hm.h;rw[e0]at hC Vh;have hC:=hC.head.2.2;refine first x (by rw[u'];simp) VE hC.app.1.last.1 fun v q hv=>?_
  have Vn:=hC.app.1.app.2;have hB:=hC.app.2.last;generalize hX:br p n x ((k+1:Nat):Int)=X at*;simp only[List.length_append,List.length_cons,List.length_nil]at hB Vh;rw[<-Int.natCast_add,nat1]at Vn hB Vh;generalize YJ:bA (gv p n) ((k+1+X.length+1:Nat):Int) (ak p b).l []=B at*;rw[show((k+1+X.length+1:Nat):Int)+((B.length:Int)+1)=((k+1+X.length+1+B.length+1:Nat):Int) by push_cast;omega]at Vn;have c1:dX p C c.fn.toNat (k+1+X.length+1+B.length+1):=by rw[show k+1+X.length+1+B.length+1=k+(X.length+(0+1)+(B.length+(0+1))+1) from jB];exact Vh
  have cJ:dX p C c.fn.toNat (k+1+X.length+1+B.length):=.jump (k':=k) (by have:=hB.2.1;omega) (by have:=hB.2.2;rw[show k+1+(X.length+(0+1))+B.length=k+1+X.length+1+B.length from jB]at this;rw[this];congr 1;push_cast;omega) cK;exact branch _ _ _ _ Vn hv c1 (blk b (by rw[u'];simp) X8 _ (by rw[YJ];exact hB.1) (by rw[YJ];exact cJ))
 ·-- return
  rw[jN,jN,jN,jN,if_pos e]at e0;by_cases WE:(ak p a).l.length=0
  ·rw[if_pos WE]at e0;rw[e0]at hC;have hx:=hC.head.2.2.head;rw[self];exact cont M (k+1) c.aT hM (.fin hx.1 hx.2.1)
  ·rw[if_neg WE]at e0;rcases sh.ret e with h|⟨x,u',VE⟩
   ·have h:(ak p a).l=[]:=h;rw[h]at WE;exact(WE rfl).elim
   have u':(ak p a).l=[x]:=u';have Wh:nth (ak p a).l 0=x:=by rw[u'];rfl
   rw[Wh]at e0;rw[e0]at hC;have hC:=hC.head.2.2;refine first x (by rw[u'];simp) VE hC.last.1 fun v q hv=>?_
   have Vn:=hC.app.2;generalize hX:br p n x ((k+1:Nat):Int)=X at*;have go:∀m',_->bg p C inp (M.aU { c with at_:=((k+1+X.length:Nat):Int),stack:=[v],aT:=q }) m':=fun m'=>go1 (m':=m') Vn hv (.inr (.inr (.inr rfl)))
   rw[MV.rK,MV.bs h1,last1,MV.dp h1,cut1]at go;obtain⟨N,hN⟩:∃N,M.calls.length=N+1:=⟨M.calls.length-1,jB⟩;obtain⟨m1,g,d⟩:=HG (inp:=inp) hM hN (fun M c k a b=>vC N M c k a b) hv { c with at_:=((k+1+X.length:Nat):Int)+1,stack:=[],aT:=q+1 };exact⟨m1,go _ g,d⟩
end
section
variable {p:ab}
def wY(hs:fO p):vL p (bQ p):=fun j hj=>by
 obtain⟨k,h1,h2⟩:=(rq hs).at_ j hj;have Wv:=h2.app.2.head;refine⟨k,h1,Bn _ k (fun x hx=>?_) h2.app.1 (.fin Wv.1 Wv.2.1)⟩;have hN:=n7 hs.ok.aa hj;have hb:=hs.ok.aa.body _ (fc hj);have Vd:=(hs.ao j hj).chain.le;have O':(nth p.aa.ao j).body.toNat<p.aa.nodes.length:=by have:=hN.1;have:=hN.2;omega
 have hi:jy p j (nth p.aa.ao j).body:=⟨Vd,Nat.le_refl _⟩;obtain⟨x1,x2,x3,x4⟩:=hi.aH hs hj (b:=x) hx;exact⟨x2,by unfold mR;omega,x4,x1,(hs.ok.aa.shape _ O').1.block hb x hx⟩
def _root_.Go.Gd.MV.halt(m:MV):Prop:=m.status=2\/m.status=3
theorem MI.fC{C:aI}{m:MV}(h:MI p C m):MI p C m.fC:=⟨h.dY,h.low,h.ah,h.xt,h.st,h.tr,h.cells,h.rg⟩
variable{inp:UY}
def Mu{C:aI}(hs:fO p)(hE:vL p C)(hCl:C.entry.length=p.aa.ao.length)(hi:∀x∈inp,bz x){m:MV}(h:MI p C m)(P':¬m.halt):∃m1,bg p C inp m.eu m1/\lZ p C m m1:=by obtain⟨h1,hc,Wy,k,n,a,hk,hm⟩:=h.ah (fun e=>P' (.inl e));have hM:fh p C { m with status:=0 }:=⟨h1,h.dY,rfl,h.tr,h.low,h.cells,h.rg⟩;exact RM hs hE hCl hi hM (c:={ m.ah with mark:=m.ah.at_,at_:=m.ah.at_+1 }) ⟨hc.f0,hc.f1,hc.sl,hc.rg⟩ hm hk Wy (by show m.ah.at_+1=_;rw[hk])
def BM{C:aI}(hs:fO p)(hE:vL p C)(inp:UY):∃m1,bg p C inp (mh p C) m1/\lZ p C (mh p C) m1:=by
 obtain⟨j,hj,Xk,_,ha4⟩:=BW hs;obtain⟨ek,e1,e2⟩:=hE j hj;have hf:=hs.ao j hj;have p1:=hf.vy;have hM:fh p C (mh p C):=⟨by show 1<=1;decide,by show 1<=8;decide,rfl,by show(0:Int)<=0/\(0:Int)<=9;decide,fun k hk=>by have hk:k+1<1:=hk;omega,by show gq []<=40;decide,fun l hl=>by cases hl⟩
 have VD:(MV.iJ p C (iu p) []).fn.toNat=j:=by show(iu p).toNat=j;rw[Xk,Int.toNat_natCast]
 have Vi:nth p.size (iu p).toNat=nth p.size j:=by rw[Xk,Int.toNat_natCast]
 obtain⟨m1,g,d⟩:=vC (inp:=inp) 1 (mh p C) (MV.iJ p C (iu p) []) ek hM rfl ⟨by show 0<=iu p;omega,by show iu p<_;omega,by
  show(([]++List.replicate _ v0:List aj).length:Int)=nth p.size (iu p).toNat;rw[List.nil_append,List.length_replicate,Vi];simp only[List.length_nil];omega,fun v hv=>by
  have hv:v∈([]++List.replicate _ v0:List aj):=hv;rw[List.nil_append]at hv;rw[(List.mem_replicate.1 hv).2];exact sF⟩ rfl (by show nth C.entry (iu p).toNat=_;rw[Xk,Int.toNat_natCast];exact e1) (by rw[VD];exact e2)
 exact⟨m1,g,d⟩
structure cU(p:ab)(C:aI)(F:List Int->MV->MV):Prop where
 step:∀inp:List Int,(∀x∈inp,bz x)->∀m,MI p C m->¬m.halt->∃m1,bg p C inp m.eu m1/\lZ p C m m1/\F inp m=m1.fC
 still:∀inp m,m.halt->F inp m=m
def yC(hs:fO p):∃F,cU p (bQ p) F:=by
 classical
 refine⟨fun inp m=>if h:¬m.halt/\∃m1,bg p (bQ p) inp m.eu m1/\lZ p (bQ p) m m1 then(Classical.choose h.2).fC else m,fun inp hi m hm P'=>?_,fun inp m h=>by rw[dif_neg (fun h'=>h'.1 h)]⟩;have h:¬m.halt/\∃m1,bg p (bQ p) inp m.eu m1/\lZ p (bQ p) m m1:=⟨P',Mu hs (wY hs) (rq hs).len hi hm P'⟩;have hc:=Classical.choose_spec h.2;exact⟨_,hc.1,hc.2,by rw[dif_pos h]⟩
def cU.mi{C:aI}{F:UY->MV->MV}(hF:cU p C F)(hi:∀x∈inp,bz x){m:MV}(h:MI p C m):MI p C (F inp m):=by
 by_cases e:m.halt
 ·rw[hF.still inp m e];exact h
 ·obtain⟨m1,_,d,e⟩:=hF.step inp hi m h e;rw[e];exact d.2.1.fC
theorem cU.time{C:aI}{F:UY->MV->MV}(hF:cU p C F){inp:UY}(hi:∀x∈inp,bz x){m:MV}(h:MI p C m):(F inp m).time=m.time\/((F inp m).time=m.time+1/\(F inp m).status≠1/\¬m.halt):=by
 by_cases e:m.halt
 ·exact .inl (by rw[hF.still inp m e])
 ·obtain⟨m1,_,d,e'⟩:=hF.step inp hi m h e;rw[e'];unfold MV.fC;dsimp only;split
  ·exact .inl d.2.2
  ·rename_i Wg;exact .inr ⟨by rw[d.2.2],Wg,e⟩
end
section
variable {p:ab}{C:aI}{inp:UY}
def FG(m:MV)(v:aj):(m.ends v).in_=m.in_:=by unfold MV.ends;split<;>rfl
def KJ(m:MV)(r:aj×Int):(m.dP r).in_=m.in_:=by unfold MV.dP;split<;>rfl
def FN{c:Prop}[Decidable c]{a b:MV}{k:Int}(h:a.in_=k)(h':b.in_=k):(if c then a else b).in_=k:=by
 by_cases e:c
 ·rw[if_pos e];exact h
 ·rw[if_neg e];exact h'
def T5(m:MV)(x:az):(m.ins p C inp x).in_=m.in_\/(m.ins p C inp x).in_=m.in_+1:=by
 by_cases h:x.op=14
 ·rw[MV.fk _ _ _ _ _ h];split
  ·exact .inl rfl
  ·exact .inr rfl
 ·left
  unfold MV.ins;simp only[h,↓reduceIte];repeat' (first|rfl|exact FG _ _|exact KJ _ _|refine FN ?_ ?_)
def RJ{m:MV}(h0:0<=m.in_){x:az}(hx:¬(x.op=14/\(inp.length:Int)<=m.in_))(y:UY):m.ins p C (inp++y) x=m.ins p C inp x:=by
 by_cases h:x.op=14
 ·have D':¬(inp.length:Int)<=m.in_:=fun h'=>hx ⟨h,h'⟩
  have e:nth (inp++y) m.in_.toNat=nth inp m.in_.toNat:=by unfold nth;rw[List.getD_eq_getElem?_getD,List.getElem?_append_left jB,List.getD_eq_getElem?_getD]
  rw[MV.fk _ _ _ _ _ h,MV.fk _ _ _ _ _ h,if_neg D',if_neg (by rw[List.length_append];omega),e]
 ·unfold MV.ins;simp only[h,↓reduceIte]
def E7{n:Nat}{m a:MV}(h:eo p C inp n m a):∀{k b},eo p C inp k m b->a.dG C->b.dG C->a=b:=by
 induction h with
 |refl m=>
  intro k b hb ha _
  cases hb with
  |refl=>rfl
  |step h0 h1=>exact(ha.elim (fun h=>h h0) h1).elim
 |@step n m m' h0 h1 hok hg ih=>
  intro k b hb ha VJ;cases hb with|refl=>exact(VJ.elim (fun h=>h h0) h1).elim|step _ _ _ hg'=>exact ih hg' ha VJ
def rz(m:MV)(k:Nat)(v:aj):MV:=m.aU { m.ah with slots:=m.ah.slots.set k v }
def IB{m:MV}(h:MI p C m)(hs:¬m.halt)(k:Nat){v:aj}(hv:bz v.n):MI p C (rz m k v):=by
 obtain⟨h1,hf,P',hm⟩:=h.ah (fun e=>hs (.inl e));have ht:(rz m k v).ah={ m.ah with slots:=m.ah.slots.set k v }:=MV.bs h1 _;have hl:(rz m k v).calls.length=m.calls.length:=MV.bL _ _;refine⟨by rw[hl];exact h.dY,fun j hj=>?_,fun _=>?_,fun e=>(hs (.inl e)).elim,h.st,h.tr,h.cells,h.rg⟩
 ·rw[hl]at hj;rw[show nth (rz m k v).calls j=nth m.calls j from(Go.Gd.dH _ _ _ _ jB).trans (jN)];exact h.low j hj
 ·rw[hl,ht];exact⟨h1,⟨hf.f0,hf.f1,by show((m.ah.slots.set k v).length:Int)=_;rw[List.length_set];exact hf.sl,Eo hf.rg _ hv⟩,P',hm⟩
end
end Go.Proofs.YtjpcgmjaipfgdaaGreatDoor
namespace Go.Proofs.YtjpcgmjaipfgdaaGreatDoor
open Go Go.Gd Tryz Go.Gd.MV
section
variable {p:ab}{C:aI}{m:MV}{N:NM}{e:UT}
def MA(hR:bO p C m N e)(hs:¬(m.status=2\/m.status=3))(h1:1<=m.calls.length)(k:Nat)(hk:k<m.ah.slots.length)(hl:m.ah.slots.length<=1000)(v:aj):de prog 174 [mP N,rI k,.agg (bY v)] e (rB true) (bp e (hn 1 N.ah.c) (.aJ 54 3 ((m.ah.slots.set k v).map bY)))/\bO p C (rz m k v) N (bp e (hn 1 N.ah.c) (.aJ 54 3 ((m.ah.slots.set k v).map bY))):=by
 have ht:=uC hR h1;have hT:=hR.ah h1;have U9:=hR.ok.low;have VZ:=hR.tB h1 (m.ah.slots.set k v) (List.length_set ..);have O':=hR.len;refine⟨⟨?_,hR.ok,VZ.ok,fun i hi=>?_,?_⟩,VZ⟩;rotate_left
 ·rw[bP];split
  ·simp
  ·exact hi
 ·simp only[aY,AV.all,gl hR.root,Bool.and_self,Bool.and_true,bY]
 have k2:=VZ.ok;have s2:¬m.status=2:=fun h=>hs (.inl h)
 have s3:¬m.status=3:=fun h=>hs (.inr h)
 have V5:=hT.ff;have YA:(k:Int)<(m.ah.slots.length:Int):=jB;have Vo:¬(k:Int)<0:=jB;have VA:¬(m.ah.slots.length:Int)<=(k:Int):=jB;generalize hE:bp e (hn 1 N.ah.c) (.aJ 54 3 ((m.ah.slots.set k v).map bY))=E at k2 ⊢;clear VZ;refine aQ (L:=ids e) func174 ntmps174 ?_ (hL:=rfl);generalize hB:ids e=B;refine fg ?_
 (have W:=jA U9 (jA hR.root (jA hT.var (jA V5 (jA s2 (jA s3 (jA YA (jA hk (jA Vo (VA)))))))));repeat' (first|refine ar fun K hK=>?_|refine av ?_|(with_reducible refine gR 3 ?_);refine dC 3 ([],[34],[]) [] (bf 0 9) mixed ?_|(refine hK _ _ ?_;clear hK K)|(refine au ?_ ?_<;>intro hc<;>try exact jz)|refine bv 9 ?_|refine nh ht ?_|refine cT ht ?_|(refine gh ?_ ?_<;>intro hc<;>try exact jz)|refine aq ?_|exact jI|(clear hK K)))
 subst hE;refine eO (tl:=[(9,.var 54 (bY v))]) hB hR.ok k2 (fun i=>?_) (dB jC dO) [.tmp 6];rw[List.map_set];rfl
end
section
variable {p:ab}{C:aI}{m:MV}{N:NM}{e:UT}(X:UZ)
def Lp(hR:bO p C m N e)(h1:1<=m.calls.length)(x:az)(hx:¬(x.op=20\/x.op=21\/x.op=22)):de prog 168 [mP N,cP N,.agg (dw x)] e (rB false) e:=by
 have U9:=hR.ok.low;refine⟨?_,hR.ok,hR.ok,fun _ h=>h,iw hR h1 rfl⟩;refine aQ (L:=ids e) func168 ntmps168 ?_ (hL:=rfl);generalize hB:ids e=B;refine fg ?_
 (have W:=U9;repeat' (first|refine ar fun K hK=>?_|refine av ?_|(refine hK _ _ ?_;clear hK K)|(refine au ?_ ?_<;>intro hc<;>try exact jz)|refine bv 9 ?_|refine aq ?_|exact jI|(clear hK K)))
 exact eO hB hR.ok hR.ok (fun _=>rfl) (dB jC dO) [.tmp 6]
def PE(h1:1<=m.calls.length)(b:Nat)(hd:∀k,k<m.calls.length->(nth m.calls k).stack.length<=1000):∀k,k<(m.cut b).calls.length->(nth (m.cut b).calls k).stack.length<=1000:=fun k hk=>by
 have hl:(m.cut b).calls.length=m.calls.length:=MV.bL _ _;have e1:nth (m.cut b).calls k=if k=m.calls.length-1 then m.ah.cut b else nth m.calls k:=Go.Gd.dH _ _ _ _ jB
 rw[e1];split
 ·show(m.ah.stack.take _).length<=_;have:m.ah.stack.length<=1000:=hd (m.calls.length-1) jB;rw[List.length_take];omega
 ·exact hd k jB
def zS(x:aj):lw (bY x)=true:=rfl
def Qx(hR:bO p C m N e)(inp:UY)(x:az)(hk:qj p C m x)(hx:x.op=20\/x.op=21\/x.op=22):k6 prog 168 [mP N,cP N,.agg (dw x)] e X (rB true) (fun N' l=>bO p C (m.ins p C inp x) N' l/\N'.k=N.k):=by
 have h1:=hk.calls;have U9:=hR.ok.low;have hT:=hR.ah h1;have hl:=hR.len;by_cases h22:x.op=22
 ·have ei:m.ins p C inp x=m.ends (vZ x.a):=JG _ _ _ _ _ h22;rw[ei];obtain⟨N',l,Vg,hU,hp⟩:=H7 X hR h1 (vZ x.a) hk.deep;refine⟨N',l,Vg,hU,⟨?_,hR.ok,hp.e2,hU.aW,iw hR h1 rfl⟩⟩;refine aQ (L:=ids e) func168 ntmps168 ?_ (hL:=rfl);generalize hB:ids e=B;refine fg ?_
  (have W:=U9;repeat' (first|refine ar fun K hK=>?_|refine av ?_|(refine hK _ _ ?_;clear hK K)|(refine au ?_ ?_<;>intro hc<;>try exact jz)|refine bv 9 ?_|refine cp (zG _) ?_|refine cT hp ?_|refine aq ?_|exact jI|(clear hK K)))
  exact eO hB hR.ok hp.e2 (fun _=>rfl) (dB jC dO) [.tmp 6]
 by_cases h21:x.op=21
 ·have ei:m.ins p C inp x=(m.cut 1).ends m.ah.last:=Ep _ _ _ _ _ h21;rw[ei];obtain⟨N1,l1,Vg,VB,Wn⟩:=EK X hR h1 (hk.one jB);have Z8:1<=(m.cut 1).calls.length:=by rw[show(m.cut 1).calls.length=m.calls.length from MV.bL _ _];exact h1
  obtain⟨N',l,V0,hU,hp⟩:=H7 X Vg.1 Z8 m.ah.last (PE h1 1 hk.deep);rw[show mP N1=mP N by unfold mP;rw[Vg.2.1]]at hp;have Vz:=Vg.1.ok.low;refine⟨N',l,⟨V0.1,V0.2.trans Vg.2.1⟩,VB.trans hU,⟨?_,hR.ok,hp.e2,(VB.trans hU).aW,iw hR h1 rfl⟩⟩;refine aQ (L:=ids e) func168 ntmps168 ?_ (hL:=rfl);generalize hB:ids e=B;refine fg ?_
  (have W:=jA U9 Vz;repeat' (first|refine ar fun K hK=>?_|refine av ?_|(refine hK _ _ ?_;clear hK K)|(refine au ?_ ?_<;>intro hc<;>try exact jz)|refine bv 9 ?_|refine cT Wn ?_|refine cT hp ?_|refine aq ?_|exact jI|(clear hK K)))
  exact eO hB hR.ok hp.e2 (fun _=>rfl) (dB jC dO) [.tmp 6]
 have h20:x.op=20:=jB;obtain⟨c1,c2,c3⟩:=hk.call h20;obtain⟨b,hb⟩:∃b:Nat,x.b=b:=⟨x.b.toNat,jB⟩;have hbt:x.b.toNat=b:=jB;rw[hbt]at c3;have Xc:b<=m.ah.stack.length:=jB;have hdp:=hk.ah;have Wd:=hR.AI h1 b Xc;have VB:Up X e (bp e (hn 0 N.ah.c) (.var 217 (MV.cE (m.ah.cut b) ⟨N.ah.c,N.ah.v,m.ah.stack.drop (m.ah.stack.length-b)++N.ah.jk⟩))):=Up.put _ (.inl (by rw[hT.var];simp));have eC:MV.cE (m.ah.cut b) ⟨N.ah.c,N.ah.v,m.ah.stack.drop (m.ah.stack.length-b)++N.ah.jk⟩=[.rs (hn 2 N.ah.v) (m.ah.stack.length+N.ah.jk.length) 3 (m.ah.stack.length-b),.raw (.int .i64 m.ah.fn),.raw (.int .i64 m.ah.at_),.raw (.int .i64 m.ah.mark),.rs (hn 1 N.ah.c) m.ah.slots.length 3 m.ah.slots.length]:=by
  have e1:(m.ah.cut b).stack.length=m.ah.stack.length-b:=by show(m.ah.stack.take _).length=_;rw[List.length_take];omega
  unfold MV.cE;rw[e1,List.length_append,List.length_drop,show m.ah.stack.length-b+(m.ah.stack.length-(m.ah.stack.length-b)+N.ah.jk.length)=m.ah.stack.length+N.ah.jk.length from jB];rfl
 rw[eC]at Wd VB;have Vf:=Ii (m.ah.stack.drop (m.ah.stack.length-b)) (by rw[List.length_drop];omega) 10;have XA:(m.cut b).calls.length=m.calls.length:=MV.bL _ _;have Vz:=Wd.ok.low;by_cases h8:8<=m.calls.length
 ·have ei:m.ins p C inp x=(m.cut b).stops 3 3:=by rw[Dh _ _ _ _ _ h20,if_pos h8,hbt]
  rw[ei];obtain⟨N',l,V0,hU,hp⟩:=xB X Wd jB 3 3;refine⟨N',l,⟨V0.1,V0.2.1⟩,VB.trans hU,⟨?_,hR.ok,hp.e2,(VB.trans hU).aW,iw hR h1 rfl⟩⟩;clear eC VB hU;refine aQ (L:=ids e) func168 ntmps168 ?_ (hL:=rfl);generalize hB:ids e=B;refine fg ?_
  (have W:=jA U9 (jA hR.root (jA hT.var (hb)));repeat' (first|refine ar fun K hK=>?_|refine av ?_|(with_reducible refine gR 4 ?_);refine dE 4 (bf 0 10) mixed ?_|(refine hK _ _ ?_;clear hK K)|(refine au ?_ ?_<;>intro hc<;>try exact jz)|refine bv 9 ?_|refine AX 10 zS Vf (by show aC (tie _ _) _=_;rw[ko,U9 _ jC];rfl) (Gn m.ah.stack N.ah.jk (by show aC (tie _ _) _=_;rw[ko,hT.cO];rfl) rfl jB jC) ?_|refine cT hp ?_|refine aq ?_|exact jI|(clear hK K)))
  exact eO hB hR.ok hp.e2 (fun _=>rfl) (dB jC dO) [.tmp 6]
 ·have ei:m.ins p C inp x=(m.cut b).cR p C x.a (m.ah.stack.drop (m.ah.stack.length-b)):=by rw[Dh _ _ _ _ _ h20,if_neg h8,hbt]
  rw[ei];obtain⟨f0,f1,f2,s0,s1,s2,b1,h8'⟩:=c3 jB;obtain⟨N',l,V0,hU,hp⟩:=FY X Wd x.a (m.ah.stack.drop (m.ah.stack.length-b)) ⟨f0,f1,f2,s0,s1,s2,b1,by rw[XA];exact h8'⟩;refine⟨N',l,⟨V0.1,V0.2⟩,VB.trans hU,⟨?_,hR.ok,hp.e2,(VB.trans hU).aW,iw hR h1 rfl⟩⟩;clear eC VB hU;refine aQ (L:=ids e) func168 ntmps168 ?_ (hL:=rfl);generalize hB:ids e=B;refine fg ?_
  (have W:=jA U9 (jA hR.root (jA hT.var (hb)));repeat' (first|refine ar fun K hK=>?_|refine av ?_|(with_reducible refine gR 4 ?_);refine dE 4 (bf 0 10) mixed ?_|(refine hK _ _ ?_;clear hK K)|(refine au ?_ ?_<;>intro hc<;>try exact jz)|refine bv 9 ?_|refine AX 10 zS Vf (by show aC (tie _ _) _=_;rw[ko,U9 _ jC];rfl) (Gn m.ah.stack N.ah.jk (by show aC (tie _ _) _=_;rw[ko,hT.cO];rfl) rfl jB jC) ?_|refine cT hp ?_|refine aq ?_|exact jI|(clear hK K)))
  exact eO hB hR.ok hp.e2 (fun _=>rfl) (dB jC dO) [.tmp 6]
end
def Nt{p:ab}{C:aI}{m:MV}{n:Nat}(h:Bd n m)(hn:n<=1000)(hok:m.fP p C)(hC:C.entry.length<=1000)(hP:p.size.length<=1000):qj p C (m.aU (m.ah.jump (m.ah.at_+1))) (m.bh C):=by
 have h1:=hok.calls;have ht:(m.aU (m.ah.jump (m.ah.at_+1))).ah=m.ah.jump (m.ah.at_+1):=MV.bs h1 _;have hl:(m.aU (m.ah.jump (m.ah.at_+1))).calls.length=m.calls.length:=MV.bL _ _;have P':(m.ah.jump (m.ah.at_+1)).stack=m.ah.stack:=rfl;have V5:(m.ah.jump (m.ah.at_+1)).slots=m.ah.slots:=rfl;have Xp:(m.ah.jump (m.ah.at_+1)).last=m.ah.last:=rfl;refine⟨by rw[hl];exact h1,by rw[hl];exact hok.nR,?_,?_,?_,fun h20=>?_,?_,?_,fun k hk=>?_,?_,h.heap,h.outs,h.np,by have:=h.mY;show m.in_<=1000;omega⟩
 ·rw[ht,P'];exact hok.one
 ·rw[ht,P'];exact hok.two
 ·rw[ht,V5];exact hok.slot
 ·obtain⟨c1,c2,c3,c4,c5,c6,c7,c8,c9⟩:=hok.call h20;rw[ht,P'];refine⟨c1,c2,fun h8=>⟨c4,c5,c6,c7,c8,?_,⟨hC,hP⟩,hok.nR |> (by rw[hl];exact·)⟩⟩;rw[List.length_drop];omega
 ·rw[ht,Xp];exact hok.word
 ·rw[ht,P'];exact hok.ka
 ·rw[hl]at hk;have e:nth (m.aU (m.ah.jump (m.ah.at_+1))).calls k=if k=m.calls.length-1 then m.ah.jump (m.ah.at_+1)else nth m.calls k:=Go.Gd.dH _ _ _ _ jB
  rw[e];split
  ·exact hok.deep
  ·exact h.deep k jB
 ·rw[ht,V5];exact h.ah h1
def T0{h:UW}{a i:Int}(hi:¬(i<0\/((MV.bo h a).length:Int)<=i)):(a-1).toNat<h.length/\i.toNat<(nth h (a-1).toNat).length:=by
 unfold MV.bo at hi;by_cases e:a<1\/(h.length:Int)<a
 ·rw[if_pos e]at hi;simp only[List.length_nil]at hi;omega
 ·rw[if_neg e]at hi;omega
def Nr{p:ab}{C:aI}{m:MV}{inp:UY}{x:az}(h:Bd inp.length m)(hk:qj p C m x):Bd inp.length (m.ins p C inp x):=by
 have h1:=hk.calls;have V7:∀k,(m.cut k).calls.length=m.calls.length:=fun k=>MV.bL _ _
 have hc:∀k,Bd inp.length (m.cut k):=fun k=>h.cut h1 k
 have VM:∀k,1<=(m.cut k).calls.length:=fun k=>by rw[V7];exact h1
 by_cases a:x.op=2
 ·rw[O7 _ _ _ _ _ a];exact h.push h1 _
 by_cases a:x.op=3
 ·rw[PH _ _ _ _ _ a];exact h.push h1 _
 by_cases a:x.op=4
 ·rw[L9 _ _ _ _ _ a];exact h.push h1 _
 by_cases a:x.op=5
 ·rw[QH _ _ _ _ _ a];exact h.push h1 _
 by_cases a:x.op=6
 ·rw[Ig _ _ _ _ _ a];refine h.aU ?_;show(m.ah.slots.set _ _).length<=24;rw[List.length_set];exact hk.slots
 by_cases a:x.op=7
 ·rw[JP _ _ _ _ _ a];exact(hc 2).dP (VM 2) _
 by_cases a:x.op=8
 ·rw[Kg _ _ _ _ _ a];exact(hc 1).push (VM 1) _
 by_cases a:x.op=9
 ·rw[GW _ _ _ _ _ a];exact(hc 1).push (VM 1) _
 by_cases a:x.op=10
 ·rw[JE _ _ _ _ _ a];exact(hc 1).push (VM 1) _
 by_cases a:x.op=11
 ·rw[E1 _ _ _ _ _ a];split
  ·exact(hc 1).stops (VM 1) _ _
  ·exact(hc 1).push (VM 1) _
 by_cases a:x.op=12
 ·rw[D5 _ _ _ _ _ a];split
  ·exact(hc 2).stops (VM 2) _ _
  ·rename_i hi;refine(hc 2).oc ?_;obtain⟨q1,q2⟩:=T0 hi;rw[KI _ _ _ q1 (by rw[List.length_set])];exact h.heap
 by_cases a:x.op=13
 ·rw[Hc _ _ _ _ _ a];split
  ·exact(hc 1).stops (VM 1) _ _
  ·split
   ·exact(hc 1).stops (VM 1) _ _
   ·refine((hc 1).push (VM 1) _).oc ?_;rw[EB,List.length_replicate];omega
 by_cases a:x.op=14
 ·rw[fk _ _ _ _ _ a];split
  ·exact h.stops h1 _ _
  ·have:=h.push h1 (vI (nth inp m.in_.toNat));have h0:=h.np;exact⟨this.deep,this.slots,this.heap,this.outs,by show 0<=m.in_+1;omega,by show m.in_+1<=_;omega⟩
 by_cases a:x.op=15
 ·rw[Hk _ _ _ _ _ a];split
  ·exact h.stops h1 _ _
  ·have:=hc 1;exact⟨this.deep,this.slots,this.heap,by show(m.aZ++[_]).length<=24;rw[List.length_append,List.length_singleton];omega,this.np,this.mY⟩
 by_cases a:x.op=16
 ·rw[SE _ _ _ _ _ a];exact h.aU hk.slots
 by_cases a:x.op=17
 ·rw[Q8 _ _ _ _ _ a];split
  ·exact h.aU hk.slots
  ·exact hc 1
 by_cases a:x.op=18\/x.op=19
 ·rw[M3 _ _ _ _ _ a];split
  ·exact h.aU hk.slots
  ·exact hc 1
 by_cases a:x.op=20
 ·rw[Dh _ _ _ _ _ a];split
  ·exact(hc _).stops (VM _) _ _
  ·rename_i h8;obtain⟨c1,c2,c3⟩:=hk.call a;have c3:=c3 jB;refine(hc _).cR (VM _) ?_ c3.s1 c3.s2;rw[show(m.cut x.b.toNat).ah=m.ah.cut x.b.toNat from MV.bs h1 _];show(m.ah.stack.take _).length<=1000;have:=hk.ah;rw[List.length_take];omega
 by_cases a:x.op=21
 ·rw[Ep _ _ _ _ _ a];exact(hc 1).ends _
 by_cases a:x.op=22
 ·rw[JG _ _ _ _ _ a];exact h.ends _
 by_cases a:x.op=23
 ·rw[Hv _ _ _ _ _ a];exact hc 1
 ·rw[NE _ _ _ _ _ jB];exact h
section
variable {p:ab}{C:aI}{m:MV}{N:NM}{e:UT}(X:UZ)
def TO(hR:bO p C m N e)(inp:UY)(x:az)(hk:qj p C m x)(V9:inp.length<=1000)(hx:x.op=14\/x.op=15):k6 prog 169 [mP N,cP N,.agg (dw x),aM eI 1 inp] e X (.ba []) (To p C (m.ins p C inp x) N):=by
 have h1:=hk.calls;have U9:=hR.ok.low;have hdp:=hk.ah;have np:=hk.np;have mY:=hk.mY;have hou:=hk.outs;by_cases h14:x.op=14
 ·rw[fk _ _ _ _ _ h14];by_cases hw:(inp.length:Int)<=m.in_
  ·rw[if_pos hw];obtain⟨N',l,hT,hU,hp⟩:=xB X hR h1 1 0;refine⟨N',l,hT,hU,⟨?_,hR.ok,hp.e2,hU.aW,iw hR h1 rfl⟩⟩;refine aQ (L:=ids e) func169 ntmps169 ?_ (hL:=rfl);generalize hB:ids e=B;refine fg ?_
   (have W:=jA U9 (hR.root);repeat' (first|refine ar fun K hK=>?_|refine av ?_|(refine hK _ _ ?_;clear hK K)|(refine au ?_ ?_<;>intro hc<;>try exact jz)|refine bv 9 ?_|refine cT hp ?_|refine aq ?_|exact jI|(clear hK K)))
   exact eO hB hR.ok hp.e2 (fun _=>rfl) (dB jC dO) []
  ·rw[if_neg hw];obtain⟨N1,l1,Vg,VB,Wn⟩:=sL X hR h1 (vI (nth inp m.in_.toNat)) hdp;have VZ:=Vg.1.mq (m':={ m.push (vI (nth inp m.in_.toNat))with in_:=m.in_+1 }) rfl rfl rfl;have Vz:=Vg.1.ok.low;have WU:=Vg.1.root;rw[Vg.2.1]at WU;have VO:(m.push (vI (nth inp m.in_.toNat))).in_=m.in_:=rfl;have V':Up X l1 (bp l1 (hn 3 N1.k) (.var 205 (mE p C { m.push (vI (nth inp m.in_.toNat))with in_:=m.in_+1 } N1))):=Up.put _ (.inl (by rw[Vg.2.1,WU];simp));refine⟨N1,_,⟨VZ,Vg.2.1,Vg.2.2⟩,VB.trans V',⟨?_,hR.ok,VZ.ok,(VB.trans V').aW,iw hR h1 rfl⟩⟩;have k2:=VZ.ok;clear VZ VB V';generalize hE:bp l1 (hn 3 N1.k) (.var 205 (mE p C { m.push (vI (nth inp m.in_.toNat))with in_:=m.in_+1 } N1))=E at k2 ⊢;refine aQ (L:=ids e) func169 ntmps169 ?_ (hL:=rfl);generalize hB:ids e=B;refine fg ?_
   (have W:=jA U9 (jA Vz (jA hR.root (jA WU (jA Vg.2.1 (VO)))));repeat' (first|refine ar fun K hK=>?_|refine av ?_|(with_reducible refine gR 4 ?_);refine dE 4 (bf 0 12) mixed ?_|(refine hK _ _ ?_;clear hK K)|(refine au ?_ ?_<;>intro hc<;>try exact jz)|refine bv 9 ?_|refine cp (ud _) ?_|refine cT Wn ?_|refine aq ?_|exact jI|(clear hK K)))
   subst hE;refine eO (tl:=[(9,.var 219 (dw x))]) hB hR.ok k2 (fun i=>?_) (dB jC dO) [];have:=Vg.2.1;unfold mE;rw[this];rfl
 have h15:x.op=15:=jB;rw[Hk _ _ _ _ _ h15];by_cases ho:24<=m.aZ.length
 ·rw[if_pos ho];obtain⟨N',l,hT,hU,hp⟩:=xB X hR h1 3 5;refine⟨N',l,hT,hU,⟨?_,hR.ok,hp.e2,hU.aW,iw hR h1 rfl⟩⟩;refine aQ (L:=ids e) func169 ntmps169 ?_ (hL:=rfl);generalize hB:ids e=B;refine fg ?_
  (have W:=jA U9 (hR.root);repeat' (first|refine ar fun K hK=>?_|refine av ?_|(refine hK _ _ ?_;clear hK K)|(refine au ?_ ?_<;>intro hc<;>try exact jz)|refine bv 9 ?_|refine cT hp ?_|refine aq ?_|exact jI|(clear hK K)))
  exact eO hB hR.ok hp.e2 (fun _=>rfl) (dB jC dO) []
 ·rw[if_neg ho];have WD:=hk.one jB;obtain⟨N1,l1,⟨Vg,Zx⟩,VB,Wn,Xd⟩:=wZ X hR h1 WD;have VZ:=Vg.1.Dd (m':={ m.cut 1 with aZ:=m.aZ++[mA m.ah.last] }) rfl rfl;have Vz:=Vg.1.ok.low;have WU:=Vg.1.root;have Ya:=Vg.1.outs;rw[Vg.2.1]at WU Ya;have V':Up X l1 (bp (bp l1 (hn 8 N1.k) (.aJ 9 1 ((m.aZ++[mA m.ah.last]).map eS))) (hn 3 N1.k) (.var 205 (mE p C { m.cut 1 with aZ:=m.aZ++[mA m.ah.last] } N1))):=by
   refine(Up.put _ (.inl ?_)).trans (Up.put _ (.inl ?_))
   ·rw[Vg.2.1,Ya];simp
   ·rw[bP,if_neg (dt jB jB jB),Vg.2.1,WU];simp
  have hwd:=Kn m.ah.last (hk.word h15);refine⟨N1,_,⟨VZ,Vg.2.1,Vg.2.2⟩,VB.trans V',⟨?_,hR.ok,VZ.ok,(VB.trans V').aW,iw hR h1 rfl⟩⟩;have k2:=VZ.ok;clear VZ VB V';have Ya:aC l1 (hn 8 N.k)=some (.aJ 9 1 (m.aZ.map eS)):=Ya;show af _ _ _ _ fun r l'=>r=_/\l'=bp (bp l1 (hn 8 N1.k) (.aJ 9 1 ((m.aZ++[mA m.ah.last]).map eS))) (hn 3 N1.k) (.var 205 (mE p C { m.cut 1 with aZ:=m.aZ++[mA m.ah.last] } N1))
  have k2:fQ 0 (bp (bp l1 (hn 8 N1.k) (.aJ 9 1 ((m.aZ++[mA m.ah.last]).map eS))) (hn 3 N1.k) (.var 205 (mE p C { m.cut 1 with aZ:=m.aZ++[mA m.ah.last] } N1))):=k2;generalize hE:bp (bp l1 (hn 8 N1.k) (.aJ 9 1 ((m.aZ++[mA m.ah.last]).map eS))) (hn 3 N1.k) (.var 205 (mE p C { m.cut 1 with aZ:=m.aZ++[mA m.ah.last] } N1))=E at k2 ⊢;refine aQ (L:=ids e) func169 ntmps169 ?_ (hL:=rfl);generalize hB:ids e=B;refine fg ?_
  (have W:=jA U9 (jA Vz (jA hR.root (jA WU (jA Ya (Vg.2.1)))));repeat' (first|refine ar fun K hK=>?_|refine av ?_|(with_reducible refine gR 9 ?_);refine qw 9 [hn 2 N.ah.v,hn 16 N.ah.c] [73] [72,1000000] [] (bf 0 15) mixed ?_|(refine hK _ _ ?_;clear hK K)|(refine au ?_ ?_<;>intro hc<;>try exact jz)|refine bv 9 ?_|refine o8 Wn (Xd _ _) ?_|refine cq (hwd) ?_|refine aq ?_|exact jI|(clear hK K)))
  subst hE;refine eO (tl:=[(9,.var 219 (dw x))]) hB hR.ok k2 (fun i=>?_) (dB jC dO) [];have:=Vg.2.1;have e1:(m.aZ++[mA m.ah.last]).length=m.aZ.length+1:=jE;unfold mE;dsimp only;rw[this,List.map_append,e1];rfl
end
section
variable {p:ab}{C:aI}(X:UZ)
inductive tg(inp:List Int)(N:NM)(x:az)(e l:List (Nat×Row)):Prop
 |a (h:de prog 164 [mP N,cP N,.agg (dw x)] e (rB true) l)
 |b (h1:de prog 164 [mP N,cP N,.agg (dw x)] e (rB false) e) (h:de prog 165 [mP N,cP N,.agg (dw x)] e (rB true) l)
 |c (h1:de prog 164 [mP N,cP N,.agg (dw x)] e (rB false) e) (h2:de prog 165 [mP N,cP N,.agg (dw x)] e (rB false) e) (h:de prog 166 [mP N,cP N,.agg (dw x)] e (rB true) l)
 |d (h1:de prog 164 [mP N,cP N,.agg (dw x)] e (rB false) e) (h2:de prog 165 [mP N,cP N,.agg (dw x)] e (rB false) e) (h3:de prog 166 [mP N,cP N,.agg (dw x)] e (rB false) e) (h:de prog 167 [mP N,cP N,.agg (dw x)] e (rB true) l)
 |e (h1:de prog 164 [mP N,cP N,.agg (dw x)] e (rB false) e) (h2:de prog 165 [mP N,cP N,.agg (dw x)] e (rB false) e) (h3:de prog 166 [mP N,cP N,.agg (dw x)] e (rB false) e) (h4:de prog 167 [mP N,cP N,.agg (dw x)] e (rB false) e) (h:de prog 168 [mP N,cP N,.agg (dw x)] e (rB true) l)
 |f (h1:de prog 164 [mP N,cP N,.agg (dw x)] e (rB false) e) (h2:de prog 165 [mP N,cP N,.agg (dw x)] e (rB false) e) (h3:de prog 166 [mP N,cP N,.agg (dw x)] e (rB false) e) (h4:de prog 167 [mP N,cP N,.agg (dw x)] e (rB false) e) (h5:de prog 168 [mP N,cP N,.agg (dw x)] e (rB false) e) (h:de prog 169 [mP N,cP N,.agg (dw x),aM eI 1 inp] e (.ba []) l)
variable{m:MV}
def Mh{N:NM}{e:UT}(hR:bO p C m N e)(inp:UY)(V9:inp.length<=1000)(x:az)(hk:qj p C m x)(hx:2<=x.op/\x.op<=23):∃N' l,(bO p C (m.ins p C inp x) N' l/\N'.k=N.k)/\Up X e l/\tg inp N x e l:=by
 have h1:=hk.calls;by_cases a:x.op=2\/x.op=3\/x.op=4\/x.op=5
 ·obtain⟨N',l,hT,hU,hp⟩:=Me X hR inp x hk a;exact⟨N',l,⟨hT.1,hT.2.1⟩,hU,.a hp⟩
 have n1:=OR hR h1 x a;by_cases b:x.op=7\/x.op=8\/x.op=9\/x.op=10
 ·obtain⟨N',l,hT,hU,hp⟩:=TQ X hR inp x hk b;exact⟨N',l,⟨hT.1,hT.2.1⟩,hU,.b n1 hp⟩
 have n2:=Np hR h1 x b;by_cases c:x.op=6\/x.op=23\/x.op=11\/x.op=12\/x.op=13
 ·obtain⟨N',l,hT,hU,hp⟩:=Ox X hR inp x hk c;exact⟨N',l,⟨hT.1,hT.2.1⟩,hU,.c n1 n2 hp⟩
 have n3:=LP hR h1 x c;by_cases d:x.op=16\/x.op=17\/x.op=18\/x.op=19
 ·obtain⟨N',l,hT,hU,hp⟩:=SM X hR inp x hk d;exact⟨N',l,⟨hT.1,hT.2.1⟩,hU,.d n1 n2 n3 hp⟩
 have n4:=Nq hR h1 x d;by_cases g:x.op=20\/x.op=21\/x.op=22
 ·obtain⟨N',l,hT,hU,hp⟩:=Qx X hR inp x hk g;exact⟨N',l,hT,hU,.e n1 n2 n3 n4 hp⟩
 have n5:=Lp hR h1 x g;obtain⟨N',l,hT,hU,hp⟩:=TO X hR inp x hk V9 jB;exact⟨N',l,⟨hT.1,hT.2.1⟩,hU,.f n1 n2 n3 n4 n5 hp⟩
structure MS where
 m:MV
 N:NM
 e:List (Nat×Row)
structure Round(p:ab)(C:aI)(inp:List Int)(X:List Nat)(a b:MS):Prop where
 rep:bO p C a.m a.N a.e
 st:a.m.status=0
 op:(a.m.bh C).op≠1
 calls:1<=a.m.calls.length
 a0:0<=a.m.ah.at_
 a1:a.m.ah.at_<C.ins.length
 up:Up X a.e b.e
 k:b.N.k=a.N.k
 does:tg inp a.N (a.m.bh C) (bp a.e (hn 0 a.N.ah.c) (.var 217 (MV.cE (a.m.ah.jump (a.m.ah.at_+1)) a.N.ah))) b.e
 ok:fQ 0 b.e
variable{inp:UY}
def OF{N:NM}{e:UT}(hR:bO p C m N e)(hb:Bd inp.length m)(V9:inp.length<=1000)(hC:C.entry.length<=1000)(hP:p.size.length<=1000)(h0:m.status=0)(h1:(m.bh C).op≠1)(hok:m.fP p C):∃N' e',Round p C inp X ⟨m,N,e⟩ ⟨m.one p C inp,N',e'⟩/\bO p C (m.one p C inp) N' e'/\Bd inp.length (m.one p C inp):=by have Vf:=hok.calls;have hx:=Nt hb V9 hok hC hP;have hT:=hR.ah Vf;have Wd:=hR.kg Vf (c':=m.ah.jump (m.ah.at_+1)) rfl rfl;have VB:Up X e (bp e (hn 0 N.ah.c) (.var 217 (MV.cE (m.ah.jump (m.ah.at_+1)) N.ah))):=Up.put _ (.inl (by rw[hT.var];simp));obtain⟨N',l,V0,V',hd⟩:=Mh X Wd inp V9 (m.bh C) hx (by have:=hok.op;omega);have WD:Bd inp.length (m.aU (m.ah.jump (m.ah.at_+1))):=hb.aU (hb.ah Vf);exact⟨N',l,⟨hR,h0,h1,Vf,hok.a0,hok.a1,VB.trans V',V0.2,hd,V0.1.ok⟩,V0.1,Nr WD hx⟩
def SG(V9:inp.length<=1000)(hC:C.entry.length<=1000)(hP:p.size.length<=1000){n:Nat}{m':MV}(hg:eo p C inp n m m'):∀{N:NM} {e:UT},bO p C m N e->Bd inp.length m->∃f:Nat->MS,f 0=⟨m,N,e⟩/\(∀i,i<n->Round p C inp X (f i) (f (i+1)))/\(f n).m=m'/\bO p C m' (f n).N (f n).e/\Bd inp.length m':=by
 induction hg with
 |refl m=>intro N e hR hb;exact⟨fun _=>⟨m,N,e⟩,rfl,fun i hi=>jB,rfl,hR,hb⟩
 |@step n m m' h0 h1 hok _ ih=>
  intro N e hR hb;obtain⟨N1,e1,hr,Wd,WD⟩:=OF X hR hb V9 hC hP h0 h1 hok;obtain⟨f,f0,f1,f2,f3,f4⟩:=ih Wd WD;refine⟨fun i=>match i with|0=>⟨m,N,e⟩|i+1=>f i,rfl,fun i hi=>?_,f2,f3,f4⟩;match i with
  |0=>show Round p C inp X ⟨m,N,e⟩ (f 0);rw[f0];exact hr
  |i+1=>exact f1 i jB
def Eu{m':MV}{N:NM}{e:UT}(hR:bO p C m N e)(hb:Bd inp.length m)(V9:inp.length<=1000)(hC:C.entry.length<=1000)(hP:p.size.length<=1000)(hI:C.ins.length<=1000000)(hg:bg p C inp m m')(P':m'.dG C)(VL:m'.status=0->1<=m'.calls.length/\0<=m'.ah.at_/\m'.ah.at_<C.ins.length) :
  k6 prog 114 [mP N,aM eI 1 inp] e X (.ba []) (fun N' l=>bO p C m' N' l/\N'.k=N.k/\Bd inp.length m'):=by
 obtain⟨n,hg⟩:=hg;obtain⟨f,f0,f1,f2,f3,f4⟩:=SG X V9 hC hP hg hR hb;have hk:∀i,i<=n->(f i).N.k=N.k/\Up X e (f i).e/\fQ 0 (f i).e:=fun i=>by
  induction i with
  |zero=>intro _;rw[f0];exact⟨rfl,Up.refl _ _,hR.ok⟩
  |succ i ih=> intro hi;obtain⟨a,b,c⟩:=ih jB;have:=f1 i jB;exact⟨this.k.trans a,b.trans this.up,this.ok⟩
 obtain⟨k1,k2,k3⟩:=hk n jl;refine⟨(f n).N,(f n).e,⟨f3,k1,f4⟩,k2,⟨?_,hR.ok,k3,k2.aW,qs hR rfl⟩⟩;refine aQ (L:=ids e) func114 ntmps114 ?_ (hL:=rfl);generalize hB:ids e=B;refine fg ?_
 (repeat' (first|(with_reducible refine gR 5 ?_);refine sS [43,50,57,64] ?_|refine ar fun K hK=>?_|refine av ?_|(with_reducible refine gR 2 ?_);refine dE 2 (bf 0 13) mixed ?_|(refine hK _ _ ?_;clear hK K)|(refine au ?_ ?_<;>intro hc<;>try exact jz)|refine aq ?_|exact jI|(clear hK K)))
 refine dJ (S:=Nat) [(4,68)] (fun i=>i<=n) (fun i=>[]) (fun i=>⟨B,tie (f i).e []⟩) (fun i=>n-i) 0 jB (dK (by rw[f0]) bU) ?_;rintro i hi Kr Vb;by_cases D':i<n
 ·have hr:=f1 i D';have YA:=hk i hi;obtain⟨q1,q2,q3⟩:=hk (i+1) D';obtain⟨r1,r2,r3,r4,r5,r6,r7,r8,r9,r10⟩:=hr;generalize VJ:f (i+1)=b at*;generalize f i=a at*;obtain⟨am,aN,ae⟩:=a;obtain⟨bm,bN,be⟩:=b;simp only at*;have eM:mP aN=mP N:=by unfold mP;rw[YA.1]
  have ht:=uC r1 r4;rw[eM]at ht;have hT:=r1.ah r4;have U9:=r1.ok.low;have WT:=r1.root;rw[YA.1]at WT;have hbI:=r10.low;have V6:∀i,i<1000->aC (bp ae (hn 0 aN.ah.c) (.var 217 (MV.cE (am.ah.jump (am.ah.at_+1)) aN.ah))) i=none:=fun i hi=>by rw[bP,if_neg (by have:=iN 0 aN.ah.c;omega)];exact U9 i hi
  have hx:nth C.ins am.ah.at_.toNat=am.bh C:=rfl;have hxo:=r3;generalize am.bh C=x at*
  (refine S ?_;try exact jI)
  rcases r9 with h|⟨h1,h⟩|⟨h1,h2,h⟩|⟨h1,h2,h3,h⟩|⟨h1,h2,h3,h4,h⟩|⟨h1,h2,h3,h4,h5,h⟩
  all_goals
   simp only[eM]at*
   (have W:=jA U9 (jA V6 (jA hbI (jA WT (jA hT.var (jA r2 (hx))))));repeat' (first|(with_reducible refine gR 5 ?_);refine sS [43,50,57,64] ?_|refine ar fun K hK=>?_|refine av ?_|(with_reducible refine gR 2 ?_);refine dE 2 (bf 0 13) mixed ?_|(refine hK _ _ ?_;clear hK K)|(refine au ?_ ?_<;>intro hc<;>try exact jz)|refine cC 9 ?_|refine cT ht ?_|refine cT h ?_|refine cT h1 ?_|refine cT h2 ?_|refine cT h3 ?_|refine cT h4 ?_|refine cT h5 ?_|refine aq ?_|exact jI|(clear hK K)))
  all_goals exact Vb _ _ (Po hB hR.ok r10 (dB jC dO) (i+1) jB (by show n-(i+1)<n-i;omega) (by show _=Hp.mk B (tie (f (i+1)).e []);rw[VJ]) iQ)
 ·have VO:i=n:=jB;subst VO;have ht0:(f i).m=m':=f2;generalize f i=a at*;obtain⟨am,aN,ae⟩:=a;simp only at*;subst ht0;have eM:mP aN=mP N:=by unfold mP;rw[k1]
  have U9:=f3.ok.low;have WT:=f3.root;rw[k1]at WT;by_cases h0:am.status=0
  ·obtain⟨r4,r5,r6⟩:=VL h0;have Xa:(am.bh C).op=1:=by
    rcases P' with h|h
    ·exact(h h0).elim
    ·exact h
   have ht:=uC f3 r4;rw[eM]at ht;have hT:=f3.ah r4;have hx:nth C.ins am.ah.at_.toNat=am.bh C:=rfl;generalize am.bh C=x at*;refine S ?_
   (have W:=jA U9 (jA WT (jA hT.var (jA h0 (hx))));repeat' (first|(with_reducible refine gR 5 ?_);refine sS [43,50,57,64] ?_|refine ar fun K hK=>?_|refine av ?_|(with_reducible refine gR 2 ?_);refine dE 2 (bf 0 13) mixed ?_|(refine hK _ _ ?_;clear hK K)|(refine au ?_ ?_<;>intro hc<;>try exact jz)|refine cC 9 ?_|refine cT ht ?_|refine aq ?_|exact jI|(clear hK K)))
   exact eO hB hR.ok f3.ok (fun _=>rfl) (dB jC dO) []
  ·(refine S ?_;try exact jI)
   (have W:=jA U9 WT;repeat' (first|(with_reducible refine gR 5 ?_);refine sS [43,50,57,64] ?_|refine ar fun K hK=>?_|refine av ?_|(with_reducible refine gR 2 ?_);refine dE 2 (bf 0 13) mixed ?_|(refine hK _ _ ?_;clear hK K)|(refine au ?_ ?_<;>intro hc<;>try exact jz)|refine aq ?_|exact jI|(clear hK K)))
   exact eO hB hR.ok f3.ok (tl:=[]) (fun _=>rfl) dO []
end
attribute [local go_sem] Lk
section
variable {p:ab}{C:aI}(X:UZ)
def OH{m:MV}{N:NM}{e:UT}(hR:bO p C m N e)(inp:UY)(hs:m.status=2\/m.status=3):de prog 117 [mP N,aM eI 1 inp] e (.ba []) e:=by
 have U9:=hR.ok.low;refine⟨?_,hR.ok,hR.ok,fun _ h=>h,qs hR rfl⟩;rcases hs with h|h
 all_goals
  refine aQ (L:=ids e) func117 ntmps117 ?_ (hL:=rfl);generalize hB:ids e=B;refine fg ?_
  (have W:=jA U9 (jA hR.root (h));repeat' (first|refine ar fun K hK=>?_|refine av ?_|(refine hK _ _ ?_;clear hK K)|(refine au ?_ ?_<;>intro hc<;>try exact jz)|refine aq ?_|exact jI|(clear hK K)))
  exact eO hB hR.ok hR.ok (tl:=[]) (fun _=>rfl) dO []
def SJ{inp:UY}{m m1:MV}{N:NM}{e:UT}(hR:bO p C m N e)(h1:1<=m.calls.length)(hb:Bd inp.length m)(V9:inp.length<=1000)(hC:C.entry.length<=1000)(hP:p.size.length<=1000)(hI:C.ins.length<=1000000)(P':¬(m.status=2\/m.status=3))(VL:0<=m.ah.at_/\m.ah.at_<=1000000)(XR:0<=m.time/\m.time<=1000000)
  (hg:bg p C inp m.eu m1) (YU:m1.dG C) (hbJ:m1.status=0->1<=m1.calls.length/\0<=m1.ah.at_/\m1.ah.at_<C.ins.length) (YG:-1<=m1.time/\m1.time<=1000000) :
  k6 prog 117 [mP N,aM eI 1 inp] e X (.ba []) (fun N' l=>bO p C m1.fC N' l/\N'.k=N.k/\Bd inp.length m1.fC):=by
 have U9:=hR.ok.low;have hT:=hR.ah h1;have YT:=hR.mq (m':={ m with status:=0 }) rfl rfl rfl;have ht:=uC YT h1;have Wd:=Qp hR h1;have WD:Bd inp.length m.eu:=(hb.aU (c:={ m.ah with mark:=m.ah.at_,at_:=m.ah.at_+1 }) (hb.ah h1)).status 0 m.cf;have VB:Up X e (bp (bp e (hn 3 N.k) (.var 205 (mE p C { m with status:=0 } N))) (hn 0 N.ah.c) (.var 217 (MV.cE { m.ah with mark:=m.ah.at_,at_:=m.ah.at_+1 } N.ah))):=by
  refine(Up.put _ (.inl ?_)).trans (Up.put _ (.inl ?_))
  ·rw[hR.root];simp
  ·rw[bP,if_neg (dt jB jB jB),hT.var];simp
 obtain⟨N1,l1,⟨VZ,Vk,Xc⟩,V',hp⟩:=Eu X Wd WD V9 hC hP hI hg YU hbJ;have Vz:=VZ.ok.low;have Xu:=VZ.root;rw[Vk]at Xu;by_cases hw:m1.status=1
 ·have et:m1.fC=m1:=by unfold MV.fC;rw[if_pos hw]
  rw[et];refine⟨N1,l1,⟨VZ,Vk,Xc⟩,VB.trans V',⟨?_,hR.ok,VZ.ok,(VB.trans V').aW,qs hR rfl⟩⟩;clear VB V' YT Wd;refine aQ (L:=ids e) func117 ntmps117 ?_ (hL:=rfl);generalize hB:ids e=B;refine fg ?_
  (have W:=jA U9 (jA Vz (jA hR.root (jA hT.var (Xu))));repeat' (first|refine ar fun K hK=>?_|refine av ?_|(refine hK _ _ ?_;clear hK K)|(refine au ?_ ?_<;>intro hc<;>try exact jz)|refine cT ht ?_|refine cT hp ?_|refine aq ?_|exact jI|(clear hK K)))
  exact eO hB hR.ok VZ.ok (tl:=[]) (fun _=>rfl) dO []
 ·have et:m1.fC={ m1 with time:=m1.time+1 }:=by unfold MV.fC;rw[if_neg hw]
  rw[et];have ZO:=VZ.mq (m':={ m1 with time:=m1.time+1 }) rfl rfl rfl;have hU3:Up X l1 (bp l1 (hn 3 N1.k) (.var 205 (mE p C { m1 with time:=m1.time+1 } N1))):=Up.put _ (.inl (by rw[VZ.root];simp));refine⟨N1,_,⟨ZO,Vk,⟨Xc.deep,Xc.slots,Xc.heap,Xc.outs,Xc.np,Xc.mY⟩⟩,VB.trans (V'.trans hU3),⟨?_,hR.ok,ZO.ok,(VB.trans (V'.trans hU3)).aW,qs hR rfl⟩⟩;have k2:=ZO.ok;clear VB V' hU3 YT Wd ZO;generalize hE:bp l1 (hn 3 N1.k) (.var 205 (mE p C { m1 with time:=m1.time+1 } N1))=E at k2 ⊢;refine aQ (L:=ids e) func117 ntmps117 ?_ (hL:=rfl);generalize hB:ids e=B;refine fg ?_
  (have W:=jA U9 (jA Vz (jA hR.root (jA hT.var (Xu))));repeat' (first|refine ar fun K hK=>?_|refine av ?_|(refine hK _ _ ?_;clear hK K)|(refine au ?_ ?_<;>intro hc<;>try exact jz)|refine cT ht ?_|refine cT hp ?_|refine aq ?_|exact jI|(clear hK K)))
  subst hE;refine eO hB hR.ok k2 (tl:=[]) (fun i=>?_) dO [];unfold mE;rw[Vk];rfl
end
end Go.Proofs.YtjpcgmjaipfgdaaGreatDoor
namespace Go.Proofs.YtjpcgmjaipfgdaaGreatDoor
open Go Go.Gd Tryz
def S3(x:Int):lw (eI x)=true:=rfl
def OV(x:U0):lw (eS x)=true:=rfl
def Lt(i:Nat):af prog 111 [] [] (fun r l=>r=.pt i 0 0 0/\l=[(i,.var 269 [.raw (.slice none 0 0),.raw (.slice none 0 0)])]):=by
 refine aQ func111 ntmps111 ?_;refine S ?_
 (repeat' (first|refine ar fun K hK=>?_|refine av ?_|(refine hK _ _ ?_;clear hK K)|(refine au ?_ ?_<;>intro hc<;>try exact jz)|refine bv i ?_|refine aq ?_|exact jI|(clear hK K)))
 (refine cd [.tmp 0] ?_ ?_<;>(try simp only[go_sem]))
def TG(h:UW)(hl:h.length<=1000)(hf:h.flatten.length<=1000):af prog 118 [.pt 2 0 0 0] (gO h) (fun r l=>r=aM py 1 h/\l=gO h):=by
 refine aQ func118 ntmps118 ?_;refine S ?_
 (repeat' (first|refine ar fun K hK=>?_|refine av ?_|(refine hK _ _ ?_;clear hK K)|(refine au ?_ ?_<;>intro hc<;>try exact jz)|refine aq ?_|exact jI|(clear hK K)))
 refine iW (dI.nil 5 3 22 (sz:=1) rfl jC (Or.inl rfl)) ?_
 (refine S ?_;try exact jI)
 have Vc:=hK;clear hK;refine dJ (S:=Nat) [(3,2),(10,12)] (fun k=>k<=h.length) (fun k=>[(3,.rs 5 k 1 k),(10,rI k)])
  (fun k=>⟨[2,3,4],gO h++[(5,.aJ 22 1 ((h.take k).map py))]⟩) (fun k=>h.length-k) 0 jB (dK rfl bU) ?_
 rintro k hk Kr Vb;by_cases D':k<h.length
 ·have VM:=xQ h k ((k:Int)+1) rfl hl hf D';have Vd:=vu h (k+1);have hof:=uG D';have Vf:=yF (nth h k) jB 6;have etk:h.take (k+1)=h.take k++[nth h k]:=by rw[List.take_succ,List.getElem?_eq_getElem D',fA D'];rfl
  refine S ?_
  (repeat' (first|refine ar fun K hK=>?_|refine av ?_|(refine hK _ _ ?_;clear hK K)|(refine au ?_ ?_<;>intro hc<;>try exact jz)|refine cm (VM) ?_|refine AX 6 S3 Vf rfl (fun w vs hw hv=>by have:=OO (enc:=eI) h.flatten rfl rfl jB jC w vs hw hv;rw[Rq D']at this;exact this) ?_|refine aq ?_|exact jI|(clear hK K)))
  refine Vb _ _ (dT (k+1) jB (by show h.length-(k+1)<h.length-k;omega) (by rw[etk,List.map_append];rfl) bU)
 ·have We:k=h.length:=jB;subst We;refine S ?_
  (repeat' (first|refine ar fun K hK=>?_|refine av ?_|(refine hK _ _ ?_;clear hK K)|(refine au ?_ ?_<;>intro hc<;>try exact jz)|refine Vc _ _ ?_|refine aq ?_|exact jI|(clear hK K)))
  refine fy [.tmp 2] ?_;exact db.row (enc:=py) h rfl rfl rfl
end Go.Proofs.YtjpcgmjaipfgdaaGreatDoor
namespace Go.Proofs.YtjpcgmjaipfgdaaGreatDoor
open Go Go.Gd Tryz Go.Gd.MV
section
variable {p:ab}{C:aI}(X:UZ)
def OA{m:MV}{N:NM}{e:UT}(hR:bO p C m N e)(hl:m.heap.length<=1000)(hf:m.heap.flatten.length<=1000):de prog 118 [.pt (hn 5 N.k) 0 0 0] e (aM py 1 m.heap) e:=
 hR.lq rfl rfl (TG m.heap hl hf)
def PV{m:MV}{N:NM}{e:UT}(hR:bO p C m N e){k:Nat}(hk:k<m.calls.length):(List.map (fun j=>[AV.pt (hn 0 j) 0 0 0]) (List.map NC.c N.cs)++List.map (fun j=>[AV.pt (hn 0 j) 0 0 0]) N.cj).getD k []=[.pt (hn 0 (nth N.cs k).c) 0 0 0]:=by have hl:=hR.len;rw[<-List.map_append];rw[List.getD_eq_getElem?_getD,List.getElem?_map,List.getElem?_append_left (by rw[List.length_map];omega),List.getElem?_map,List.getElem?_eq_getElem jB,fA jB];rfl
structure uQ(C:aI)(m:MV):Prop where
 calls:m.calls.length<=8
 sel:∀k,k<m.calls.length->0<=m.fW k/\m.fW k<C.ins.length
 slots:∀k,k<m.calls.length->(nth m.calls k).slots.length<=24
 heap:gq m.heap<=40
 outs:m.aZ.length<=24
 ins:C.ins.length<=1000000
def wO{m:MV}{N:NM}{e:UT}(hR:bO p C m N e)(hk:uQ C m):de prog 63 [mP N] e (.agg (jS (m.da C))) e:=by
 obtain⟨s1,s2,s3,s4,s5,s6⟩:=hk;rw[wu]at s4;have U9:=hR.ok.low;have hl:=hR.len;have qL:=OA hR jB jB;have hco:=LI m.aZ jB 8;refine⟨?_,hR.ok,hR.ok,fun _ h=>h,qs hR rfl⟩;refine aQ (L:=ids e) func63 ntmps63 ?_ (hL:=rfl);generalize hB:ids e=B;refine fg ?_
 (have W:=jA U9 (hR.root);repeat' (first|refine ar fun K hK=>?_|refine av ?_|(with_reducible refine gR 1 ?_);refine dC 1 ([],[],[11,20]) [27] [0,1,2,3,5,6,7,8,9,10,11,12,14,15,16,17,18,19,20,21,22,23,24,25,4,13,26,27,28] mixed ?_|(refine hK _ _ ?_;clear hK K)|(refine au ?_ ?_<;>intro hc<;>try exact jz)|refine cC 9 ?_|refine cC 10 ?_|refine o8 qL (fun _ _ _=>.inl rfl) ?_|refine Qb 8 OV hco (by show aC (tie _ _) _=_;rw[ko,U9 _ jC];rfl) (AZ m.aZ (by show aC (tie _ _) _=_;rw[ko,hR.outs];rfl) rfl) ?_|refine aq ?_|exact jI|(clear hK K)))
 refine iW (dI.fS 11 10 0 137 3 (by show aC (tie _ _) _=_;rw[ko,U9 _ jC];rfl) jC (by show aC (tie _ _) _=_;rw[ko,U9 _ jC];rfl) rfl) ?_
 (have W:=jA U9 U9;refine S ?_;clear W;try exact jI)
 have Vc:=hK;clear hK;refine dJ (S:=Nat) [(4,3),(39,46)] (fun i=>i<=m.calls.length) (fun i=>[(39,rI i)])
  (fun i=>⟨B,tie e [(9,.var 45 [.raw (.slice none 0 0),.raw (.slice none 0 0),.raw (.int .i64 0),.raw (.slice none 0 0),.raw (.int .i64 0),.raw (.int .i64 0),.raw (.int .i64 0)]),
   (10,.var 45 [.rs 11 i 3 i,aM py 1 m.heap,.raw (.int .i64 m.in_),aM eS 1 m.aZ,.raw (.int .i64 m.status),.raw (.int .i64 m.cf),.raw (.int .i64 m.time)]),(11,.aJ 137 3 (((List.range i).map (m.spot C)).map mK))]⟩)
  (fun i=>m.calls.length-i) 0 jB (dK rfl bU) ?_
 rintro i hi Kr Vb;by_cases D':i<m.calls.length
 ·have Wr:=hR.call i D';have W9:=PV hR D';have V5:=s3 i D';obtain⟨a1,a2⟩:=s2 i D';have YK:=Ii (nth m.calls i).slots jB 8;have hrg:List.range (i+1)=List.range i++[i]:=List.range_succ;have hlr:((List.range i).map (m.spot C)).length=i:=jE;have key:∀a:Int,m.fW i=a->nth C.ins a.toNat=nth C.ins (m.fW i).toNat:=fun a ha=>by rw[ha]
  unfold MV.fW at a1 a2;by_cases Xp:(i:Int)=(m.calls.length:Int)-1
  ·have WH:m.fW i=(nth m.calls i).at_:=by unfold MV.fW;rw[if_pos Xp]
   rw[if_pos Xp]at a1 a2;refine S ?_
   (have W:=jA U9 (jA hR.root (jA hR.row (jA W9 (jA Wr.var (hl)))));repeat' (first|refine ar fun K hK=>?_|refine av ?_|(with_reducible refine gR 8 ?_);refine dC 8 ([],[79],[]) [] (bf 0 25) mixed ?_|(refine hK _ _ ?_;clear hK K)|(refine au ?_ ?_<;>intro hc<;>try exact jz)|refine FZ 8 zS YK (by show aC (tie _ _) _=_;rw[ko,U9 _ jC];rfl) (AZ (nth m.calls i).slots (by show aC (tie _ _) _=_;rw[ko,Wr.ff];rfl) rfl) ?_|refine aq ?_|exact jI|(clear hK K)))
   refine Vb _ _ (dT (i+1) jB (by show m.calls.length-(i+1)<m.calls.length-i;omega) ?_ bU);rw[hrg,List.map_append,List.map_append,List.map_singleton,List.map_singleton];unfold MV.spot;rw[WH];rfl
  ·have WH:m.fW i=(nth m.calls i).mark:=by unfold MV.fW;rw[if_neg Xp]
   rw[if_neg Xp]at a1 a2;refine S ?_
   (have W:=jA U9 (jA hR.root (jA hR.row (jA W9 (jA Wr.var (hl)))));repeat' (first|refine ar fun K hK=>?_|refine av ?_|(with_reducible refine gR 8 ?_);refine dC 8 ([],[79],[]) [] (bf 0 25) mixed ?_|(refine hK _ _ ?_;clear hK K)|(refine au ?_ ?_<;>intro hc<;>try exact jz)|refine FZ 8 zS YK (by show aC (tie _ _) _=_;rw[ko,U9 _ jC];rfl) (AZ (nth m.calls i).slots (by show aC (tie _ _) _=_;rw[ko,Wr.ff];rfl) rfl) ?_|refine aq ?_|exact jI|(clear hK K)))
   refine Vb _ _ (dT (i+1) jB (by show m.calls.length-(i+1)<m.calls.length-i;omega) ?_ bU);rw[hrg,List.map_append,List.map_append,List.map_singleton,List.map_singleton];unfold MV.spot;rw[WH];rfl
 ·have VO:i=m.calls.length:=jB;subst VO;refine S ?_
  (have W:=jA U9 hl;repeat' (first|refine ar fun K hK=>?_|refine av ?_|(refine hK _ _ ?_;clear hK K)|(refine au ?_ ?_<;>intro hc<;>try exact jz)|refine Vc _ _ ?_|refine aq ?_|exact jI|(clear hK K)))
  have h9:=U9 9 jC;have Z8:=U9 11 jC;refine Ou hB hR.ok hR.ok rfl (dB jC (dB jC (dB jC dO))) [.cell 2 45] ?_ (ho:=by simp(disch:=first|omega|assumption|fail) only[go_sem,↓reduceIte,h9];rfl) (hok:=by simp(disch:=first|omega|assumption|fail) only[go_sem,↓reduceIte,h9];first|done|decide|(repeat' (first|exact trivial|decide|(simp;done)|refine jA ?_ ?_)));have hlr:((List.range m.calls.length).map (m.spot C)).length=m.calls.length:=jE;exact bD.agg (ds:=jS (m.da C)) (jA (db.row (enc:=mK) ((List.range m.calls.length).map (m.spot C)) rfl (by show aC (tie _ _) _=_;rw[ko,Z8];rfl) hlr.symm) (jA (.same _ rfl) (jA (.same _ rfl) (jA (.same _ rfl) (jA (.same _ rfl) (jA (.same _ rfl) (jA (.same _ rfl) trivial)))))))
end
def QX{p:ab}(h:fO p):aD prog 113 [.agg (cY p)] (rI (iu p))/\pY p (bQ p) MV.mn (iu p) []:=by obtain⟨j,hj,Xk,Vm,ha4⟩:=BW h;have hfs:=h.ok.aa.ao;have hC:=rq h;have Vi:=h.ok.size;have Vf:=hC.len;rw[Xk];refine⟨Rk j jB hj Vm fun i hi e=>(h.names.one i j hi hj (by rw[e,Vm])).elim,?_⟩;have hfj:=h.ao j hj;have hp:=hfj.vy;have hh:=hfj.hi;have ej:((j:Int)).toNat=j:=Int.toNat_natCast j;have h0:iu p=(j:Int):=Xk;exact⟨jB,jB,jB,by rw[ej];omega,by rw[ej];omega,by rw[ej];show(0:Int)<=_;omega,⟨jB,jB⟩,jC⟩
def Sw{p:ab}(hp:gG p)(X:UZ){m1:MV}(hg:bg p (bQ p) [] (mh p (bQ p)) m1)(P':m1.dG (bQ p))(VL:m1.status=0->1<=m1.calls.length/\0<=m1.ah.at_/\m1.ah.at_<(bQ p).ins.length) :
  ∃N l,bO p (bQ p) m1 N l/\(∀i,aC l i≠none->i ∉ X)/\Bd 0 m1/\af prog 58 [.agg (cY p)] [] (fun r l'=>r=mP N/\l'=l):=by
 obtain⟨hmn,hbo⟩:=QX hp.ok;have Yr:=K0 hp;have hC:=rq hp.ok;have hfs:=hp.ok.ok.aa.ao;have Vf:=hC.len;have Vi:=hp.ok.ok.size;have WN:=hC.pK;generalize bQ p=C at*;have hk:=fun a=>C4 X a 0
 generalize rA X+0=k at hk;have YT:=Ly p C k;obtain⟨N1,l1,⟨Wd,VA⟩,VB,Wn⟩:=FY X YT (iu p) [] hbo;have e1:MV.mn.cR p C (iu p) []=mh p C:=rfl;rw[e1]at Wd;have WD:Bd 0 (mh p C):=by
  refine⟨fun k hk=>?_,fun k hk=>?_,(by show gq []<=40;decide),(by show 0<=24;omega),(by show(0:Int)<=0;omega),(by show(0:Int)<=0;omega)⟩
  ·have:k+1<1:=hk;omega
  ·have:k<1:=hk;have:k=0:=jB;subst this;show(([]:List aj)++List.replicate _ v0).length<=24;have h1:=hbo.s1;simp only[List.nil_append,List.length_replicate,List.length_nil];omega
 obtain⟨N2,l2,⟨VZ,Vk,Xc⟩,V',YE⟩:=Eu (inp:=[]) X Wd WD jC jB jB WN hg P' VL;have eM:mP N1=mP ⟨k,[],[]⟩:=by unfold mP;rw[VA]
 have eM2:mP N2=mP ⟨k,[],[]⟩:=by unfold mP;rw[Vk,VA]
 rw[eM]at YE;rw[show aM bY 3 []=(.sl false 3 [] (bY default):AV) from rfl]at Wn;have Wn:=Wn.args (args:=[mP ⟨k,[],[]⟩,rI (iu p),.raw (.slice none 0 0)]) (fun w vs hw hv=>xz hv (fun _ h=>h) fun us hu=>xz hu (fun _ h=>h) fun us hu=>xz hu (Ir 3 _) (fun _ h=>h)) (qs YT rfl);have YE:=YE.args (args:=[mP ⟨k,[],[]⟩,.raw (.slice none 0 0)]) (fun w vs hw hv=>xz hv (fun _ h=>h) fun us hu=>xz hu (Ir 1 _) (fun _ h=>h)) (by have:=qs (N:=N1) Wd (l:=[.raw (.slice none 0 0)]) rfl;rw[eM]at this;exact this);refine⟨N2,l2,VZ,fun i hi=>?_,Xc,?_⟩
 ·rcases(VB.trans V').new i hi with h|h
  ·have hm:=(lT _ _).2 h;rw[Ds]at hm;simp only[List.mem_cons,List.not_mem_nil,or_false]at hm;rcases hm with rfl|rfl|rfl|rfl|rfl|rfl<;>exact hk _
  ·exact h
 ·rw[eM2];have hhn:=Lt (hn 5 k);have eC:xP C=[aM dw 4 C.ins,aM eI 1 C.entry]:=rfl;rw[eC]at Yr;rw[BY]at Yr hmn ⊢;refine aQ func58 ntmps58 ?_;have ha5:=YT.ok.low;have Vz:=Wd.ok.low;have V6:=VZ.ok.low
  (have W:=jA ha5 (jA Vz (V6));repeat' (first|(with_reducible refine gR 2 ?_);refine iW (Sy p C k _) ?_|refine ar fun K hK=>?_|refine av ?_|(with_reducible refine gR 1 ?_);refine dC 1 ([],[6],[7]) [] (bf 0 7) mixed ?_|(refine hK _ _ ?_;clear hK K)|(refine au ?_ ?_<;>intro hc<;>try exact jz)|refine bv 9 ?_|refine bv (hn 3 k) ?_|refine cq (Yr) ?_|refine cN hhn ?_|refine cp (hmn) ?_|refine cT Wn ?_|refine cT YE ?_|refine aq ?_|exact jI|(clear hK K)))
  exact eO (e:=[]) rfl ⟨fun _ _ _=>rfl,List.nodup_nil,fun i r h=>by cases h⟩ VZ.ok (fun _=>rfl) (dB jC dO) [.tmp 2]
end Go.Proofs.YtjpcgmjaipfgdaaGreatDoor
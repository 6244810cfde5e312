/- Lemmas. No conditions. -/
import Derived.Test.YtjpcgmjaipfgdaaGreatDoorRpA
import Derived.Test.YtjpcgmjaipfgdaaGreatDoorCmG
set_option linter.all false
set_option maxHeartbeats 4000000
set_option maxRecDepth 10000
namespace Go.Gd
open Go
structure NC where
 c:Nat
 v:Nat
 jk:List aj
 deriving Inhabited
structure NM where
 k:Nat
 cs:List NC
 cj:List Nat
namespace MV
def cE(c:MC)(n:NC):TE:=[.rs (hn 2 n.v) (c.stack.length+n.jk.length) 3 c.stack.length,.raw (.int .i64 c.fn),.raw (.int .i64 c.at_),.raw (.int .i64 c.mark),.rs (hn 1 n.c) c.slots.length 3 c.slots.length]
def mE(p:af)(C:aI)(m:MV)(N:NM):TE:=kf p++[aO dn 4 C.ins,aO eI 1 C.entry,.rs (hn 4 N.k) (N.cs.length+N.cj.length) 1 N.cs.length,.pt (hn 5 N.k) 0 0 0,.rs (hn 8 N.k) m.bA.length 1 m.bA.length,.raw (.int .i64 m.in_),.raw (.int .i64 m.status),.raw (.int .i64 m.cX),.raw (.int .i64 m.time)]
structure iM(c:MC)(n:NC)(e:List (Nat×Row)):Prop where
 var:aA e (hn 0 n.c)=some (.var 217 (cE c n))
 cC:aA e (hn 2 n.v)=some (.aG 54 3 ((c.stack++n.jk).map bS))
 eQ:aA e (hn 1 n.c)=some (.aG 54 3 (c.slots.map bS))
 bd:c.stack.length+n.jk.length<=2000
structure bJ(p:af)(C:aI)(m:MV)(N:NM)(e:List (Nat×Row)):Prop where
 ok:fI 0 e
 root:aA e (hn 3 N.k)=some (.var 205 (mE p C m N))
 row:aA e (hn 4 N.k)=some (.aG 213 1 ((N.cs.map NC.c++N.cj).map fun j=>[.pt (hn 0 j) 0 0 0]))
 hp:aA e (hn 5 N.k)=some (.var 269 [.rs (hn 6 N.k) m.heap.flatten.length 1 m.heap.flatten.length,.rs (hn 7 N.k) m.heap.length 1 m.heap.length])
 cells:aA e (hn 6 N.k)=some (.aG 3 1 (m.heap.flatten.map eI))
 ends:aA e (hn 7 N.k)=some (.aG 3 1 ((lD m.heap).map eI))
 outs:aA e (hn 8 N.k)=some (.aG 9 1 (m.bA.map eS))
 len:N.cs.length=m.calls.length
 call:∀k,k<m.calls.length->iM (nth m.calls k) (nth N.cs k) e
 nc:(N.cs.map NC.c).Nodup
 nv:(N.cs.map NC.v).Nodup
 bd:N.cs.length+N.cj.length<=1000
end MV
def NM.ah(N:NM):NC:=nth N.cs (N.cs.length-1)
def NM.bc(N:NM)(n:NC):NM:={ N with cs:=N.cs.set (N.cs.length-1) n }
attribute [go_sem] MV.cE MV.mE
variable{α:Type}
def uO{β:Type}[Inhabited α][Inhabited β](f:α->β)(l:List α)(k:Nat)(h:k<l.length):nth (l.map f) k=f (nth l k):=by rw[fP (by simpa using h),fP h];simp
def I5[Inhabited α]{l:List α}(h:l.Nodup){i j:Nat}(hi:i<l.length)(hj:j<l.length)(e:nth l i=nth l j):i=j:=by rw[fP hi,fP hj]at e;exact(List.getElem_inj h).1 e
def Ls[Inhabited α]{l:List α}(h:l.Nodup){i:Nat}(hi:i<l.length){v:α}(hv:∀j,j<l.length->j≠i->nth l j≠v):(l.set i v).Nodup:=by
 unfold List.Nodup;rw[List.pairwise_iff_getElem];intro a b ha hb Z5 e;rw[List.length_set]at ha hb;rw[List.getElem_set,List.getElem_set]at e;split at e<;>split at e
 ·omega
 ·rename_i h1 h2;exact hv b hb jB (by rw[fP hb];exact e.symm)
 ·rename_i h1 h2;exact hv a jB jB (by rw[fP jB];exact e)
 ·have:=(List.getElem_inj h).1 e;omega
namespace MV
variable {p:af}{C:aI}{m:MV}{N:NM}{e:TD}
theorem bJ.ah(h:bJ p C m N e)(h1:1<=m.calls.length):iM m.ah N.ah e:=by have:=h.call (m.calls.length-1) jB;unfold NM.ah MV.ah;rw[h.len];exact this
def bJ.ne{k j:Nat}(h:bJ p C m N e)(hk:k<N.cs.length)(hj:j<N.cs.length)(hkj:k≠j):(nth N.cs k).c≠(nth N.cs j).c/\(nth N.cs k).v≠(nth N.cs j).v:=by
 constructor
 ·intro e';exact hkj (I5 h.nc (by simpa using hk) (by simpa using hj) (by rw[uO _ _ _ hk,uO _ _ _ hj];exact e'))
 ·intro e';exact hkj (I5 h.nv (by simpa using hk) (by simpa using hj) (by rw[uO _ _ _ hk,uO _ _ _ hj];exact e'))
theorem bJ.bc(hR:bJ p C m N e)(h1:1<=m.calls.length){c':MC}{n':NC}{e':TD}(hnc:n'.c=N.ah.c)(ok:fI 0 e')(hc:iM c' n' e')(hv:n'.v=N.ah.v\/aA e (hn 2 n'.v)=none)
  (hs:∀j,aA e j≠none->j≠hn 0 N.ah.c->j≠hn 1 N.ah.c->j≠hn 2 N.ah.v->aA e' j=aA e j):bJ p C (m.bc c') (N.bc n') e':=by
 have hl:=hR.len;have kind:∀(a k:Nat) (r:Row),2<a->a<32->aA e (hn a k)=some r->aA e' (hn a k)=some r:=fun a k r h2 VB h=>by rw[hs _ (by rw[h];simp) (dh VB jB jB) (dh VB jB jB) (dh VB jB jB)];exact h
 have cs:(N.bc n').cs.map NC.c=N.cs.map NC.c:=by show(N.cs.set _ n').map NC.c=_;rw[List.map_set,hnc];unfold NM.ah;rw[<-uO NC.c N.cs _ jB,fP (by rw[List.length_map];omega),List.set_getElem_self]
 have ln:(N.bc n').cs.length=N.cs.length:=by show(N.cs.set _ n').length=_;simp
 have nu:∀k,nth (N.bc n').cs k=if k=N.cs.length-1 then n' else nth N.cs k:=fun k=>Go.Gd.dx _ _ _ _ jB
 have mu:∀k,nth (m.bc c').calls k=if k=m.calls.length-1 then c' else nth m.calls k:=fun k=>Go.Gd.dx _ _ _ _ jB
 have ml:(m.bc c').calls.length=m.calls.length:=by show(m.calls.set _ c').length=_;simp
 refine⟨ok,?_,?_,kind 5 _ _ jB jB hR.hp,kind 6 _ _ jB jB hR.cells,kind 7 _ _ jB jB hR.ends,kind 8 _ _ jB jB hR.outs,by rw[ln,ml];exact hl,fun k hk=>?_,by rw[cs];exact hR.nc,?_,by rw[ln];exact hR.bd⟩
 ·rw[show mE p C (m.bc c') (N.bc n')=mE p C m N by unfold mE;rw[ln];rfl];exact kind 3 _ _ jB jB hR.root
 ·rw[cs];exact kind 4 _ _ jB jB hR.row
 ·rw[ml]at hk;rw[nu,mu,hl];by_cases ek:k=m.calls.length-1
  ·rw[if_pos ek,if_pos ek];exact hc
  ·rw[if_neg ek,if_neg ek];have U5:=hR.call k hk;obtain⟨n1,n2⟩:=hR.ne (k:=k) (j:=N.cs.length-1) jB jB jB;have n1:(nth N.cs k).c≠N.ah.c:=n1;have n2:(nth N.cs k).v≠N.ah.v:=n2;exact⟨by rw[hs _ (by rw[U5.var];simp) (fun e=>n1 (wv jB jB e).2) (dh jB jB jB) (dh jB jB jB)];exact U5.var,
    by rw[hs _ (by rw[U5.cC];simp) (dh jB jB jB) (dh jB jB jB) (fun e=>n2 (wv jB jB e).2)];exact U5.cC,
    by rw[hs _ (by rw[U5.eQ];simp) (dh jB jB jB) (fun e=>n1 (wv jB jB e).2) (dh jB jB jB)];exact U5.eQ,U5.bd⟩
 ·show((N.cs.set _ n').map NC.v).Nodup;rw[List.map_set];refine Ls hR.nv (by rw[List.length_map];omega) fun j hj Wf e'=>?_
  rw[List.length_map]at hj;rw[uO _ _ _ hj]at e';rcases hv with hv|hv
  ·rw[hv]at e';exact(hR.ne hj jB Wf).2 e'
  ·have U5:=(hR.call j jB).cC;rw[e',hv]at U5;cases U5
def bJ.l7(hR:bJ p C m N e){m':MV}(h1:m'.calls=m.calls)(h2:m'.heap=m.heap)(h3:m'.bA=m.bA):bJ p C m' N (bh e (hn 3 N.k) (.var 205 (mE p C m' N))):=by
 have kind:∀(a k:Nat) (r:Row),a≠3->a<32->aA e (hn a k)=some r->aA (bh e (hn 3 N.k) (.var 205 (mE p C m' N))) (hn a k)=some r:=fun a k r h3 VB h=>by rw[bO,if_neg (dh VB jB h3)];exact h
 refine⟨hR.ok.put (.inr (ix _ _)) ?_,by rw[bO,if_pos rfl],kind _ _ _ jB jB hR.row,?_,?_,?_,?_,by rw[h1];exact hR.len,fun k hk=>?_,hR.nc,hR.nv,hR.bd⟩
 ·have c4:=fW hR.row;have c5:=fW hR.hp;have c8:=fW hR.outs;have up:aX (fun j=>decide (j=hn 3 N.k) || (ids e).contains j) (kf p)=true:=fS (q:=eo) (fun _ h=>by cases h) _ rfl;unfold mE;simp only[Row.cells];rw[sx,up];simp only[aX,AV.all,c4,c5,c8,Bool.or_true,Bool.and_self,aO]
 ·rw[h2];exact kind _ _ _ jB jB hR.hp
 ·rw[h2];exact kind _ _ _ jB jB hR.cells
 ·rw[h2];exact kind _ _ _ jB jB hR.ends
 ·rw[h3];exact kind _ _ _ jB jB hR.outs
 ·rw[h1]at hk ⊢;have hc:=hR.call k hk;exact⟨kind _ _ _ jB jB hc.var,kind _ _ _ jB jB hc.cC,kind _ _ _ jB jB hc.eQ,hc.bd⟩
end MV
def kE(fn at_ mark:Int)(vs jk slots:List aj):TD:=[(6,.var 217 [.rs 7 (vs.length+jk.length) 3 vs.length,.raw (.int .i64 fn),.raw (.int .i64 at_),.raw (.int .i64 mark),.rs 8 slots.length 3 slots.length]),(7,.aG 54 3 ((vs++jk).map bS)),(8,.aG 54 3 (slots.map bS))]
attribute [go_sem] kE
mutual
theorem uD{f:Nat->Nat}:∀a:AV,a.all eo=true->a.bT f=a
 |.raw _,_=>by simp only[AV.bT]
 |.any,_=>by simp only[AV.bT]
 |.agg cs,h=>by simp only[AV.all]at h;simp only[AV.bT,tn cs h]
 |.aQ cs,h=>by simp only[AV.all]at h;simp only[AV.bT,tn cs h]
 |.sl _ _ _ _,_=>by simp only[AV.bT]
 |.ip _,_=>by simp only[AV.bT]
 |.gd _ v,h=>by simp only[AV.all]at h;simp only[AV.bT,uD v h]
 |.dP _ cs,h=>by simp only[AV.all]at h;simp only[AV.bT,tn cs h]
 |.pt _ _ _ _,h=>by simp only[AV.all]at h;cases h
 |.rs _ _ _ _,h=>by simp only[AV.all]at h;cases h
 |.rc _ _ _ _,h=>by simp only[AV.all]at h;cases h
 |.rv _ _ _ _ _,h=>by simp only[AV.all]at h;cases h
 |.mr _,h=>by simp only[AV.all]at h;cases h
 |.bd _ fs,h=>by simp only[AV.all]at h;simp only[AV.bT,tn fs h]
 |.iG _ v,h=>by simp only[AV.all]at h;simp only[AV.bT,uD v h]
 |.mv _ v,h=>by simp only[AV.all]at h;simp only[AV.bT,uD v h]
theorem tn{f:Nat->Nat}:∀l:TE,aX eo l=true->ff f l=l
 |[],_=>rfl
 |a::l,h=>by simp only[aX,Bool.and_eq_true]at h;simp only[ff,uD a h.1,tn l h.2]
end
variable{α:Type}{sz:Nat}
def vG{f:Nat->Nat}{enc:α->TE}[he:bC enc sz](l:List α):(l.map enc).map (ff f)=l.map enc:=by rw[List.map_map];exact List.map_congr_left fun x _=>tn _ (he.free x)
def pk(x y z a b c:Nat)(i:Nat):Nat:=if i=x then a else if i=y then b else if i=z then c else i+(a+b+c+1)
def xJ(x y z a b c:Nat)(j:Nat):Nat:=if j=a then x else if j=b then y else if j=c then z else j-(a+b+c+1)
def Jk{x y z a b c:Nat}(h1:a≠b)(h2:a≠c)(h3:b≠c)(i:Nat):xJ x y z a b c (pk x y z a b c i)=i:=by
 unfold pk;split
 ·rename_i e;unfold xJ;rw[if_pos rfl];exact e.symm
 ·split
  ·rename_i e;unfold xJ;rw[if_neg (fun e=>h1 e.symm),if_pos rfl];exact e.symm
  ·split
   ·rename_i e;unfold xJ;rw[if_neg (fun e=>h2 e.symm),if_neg (fun e=>h3 e.symm),if_pos rfl];exact e.symm
   ·unfold xJ;rw[jN,jN,jN];omega
mutual
theorem xY{f:Nat->Nat}{q q':TN}(h:∀i,q i=true->q' (f i)=true):∀a:AV,a.all q=true->(a.bT f).all q'=true
 |.raw _,_=>by simp only[AV.bT,AV.all]
 |.any,_=>by simp only[AV.bT,AV.all]
 |.agg cs,k=>by simp only[AV.all]at k;simp only[AV.bT,AV.all];exact vF h cs k
 |.aQ cs,k=>by simp only[AV.all]at k;simp only[AV.bT,AV.all];exact vF h cs k
 |.sl _ _ _ _,_=>by simp only[AV.bT,AV.all]
 |.ip _,_=>by simp only[AV.bT,AV.all]
 |.gd _ v,k=>by simp only[AV.all]at k;simp only[AV.bT,AV.all];exact xY h v k
 |.dP _ cs,k=>by simp only[AV.all]at k;simp only[AV.bT,AV.all];exact vF h cs k
 |.pt i _ _ _,k=>by simp only[AV.all]at k;simp only[AV.bT,AV.all];exact h i k
 |.rs i _ _ _,k=>by simp only[AV.all]at k;simp only[AV.bT,AV.all];exact h i k
 |.rc i _ _ _,k=>by simp only[AV.all]at k;simp only[AV.bT,AV.all];exact h i k
 |.rv i _ _ _ _,k=>by simp only[AV.all]at k;simp only[AV.bT,AV.all];exact h i k
 |.mr i,k=>by simp only[AV.all]at k;simp only[AV.bT,AV.all];exact h i k
 |.bd _ fs,k=>by simp only[AV.all]at k;simp only[AV.bT,AV.all];exact vF h fs k
 |.iG _ v,k=>by simp only[AV.all]at k;simp only[AV.bT,AV.all];exact xY h v k
 |.mv _ v,k=>by simp only[AV.all]at k;simp only[AV.bT,AV.all];exact xY h v k
theorem vF{f:Nat->Nat}{q q':TN}(h:∀i,q i=true->q' (f i)=true):∀l:TE,aX q l=true->aX q' (ff f l)=true
 |[],_=>rfl
 |a::l,k=>by simp only[aX,Bool.and_eq_true]at k;simp only[ff,aX,Bool.and_eq_true];exact⟨xY h a k.1,vF h l k.2⟩
end
variable{P:TO}{f:FuncId}
def ab.at{args:TE}{s s' e:TD}{r0:AV}{ρ g:Nat->Nat}(hg:∀i,g (ρ i)=i)(hc:ab P f args s fun r l=>r=r0/\l=s')(hs:∀i r,aA s i=some r->aA e (ρ i)=some (r.bT ρ))(ha:aX (fun i=>(ids s).contains i) args=true)
  (Tx:∀i r,aA s i=some r->aX (fun i=>(ids s).contains i) r.cells=true) (hn:(ids s').Nodup) (W0:∀i∈ids s',i∈ids s):ab P f (ff ρ args) e fun r l=>r=r0.bT ρ/\l=gx e (lf ρ s'):=by
 have mem:∀i,(ids s).contains i=true->(ids (lf ρ s)).contains (ρ i)=true:=fun i hi=>by rw[zK,List.contains_iff_mem];exact List.mem_map_of_mem (List.contains_iff_mem.1 hi)
 have up:∀l:TE,aX (fun i=>(ids s).contains i) l=true->aX (fun i=>(ids (lf ρ s)).contains i) (ff ρ l)=true:=fun l h=>vF mem l h
 have:=ab.more (e:=e) (ab.bT hg hc) (fun i r hi=>?_) (up _ ha) (fun i r hi=>?_) (fun r l hR=>?_)
 ·refine this.mono fun r l ⟨l0,⟨r1,l1,e1,e2,e3,e4⟩,e5⟩=>?_
  rw[e1,e3,e5,e2,e4];exact⟨rfl,rfl⟩
 ·obtain⟨j,r0,rfl,rfl,h3⟩:=xg hg hi;exact hs j r0 h3
 ·obtain⟨j,r0,rfl,rfl,h3⟩:=xg hg hi;rw[Row.gH];exact up _ (Tx j r0 h3)
 ·obtain⟨r1,l1,e1,e2,e3,e4⟩:=hR;subst e2 e4;refine⟨?_,fun i hi=>.inl ?_⟩
  ·rw[zK];exact hn.map _ (fun a b h1 h2=>h1 (by rw[<-hg a,<-hg b,h2]))
  ·obtain⟨r,hr⟩:=Option.ne_none_iff_exists'.1 hi;obtain⟨j,r0,rfl,rfl,h3⟩:=xg hg hr;obtain⟨x,hx⟩:=Option.ne_none_iff_exists'.1 ((lr _ _).1 (W0 j ((lr _ _).2 (by rw[h3];simp))));rw[yI hg,hx];simp
def kK(P:TO)(f:FuncId)(args:TE)(e:TD)(X:TH)(r0:AV)(Q:NM->List TQ->Prop):Prop:=∃N' l,Q N' l/\Up X e l/\cU P f args e r0 l
namespace MV
variable {p:af}{C:aI}{m:MV}{N:NM}{e:TD}{P:TO}{f:FuncId}{rest:TE}{r0:AV}{X:TH}
def kL(N:NM)(c':MC)(jk':List aj)(e:TD):TD:=bh (bh (bh e (hn 0 N.ah.c) (.var 217 (cE c' ⟨N.ah.c,N.ah.v,jk'⟩))) (hn 2 N.ah.v) (.aG 54 3 ((c'.stack++jk').map bS))) (hn 1 N.ah.c) (.aG 54 3 (c'.slots.map bS))
def bJ.nn(hR:bJ p C m N e)(h1:1<=m.calls.length){c':MC}{jk':List aj}(hb:c'.stack.length+jk'.length<=2000)(T5:aX eo rest=true)(hr:r0.all eo=true)
  (hc:ab P f (.pt 6 0 0 0::rest) (kE m.ah.fn m.ah.at_ m.ah.mark m.ah.stack N.ah.jk m.ah.slots) fun r l=>r=r0/\l=kE c'.fn c'.at_ c'.mark c'.stack jk' c'.slots) :
  (bJ p C (m.bc c') (N.bc ⟨N.ah.c,N.ah.v,jk'⟩) (kL N c' jk' e)/\(N.bc ⟨N.ah.c,N.ah.v,jk'⟩).ah.c=N.ah.c)/\Up X e (kL N c' jk' e)/\cU P f (.pt (hn 0 N.ah.c) 0 0 0::rest) e r0 (kL N c' jk' e):=by
 have ht:=hR.ah h1;unfold kL;have a1:hn 0 N.ah.c≠hn 2 N.ah.v:=dh jB jB jB;have a2:hn 0 N.ah.c≠hn 1 N.ah.c:=dh jB jB jB;have a3:hn 2 N.ah.v≠hn 1 N.ah.c:=dh jB jB jB;have q6:pk 6 7 8 (hn 0 N.ah.c) (hn 2 N.ah.v) (hn 1 N.ah.c) 6=hn 0 N.ah.c:=rfl;have q7:pk 6 7 8 (hn 0 N.ah.c) (hn 2 N.ah.v) (hn 1 N.ah.c) 7=hn 2 N.ah.v:=rfl;have q8:pk 6 7 8 (hn 0 N.ah.c) (hn 2 N.ah.v) (hn 1 N.ah.c) 8=hn 1 N.ah.c:=rfl;have ea:ff (pk 6 7 8 (hn 0 N.ah.c) (hn 2 N.ah.v) (hn 1 N.ah.c)) (.pt 6 0 0 0::rest)=.pt (hn 0 N.ah.c) 0 0 0::rest:=by simp only[ff,AV.bT,q6,tn _ T5]
 have el:gx e (lf (pk 6 7 8 (hn 0 N.ah.c) (hn 2 N.ah.v) (hn 1 N.ah.c)) (kE c'.fn c'.at_ c'.mark c'.stack jk' c'.slots))=bh (bh (bh e (hn 0 N.ah.c) (.var 217 (cE c' ⟨N.ah.c,N.ah.v,jk'⟩))) (hn 2 N.ah.v) (.aG 54 3 ((c'.stack++jk').map bS))) (hn 1 N.ah.c) (.aG 54 3 (c'.slots.map bS)):=by simp only[kE,lf,List.map_cons,List.map_nil,gx,q6,q7,q8,Row.bT,ff,AV.bT,vG (enc:=bS) (sz:=3),cE]
 have i0:=fW ht.var;have i1:=fW ht.eQ;have i2:=fW ht.cC;have no:∀l:List aj,aX eo ((l.map bS).flatten)=true:=fun l=>ph (mY (enc:=bS) (sz:=3) _)
 have hl:=hR.len;have XQ:bJ p C (m.bc c') (N.bc ⟨N.ah.c,N.ah.v,jk'⟩) (bh (bh (bh e (hn 0 N.ah.c) (.var 217 (cE c' ⟨N.ah.c,N.ah.v,jk'⟩))) (hn 2 N.ah.v) (.aG 54 3 ((c'.stack++jk').map bS))) (hn 1 N.ah.c) (.aG 54 3 (c'.slots.map bS))):=by
  refine hR.bc h1 rfl ?_ ⟨?_,?_,?_,hb⟩ (.inl rfl) fun j hj n0 n1 n2=>?_
  ·refine((hR.ok.put (.inr (ix _ _)) ?_).put (.inr (ix _ _)) ?_).put (.inr (ix _ _)) ?_
   ·simp only[Row.cells,cE,aX,AV.all,i1,i2,Bool.or_true,Bool.and_self]
   ·exact fS (fun _ h=>by cases h) _ (no _)
   ·exact fS (fun _ h=>by cases h) _ (no _)
  ·rw[bO,if_neg a2,bO,if_neg a1,bO,if_pos rfl]
  ·rw[bO,if_neg a3,bO,if_pos rfl]
  ·rw[bO,if_pos rfl]
  ·rw[bO,if_neg n1,bO,if_neg n2,bO,if_neg n0]
 have Z':Up X e (bh (bh (bh e (hn 0 N.ah.c) (.var 217 (cE c' ⟨N.ah.c,N.ah.v,jk'⟩))) (hn 2 N.ah.v) (.aG 54 3 ((c'.stack++jk').map bS))) (hn 1 N.ah.c) (.aG 54 3 (c'.slots.map bS))):=by
  refine((Up.put _ (.inl ?_)).trans (Up.put _ (.inl ?_))).trans (Up.put _ (.inl ?_))
  ·rw[ht.var];simp
  ·rw[bO,if_neg (fun e=>a1 e.symm),ht.cC];simp
  ·rw[bO,if_neg (fun e=>a3 e.symm),bO,if_neg (fun e=>a2 e.symm),ht.eQ];simp
 refine⟨⟨XQ,?_⟩,Z',⟨?_,hR.ok,XQ.ok,Z'.aZ,?_⟩⟩
 ·show(nth (N.cs.set _ _) ((N.cs.set _ _).length-1)).c=_;rw[List.length_set,Go.Gd.dx _ _ _ _ jB,if_pos rfl]
 ·rw[<-ea,<-el];refine(ab.at (e:=e) (Jk a1 a2 a3) hc (fun i r h=>?_) ?_ (fun i r h=>?_) ?_ (fun i h=>h)).mono fun r l ⟨e1,e2⟩=>⟨by rw[e1,uD _ hr],e2⟩
  ·simp only[kE,aA]at h;split at h
   ·rename_i ei;subst ei;cases h;rw[q6,ht.var];simp only[cE,Row.bT,ff,AV.bT,q7,q8]
   ·split at h
    ·rename_i ei;subst ei;cases h;rw[q7,ht.cC];simp only[Row.bT,vG (enc:=bS) (sz:=3)]
    ·split at h
     ·rename_i ei;subst ei;cases h;rw[q8,ht.eQ];simp only[Row.bT,vG (enc:=bS) (sz:=3)]
     ·cases h
  ·simp only[aX,Bool.and_eq_true];exact⟨rfl,fS (fun _ h=>by cases h) _ T5⟩
  ·simp only[kE,aA]at h;split at h
   ·cases h;rfl
   ·split at h
    ·cases h;exact fS (q:=eo) (fun _ h=>by cases h) _ (no _)
    ·split at h
     ·cases h;exact fS (q:=eo) (fun _ h=>by cases h) _ (no _)
     ·cases h
  ·show([6,7,8]:TH).Nodup;decide
 ·simp only[aX,Bool.and_eq_true];exact⟨i0,fS (fun _ h=>by cases h) _ T5⟩
def bJ.cB(hR:bJ p C m N e)(h1:1<=m.calls.length){c':MC}{jk':List aj}(hb:c'.stack.length+jk'.length<=2000)(T5:aX eo rest=true)(hr:r0.all eo=true)
  (hc:ab P f (.pt 6 0 0 0::rest) (kE m.ah.fn m.ah.at_ m.ah.mark m.ah.stack N.ah.jk m.ah.slots) fun r l=>r=r0/\l=kE c'.fn c'.at_ c'.mark c'.stack jk' c'.slots) :
  kK P f (.pt (hn 0 N.ah.c) 0 0 0::rest) e X r0 fun N' l=>bJ p C (m.bc c') N' l/\N'.k=N.k/\N'.ah.c=N.ah.c:=by
 obtain⟨h2,h3,h4⟩:=hR.nn (X:=X) h1 hb T5 hr hc;exact⟨_,_,⟨h2.1,rfl,h2.2⟩,h3,h4⟩
def bJ.sY(hR:bJ p C m N e)(h1:1<=m.calls.length)(T5:aX eo rest=true)(hr:r0.all eo=true)
  (hc:ab P f (.pt 6 0 0 0::rest) (kE m.ah.fn m.ah.at_ m.ah.mark m.ah.stack N.ah.jk m.ah.slots) fun r l=>r=r0/\l=kE m.ah.fn m.ah.at_ m.ah.mark m.ah.stack N.ah.jk m.ah.slots):cU P f (.pt (hn 0 N.ah.c) 0 0 0::rest) e r0 e:=by
 have ht:=hR.ah h1;obtain⟨h2,h3,h4⟩:=hR.nn (X:=[]) (c':=m.ah) (jk':=N.ah.jk) h1 ht.bd T5 hr hc;have el:kL N m.ah N.ah.jk e=e:=by unfold kL;have e0:(⟨N.ah.c,N.ah.v,N.ah.jk⟩:NC)=N.ah:=rfl;rw[e0,uh ht.var,uh ht.cC,uh ht.eQ]
 rw[el]at h4;exact h4
variable{h':TF}
def bJ.nF(hR:bJ p C m N e){e':TD}(ok:fI 0 e')(h1:aA e' (hn 5 N.k)=some (.var 269 [.rs (hn 6 N.k) h'.flatten.length 1 h'.flatten.length,.rs (hn 7 N.k) h'.length 1 h'.length]))
  (h2:aA e' (hn 6 N.k)=some (.aG 3 1 (h'.flatten.map eI))) (h3:aA e' (hn 7 N.k)=some (.aG 3 1 ((lD h').map eI))) (hs:∀j,j≠hn 5 N.k->j≠hn 6 N.k->j≠hn 7 N.k->aA e' j=aA e j):bJ p C { m with heap:=h' } N e':=by
 have kind:∀(a k:Nat) (r:Row),a≠5->a≠6->a≠7->a<32->aA e (hn a k)=some r->aA e' (hn a k)=some r:=fun a k r h5 h6 h7 VB h=>by rw[hs _ (dh VB jB h5) (dh VB jB h6) (dh VB jB h7)];exact h
 exact⟨ok,kind _ _ _ jB jB jB jB hR.root,kind _ _ _ jB jB jB jB hR.row,h1,h2,h3,kind _ _ _ jB jB jB jB hR.outs,hR.len,fun k hk=> ⟨kind _ _ _ jB jB jB jB (hR.call k hk).var,kind _ _ _ jB jB jB jB (hR.call k hk).cC,kind _ _ _ jB jB jB jB (hR.call k hk).eQ,(hR.call k hk).bd⟩,hR.nc,hR.nv,hR.bd⟩
def hL(N:NM)(h':TF)(e:TD):TD:=bh (bh (bh e (hn 5 N.k) (.var 269 [.rs (hn 6 N.k) h'.flatten.length 1 h'.flatten.length,.rs (hn 7 N.k) h'.length 1 h'.length])) (hn 6 N.k) (.aG 3 1 (h'.flatten.map eI))) (hn 7 N.k) (.aG 3 1 ((lD h').map eI))
def bJ.pL(hR:bJ p C m N e)(T5:aX eo rest=true)(hr:r0.all eo=true)(hc:ab P f (.pt 2 0 0 0::rest) (gG m.heap) fun r l=>r=r0/\l=gG h') :
  bJ p C { m with heap:=h' } N (hL N h' e)/\Up X e (hL N h' e)/\cU P f (.pt (hn 5 N.k) 0 0 0::rest) e r0 (hL N h' e):=by
 unfold hL;have a1:hn 5 N.k≠hn 6 N.k:=dh jB jB jB;have a2:hn 5 N.k≠hn 7 N.k:=dh jB jB jB;have a3:hn 6 N.k≠hn 7 N.k:=dh jB jB jB;have q6:pk 2 3 4 (hn 5 N.k) (hn 6 N.k) (hn 7 N.k) 2=hn 5 N.k:=rfl;have q7:pk 2 3 4 (hn 5 N.k) (hn 6 N.k) (hn 7 N.k) 3=hn 6 N.k:=rfl;have q8:pk 2 3 4 (hn 5 N.k) (hn 6 N.k) (hn 7 N.k) 4=hn 7 N.k:=rfl;have ea:ff (pk 2 3 4 (hn 5 N.k) (hn 6 N.k) (hn 7 N.k)) (.pt 2 0 0 0::rest)=.pt (hn 5 N.k) 0 0 0::rest:=by simp only[ff,AV.bT,q6,tn _ T5]
 have el:gx e (lf (pk 2 3 4 (hn 5 N.k) (hn 6 N.k) (hn 7 N.k)) (gG h'))=bh (bh (bh e (hn 5 N.k) (.var 269 [.rs (hn 6 N.k) h'.flatten.length 1 h'.flatten.length,.rs (hn 7 N.k) h'.length 1 h'.length])) (hn 6 N.k) (.aG 3 1 (h'.flatten.map eI))) (hn 7 N.k) (.aG 3 1 ((lD h').map eI)):=by simp only[gG,lf,List.map_cons,List.map_nil,gx,q6,q7,q8,Row.bT,ff,AV.bT,vG (enc:=eI) (sz:=1)]
 have i0:=fW hR.hp;have i1:=fW hR.cells;have i2:=fW hR.ends;have no:∀l:TG,aX eo ((l.map eI).flatten)=true:=fun l=>ph (mY (enc:=eI) (sz:=1) _)
 have XQ:bJ p C { m with heap:=h' } N (bh (bh (bh e (hn 5 N.k) (.var 269 [.rs (hn 6 N.k) h'.flatten.length 1 h'.flatten.length,.rs (hn 7 N.k) h'.length 1 h'.length])) (hn 6 N.k) (.aG 3 1 (h'.flatten.map eI))) (hn 7 N.k) (.aG 3 1 ((lD h').map eI))):=by
  refine hR.nF ?_ ?_ ?_ ?_ fun j n0 n1 n2=>?_
  ·refine((hR.ok.put (.inr (ix _ _)) ?_).put (.inr (ix _ _)) ?_).put (.inr (ix _ _)) ?_
   ·simp only[Row.cells,aX,AV.all,i1,i2,Bool.or_true,Bool.and_self]
   ·exact fS (fun _ h=>by cases h) _ (no _)
   ·exact fS (fun _ h=>by cases h) _ (no _)
  ·rw[bO,if_neg a2,bO,if_neg a1,bO,if_pos rfl]
  ·rw[bO,if_neg a3,bO,if_pos rfl]
  ·rw[bO,if_pos rfl]
  ·rw[bO,if_neg n2,bO,if_neg n1,bO,if_neg n0]
 have Z':Up X e (bh (bh (bh e (hn 5 N.k) (.var 269 [.rs (hn 6 N.k) h'.flatten.length 1 h'.flatten.length,.rs (hn 7 N.k) h'.length 1 h'.length])) (hn 6 N.k) (.aG 3 1 (h'.flatten.map eI))) (hn 7 N.k) (.aG 3 1 ((lD h').map eI))):=by
  refine((Up.put _ (.inl ?_)).trans (Up.put _ (.inl ?_))).trans (Up.put _ (.inl ?_))
  ·rw[hR.hp];simp
  ·rw[bO,if_neg (fun e=>a1 e.symm),hR.cells];simp
  ·rw[bO,if_neg (fun e=>a3 e.symm),bO,if_neg (fun e=>a2 e.symm),hR.ends];simp
 refine⟨XQ,Z',⟨?_,hR.ok,XQ.ok,Z'.aZ,?_⟩⟩
 ·rw[<-ea,<-el];refine(ab.at (e:=e) (Jk a1 a2 a3) hc (fun i r h=>?_) ?_ (fun i r h=>?_) ?_ (fun i h=>h)).mono fun r l ⟨e1,e2⟩=>⟨by rw[e1,uD _ hr],e2⟩
  ·simp only[gG,aA]at h;split at h
   ·rename_i ei;subst ei;cases h;rw[q6,hR.hp];simp only[Row.bT,ff,AV.bT,q7,q8]
   ·split at h
    ·rename_i ei;subst ei;cases h;rw[q7,hR.cells];simp only[Row.bT,vG (enc:=eI) (sz:=1)]
    ·split at h
     ·rename_i ei;subst ei;cases h;rw[q8,hR.ends];simp only[Row.bT,vG (enc:=eI) (sz:=1)]
     ·cases h
  ·simp only[aX,Bool.and_eq_true];exact⟨rfl,fS (fun _ h=>by cases h) _ T5⟩
  ·simp only[gG,aA]at h;split at h
   ·cases h;rfl
   ·split at h
    ·cases h;exact fS (q:=eo) (fun _ h=>by cases h) _ (no _)
    ·split at h
     ·cases h;exact fS (q:=eo) (fun _ h=>by cases h) _ (no _)
     ·cases h
  ·show([2,3,4]:TH).Nodup;decide
 ·simp only[aX,Bool.and_eq_true];exact⟨i0,fS (fun _ h=>by cases h) _ T5⟩
def bJ.sA(hR:bJ p C m N e)(T5:aX eo rest=true)(hr:r0.all eo=true)(hc:ab P f (.pt 2 0 0 0::rest) (gG m.heap) fun r l=>r=r0/\l=gG h') :
  kK P f (.pt (hn 5 N.k) 0 0 0::rest) e X r0 fun N' l=>bJ p C { m with heap:=h' } N' l/\N'.k=N.k/\N'.ah.c=N.ah.c:=by
 obtain⟨h2,h3,h4⟩:=hR.pL (X:=X) T5 hr hc;exact⟨_,_,⟨h2,rfl,rfl⟩,h3,h4⟩
def bJ.kW(hR:bJ p C m N e)(T5:aX eo rest=true)(hr:r0.all eo=true)(hc:ab P f (.pt 2 0 0 0::rest) (gG m.heap) fun r l=>r=r0/\l=gG m.heap):cU P f (.pt (hn 5 N.k) 0 0 0::rest) e r0 e:=by
 obtain⟨h2,h3,h4⟩:=hR.pL (X:=[]) (h':=m.heap) T5 hr hc;have el:hL N m.heap e=e:=by unfold hL;rw[uh hR.hp,uh hR.cells,uh hR.ends]
 rw[el]at h4;exact h4
end MV
variable{H:Hp}{t:TJ}
def iB.gb{r:AV}(i j k:Nat)(e:TJ)(sz:Nat){cs:TE}(hi:H.get i=none)(h0:0<sz)(hj:H.get j=some (.var t cs))(hk:cs[k]?=some (.raw (.slice none 0 0))):iB r H r ((H.put i (.aG e sz [])).put j (.var t (cs.set k (.rs i 0 sz 0)))):=fun w v h1 h2=>by
 obtain⟨a,b⟩:=xD h1 hi e h0;have ZM:j≠i:=fun e=>by subst e;rw[hi]at hj;cases hj
 obtain⟨a',b'⟩:=Cz (cs':=cs.set k (.rs i 0 sz 0)) a (j:=j) (t:=t) (cs:=cs) (by rw[Hp.bj,if_neg ZM];exact hj) jE fun n x x' v hx Ug hv=>by
  rw[List.getElem?_set]at Ug;by_cases hn:k=n
  ·subst hn;rw[if_pos rfl]at Ug;split at Ug
   ·cases Ug;rw[hk]at hx;cases hx;cases hv;exact .iE _ _ _ _ (NW.cw _ _ _ _)
   ·cases Ug
  ·rw[if_neg hn,hx]at Ug;cases Ug;exact hv
 exact⟨w.name i 0 .nil,rfl,a',h2.ext b,(b.trans b').pG⟩
abbrev mP(N:NM):AV:=.pt (hn 3 N.k) 0 0 0
abbrev cP(N:NM):AV:=.pt (hn 0 N.ah.c) 0 0 0
def To(p:af)(C:aI)(m':MV)(N:NM)(N':NM)(l:TD):Prop:=MV.bJ p C m' N' l/\N'.k=N.k/\N'.ah.c=N.ah.c
def NM.pop(N:NM):NM:={ N with cs:=N.cs.take (N.cs.length-1),cj:=N.ah.c::N.cj }
def NM.nJ(N:NM)(j:Nat):NM:={ N with cs:=N.cs++[⟨j,j,[]⟩],cj:=N.cj.drop 1 }
namespace MV
variable {p:af}{C:aI}{m:MV}{N:NM}{e:TD}
def bJ.gz(hR:bJ p C m N e){e':TD}(h:∀j,j∈ids e->j∈ids e')(m':MV)(N':NM)(hk:N'.k=N.k):aX (fun j=>(ids e').contains j) (mE p C m' N')=true:=by have c4:=List.contains_iff_mem.2 (h _ (List.contains_iff_mem.1 (fW hR.row)));have c5:=List.contains_iff_mem.2 (h _ (List.contains_iff_mem.1 (fW hR.hp)));have c8:=List.contains_iff_mem.2 (h _ (List.contains_iff_mem.1 (fW hR.outs)));have up:aX (fun j=>(ids e').contains j) (kf p)=true:=fS (q:=eo) (fun _ h=>by cases h) _ rfl;unfold mE;rw[sx,up,hk];simp only[aX,AV.all,c4,c5,c8,Bool.and_self,aO]
def Mf(h1:1<=N.cs.length):N.pop.cs.map NC.c++N.pop.cj=N.cs.map NC.c++N.cj:=by
 show(N.cs.take (N.cs.length-1)).map NC.c++(N.ah.c::N.cj)=_;have e1:N.cs.take (N.cs.length-1)++[N.ah]=N.cs:=by unfold NM.ah;rw[fP jB,List.take_append_getElem,show N.cs.length-1+1=N.cs.length from jB,List.take_length]
 have:(N.cs.take (N.cs.length-1)).map NC.c++(N.ah.c::N.cj)=((N.cs.take (N.cs.length-1)++[N.ah]).map NC.c)++N.cj:=jE;rw[this,e1]
def bJ.xa(hR:bJ p C m N e)(h1:1<=m.calls.length){m':MV}(hc:m'.calls=m.calls.take (m.calls.length-1))(h2:m'.heap=m.heap)(h3:m'.bA=m.bA):bJ p C m' N.pop (bh e (hn 3 N.k) (.var 205 (mE p C m' N.pop))):=by
 have hl:=hR.len;have kind:∀(a k:Nat) (r:Row),a≠3->a<32->aA e (hn a k)=some r->aA (bh e (hn 3 N.k) (.var 205 (mE p C m' N.pop))) (hn a k)=some r:=fun a k r h3 VB h=>by rw[bO,if_neg (dh VB jB h3)];exact h
 have lt:(N.cs.take (N.cs.length-1)).length=N.cs.length-1:=by rw[List.length_take];omega
 have ml:m'.calls.length=m.calls.length-1:=by rw[hc,List.length_take];omega
 refine⟨hR.ok.put (.inr (ix _ _)) ?_,by show aA _ (hn 3 N.k)=_;rw[bO,if_pos rfl],?_,?_,?_,?_,?_,by rw[ml,<-hl];exact lt,fun k hk=>?_,?_,?_,?_⟩
 ·exact fS (fun j hj=>by rw[Bool.or_eq_true];exact .inr hj) _ (hR.gz (fun _ h=>h) m' N.pop rfl)
 ·rw[Mf jB];exact kind _ _ _ jB jB hR.row
 ·rw[h2];exact kind _ _ _ jB jB hR.hp
 ·rw[h2];exact kind _ _ _ jB jB hR.cells
 ·rw[h2];exact kind _ _ _ jB jB hR.ends
 ·rw[h3];exact kind _ _ _ jB jB hR.outs
 ·rw[ml]at hk;have U5:=hR.call k jB;have e1:nth m'.calls k=nth m.calls k:=by
   rw[hc];unfold nth;rw[List.getD_eq_getElem?_getD,List.getElem?_take,if_pos hk,List.getD_eq_getElem?_getD]
  have e2:nth N.pop.cs k=nth N.cs k:=by show nth (N.cs.take _) k=_;unfold nth;rw[List.getD_eq_getElem?_getD,List.getElem?_take,jP,List.getD_eq_getElem?_getD]
  rw[e1,e2];exact⟨kind _ _ _ jB jB U5.var,kind _ _ _ jB jB U5.cC,kind _ _ _ jB jB U5.eQ,U5.bd⟩
 ·show((N.cs.take _).map NC.c).Nodup;rw[List.map_take];exact(List.take_sublist _ _).nodup hR.nc
 ·show((N.cs.take _).map NC.v).Nodup;rw[List.map_take];exact(List.take_sublist _ _).nodup hR.nv
 ·show(N.cs.take _).length+(N.ah.c::N.cj).length<=1000;have:=hR.bd;rw[lt,List.length_cons];omega
def nK(p:af)(C:aI)(m':MV)(N:NM)(c':MC)(j:Nat)(e:TD):TD:=
 bh (bh (bh (bh (bh e (hn 1 j) (.aG 54 3 (c'.slots.map bS))) (hn 2 j) (.aG 54 3 (c'.stack.map bS))) (hn 0 j) (.var 217 (cE c' ⟨j,j,[]⟩))) (hn 4 N.k) (.aG 213 1 (((N.nJ j).cs.map NC.c++(N.nJ j).cj).map fun j=>[.pt (hn 0 j) 0 0 0]))) (hn 3 N.k) (.var 205 (mE p C m' (N.nJ j)))
def bJ.CQ(hR:bJ p C m N e)(h8:m.calls.length<=100){m':MV}{c':MC}{j:Nat}(hc:m'.calls=m.calls++[c'])(h2:m'.heap=m.heap)(h3:m'.bA=m.bA)(j0:aA e (hn 0 j)=none)(j1:aA e (hn 1 j)=none)(j2:aA e (hn 2 j)=none)(hb:c'.stack.length<=2000) :
  bJ p C m' (N.nJ j) (nK p C m' N c' j e):=by
 have hl:=hR.len;have no:∀l:List aj,aX eo ((l.map bS).flatten)=true:=fun l=>ph (mY (enc:=bS) (sz:=3) _)
 have kind:∀(a k:Nat) (r:Row),a<32->(hn a k≠hn 1 j)->(hn a k≠hn 2 j)->(hn a k≠hn 0 j)->a≠4->a≠3->aA e (hn a k)=some r->aA (nK p C m' N c' j e) (hn a k)=some r:=fun a k r VB n1 n2 n0 h4 h3 h=>by unfold nK;rw[bO,if_neg (dh VB jB h3),bO,if_neg (dh VB jB h4),bO,if_neg n0,bO,if_neg n2,bO,if_neg n1];exact h
 have pj:∀(a k:Nat) (r:Row),a<32->4<a->aA e (hn a k)=some r->aA (nK p C m' N c' j e) (hn a k)=some r:=fun a k r VB h4 h=>kind a k r VB (dh VB jB jB) (dh VB jB jB) (dh VB jB jB) jB jB h
 have ml:m'.calls.length=m.calls.length+1:=by rw[hc];simp
 have nl:(N.nJ j).cs.length=N.cs.length+1:=by show(N.cs++[_]).length=_;simp
 refine⟨?_,by show aA _ (hn 3 N.k)=_;unfold nK;rw[bO,if_pos rfl],by show aA _ (hn 4 N.k)=_;unfold nK;rw[bO,if_neg (dh jB jB jB),bO,if_pos rfl],by rw[h2];exact pj 5 _ _ jB jB hR.hp,by rw[h2];exact pj 6 _ _ jB jB hR.cells,by rw[h2];exact pj 7 _ _ jB jB hR.ends,by rw[h3];exact pj 8 _ _ jB jB hR.outs,by rw[nl,ml,hl],fun k hk=>?_,?_,?_,?_⟩
 ·unfold nK;have k1:=((hR.ok.put (i:=hn 1 j) (r:=.aG 54 3 (c'.slots.map bS)) (.inr (ix _ _)) (fS (fun _ h=>by cases h) _ (no _))).put (i:=hn 2 j) (r:=.aG 54 3 (c'.stack.map bS)) (.inr (ix _ _)) (fS (fun _ h=>by cases h) _ (no _)));have m1:∀x,x∈ids e->x∈ids (bh (bh e (hn 1 j) (.aG 54 3 (c'.slots.map bS))) (hn 2 j) (.aG 54 3 (c'.stack.map bS))):=fun x hx=>(oR _ _ _ _).2 (.inr ((oR _ _ _ _).2 (.inr hx)))
  have i1:hn 1 j∈ids (bh (bh e (hn 1 j) (.aG 54 3 (c'.slots.map bS))) (hn 2 j) (.aG 54 3 (c'.stack.map bS))):=(oR _ _ _ _).2 (.inr ((oR _ _ _ _).2 (.inl rfl)));have i2:hn 2 j∈ids (bh (bh e (hn 1 j) (.aG 54 3 (c'.slots.map bS))) (hn 2 j) (.aG 54 3 (c'.stack.map bS))):=(oR _ _ _ _).2 (.inl rfl);generalize bh (bh e (hn 1 j) (.aG 54 3 (c'.slots.map bS))) (hn 2 j) (.aG 54 3 (c'.stack.map bS))=e1 at k1 m1 i1 i2;rw[<-List.contains_iff_mem]at i1 i2;have k2:=k1.put (i:=hn 0 j) (r:=.var 217 (cE c' ⟨j,j,[]⟩)) (.inr (ix _ _)) (by simp only[Row.cells,cE,aX,AV.all,i1,i2,Bool.or_true,Bool.and_self]);have m2:∀x,x∈ids e->x∈ids (bh e1 (hn 0 j) (.var 217 (cE c' ⟨j,j,[]⟩))):=fun x hx=>(oR _ _ _ _).2 (.inr (m1 x hx))
  have i0:hn 0 j∈ids (bh e1 (hn 0 j) (.var 217 (cE c' ⟨j,j,[]⟩))):=(oR _ _ _ _).2 (.inl rfl);generalize bh e1 (hn 0 j) (.var 217 (cE c' ⟨j,j,[]⟩))=e2 at k2 m2 i0;have hold:∀x∈N.cs.map NC.c++N.cj,hn 0 x∈ids e:=fun x hx=>by have:=AX (hR.ok.closed _ _ hR.row) [.pt (hn 0 x) 0 0 0] (List.mem_map.2 ⟨x,hx,rfl⟩);simp only[aX,AV.all,Bool.and_true]at this;exact List.contains_iff_mem.1 this
  have WX:∀x∈(N.nJ j).cs.map NC.c++(N.nJ j).cj,hn 0 x∈ids e2:=fun x hx=>by
   have hx:x∈(N.cs++[(⟨j,j,[]⟩:NC)]).map NC.c++N.cj.drop 1:=hx;rw[List.map_append]at hx;simp only[List.mem_append,List.map_cons,List.map_nil,List.mem_singleton]at hx;rcases hx with(hx|rfl)|hx
   ·exact m2 _ (hold x (List.mem_append_left _ hx))
   ·exact i0
   ·exact m2 _ (hold x (List.mem_append_right _ (List.mem_of_mem_drop hx)))
  have k3:=k2.put (i:=hn 4 N.k) (r:=.aG 213 1 (((N.nJ j).cs.map NC.c++(N.nJ j).cj).map fun j=>[.pt (hn 0 j) 0 0 0])) (.inr (ix _ _)) (ph fun y hy=>by obtain⟨x,hx,rfl⟩:=List.mem_map.1 hy;have:=List.contains_iff_mem.2 (WX x hx);simp only[aX,AV.all,this,Bool.or_true,Bool.and_self])
  refine k3.put (.inr (ix _ _)) ?_;exact fS (fun j hj=>by rw[Bool.or_eq_true];exact .inr hj) _ (hR.gz (fun x hx=>(oR _ _ _ _).2 (.inr (m2 x hx))) m' (N.nJ j) rfl)
 ·rw[ml]at hk;by_cases TY:k<m.calls.length
  ·have U5:=hR.call k TY;have e1:nth m'.calls k=nth m.calls k:=by rw[hc,pS TY]
   have e2:nth (N.nJ j).cs k=nth N.cs k:=by show nth (N.cs++_) k=_;rw[pS jB]
   have q0:hn 0 (nth N.cs k).c≠hn 0 j:=fun e'=>by rw[<-e',U5.var]at j0;cases j0
   have q1:hn 1 (nth N.cs k).c≠hn 1 j:=fun e'=>by rw[<-e',U5.eQ]at j1;cases j1
   have q2:hn 2 (nth N.cs k).v≠hn 2 j:=fun e'=>by rw[<-e',U5.cC]at j2;cases j2
   rw[e1,e2];exact⟨kind _ _ _ jB (dh jB jB jB) (dh jB jB jB) q0 jB jB U5.var,kind _ _ _ jB (dh jB jB jB) q2 (dh jB jB jB) jB jB U5.cC,kind _ _ _ jB q1 (dh jB jB jB) (dh jB jB jB) jB jB U5.eQ,U5.bd⟩
  ·have ek:k=m.calls.length:=jB;subst ek;have e1:nth m'.calls m.calls.length=c':=by rw[hc,qz]
   have e2:nth (N.nJ j).cs m.calls.length=⟨j,j,[]⟩:=by show nth (N.cs++[_]) _=_;rw[<-hl,qz]
   rw[e1,e2];refine⟨?_,?_,?_,by show c'.stack.length+0<=2000;omega⟩
   ·unfold nK;rw[bO,if_neg (dh jB jB jB),bO,if_neg (dh jB jB jB),bO,if_pos rfl]
   ·unfold nK;rw[bO,if_neg (dh jB jB jB),bO,if_neg (dh jB jB jB),bO,if_neg (dh jB jB jB),bO,if_pos rfl,List.append_nil]
   ·unfold nK;rw[bO,if_neg (dh jB jB jB),bO,if_neg (dh jB jB jB),bO,if_neg (dh jB jB jB),bO,if_neg (dh jB jB jB),bO,if_pos rfl]
 ·show((N.cs++[(⟨j,j,[]⟩:NC)]).map NC.c).Nodup;rw[List.map_append,List.nodup_append];refine⟨hR.nc,jE,fun a ha b hb e'=>?_⟩;have hb:b=j:=by simpa using hb
  obtain⟨x,hx,rfl⟩:=List.mem_map.1 ha;obtain⟨k,hk,rfl⟩:=List.getElem_of_mem hx;have:=(hR.call k jB).var;rw[fP jB,e',hb,j0]at this;cases this
 ·show((N.cs++[(⟨j,j,[]⟩:NC)]).map NC.v).Nodup;rw[List.map_append,List.nodup_append];refine⟨hR.nv,jE,fun a ha b hb e'=>?_⟩;have hb:b=j:=by simpa using hb
  obtain⟨x,hx,rfl⟩:=List.mem_map.1 ha;obtain⟨k,hk,rfl⟩:=List.getElem_of_mem hx;have:=(hR.call k jB).cC;rw[fP jB,e',hb,j2]at this;cases this
 ·show(N.cs++[_]).length+(N.cj.drop 1).length<=1000;have:=hR.bd;rw[List.length_append,List.length_drop,List.length_singleton];omega
end MV
namespace MV
variable {p:af}{C:aI}{m:MV}{N:NM}{e:TD}
def Df(h:1<=N.cs.length):N.bc N.ah=N:=by unfold NM.bc NM.ah;rw[fP jB,List.set_getElem_self]
def bJ.j5(hR:bJ p C m N e)(h1:1<=m.calls.length){c':MC}(hs:c'.stack=m.ah.stack)(hl:c'.slots=m.ah.slots):bJ p C (m.bc c') N (bh e (hn 0 N.ah.c) (.var 217 (MV.cE c' N.ah))):=by
 have ht:=hR.ah h1;have I':=hR.len;have h:=hR.bc (e':=bh e (hn 0 N.ah.c) (.var 217 (MV.cE c' N.ah))) h1 (c':=c') (n':=N.ah) rfl ?_ ⟨?_,?_,?_,by rw[hs];exact ht.bd⟩ (.inl rfl) fun j hj n0 n1 n2=>by rw[bO,if_neg n0]
 ·rw[Df jB]at h;exact h
 ·refine hR.ok.put (.inr (ix _ _)) ?_;have i1:=fW ht.eQ;have i2:=fW ht.cC;simp only[Row.cells,MV.cE,aX,AV.all,i1,i2,Bool.or_true,Bool.and_self]
 ·rw[bO,if_pos rfl]
 ·rw[bO,if_neg (dh jB jB jB),hs];exact ht.cC
 ·rw[bO,if_neg (dh jB jB jB),hl];exact ht.eQ
end MV
namespace MV
structure Bd(n:Nat)(m:MV):Prop where
 deep:∀k,k+1<m.calls.length->(nth m.calls k).stack.length<=1000
 slots:∀k,k<m.calls.length->(nth m.calls k).slots.length<=24
 heap:gi m.heap<=40
 outs:m.bA.length<=24
 n7:0<=m.in_
 oq:m.in_<=n
variable {n:Nat}{m:MV}
theorem Bd.ah(h:Bd n m)(h1:1<=m.calls.length):m.ah.slots.length<=24:=h.slots (m.calls.length-1) jB
theorem Bd.bc(h:Bd n m){c:MC}(hc:c.slots.length<=24):Bd n (m.bc c):=by
 have hl:(m.bc c).calls.length=m.calls.length:=bH _ _;have e:∀k,k<m.calls.length->nth (m.bc c).calls k=if k=m.calls.length-1 then c else nth m.calls k:=fun k hk=>Go.Gd.dx _ _ _ _ jB
 refine⟨fun k hk=>?_,fun k hk=>?_,h.heap,h.outs,h.n7,h.oq⟩
 ·rw[hl]at hk;rw[e k jB,jN];exact h.deep k hk
 ·rw[hl]at hk;rw[e k hk];split
  ·exact hc
  ·exact h.slots k hk
theorem Bd.status(h:Bd n m)(s t:Int):Bd n { m with status:=s,cX:=t }:=⟨h.deep,h.slots,h.heap,h.outs,h.n7,h.oq⟩
theorem Bd.push(h:Bd n m)(h1:1<=m.calls.length)(v:aj):Bd n (m.push v):=h.bc (h.ah h1)
theorem Bd.cut(h:Bd n m)(h1:1<=m.calls.length)(k:Nat):Bd n (m.cut k):=h.bc (h.ah h1)
theorem Bd.stops(h:Bd n m)(h1:1<=m.calls.length)(s t:Int):Bd n (m.stops s t):=(h.bc (c:=m.ah.back) (h.ah h1)).status s t
theorem Bd.dW(h:Bd n m)(h1:1<=m.calls.length)(r:aj×Int):Bd n (m.dW r):=by
 unfold MV.dW;split
 ·exact h.stops h1 _ _
 ·exact h.push h1 _
def gD{α:Type}[Inhabited α]{l:List α}{n k:Nat}(h:k<n):nth (l.take n) k=nth l k:=by unfold nth;rw[List.getD_eq_getElem?_getD,List.getElem?_take,if_pos h,List.getD_eq_getElem?_getD]
theorem Bd.pop(h:Bd n m):Bd n m.pop:=by
 have hl:m.pop.calls.length=m.calls.length-1:=by show(m.calls.take _).length=_;rw[List.length_take];omega
 have e:∀k,k<m.calls.length-1->nth m.pop.calls k=nth m.calls k:=fun k hk=>gD hk
 refine⟨fun k hk=>?_,fun k hk=>?_,h.heap,h.outs,h.n7,h.oq⟩
 ·rw[hl]at hk;rw[e k jB];exact h.deep k jB
 ·rw[hl]at hk;rw[e k hk];exact h.slots k jB
theorem Bd.ends(h:Bd n m)(v:aj):Bd n (m.ends v):=by
 unfold MV.ends;split
 ·exact h.pop.status 2 m.pop.cX
 ·rename_i h2;refine h.pop.push ?_ v;show 1<=(m.calls.take _).length;rw[List.length_take];omega
theorem Bd.cO{p:af}{C:aI}(h:Bd n m)(h1:1<=m.calls.length)(hd:m.ah.stack.length<=1000){fn:Int}{args:List aj}(s1:nth p.size fn.toNat<=24)(s2:(args.length:Int)<=nth p.size fn.toNat):Bd n (m.cO p C fn args):=by
 have hl:(m.cO p C fn args).calls.length=m.calls.length+1:=by show(m.calls++[_]).length=_;simp
 have e:∀k,k<m.calls.length->nth (m.cO p C fn args).calls k=nth m.calls k:=fun k hk=>pS hk
 refine⟨fun k hk=>?_,fun k hk=>?_,h.heap,h.outs,h.n7,h.oq⟩
 ·rw[hl]at hk;rw[e k jB];by_cases TY:k=m.calls.length-1
  ·subst TY;exact hd
  ·exact h.deep k jB
 ·rw[hl]at hk;by_cases TY:k<m.calls.length
  ·rw[e k TY];exact h.slots k TY
  ·have:k=m.calls.length:=jB;subst this;have:nth (m.cO p C fn args).calls m.calls.length=ir p C fn args:=qz _ _;rw[this];show(args++List.replicate _ v0).length<=24;rw[List.length_append,List.length_replicate];omega
def Bd.nF(h:Bd n m){h':TF}(hc:gi h'<=40):Bd n { m with heap:=h' }:=⟨h.deep,h.slots,hc,h.outs,h.n7,h.oq⟩
end MV
namespace MV
variable (m:MV)(p:af)(C:aI)(inp:TG)(x:ay)
def P5(h:x.op=2):m.ins p C inp x=m.push (vI x.a):=by unfold MV.ins;dsimp only;rw[if_pos h]
def SO(h:x.op=3):m.ins p C inp x=m.push (vB (decide (x.a=1))):=by unfold MV.ins;dsimp only;rw[jN,if_pos h]
def Oj(h:x.op=4):m.ins p C inp x=m.push (vT x.s):=by unfold MV.ins;dsimp only;rw[jN,jN,if_pos h]
def Ni(h:x.op=5):m.ins p C inp x=m.push (eR m.ah.slots x.a x.b):=by unfold MV.ins;dsimp only;rw[jN,jN,jN,if_pos h]
def GR(h:x.op=6):m.ins p C inp x=m.bc { m.ah.cut 1 with slots:=m.ah.slots.set x.a.toNat m.ah.last }:=by unfold MV.ins;dsimp only;rw[jN,jN,jN,jN,if_pos h]
def EV(h:x.op=7):m.ins p C inp x=(m.cut 2).dW (qk x.s (m.ah.cut 1).last m.ah.last):=by unfold MV.ins;dsimp only;rw[jN,jN,jN,jN,jN,if_pos h]
def Ea(h:x.op=8):m.ins p C inp x=(m.cut 1).push (mH (⟨#[45]⟩:TI) m.ah.last):=by unfold MV.ins;dsimp only;rw[jN,jN,jN,jN,jN,jN,if_pos h]
def Fh(h:x.op=9):m.ins p C inp x=(m.cut 1).push (mH (⟨#[33]⟩:TI) m.ah.last):=by unfold MV.ins;dsimp only;rw[jN,jN,jN,jN,jN,jN,jN,if_pos h]
def HU(h:x.op=10):m.ins p C inp x=(m.cut 1).push (vI (if m.ah.last.ty=4 then((bk m.heap m.ah.last.n).length:Int)else(m.ah.last.s.size:Int))):=by unfold MV.ins;dsimp only;rw[jN,jN,jN,jN,jN,jN,jN,jN,if_pos h]
def Hi(h:x.op=11):m.ins p C inp x=if m.ah.last.n<0\/((bk m.heap (eR m.ah.slots x.a 4).n).length:Int)<=m.ah.last.n then(m.cut 1).stops 3 2 else(m.cut 1).push (vI (nth (bk m.heap (eR m.ah.slots x.a 4).n) m.ah.last.n.toNat)):=by unfold MV.ins;dsimp only;rw[jN,jN,jN,jN,jN,jN,jN,jN,jN,if_pos h]
def Gr(h:x.op=12):m.ins p C inp x=if(m.ah.cut 1).last.n<0\/((bk m.heap (eR m.ah.slots x.a 4).n).length:Int)<=(m.ah.cut 1).last.n then(m.cut 2).stops 3 2 else{ m.cut 2 with heap:=m.heap.set ((eR m.ah.slots x.a 4).n-1).toNat ((nth m.heap ((eR m.ah.slots x.a 4).n-1).toNat).set (m.ah.cut 1).last.n.toNat m.ah.last.n) }:=by unfold MV.ins;dsimp only;rw[jN,jN,jN,jN,jN,jN,jN,jN,jN,jN,if_pos h]
def Ic(h:x.op=13):m.ins p C inp x=if m.ah.last.n<0\/16<m.ah.last.n then(m.cut 1).stops 3 7 else if 40<gi m.heap+m.ah.last.n+1 then(m.cut 1).stops 3 4 else{ (m.cut 1).push ⟨4,m.heap.length+1,sE⟩with heap:=m.heap++[List.replicate m.ah.last.n.toNat 0] }:=by unfold MV.ins;dsimp only;rw[jN,jN,jN,jN,jN,jN,jN,jN,jN,jN,jN,if_pos h]
def ji(h:x.op=14):m.ins p C inp x=if(inp.length:Int)<=m.in_ then m.stops 1 0 else{ m.push (vI (nth inp m.in_.toNat))with in_:=m.in_+1 }:=by unfold MV.ins;dsimp only;rw[jN,jN,jN,jN,jN,jN,jN,jN,jN,jN,jN,jN,if_pos h]
def Jv(h:x.op=15):m.ins p C inp x=if 24<=m.bA.length then m.stops 3 5 else{ m.cut 1 with bA:=m.bA++[mN m.ah.last] }:=by unfold MV.ins;dsimp only;rw[jN,jN,jN,jN,jN,jN,jN,jN,jN,jN,jN,jN,jN,if_pos h]
def Mn(h:x.op=16):m.ins p C inp x=m.bc (m.ah.jump x.a):=by unfold MV.ins;dsimp only;rw[jN,jN,jN,jN,jN,jN,jN,jN,jN,jN,jN,jN,jN,jN,if_pos h]
def QJ(h:x.op=17):m.ins p C inp x=if m.ah.last.n=0 then m.bc ((m.ah.cut 1).jump x.a)else m.cut 1:=by unfold MV.ins;dsimp only;rw[jN,jN,jN,jN,jN,jN,jN,jN,jN,jN,jN,jN,jN,jN,jN,if_pos h]
def SI(h:x.op=18\/x.op=19):m.ins p C inp x=if(m.ah.last.n=1<->x.op=19)then m.bc (m.ah.jump x.a)else m.cut 1:=by unfold MV.ins;dsimp only;rw[jN,jN,jN,jN,jN,jN,jN,jN,jN,jN,jN,jN,jN,jN,jN,jN,if_pos h]
def AL(h:x.op=20):m.ins p C inp x=if 8<=m.calls.length then(m.cut x.b.toNat).stops 3 3 else(m.cut x.b.toNat).cO p C x.a (m.ah.stack.drop (m.ah.stack.length-x.b.toNat)):=by unfold MV.ins;dsimp only;rw[jN,jN,jN,jN,jN,jN,jN,jN,jN,jN,jN,jN,jN,jN,jN,jN,jN,if_pos h]
def El(h:x.op=21):m.ins p C inp x=(m.cut 1).ends m.ah.last:=by unfold MV.ins;dsimp only;rw[jN,jN,jN,jN,jN,jN,jN,jN,jN,jN,jN,jN,jN,jN,jN,jN,jN,jN,if_pos h]
def Db(h:x.op=22):m.ins p C inp x=m.ends (vZ x.a):=by unfold MV.ins;dsimp only;rw[jN,jN,jN,jN,jN,jN,jN,jN,jN,jN,jN,jN,jN,jN,jN,jN,jN,jN,jN,if_pos h]
def GW(h:x.op=23):m.ins p C inp x=m.cut 1:=by unfold MV.ins;dsimp only;rw[jN,jN,jN,jN,jN,jN,jN,jN,jN,jN,jN,jN,jN,jN,jN,jN,jN,jN,jN,jN,if_pos h]
def Nl(h:x.op<2\/23<x.op):m.ins p C inp x=m:=by unfold MV.ins;dsimp only;rw[jN,jN,jN,jN,jN,jN,jN,jN,jN,jN,jN,jN,jN,jN,jN,jN,jN,jN,jN,jN,jN]
end MV
namespace MV
variable {p:af}{C:aI}{m:MV}{N:NM}{e:TD}
def bJ.sK(hR:bJ p C m N e)(h1:1<=m.calls.length)(l:List aj)(hl:l.length=m.ah.slots.length):bJ p C (m.bc { m.ah with slots:=l }) N (bh e (hn 1 N.ah.c) (.aG 54 3 (l.map bS))):=by
 have ht:=hR.ah h1;have I':=hR.len;have h:=hR.bc (e':=bh e (hn 1 N.ah.c) (.aG 54 3 (l.map bS))) h1 (c':={ m.ah with slots:=l }) (n':=N.ah) rfl ?_ ⟨?_,?_,?_,ht.bd⟩ (.inl rfl) fun j hj n0 n1 n2=>by rw[bO,if_neg n1]
 ·rw[Df jB]at h;exact h
 ·exact hR.ok.put (.inr (ix _ _)) (fS (q:=eo) (fun _ h=>by cases h) _ (ph (mY (enc:=bS) (sz:=3) _)))
 ·rw[bO,if_neg (dh jB jB jB),ht.var];unfold MV.cE;rw[<-hl]
 ·rw[bO,if_neg (dh jB jB jB)];exact ht.cC
 ·rw[bO,if_pos rfl]
end MV
theorem iB.nil{r:AV}{H:Hp}(i:Nat)(e:TJ){sz:Nat}(hi:H.get i=none)(h0:0<sz)(hs:r=.raw (.slice none 0 0)):iB r H (.rs i 0 sz 0) (H.put i (.aG e sz [])):=fun w v h1 h2=>by
 obtain⟨w',e,a,b,c⟩:=dL.nil (F:=[r]) i 0 e hi h0 (.inl (by rw[hs];rfl)) w #[v] h1 ⟨rfl,fun k a x ha hx=>by
  match k with
  |0=>cases ha;cases hx;exact h2
  |k+1=>simp at ha⟩
 exact⟨w',e,a,b.2 0 _ v rfl rfl,c⟩
variable{F:TE}
def xt{fn:Func}{out:TE}{e:Exit}(i:Nat)(t:TJ)(sz:Nat)(h0:0<sz)(rs:List ResultVar)(haC:kG out=.raw (.slice none 0 0))(ho:jo P ⟨[],[]⟩ F rs=some out)(hok:km P ⟨[],[]⟩ F rs)(V5:fn.results.toList=rs:=by rfl)(he:e=.normal\/e=.ret:=by first|exact Or.inr rfl|exact Or.inl rfl|fail) :
  lu P fn (fun r l=>r=.rs i 0 sz 0/\l=[(i,.aG t sz [])]) e F ⟨[],[]⟩:=by
 subst V5;exact uP he ho hok _ _ (iB.nil i t rfl h0 haC) ⟨rfl,rfl⟩
variable{args':TE}{q:Prop}
def AG{args:TE}{K:TB}[Inhabited α]{enc:α->TE}[he:bC enc sz]{xs:List α}(i:Nat)(UU:∀x,k9 (enc x)=true)
  (hc:ab P f args' [] fun r l=>r=.rs i xs.length sz xs.length/\l=[(i,.aG t sz (xs.map enc))]) (hi:H.get i=none) (hv:∀w vs,aJ w H->bs w args vs->bs (w.cR fun _=>true) args' vs) (k:q) (h0:aU P f=true:=by exact dv) (e:K (aO enc sz xs) H=q:=by exact fm):fa P (.raw (.func (.func f) #[] #[])) args H K:=
 nQ h0 (Ah UU hi hc hv (e ▸ k))
def GO{w w':NW}{a b:AV}{vs:TL}(h:bs w [a] vs)(Z5:∀v,ax w a v->ax w' b v):bs w' [b] vs:=⟨h.1,fun i x v hx hv=>by
 match i with
 |0=>cases hx;exact Z5 v (h.2 0 a v rfl hv)
 |i+1=>simp at hx⟩
variable{i n:Nat}
def Jy{m o:Nat}[Inhabited α]{enc:α->TE}[he:bC enc sz](l more:List α)(hi:H.get i=some (.aG t sz ((l++more).map enc)))(hm:m=l.length+more.length)(hn:o+n=l.length)(h0:0<sz):∀w vs,aJ w H->bs w [.rv i m sz o n] vs->bs (w.cR fun _=>true) [aO enc sz (l.drop o)] vs:=fun w vs hw hv=>
 GO hv fun v h=>by
  have:=Eh (d:=enc default) hw hi (by rw[List.length_map,List.length_append];exact hm) jB h0 (mY (enc:=enc) (sz:=sz) _) h;have e:(((l++more).map enc).drop o).take n=(l.drop o).map enc:=by rw[<-List.map_drop,<-List.map_take,List.drop_append_of_le_length jB,List.take_append_of_le_length (by rw[List.length_drop];omega),List.take_of_length_le (by rw[List.length_drop];omega)]
  rw[e]at this;exact this
namespace MV
variable {p:af}{C:aI}{m:MV}{N:NM}{e:TD}
def bJ.Bv(hR:bJ p C m N e)(h1:1<=m.calls.length)(b:Nat)(hb:b<=m.ah.stack.length):bJ p C (m.cut b) (N.bc ⟨N.ah.c,N.ah.v,m.ah.stack.drop (m.ah.stack.length-b)++N.ah.jk⟩) (bh e (hn 0 N.ah.c) (.var 217 (MV.cE (m.ah.cut b) ⟨N.ah.c,N.ah.v,m.ah.stack.drop (m.ah.stack.length-b)++N.ah.jk⟩))):=by
 have ht:=hR.ah h1;have Z8:=ht.bd;refine hR.bc h1 (c':=m.ah.cut b) rfl ?_ ⟨?_,?_,?_,?_⟩ (.inl rfl) fun j hj n0 n1 n2=>by rw[bO,if_neg n0]
 ·refine hR.ok.put (.inr (ix _ _)) ?_;have i1:=fW ht.eQ;have i2:=fW ht.cC;simp only[Row.cells,MV.cE,aX,AV.all,i1,i2,Bool.or_true,Bool.and_self]
 ·rw[bO,if_pos rfl]
 ·rw[bO,if_neg (dh jB jB jB)];show _=some (Row.aG _ 3 ((m.ah.stack.take (m.ah.stack.length-b)++(m.ah.stack.drop (m.ah.stack.length-b)++N.ah.jk)).map bS));rw[<-List.append_assoc,List.take_append_drop];exact ht.cC
 ·rw[bO,if_neg (dh jB jB jB)];exact ht.eQ
 ·show(m.ah.stack.take (m.ah.stack.length-b)).length+(m.ah.stack.drop (m.ah.stack.length-b)++N.ah.jk).length<=2000;rw[List.length_take,List.length_append,List.length_drop];omega
end MV
namespace MV
variable {p:af}{C:aI}{m:MV}{N:NM}{e:TD}
def bJ.By(hR:bJ p C m N e){m':MV}(h1:m'.calls=m.calls)(h2:m'.heap=m.heap):bJ p C m' N (bh (bh e (hn 8 N.k) (.aG 9 1 (m'.bA.map eS))) (hn 3 N.k) (.var 205 (mE p C m' N))):=by
 have kind:∀(a k:Nat) (r:Row),a≠3->a≠8->a<32->aA e (hn a k)=some r->aA (bh (bh e (hn 8 N.k) (.aG 9 1 (m'.bA.map eS))) (hn 3 N.k) (.var 205 (mE p C m' N))) (hn a k)=some r:=fun a k r h3 h8 VB h=>by rw[bO,if_neg (dh VB jB h3),bO,if_neg (dh VB jB h8)];exact h
 refine⟨?_,by rw[bO,if_pos rfl],kind _ _ _ jB jB jB hR.row,?_,?_,?_,?_,by rw[h1];exact hR.len,fun k hk=>?_,hR.nc,hR.nv,hR.bd⟩
 ·refine(hR.ok.put (.inr (ix _ _)) (fS (q:=eo) (fun _ h=>by cases h) _ (ph (mY (enc:=eS) (sz:=1) _)))).put (.inr (ix _ _)) ?_;exact fS (fun j hj=>by rw[Bool.or_eq_true];exact .inr hj) _ (hR.gz (fun _ h=>(oR _ _ _ _).2 (.inr h)) m' N rfl)
 ·rw[h2];exact kind _ _ _ jB jB jB hR.hp
 ·rw[h2];exact kind _ _ _ jB jB jB hR.cells
 ·rw[h2];exact kind _ _ _ jB jB jB hR.ends
 ·rw[bO,if_neg (dh jB jB jB),bO,if_pos rfl]
 ·rw[h1]at hk ⊢;have hc:=hR.call k hk;exact⟨kind _ _ _ jB jB jB hc.var,kind _ _ _ jB jB jB hc.cC,kind _ _ _ jB jB jB hc.eQ,hc.bd⟩
end MV
theorem cU.args{P:TO}{f:FuncId}{args args':TE}{e l:TD}{r0:AV}(h:cU P f args' e r0 l)(hv:∀w vs,aJ w (entry e)->bs w args vs->bs w args' vs)(ha:aX (fun i=>(ids e).contains i) args=true):cU P f args e r0 l:=⟨h.c.args hv,h.e1,h.e2,h.aZ,ha⟩
theorem Ew:∀(l:TD) (i:Nat) (r r':Row),bh (bh l i r) i r'=bh l i r'
 |[],i,r,r'=>by simp[bh]
 |(j,s)::l,i,r,r'=>by
  show bh (if i=j then(i,r)::l else(j,s)::bh l i r) i r'=(if i=j then(i,r')::l else(j,s)::bh l i r');by_cases e:i=j
  ·subst e;rw[if_pos rfl,if_pos rfl];simp[bh]
  ·rw[if_neg e,if_neg e];show(if i=j then _ else(j,s)::bh (bh l i r) i r')=_;rw[if_neg e,Ew l i r r']
def Ox(l:TD)(a k:Nat)(r r':Row):bh (bh l (hn a k) r) (hn a k) r'=bh l (hn a k) r':=Ew _ _ _ _
namespace MV
variable {p:af}{C:aI}{m:MV}{N:NM}{e:TD}
def NX(hR:bJ p C m N e)(h1:1<=m.calls.length):bJ p C m.dX N (bh (bh e (hn 3 N.k) (.var 205 (mE p C { m with status:=0 } N))) (hn 0 N.ah.c) (.var 217 (MV.cE { m.ah with mark:=m.ah.at_,at_:=m.ah.at_+1 } N.ah))):=
 (hR.l7 (m':={ m with status:=0 }) rfl rfl rfl).j5 h1 (c':={ m.ah with mark:=m.ah.at_,at_:=m.ah.at_+1 }) rfl rfl
end MV
def LY{m o:Nat}[Inhabited α]{enc:α->TE}[he:bC enc sz](l:List α)(hi:H.get i=some (.aG t sz (l.map enc)))(hm:m=l.length)(hn:o+n<=l.length)(h0:0<sz):∀w vs,aJ w H->bs w [.rv i m sz o n] vs->bs (w.cR fun _=>true) [aO enc sz ((l.drop o).take n)] vs:=fun w vs hw hv=>
 GO hv fun v h=>by have:=Eh (d:=enc default) hw hi (by rw[List.length_map];exact hm) jB h0 (mY (enc:=enc) (sz:=sz) _) h;rw[<-List.map_drop,<-List.map_take]at this;exact this
def OH{h:TF}{k:Nat}(hk:k<h.length):(h.flatten.drop (kq h k)).take (nth h k).length=nth h k:=by
 have e:h.flatten=(h.take k).flatten++(nth h k++(h.drop (k+1)).flatten):=by rw[fP hk,<-List.flatten_cons,List.getElem_cons_drop,<-List.flatten_append,List.take_append_drop]
 rw[e];unfold kq;rw[List.drop_left,List.take_left]
def KE{fn:Func}{B:TH}{L:TD}{out:TE}{ex:Exit}{r0:AV}{e l tl:TD}(hB:ids e=B)(k1:fI 0 e)(k2:fI 0 l)(hp:L=tie l tl)(hl:nW 0 tl)(rs:List ResultVar)(hv:cW (fL 0) ⟨B,tie l tl⟩ (kG out) r0)
  (V5:fn.results.toList=rs:=by rfl) (he:ex=.normal\/ex=.ret:=by first|exact Or.inr rfl|exact Or.inl rfl|fail) (ho:jo P ⟨B,L⟩ F rs=some out:=by first|rfl|(simp(disch:=first|omega|fail) only[go_sem,↓reduceIte,Nat.reduceEqDiff,Nat.reduceLeDiff,Nat.reduceSub,Nat.reduceAdd];rfl)) (hok:km P ⟨B,L⟩ F rs:=by first|exact jI|(simp(disch:=first|omega|fail) only[go_sem,↓reduceIte,Nat.reduceEqDiff,Nat.reduceLeDiff,Nat.reduceSub,Nat.reduceAdd])):lu P fn (fun r l'=>r=r0/\l'=l) ex F ⟨B,L⟩:=by
 subst V5 hp;obtain⟨h1,h2,h3⟩:=k1.free k2 hB hl;have:=iB.free (r:=kG out) (r':=r0) (H:=⟨B,l++tl⟩) (Go.Gd.fL 0) h1 h2 hv;rw[show(Hp.mk B (l++tl)).l=l++tl from rfl,h3]at this;exact uP he ho hok r0 ⟨B,l⟩ this ⟨rfl,rfl⟩
def Iv{args:TE}{R:AV->Prop}[Inhabited α]{enc:α->TE}[he:bC enc sz]{xs:List α}(i:Nat)(UU:∀x,k9 (enc x)=true)
  (hc:ab P f args' [] fun r l=>r=.rs i xs.length sz xs.length/\l=[(i,.aG t sz (xs.map enc))]) (hi:H.get i=none) (hv:∀w vs,aJ w H->bs w args vs->bs (w.cR fun _=>true) args' vs) (k:q) (h0:aU P f=true:=by exact dv) (e:R (aO enc sz xs)=q:=by exact fm):∃r,(fa P (.raw (.func (.func f) #[] #[])) args H fun r' H'=>r'=r/\H'=H)/\R r:=
 ⟨_,nQ h0 (Ah (K:=fun r' H'=>r'=aO enc sz xs/\H'=H) UU hi hc hv ⟨rfl,rfl⟩),e ▸ k⟩
def JI{A:AS}{args:TE}{g:TB}{d:im fun r H'=>eJ A H H'/\g r H'}[Inhabited α]{enc:α->TE}[he:bC enc sz]{xs:List α}(i:Nat)(UU:∀x,k9 (enc x)=true)
  (hc:ab P f args' [] fun r l=>r=.rs i xs.length sz xs.length/\l=[(i,.aG t sz (xs.map enc))]) (hi:H.get i=none) (hv:∀w vs,aJ w H->bs w args vs->bs (w.cR fun _=>true) args' vs) (k:q) (h0:aU P f=true:=by exact dv) (e:g (aO enc sz xs) H=q:=by exact fm):fa P (.raw (.func (.func f) #[] #[])) args H (AP (fun r H'=>eJ A H H'/\g r H') d):=
 nQ h0 (Ah (K:=AP (fun r H'=>eJ A H H'/\g r H') d) UU hi hc hv ⟨eJ.refl _ _,e ▸ k⟩)
def Bq[Inhabited α]{enc:α->TE}[he:bC enc sz](l:List α)(hi:H.get i=some (.aG t sz (l.map enc)))(hn:n=l.length):∀w vs,aJ w H->bs w [.rs i n sz n] vs->bs (w.cR fun _=>true) [aO enc sz l] vs:=
 Sl ⟨cW.row (dd:=enc default) l rfl hi hn,trivial⟩
namespace MV
def fQ(m:MV)(k:Nat):Int:=if(k:Int)=(m.calls.length:Int)-1 then(nth m.calls k).at_ else(nth m.calls k).mark
def spot(C:aI)(m:MV)(k:Nat):mj:=⟨(nth m.calls k).fn,(nth C.ins (m.fQ k).toNat).a,(nth m.calls k).slots⟩
def dB(C:aI)(m:MV):kV:=⟨(List.range m.calls.length).map (m.spot C),m.heap,m.in_,m.bA,m.status,m.cX,m.time⟩
end MV
def MV.mc:MV:=⟨[],0,[],0,[],0,0,0⟩
def wl(p:af)(C:aI)(k:Nat):TD:=
 [(hn 5 k,.var 269 [.rs (hn 6 k) 0 1 0,.rs (hn 7 k) 0 1 0]),(hn 3 k,.var 205 (MV.mE p C MV.mc ⟨k,[],[]⟩)),(hn 4 k,.aG 213 1 []),(hn 8 k,.aG 9 1 []),(hn 6 k,.aG 3 1 []),(hn 7 k,.aG 3 1 [])]
def x8(p:af)(C:aI)(k i:Nat):aA (wl p C k) i=if i=hn 5 k then some (.var 269 [.rs (hn 6 k) 0 1 0,.rs (hn 7 k) 0 1 0])else if i=hn 3 k then some (.var 205 (MV.mE p C MV.mc ⟨k,[],[]⟩))else if i=hn 4 k then some (.aG 213 1 [])else if i=hn 8 k then some (.aG 9 1 [])else if i=hn 6 k then some (.aG 3 1 [])else if i=hn 7 k then some (.aG 3 1 [])else none:=rfl
def CO(p:af)(C:aI)(k:Nat):ids (wl p C k)=[hn 5 k,hn 3 k,hn 4 k,hn 8 k,hn 6 k,hn 7 k]:=rfl
def M8(p:af)(C:aI)(k:Nat):MV.bJ p C MV.mc ⟨k,[],[]⟩ (wl p C k):=by
 have nd:∀a b:Nat,a<32->b<32->a≠b->hn a k≠hn b k:=fun a b ha hb h=>dh ha hb h
 have ok:fI 0 (wl p C k):=by
  refine⟨fun i _ hi=>?_,?_,fun i r hi=>?_⟩
  ·rw[x8];have g:=fun a=>ix a k
   rw[if_neg (by have:=g 5;omega),if_neg (by have:=g 3;omega),if_neg (by have:=g 4;omega),if_neg (by have:=g 8;omega),if_neg (by have:=g 6;omega),if_neg (by have:=g 7;omega)]
  ·rw[CO];simp[hn]
  ·rw[CO];rw[x8]at hi;have up:aX (fun j=>[hn 5 k,hn 3 k,hn 4 k,hn 8 k,hn 6 k,hn 7 k].contains j) (kf p)=true:=fS (q:=eo) (fun _ h=>by cases h) _ rfl;split at hi
   ·cases hi;simp[Row.cells,aX,AV.all]
   ·split at hi
    ·cases hi;show aX _ (MV.mE _ _ _ _)=true;unfold MV.mE;rw[sx,up];simp[aX,AV.all,aO]
    ·split at hi
     ·cases hi;rfl
     ·split at hi
      ·cases hi;rfl
      ·split at hi
       ·cases hi;rfl
       ·split at hi
        ·cases hi;rfl
        ·cases hi
 refine⟨ok,?_,?_,?_,?_,?_,?_,rfl,(fun k hk=>by cases hk),List.nodup_nil,List.nodup_nil,by show 0+0<=1000;omega⟩;all_goals rw[x8]
 ·rw[if_neg (nd 3 5 jB jB jB),if_pos rfl]
 ·rw[if_neg (nd 4 5 jB jB jB),if_neg (nd 4 3 jB jB jB),if_pos rfl];rfl
 ·rw[if_pos rfl];rfl
 ·rw[if_neg (nd 6 5 jB jB jB),if_neg (nd 6 3 jB jB jB),if_neg (nd 6 4 jB jB jB),if_neg (nd 6 8 jB jB jB),if_pos rfl];rfl
 ·rw[if_neg (nd 7 5 jB jB jB),if_neg (nd 7 3 jB jB jB),if_neg (nd 7 4 jB jB jB),if_neg (nd 7 8 jB jB jB),if_neg (nd 7 6 jB jB jB),if_pos rfl];rfl
 ·rw[if_neg (nd 8 5 jB jB jB),if_neg (nd 8 3 jB jB jB),if_neg (nd 8 4 jB jB jB),if_pos rfl];rfl
def KO(p:af)(C:aI)(k:Nat)(r9:Row):dL F ⟨[],[(9,r9),(hn 5 k,.var 269 [.raw (.slice none 0 0),.raw (.slice none 0 0)]),(hn 3 k,.var 205 (kf p++[aO dn 4 C.ins,aO eI 1 C.entry,.raw (.slice none 0 0),.pt (hn 5 k) 0 0 0,.raw (.slice none 0 0),.raw (.int .i64 0),.raw (.int .i64 0),.raw (.int .i64 0),.raw (.int .i64 0)]))]⟩ F ⟨[],tie (wl p C k) [(9,r9)]⟩:=by
 have n9:∀a,hn a k≠9:=fun a e=>by have:=ix a k;omega
 have nd:∀a b:Nat,a<32->b<32->a≠b->hn a k≠hn b k:=fun a b ha hb h=>dh ha hb h
 have s1:=dL.gb (F:=F) (H:=⟨[],[(9,r9),(hn 5 k,.var 269 [.raw (.slice none 0 0),.raw (.slice none 0 0)]),(hn 3 k,.var 205 (kf p++[aO dn 4 C.ins,aO eI 1 C.entry,.raw (.slice none 0 0),.pt (hn 5 k) 0 0 0,.raw (.slice none 0 0),.raw (.int .i64 0),.raw (.int .i64 0),.raw (.int .i64 0),.raw (.int .i64 0)]))]⟩) (hn 4 k) (hn 3 k) 8 213 1 (t:=205) (cs:=kf p++[aO dn 4 C.ins,aO eI 1 C.entry,.raw (.slice none 0 0),.pt (hn 5 k) 0 0 0,.raw (.slice none 0 0),.raw (.int .i64 0),.raw (.int .i64 0),.raw (.int .i64 0),.raw (.int .i64 0)])
  (by show aA _ _=_;simp only[aA,if_neg (n9 4),if_neg (nd 4 5 jB jB jB),if_neg (nd 4 3 jB jB jB)]) jC (by show aA _ _=_;simp only[aA,if_neg (n9 3),if_neg (nd 3 5 jB jB jB),if_pos]) rfl
 have s2:=dL.gb (F:=F) (H:=(((⟨[],[(9,r9),(hn 5 k,.var 269 [.raw (.slice none 0 0),.raw (.slice none 0 0)]),(hn 3 k,.var 205 (kf p++[aO dn 4 C.ins,aO eI 1 C.entry,.raw (.slice none 0 0),.pt (hn 5 k) 0 0 0,.raw (.slice none 0 0),.raw (.int .i64 0),.raw (.int .i64 0),.raw (.int .i64 0),.raw (.int .i64 0)]))]⟩:Hp).put (hn 4 k) (.aG 213 1 [])).put (hn 3 k) (.var 205 (kf p++[aO dn 4 C.ins,aO eI 1 C.entry,.rs (hn 4 k) 0 1 0,.pt (hn 5 k) 0 0 0,.raw (.slice none 0 0),.raw (.int .i64 0),.raw (.int .i64 0),.raw (.int .i64 0),.raw (.int .i64 0)])))) (hn 8 k) (hn 3 k) 10 9 1 (t:=205) (cs:=kf p++[aO dn 4 C.ins,aO eI 1 C.entry,.rs (hn 4 k) 0 1 0,.pt (hn 5 k) 0 0 0,.raw (.slice none 0 0),.raw (.int .i64 0),.raw (.int .i64 0),.raw (.int .i64 0),.raw (.int .i64 0)])
  (by rw[Hp.bj,if_neg (nd 8 3 jB jB jB),Hp.bj,if_neg (nd 8 4 jB jB jB)];show aA _ _=_;simp only[aA,if_neg (n9 8),if_neg (nd 8 5 jB jB jB),if_neg (nd 8 3 jB jB jB)]) jC (by rw[Hp.bj,if_pos rfl]) rfl
 have s3:=dL.gb (F:=F) (H:=((((((⟨[],[(9,r9),(hn 5 k,.var 269 [.raw (.slice none 0 0),.raw (.slice none 0 0)]),(hn 3 k,.var 205 (kf p++[aO dn 4 C.ins,aO eI 1 C.entry,.raw (.slice none 0 0),.pt (hn 5 k) 0 0 0,.raw (.slice none 0 0),.raw (.int .i64 0),.raw (.int .i64 0),.raw (.int .i64 0),.raw (.int .i64 0)]))]⟩:Hp).put (hn 4 k) (.aG 213 1 [])).put (hn 3 k) (.var 205 (kf p++[aO dn 4 C.ins,aO eI 1 C.entry,.rs (hn 4 k) 0 1 0,.pt (hn 5 k) 0 0 0,.raw (.slice none 0 0),.raw (.int .i64 0),.raw (.int .i64 0),.raw (.int .i64 0),.raw (.int .i64 0)])))).put (hn 8 k) (.aG 9 1 [])).put (hn 3 k) (.var 205 (kf p++[aO dn 4 C.ins,aO eI 1 C.entry,.rs (hn 4 k) 0 1 0,.pt (hn 5 k) 0 0 0,.rs (hn 8 k) 0 1 0,.raw (.int .i64 0),.raw (.int .i64 0),.raw (.int .i64 0),.raw (.int .i64 0)]))))
  (hn 6 k) (hn 5 k) 0 3 1 (t:=269) (cs:=[.raw (.slice none 0 0),.raw (.slice none 0 0)])
  (by rw[Hp.bj,if_neg (nd 6 3 jB jB jB),Hp.bj,if_neg (nd 6 8 jB jB jB),Hp.bj,if_neg (nd 6 3 jB jB jB),Hp.bj,if_neg (nd 6 4 jB jB jB)];show aA _ _=_;simp only[aA,if_neg (n9 6),if_neg (nd 6 5 jB jB jB),if_neg (nd 6 3 jB jB jB)]) jC
  (by rw[Hp.bj,if_neg (nd 5 3 jB jB jB),Hp.bj,if_neg (nd 5 8 jB jB jB),Hp.bj,if_neg (nd 5 3 jB jB jB),Hp.bj,if_neg (nd 5 4 jB jB jB)];show aA _ _=_;simp only[aA,if_neg (n9 5),if_pos]) rfl
 refine s1.trans (s2.trans (s3.trans ?_));refine dL.trans (dL.gb (hn 7 k) (hn 5 k) 1 3 1 (t:=269) (cs:=[.rs (hn 6 k) 0 1 0,.raw (.slice none 0 0)]) ?_ jC ?_ rfl) (dL.perm _ fun i=>?_)
 ·simp only[Hp.bj,if_neg (nd 7 5 jB jB jB),if_neg (nd 7 6 jB jB jB),if_neg (nd 7 3 jB jB jB),if_neg (nd 7 8 jB jB jB),if_neg (nd 7 4 jB jB jB)];show aA _ _=_;simp only[aA,if_neg (n9 7),if_neg (nd 7 5 jB jB jB),if_neg (nd 7 3 jB jB jB)]
 ·rw[Hp.bj,if_pos rfl];rfl
 ·simp only[Hp.put,bO,jO,x8];by_cases a5:i=hn 5 k
  ·simp only[if_pos a5];rfl
  simp only[if_neg a5];by_cases a7:i=hn 7 k
  ·subst a7;simp(disch:=omega) only[go_sem,↓reduceIte]
  simp only[if_neg a7];by_cases a6:i=hn 6 k
  ·subst a6;simp(disch:=omega) only[go_sem,↓reduceIte]
  simp only[if_neg a6];by_cases a3:i=hn 3 k
  ·simp only[if_pos a3];rfl
  simp only[if_neg a3];by_cases a8:i=hn 8 k
  ·subst a8;simp(disch:=omega) only[go_sem,↓reduceIte]
  simp only[if_neg a8];by_cases a4:i=hn 4 k
  ·subst a4;simp(disch:=omega) only[go_sem,↓reduceIte]
  simp only[if_neg a4,aA,if_neg a5,if_neg a3,Option.none_or]
end Go.Gd
namespace Go.Proofs.YtjpcgmjaipfgdaaGreatDoor
open Go Go.Gd Tryz
def Sg(fn at_ mark:Int)(vs jk slots:List aj)(v:aj)(hL:¬(100000<vs.length+jk.length)):ab prog 203 [.pt 6 0 0 0,rV v] (kE fn at_ mark vs jk slots) (fun r l=>r=.aQ []/\l=kE fn at_ mark (vs++[v]) (jk.drop 1) slots):=by
 refine aM func203 ntmps203 ?_;refine S ?_
 (repeat' (first|refine aq fun K hK=>?_|refine ap ?_|(with_reducible refine gR 1 ?_);refine dE 1 (aW 0 11) mixed ?_|(refine hK _ _ ?_;clear hK K)|(refine ao ?_ ?_<;>intro hc<;>try exact jz)|refine aT 9 ?_|refine qG vs jk [v] ?_|refine ar ?_|exact jI|(clear hK K)))
 (refine aY [] ?_;try simp only[go_sem])
def HF(fn at_ mark:Int)(vs jk slots:List aj)(h1:1<=vs.length)(hL:¬(100000<vs.length+jk.length)):ab prog 217 [.pt 6 0 0 0] (kE fn at_ mark vs jk slots) (fun r l=>r=rV (nth vs (vs.length-1))/\l=kE fn at_ mark vs jk slots):=by
 refine aM func217 ntmps217 ?_;refine S ?_
 (repeat' (first|refine aq fun K hK=>?_|refine ap ?_|(with_reducible refine gR 1 ?_);refine dE 1 (aW 0 13) mixed ?_|(refine hK _ _ ?_;clear hK K)|(refine ao ?_ ?_<;>intro hc<;>try exact jz)|refine al 9 ?_|refine ar ?_|exact jI|(clear hK K)))
 (refine aY [.cell 2 54] ?_;try simp only[go_sem])
def DE(fn at_ mark:Int)(vs jk slots:List aj)(v:aj)(hL:¬(100000<vs.length+1+jk.length)):ab prog 208 [.pt 6 0 0 0] (kE fn at_ mark (vs++[v]) jk slots) (fun r l=>r=rV v/\l=kE fn at_ mark vs (v::jk) slots):=by
 have Wg:=HF fn at_ mark (vs++[v]) jk slots jE (by rw[List.length_append,List.length_singleton];omega);rw[show nth (vs++[v]) ((vs++[v]).length-1)=v by simp[nth]]at Wg;have e:(vs++[v])++jk=vs++(v::jk):=jE;have e2:((vs++[v]).length:Int)-1=vs.length:=jE;have e3:(vs++[v]).length=vs.length+1:=jE;have e4:vs.length+(v::jk).length=vs.length+1+jk.length:=by simp only[List.length_cons];omega
 unfold kE at Wg ⊢;rw[e,e3]at Wg ⊢;rw[e4];refine aM func208 ntmps208 ?_;refine S ?_
 (repeat' (first|refine aq fun K hK=>?_|refine ap ?_|(with_reducible refine gR 2 ?_);refine dE 2 (aW 0 15) mixed ?_|(refine hK _ _ ?_;clear hK K)|(refine ao ?_ ?_<;>intro hc<;>try exact jz)|refine al 9 ?_|refine al 10 ?_|refine cm (Wg) ?_|refine ar ?_|exact jI|(clear hK K)))
 refine aY [.cell 2 54] rfl (h2:=?_);simp[fv,mD]
def M6(fn at_ mark:Int)(vs jk slots:List aj)(k t:Int)(hk:0<=k/\k<slots.length)(hL:¬(100000<slots.length)):ab prog 207 [.pt 6 0 0 0,rI k,rI t] (kE fn at_ mark vs jk slots) (fun r l=>r=rV (eR slots k t)/\l=kE fn at_ mark vs jk slots):=by
 refine aM func207 ntmps207 ?_;refine S ?_
 (repeat' (first|refine aq fun K hK=>?_|refine ap ?_|(refine hK _ _ ?_;clear hK K)|(refine ao ?_ ?_<;>intro hc<;>try exact jz)|refine al 9 ?_|refine al 10 ?_|refine cp (Bu _) ?_|(first|refine cg (vm _) ?_|refine ug (vm _) ?_)|refine ar ?_|exact jI|(clear hK K)))
 all_goals(refine aY [.cell 6 54] ?_;try simp only[go_sem])
 all_goals(unfold eR;(repeat' split)<;>first|rfl|omega|(exfalso;simp_all;done)|(simp_all;done)|skip)
end Go.Proofs.YtjpcgmjaipfgdaaGreatDoor
namespace Go.Proofs.YtjpcgmjaipfgdaaGreatDoor
open Go Go.Gd Tryz Go.Gd.MV
section
variable {p:af}{C:aI}{m:MV}{N:NM}{e:TD}(X:TH)
def sy(hR:bJ p C m N e)(h1:1<=m.calls.length)(v:aj)(hb:m.ah.stack.length<=1000):kK prog 203 [cP N,rV v] e X (.aQ []) (To p C (m.push v) N):=by have VG:=(hR.ah h1).bd;exact hR.cB h1 (c':=m.ah.push v) (jk':=N.ah.jk.drop 1) (by show(m.ah.stack++[v]).length+_<=_;rw[List.length_append,List.length_drop,List.length_singleton];omega) rfl rfl (Sg _ _ _ _ _ _ v jB)
def Hw(hR:bJ p C m N e)(h1:1<=m.calls.length)(hb:1<=m.ah.stack.length):kK prog 208 [cP N] e X (rV m.ah.last) (To p C (m.cut 1) N):=by
 have VG:=(hR.ah h1).bd;have e1:m.ah.stack.take (m.ah.stack.length-1)++[m.ah.last]=m.ah.stack:=by unfold MC.last;rw[fP jB,List.take_append_getElem,show m.ah.stack.length-1+1=m.ah.stack.length from jB,List.take_length]
 have O':(m.ah.stack.take (m.ah.stack.length-1)).length=m.ah.stack.length-1:=by rw[List.length_take];omega
 have hc:=DE m.ah.fn m.ah.at_ m.ah.mark (m.ah.stack.take (m.ah.stack.length-1)) N.ah.jk m.ah.slots m.ah.last (by rw[O'];omega);rw[e1]at hc;have hb3:(m.ah.cut 1).stack.length+(m.ah.last::N.ah.jk).length<=2000:=by show(m.ah.stack.take (m.ah.stack.length-1)).length+_<=_;rw[O',List.length_cons];omega
 exact hR.cB h1 (c':=m.ah.cut 1) hb3 rfl rfl hc
def Qa(hR:bJ p C m N e)(h1:1<=m.calls.length)(hb:1<=m.ah.stack.length):cU prog 217 [cP N] e (rV m.ah.last) e:=by have VG:=(hR.ah h1).bd;exact hR.sY h1 rfl rfl (HF _ _ _ _ _ _ hb jB)
def Aq(hR:bJ p C m N e)(h1:1<=m.calls.length)(k t:Int)(hk:0<=k/\k<m.ah.slots.length)(hb:m.ah.slots.length<=1000):cU prog 207 [cP N,rI k,rI t] e (rV (eR m.ah.slots k t)) e:=
 hR.sY h1 rfl rfl (M6 _ _ _ _ _ _ k t hk jB)
def Oc(hR:bJ p C m N e)(a i:Int)(hl:m.heap.length<=1000)(hf:m.heap.flatten.length<=1000):cU prog 213 [.pt (hn 5 N.k) 0 0 0,rI a,rI i] e (.aQ [rI (if i<0\/((MV.bk m.heap a).length:Int)<=i then 0 else nth (MV.bk m.heap a) i.toNat),rI (if i<0\/((MV.bk m.heap a).length:Int)<=i then 2 else 0)]) e:=
 hR.kW rfl rfl (NT m.heap a i hl hf)
def Rv(hR:bJ p C m N e)(a:Int)(hl:m.heap.length<=1000)(hf:m.heap.flatten.length<=1000):cU prog 212 [.pt (hn 5 N.k) 0 0 0,rI a] e (rI (MV.bk m.heap a).length) e:=
 hR.kW rfl rfl (LO m.heap a hl hf)
def On(hR:bJ p C m N e)(a i n:Int)(hl:m.heap.length<=1000)(hf:m.heap.flatten.length<=1000)(hi:¬(i<0\/((MV.bk m.heap a).length:Int)<=i)):kK prog 214 [.pt (hn 5 N.k) 0 0 0,rI a,rI i,rI n] e X (rI 0) (To p C { m with heap:=m.heap.set (a-1).toNat ((nth m.heap (a-1).toNat).set i.toNat n) } N):=
 hR.sA rfl rfl (J1 m.heap a i n hl hf hi)
def K4(hR:bJ p C m N e)(a i n:Int)(hl:m.heap.length<=1000)(hf:m.heap.flatten.length<=1000)(hi:i<0\/((MV.bk m.heap a).length:Int)<=i):cU prog 214 [.pt (hn 5 N.k) 0 0 0,rI a,rI i,rI n] e (rI 2) e:=
 hR.kW rfl rfl (PC m.heap a i n hl hf hi)
def Su(hR:bJ p C m N e)(n:Int)(h0:0<=n/\n<=16)(hc:gi m.heap+n+1<=40)(Xk:gi m.heap=m.heap.length+m.heap.flatten.length):kK prog 216 [.pt (hn 5 N.k) 0 0 0,rI n] e X (.aQ [rI (m.heap.length+1:Nat),rI 0]) (To p C { m with heap:=m.heap++[List.replicate n.toNat 0] } N):=by obtain⟨k,rfl⟩:∃k:Nat,n=k:=⟨n.toNat,jB⟩;rw[Int.toNat_natCast];exact hR.sA rfl rfl (OE m.heap k jB jB)
def J6(hR:bJ p C m N e)(n:Int)(h0:n<0\/16<n)(hl:m.heap.length<=40)(hf:m.heap.flatten.length<=40):cU prog 216 [.pt (hn 5 N.k) 0 0 0,rI n] e (.aQ [rI 0,rI 7]) e:=
 hR.kW rfl rfl (N5 m.heap n h0 hl hf)
def Q5(hR:bJ p C m N e)(n:Int)(h0:0<=n/\n<=16)(hc:40<(m.heap.length:Int)+m.heap.flatten.length+n+1)(hl:m.heap.length<=40)(hf:m.heap.flatten.length<=40):cU prog 216 [.pt (hn 5 N.k) 0 0 0,rI n] e (.aQ [rI 0,rI 4]) e:=
 hR.kW rfl rfl (KG m.heap n h0 hc hl hf)
def Q6(hR:bJ p C m N e)(h1:1<=m.calls.length):(List.map (fun j=>[AV.pt (hn 0 j) 0 0 0]) (List.map NC.c N.cs)++List.map (fun j=>[AV.pt (hn 0 j) 0 0 0]) N.cj).getD (N.cs.length-1) []=[cP N]:=by have hl:=hR.len;rw[<-List.map_append];rw[List.getD_eq_getElem?_getD,List.getElem?_map,List.getElem?_append_left (by rw[List.length_map];omega),List.getElem?_map,List.getElem?_eq_getElem jB];unfold cP NM.ah;rw[fP jB];rfl
def tG(hR:bJ p C m N e)(h1:1<=m.calls.length):cU prog 163 [mP N] e (cP N) e:=by
 have Tu:=hR.ok.low;have hl:=hR.len;have hb:=hR.bd;have hg:=Q6 hR h1;refine⟨?_,hR.ok,hR.ok,fun _ h=>h,by simp only[aX,AV.all,fW hR.root,Bool.and_self]⟩;refine aM (L:=ids e) func163 ntmps163 ?_ (hL:=rfl);generalize hB:ids e=B;refine eO ?_
 (have W:=jA Tu (jA hR.root (jA hR.row (hg)));repeat' (first|refine aq fun K hK=>?_|refine ap ?_|(with_reducible refine gR 1 ?_);refine dE 1 (aW 0 13) mixed ?_|(refine hK _ _ ?_;clear hK K)|(refine ao ?_ ?_<;>intro hc<;>try exact jz)|refine ar ?_|exact jI|(clear hK K)))
 exact dY hB hR.ok hR.ok (tl:=[]) (fun _=>rfl) dD [.tmp 2]
def Io{N:NM}{n:NC}(h:1<=N.cs.length):(N.bc n).ah=n:=by show nth (N.cs.set _ n) ((N.cs.set _ n).length-1)=n;rw[List.length_set,Go.Gd.dx _ _ _ _ jB,if_pos rfl]
def wX(hR:bJ p C m N e)(h1:1<=m.calls.length)(s t:Int):kK prog 215 [mP N,rI s,rI t] e X (.aQ []) (To p C (m.stops s t) N):=by
 have ht:=tG hR h1;have hT:=hR.ah h1;have Tu:=hR.ok.low;have hl:=hR.len;have Xh:bJ p C { m with status:=s,cX:=t } N (bh e (hn 3 N.k) (.var 205 (mE p C { m with status:=s,cX:=t } N))):=hR.l7 rfl rfl rfl;have UB:=yK e X 2 0;have hnX:=yT e X 2 0;generalize rh (ids e++X)+0=k at UB hnX;have Xp:aA (bh e (hn 3 N.k) (.var 205 (mE p C { m with status:=s,cX:=t } N))) (hn 2 k)=none:=by rw[bO,if_neg (dh jB jB jB)];exact UB
 have i1:=fW hT.eQ;have UJ:bJ p C (m.stops s t) (N.bc ⟨N.ah.c,k,[]⟩) (bh (bh (bh e (hn 3 N.k) (.var 205 (mE p C { m with status:=s,cX:=t } N))) (hn 2 k) (.aG 54 3 [])) (hn 0 N.ah.c) (.var 217 (MV.cE m.ah.back ⟨N.ah.c,k,[]⟩))):=by
  refine Xh.bc (c':=m.ah.back) (n':=⟨N.ah.c,k,[]⟩) h1 rfl ?_ ⟨?_,?_,?_,by show 0+0<=2000;omega⟩ (.inr Xp) fun j hj n0 n1 n2=>?_
  ·refine(Xh.ok.put (.inr (ix _ _)) rfl).put (.inr (ix _ _)) ?_;have j1:=fW (Xh.ah h1).eQ;have q1:=(oR (bh e (hn 3 N.k) (.var 205 (mE p C { m with status:=s,cX:=t } N))) (hn 2 k) (hn 2 k) (.aG 54 3 [])).2 (.inl rfl);have q2:=(oR (bh e (hn 3 N.k) (.var 205 (mE p C { m with status:=s,cX:=t } N))) (hn 2 k) (hn 1 N.ah.c) (.aG 54 3 [])).2 (.inr (List.contains_iff_mem.1 j1));rw[<-List.contains_iff_mem]at q1 q2;simp only[Row.cells,MV.cE,aX,AV.all,q1,q2,Bool.or_true,Bool.and_self]
  ·rw[bO,if_pos rfl]
  ·rw[bO,if_neg (dh jB jB jB),bO,if_pos rfl];rfl
  ·rw[bO,if_neg (dh jB jB jB),bO,if_neg (dh jB jB jB)];exact(Xh.ah h1).eQ
  ·rw[bO,if_neg n0,bO,if_neg (fun e'=>by subst e';exact hj Xp)]
 have hU:Up X e (bh (bh (bh e (hn 3 N.k) (.var 205 (mE p C { m with status:=s,cX:=t } N))) (hn 2 k) (.aG 54 3 [])) (hn 0 N.ah.c) (.var 217 (MV.cE m.ah.back ⟨N.ah.c,k,[]⟩))):=by
  refine((Up.put _ (.inl ?_)).trans (Up.put _ (.inr hnX))).trans (Up.put _ (.inl ?_))
  ·rw[hR.root];simp
  ·rw[bO,if_neg (dh jB jB jB),bO,if_neg (dh jB jB jB),hT.var];simp
 refine⟨_,_,⟨UJ,rfl,by rw[Io jB]⟩,hU,⟨?_,hR.ok,UJ.ok,hU.aZ,by simp only[aX,AV.all,fW hR.root,Bool.and_self]⟩⟩;have k2:=UJ.ok;clear UJ hU;generalize hE:bh (bh (bh e (hn 3 N.k) (.var 205 (mE p C { m with status:=s,cX:=t } N))) (hn 2 k) (.aG 54 3 [])) (hn 0 N.ah.c) (.var 217 (MV.cE m.ah.back ⟨N.ah.c,k,[]⟩))=E at k2 ⊢;refine aM (L:=ids e) func215 ntmps215 ?_ (hL:=rfl);generalize hB:ids e=B;refine eO ?_
 (have W:=jA Tu (jA hR.root (hT.var));repeat' (first|refine aq fun K hK=>?_|refine ap ?_|(refine hK _ _ ?_;clear hK K)|(refine ao ?_ ?_<;>intro hc<;>try exact jz)|refine cT ht ?_|refine ar ?_|exact jI|(clear hK K)))
 refine DD hB hR.ok k2 (iB.gb (t:=217) (cs:=[.raw (.slice none 0 0),rI m.ah.fn,rI m.ah.mark,rI m.ah.mark,.rs (hn 1 N.ah.c) m.ah.slots.length 3 m.ah.slots.length]) (hn 2 k) (hn 0 N.ah.c) 0 54 3 ?_ jC ?_ rfl) (tl:=[]) (fun i=>?_) dD []
 ·show aA (tie _ []) _=_;simp(disch:=first|omega|assumption|fail) only[go_sem,↓reduceIte,UB]
 ·show aA (tie _ []) _=_;simp(disch:=first|omega|assumption|fail) only[go_sem,↓reduceIte,hT.var]
 ·subst hE;simp only[Hp.put,jO,bO,aA,Option.or_none];by_cases a:i=hn 0 N.ah.c
  ·rw[if_pos a,if_pos a];rfl
  ·simp only[if_neg a];by_cases b:i=hn 2 k
   ·simp only[if_pos b]
   ·simp only[if_neg b];by_cases c:i=hn 3 N.k
    ·simp only[if_pos c];rfl
    ·simp only[if_neg c]
def xr(hR:bJ p C m N e)(h1:1<=m.calls.length)(r:aj×Int)(hb:m.ah.stack.length<=1000):kK prog 209 [mP N,rV r.1,rI r.2] e X (.aQ []) (To p C (m.dW r) N):=by
 have ht:=tG hR h1;have Tu:=hR.ok.low;have ha:∀v t:AV,v.all eo=true->t.all eo=true->aX (fun i=>(ids e).contains i) [mP N,v,t]=true:=fun v t h h'=>by simp only[aX,AV.all,fW hR.root,Bool.true_and,Bool.and_true];exact Bool.and_eq_true _ _ ▸ ⟨qu (fun _ h=>by cases h) _ h,qu (fun _ h=>by cases h) _ h'⟩
 unfold MV.dW;by_cases h0:r.2≠0
 ·rw[if_pos h0];obtain⟨N',l,hT,hU,hp⟩:=wX X hR h1 3 r.2;refine⟨N',l,hT,hU,⟨?_,hR.ok,hp.e2,hU.aZ,ha _ _ rfl rfl⟩⟩;refine aM (L:=ids e) func209 ntmps209 ?_ (hL:=rfl);generalize hB:ids e=B;refine eO ?_
  (have W:=Tu;repeat' (first|refine aq fun K hK=>?_|refine ap ?_|(refine hK _ _ ?_;clear hK K)|(refine ao ?_ ?_<;>intro hc<;>try exact jz)|refine aT 9 ?_|refine cT hp ?_|refine ar ?_|exact jI|(clear hK K)))
  exact dY hB hR.ok hp.e2 (fun _=>rfl) (dm jC dD) []
 ·rw[if_neg h0];have h0:r.2=0:=jB;obtain⟨N',l,hT,hU,hp⟩:=sy X hR h1 r.1 hb;refine⟨N',l,hT,hU,⟨?_,hR.ok,hp.e2,hU.aZ,ha _ _ rfl rfl⟩⟩;refine aM (L:=ids e) func209 ntmps209 ?_ (hL:=rfl);generalize hB:ids e=B;refine eO ?_
  (have W:=jA Tu h0;repeat' (first|refine aq fun K hK=>?_|refine ap ?_|(with_reducible refine gR 3 ?_);refine dC 3 ([],[12],[]) [] (aW 0 6) mixed ?_|(refine hK _ _ ?_;clear hK K)|(refine ao ?_ ?_<;>intro hc<;>try exact jz)|refine aT 9 ?_|refine mw ht ?_|refine cT hp ?_|refine ar ?_|exact jI|(clear hK K)))
  exact dY hB hR.ok hp.e2 (fun _=>rfl) (dm jC dD) []
end
section
variable {p:af}{C:aI}{m:MV}{N:NM}{e:TD}(X:TH)
def pZ(hR:bJ p C m N e){l:TE}(h:aX eo l=true):aX (fun i=>(ids e).contains i) (mP N::l)=true:=by simp only[aX,AV.all,fW hR.root,Bool.true_and];exact fS (fun _ h=>by cases h) _ h
def Jm(hR:bJ p C m N e)(h1:1<=m.calls.length)(v:aj)(hb:∀k,k<m.calls.length->(nth m.calls k).stack.length<=1000):kK prog 218 [mP N,rV v] e X (.aQ []) (fun N' l=>bJ p C (m.ends v) N' l/\N'.k=N.k):=by
 have Tu:=hR.ok.low;have hl:=hR.len;have Z8:=hR.bd;unfold MV.ends;by_cases h2:m.calls.length<=1
 ·rw[if_pos h2];have UJ:bJ p C { m.pop with status:=2 } N.pop (bh e (hn 3 N.k) (.var 205 (mE p C { m.pop with status:=2 } N.pop))):=hR.xa h1 rfl rfl rfl;have hU:Up X e (bh e (hn 3 N.k) (.var 205 (mE p C { m.pop with status:=2 } N.pop))):=Up.put _ (.inl (by rw[hR.root];simp));refine⟨_,_,⟨UJ,rfl⟩,hU,⟨?_,hR.ok,UJ.ok,hU.aZ,pZ hR rfl⟩⟩;have k2:=UJ.ok;clear UJ hU;generalize hE:bh e (hn 3 N.k) (.var 205 (mE p C { m.pop with status:=2 } N.pop))=E at k2 ⊢;refine aM (L:=ids e) func218 ntmps218 ?_ (hL:=rfl);generalize hB:ids e=B;refine eO ?_
  (have W:=jA Tu (hR.root);repeat' (first|refine aq fun K hK=>?_|refine ap ?_|(with_reducible refine gR 1 ?_);refine dE 1 (aW 0 15) mixed ?_|(refine hK _ _ ?_;clear hK K)|(refine ao ?_ ?_<;>intro hc<;>try exact jz)|refine aT 9 ?_|refine ar ?_|exact jI|(clear hK K)))
  refine dY (tl:=[(9,.var 54 (bS v))]) hB hR.ok k2 (fun i=>?_) (dm jC dD) [];subst hE;have e1:N.cs.length=1:=jB;simp only[jO,bO];by_cases a:i=hn 3 N.k
  ·simp only[if_pos a,Option.some_or];unfold mE NM.pop;simp[MV.pop,kf,e1,Nat.add_comm]
  ·simp only[if_neg a]
 ·rw[if_neg h2];have UJ:bJ p C m.pop N.pop (bh e (hn 3 N.k) (.var 205 (mE p C m.pop N.pop))):=hR.xa h1 rfl rfl rfl;have eE:bh e (hn 3 N.k) (.var 205 (mE p C m.pop N.pop))=bh e (hn 3 N.k) (.var 205 (kf p++[aO dn 4 C.ins,aO eI 1 C.entry,.rs (hn 4 N.k) (N.cs.length+N.cj.length) 1 (N.cs.length-1),.pt (hn 5 N.k) 0 0 0,.rs (hn 8 N.k) m.bA.length 1 m.bA.length,.raw (.int .i64 m.in_),.raw (.int .i64 m.status),.raw (.int .i64 m.cX),.raw (.int .i64 m.time)])):=by
   unfold mE NM.pop;have:N.cs.length-1+(N.cj.length+1)=N.cs.length+N.cj.length:=jB;simp[MV.pop,this]
  rw[eE]at UJ;have hU:Up X e (bh e (hn 3 N.k) (.var 205 (kf p++[aO dn 4 C.ins,aO eI 1 C.entry,.rs (hn 4 N.k) (N.cs.length+N.cj.length) 1 (N.cs.length-1),.pt (hn 5 N.k) 0 0 0,.rs (hn 8 N.k) m.bA.length 1 m.bA.length,.raw (.int .i64 m.in_),.raw (.int .i64 m.status),.raw (.int .i64 m.cX),.raw (.int .i64 m.time)]))):=Up.put _ (.inl (by rw[hR.root];simp));have p1:1<=m.pop.calls.length:=by show 1<=(m.calls.take _).length;rw[List.length_take];omega
  have ht:=tG UJ p1;have Yb:m.pop.ah.stack.length<=1000:=by have:m.pop.ah=nth m.calls (m.calls.length-1-1):=MV.qD jB;rw[this];exact hb _ jB
  obtain⟨N',l,hT,UF,hp⟩:=sy X UJ p1 v Yb;refine⟨N',l,⟨hT.1,hT.2.1⟩,hU.trans UF,⟨?_,hR.ok,hp.e2,(hU.trans UF).aZ,pZ hR rfl⟩⟩;clear hU UF eE;refine aM (L:=ids e) func218 ntmps218 ?_ (hL:=rfl);generalize hB:ids e=B;refine eO ?_
  (have W:=jA Tu (hR.root);repeat' (first|refine aq fun K hK=>?_|refine ap ?_|(with_reducible refine gR 1 ?_);refine dE 1 (aW 0 15) mixed ?_|(with_reducible refine gR 4 ?_);refine dC 4 ([],[28],[]) [] (aW 0 6) mixed ?_|(refine hK _ _ ?_;clear hK K)|(refine ao ?_ ?_<;>intro hc<;>try exact jz)|refine aT 9 ?_|refine mw ht ?_|refine cT hp ?_|refine ar ?_|exact jI|(clear hK K)))
  exact dY hB hR.ok hp.e2 (fun _=>rfl) (dm jC dD) []
structure pV(p:af)(C:aI)(m:MV)(fn:Int)(args:List aj):Prop where
 f0:0<=fn
 f1:fn<C.entry.length
 f2:fn<p.size.length
 s0:0<=nth p.size fn.toNat
 s1:nth p.size fn.toNat<=24
 s2:(args.length:Int)<=nth p.size fn.toNat
 pj:C.entry.length<=1000/\p.size.length<=1000
 calls:m.calls.length<=8
def IS(hR:bJ p C m N e)(fn:Int)(args:List aj)(hk:pV p C m fn args):kK prog 112 [mP N,rI fn,aO bS 3 args] e X (.aQ []) (fun N' l=>bJ p C (m.cO p C fn args) N' l/\N'.k=N.k):=by
 have Tu:=hR.ok.low;have hl:=hR.len;have Z8:=hR.bd;obtain⟨f0,f1,f2,s0,s1,s2,⟨b1,b2⟩,h8⟩:=hk;have n0:=yK e X 0 0;have n1:=yK e X 1 0;have n2:=yK e X 2 0;have x0:=yT e X 0 0;have x1:=yT e X 1 0;have x2:=yT e X 2 0;generalize rh (ids e++X)+0=k at n0 n1 n2 x0 x1 x2;have UJ:=hR.CQ (m':=m.cO p C fn args) (c':=ir p C fn args) (j:=k) jB rfl rfl rfl n0 n1 n2 (by show 0<=2000;omega);have hU:Up X e (nK p C (m.cO p C fn args) N (ir p C fn args) k e):=by
  unfold nK;refine((((Up.put _ (.inr x1)).trans (Up.put _ (.inr x2))).trans (Up.put _ (.inr x0))).trans (Up.put _ (.inl ?_))).trans (Up.put _ (.inl ?_))
  ·rw[bO,if_neg (dh jB jB jB),bO,if_neg (dh jB jB jB),bO,if_neg (dh jB jB jB),hR.row];simp
  ·rw[bO,if_neg (dh jB jB jB),bO,if_neg (dh jB jB jB),bO,if_neg (dh jB jB jB),bO,if_neg (dh jB jB jB),hR.root];simp
 obtain⟨n,Xo⟩:∃n:Nat,nth p.size fn.toNat=(n:Int):=⟨(nth p.size fn.toNat).toNat,jB⟩;refine⟨_,_,⟨UJ,rfl⟩,hU,⟨?_,hR.ok,UJ.ok,hU.aZ,pZ hR rfl⟩⟩;have k2:=UJ.ok;clear UJ hU;generalize hE:nK p C (m.cO p C fn args) N (ir p C fn args) k e=E at k2 ⊢;have han:args.length<=n:=jB;refine aM (L:=ids e) func112 ntmps112 ?_ (hL:=rfl);generalize hB:ids e=B;refine eO ?_
 (have W:=jA Tu (jA hR.root (jA hR.row (jA Xo (jA n0 (n1)))));repeat' (first|refine aq fun K hK=>?_|refine ap ?_|(with_reducible refine gR 0 ?_);refine dC 0 ([],[],[32]) [] (aW 0 29) mixed ?_|(refine hK _ _ ?_;clear hK K)|(refine ao ?_ ?_<;>intro hc<;>try exact jz)|refine aT (hn 0 k) ?_|refine P4 (n:=n) (hn 1 k) ?_|refine KF ?_ (hd:=by(show aA (tie _ _) _=_;rw[jO,n1,Option.none_or];exact if_pos rfl))|refine uU 10 ?_|refine qG (enc:=fun j=>[.pt (hn 0 j) 0 0 0]) (N.cs.map NC.c) N.cj [k] ?_ (hm:=by rw[List.length_map]) (hn:=by rw[List.length_map])|refine ar ?_|exact jI|(clear hK K)))
 refine DD (tl:=[(10,.aG 213 1 [[.pt (hn 0 k) 0 0 0]])]) hB hR.ok k2 (iB.gb (t:=217) (cs:=[.raw (.slice none 0 0),rI fn,rI (nth C.entry fn.toNat),rI (nth C.entry fn.toNat),.rs (hn 1 k) n 3 n]) (hn 2 k) (hn 0 k) 0 54 3 ?_ jC ?_ rfl) (fun i=>?_) (dm jC dD) []
 ·show aA (tie _ _) _=_;simp(disch:=first|omega|assumption|fail) only[go_sem,↓reduceIte,n2]
 ·show aA (tie _ _) _=_;simp(disch:=first|omega|assumption|fail) only[go_sem,↓reduceIte,n0]
 ·subst hE;have en:((nth p.size fn.toNat)-(args.length:Int)).toNat=n-args.length:=jB;have es:(ir p C fn args).slots.map bS=du (List.replicate n (bS v0)) 0 (args.map bS):=by
   show(args++List.replicate _ v0).map bS=_;unfold du;rw[en,List.map_append,List.map_replicate];simp
  have el:(ir p C fn args).slots.length=n:=by show(args++List.replicate _ v0).length=n;rw[en,List.length_append,List.length_replicate];omega
  have q4:hn 4 N.k≠hn 3 N.k:=dh jB jB jB;simp only[nK,Hp.put,jO,bO,es];by_cases a:i=hn 3 N.k
  ·subst a;simp(disch:=first|omega|assumption|fail) only[go_sem,↓reduceIte,NM.nJ,List.length_append,List.length_drop,List.length_singleton,MV.cO]
  simp only[if_neg a];by_cases b:i=hn 4 N.k
  ·subst b;simp(disch:=first|omega|assumption|fail) only[go_sem,↓reduceIte,NM.nJ,List.map_append,List.append_assoc]
  simp only[if_neg b];by_cases c:i=hn 0 k
  ·subst c;simp(disch:=first|omega|assumption|fail) only[go_sem,↓reduceIte,el];rfl
  simp only[if_neg c];by_cases d:i=hn 2 k
  ·subst d;simp(disch:=first|omega|assumption|fail) only[go_sem,↓reduceIte];rfl
  simp only[if_neg d];by_cases f:i=hn 1 k
  ·subst f;simp(disch:=first|omega|assumption|fail) only[go_sem,↓reduceIte,n1];rfl
  simp only[if_neg f,aA,if_neg c]
end
structure pn(p:af)(C:aI)(m:MV)(x:ay):Prop where
 calls:1<=m.calls.length
 nb:m.calls.length<=8
 one:x.op=6\/x.op=8\/x.op=9\/x.op=10\/x.op=11\/x.op=13\/x.op=15\/x.op=17\/x.op=18\/x.op=19\/x.op=21\/x.op=23->1<=m.ah.stack.length
 two:x.op=7\/x.op=12->2<=m.ah.stack.length
 slot:x.op=5\/x.op=6\/x.op=11\/x.op=12->0<=x.a/\x.a<m.ah.slots.length
 call:x.op=20->0<=x.b/\x.b<=m.ah.stack.length/\(m.calls.length<8->pV p C m x.a (m.ah.stack.drop (m.ah.stack.length-x.b.toNat)))
 word:x.op=15->cf m.ah.last.n
 jZ:∀v∈m.ah.stack,v.s.size<=40
 deep:∀k,k<m.calls.length->(nth m.calls k).stack.length<=1000
 slots:m.ah.slots.length<=24
 heap:gi m.heap<=40
 outs:m.bA.length<=24
 n7:0<=m.in_
 oq:m.in_<=1000
theorem pn.ah{p:af}{C:aI}{m:MV}{x:ay}(h:pn p C m x):m.ah.stack.length<=1000:=h.deep (m.calls.length-1) (by have:=h.calls;omega)
section
variable {p:af}{C:aI}{m:MV}{N:NM}{e:TD}(X:TH)
def ig(hR:bJ p C m N e)(h1:1<=m.calls.length){l:TE}(h:aX eo l=true):aX (fun i=>(ids e).contains i) (mP N::cP N::l)=true:=by simp only[aX,AV.all,fW hR.root,fW (hR.ah h1).var,Bool.true_and];exact fS (fun _ h=>by cases h) _ h
def KP(hR:bJ p C m N e)(h1:1<=m.calls.length)(x:ay)(hx:¬(x.op=2\/x.op=3\/x.op=4\/x.op=5)):cU prog 164 [mP N,cP N,.agg (dn x)] e (rB false) e:=by
 have Tu:=hR.ok.low;refine⟨?_,hR.ok,hR.ok,fun _ h=>h,ig hR h1 rfl⟩;refine aM (L:=ids e) func164 ntmps164 ?_ (hL:=rfl);generalize hB:ids e=B;refine eO ?_
 (have W:=Tu;repeat' (first|refine aq fun K hK=>?_|refine ap ?_|(with_reducible refine gR 4 ?_);refine dE 4 (aW 0 7) mixed ?_|(with_reducible refine gR 6 ?_);refine dE 6 (aW 0 8) mixed ?_|(with_reducible refine gR 8 ?_);refine dE 8 (aW 0 7) mixed ?_|(with_reducible refine gR 10 ?_);refine dE 10 (aW 0 10) mixed ?_|(refine hK _ _ ?_;clear hK K)|(refine ao ?_ ?_<;>intro hc<;>try exact jz)|refine aT 9 ?_|refine ar ?_|exact jI|(clear hK K)))
 exact dY hB hR.ok hR.ok (fun _=>rfl) (dm jC dD) [.tmp 6]
def Nf(hR:bJ p C m N e)(inp:TG)(x:ay)(hk:pn p C m x)(hx:x.op=2\/x.op=3\/x.op=4\/x.op=5):kK prog 164 [mP N,cP N,.agg (dn x)] e X (rB true) (To p C (m.ins p C inp x) N):=by
 have h1:=hk.calls;have Tu:=hR.ok.low;have h5:x.op=5->cU prog 207 [cP N,rI x.a,rI x.b] e (rV (eR m.ah.slots x.a x.b)) e:=fun h=>Aq hR h1 x.a x.b (hk.slot (.inl h)) (by have:=hk.slots;omega)
 have key:∀v:aj,((x.op=2/\v=vI x.a)\/(x.op=3/\v=vB (decide (x.a=1)))\/(x.op=4/\v=vT x.s)\/(x.op=5/\v=eR m.ah.slots x.a x.b))->kK prog 164 [mP N,cP N,.agg (dn x)] e X (rB true) (To p C (m.push v) N):=fun v hv=>by
  obtain⟨N',l,hT,hU,hp⟩:=sy X hR h1 v hk.ah;refine⟨N',l,hT,hU,⟨?_,hR.ok,hp.e2,hU.aZ,ig hR h1 rfl⟩⟩;refine aM (L:=ids e) func164 ntmps164 ?_ (hL:=rfl);generalize hB:ids e=B;refine eO ?_;rcases hv with⟨h,rfl⟩|⟨h,rfl⟩|⟨h,rfl⟩|⟨h,rfl⟩
  all_goals
   (have W:=Tu;repeat' (first|refine aq fun K hK=>?_|refine ap ?_|(with_reducible refine gR 4 ?_);refine dE 4 (aW 0 7) mixed ?_|(with_reducible refine gR 6 ?_);refine dE 6 (aW 0 8) mixed ?_|(with_reducible refine gR 8 ?_);refine dE 8 (aW 0 7) mixed ?_|(with_reducible refine gR 10 ?_);refine dC 10 ([],[47],[]) [] (aW 0 10) mixed ?_|(refine hK _ _ ?_;clear hK K)|(refine ao ?_ ?_<;>intro hc<;>try exact jz)|refine aT 9 ?_|refine cp (tx _) ?_|refine cp (wB _) ?_|refine cp (Dd _) ?_|refine mw (h5 h) ?_|refine cT hp ?_|refine ar ?_|exact jI|(clear hK K)))
  all_goals exact dY hB hR.ok hp.e2 (fun _=>rfl) (dm jC dD) [.tmp 6]
 unfold MV.ins;rcases hx with h|h|h|h
 ·have:=key (vI x.a) (.inl ⟨h,rfl⟩);simpa[h]using this
 ·have:=key (vB (decide (x.a=1))) (.inr (.inl ⟨h,rfl⟩));simpa[h]using this
 ·have:=key (vT x.s) (.inr (.inr (.inl ⟨h,rfl⟩)));simpa[h]using this
 ·have:=key (eR m.ah.slots x.a x.b) (.inr (.inr (.inr ⟨h,rfl⟩)));simpa[h]using this
end
section
variable {p:af}{C:aI}{m:MV}{N:NM}{e:TD}(X:TH)
def Kf(hR:bJ p C m N e)(h1:1<=m.calls.length)(x:ay)(hx:¬(x.op=16\/x.op=17\/x.op=18\/x.op=19)):cU prog 167 [mP N,cP N,.agg (dn x)] e (rB false) e:=by
 have Tu:=hR.ok.low;refine⟨?_,hR.ok,hR.ok,fun _ h=>h,ig hR h1 rfl⟩;refine aM (L:=ids e) func167 ntmps167 ?_ (hL:=rfl);generalize hB:ids e=B;refine eO ?_
 (have W:=Tu;repeat' (first|refine aq fun K hK=>?_|refine ap ?_|(with_reducible refine gR 10 ?_);refine dQ 10 mixed ?_|(refine hK _ _ ?_;clear hK K)|(refine ao ?_ ?_<;>intro hc<;>try exact jz)|refine aT 9 ?_|refine ar ?_|exact jI|(clear hK K)))
 exact dY hB hR.ok hR.ok (fun _=>rfl) (dm jC dD) [.tmp 6]
def O3(hR:bJ p C m N e)(inp:TG)(x:ay)(hk:pn p C m x)(hx:x.op=16\/x.op=17\/x.op=18\/x.op=19):kK prog 167 [mP N,cP N,.agg (dn x)] e X (rB true) (To p C (m.ins p C inp x) N):=by
 have h1:=hk.calls;have Tu:=hR.ok.low;have hT:=hR.ah h1;by_cases VB:x.op=16
 ·have ei:m.ins p C inp x=m.bc (m.ah.jump x.a):=by unfold MV.ins;simp[VB]
  rw[ei];have UJ:=hR.j5 h1 (c':=m.ah.jump x.a) rfl rfl;have hU:Up X e (bh e (hn 0 N.ah.c) (.var 217 (MV.cE (m.ah.jump x.a) N.ah))):=Up.put _ (.inl (by rw[hT.var];simp));refine⟨_,_,⟨UJ,rfl,rfl⟩,hU,⟨?_,hR.ok,UJ.ok,hU.aZ,ig hR h1 rfl⟩⟩;have k2:=UJ.ok;clear UJ hU;generalize hE:bh e (hn 0 N.ah.c) (.var 217 (MV.cE (m.ah.jump x.a) N.ah))=E at k2 ⊢;refine aM (L:=ids e) func167 ntmps167 ?_ (hL:=rfl);generalize hB:ids e=B;refine eO ?_
  (have W:=jA Tu (hT.var);repeat' (first|refine aq fun K hK=>?_|refine ap ?_|(with_reducible refine gR 10 ?_);refine dQ 10 mixed ?_|(refine hK _ _ ?_;clear hK K)|(refine ao ?_ ?_<;>intro hc<;>try exact jz)|refine aT 9 ?_|refine ar ?_|exact jI|(clear hK K)))
  subst hE;exact dY hB hR.ok k2 (fun _=>rfl) (dm jC dD) [.tmp 6]
 have VO:=hk.one jB;obtain⟨N1,l1,TT,Uf,U0⟩:=Hw X hR h1 VO;have YD:1<=(m.cut 1).calls.length:=by rw[show(m.cut 1).calls.length=m.calls.length from MV.bH _ _];exact h1
 have Uc:=TT.1.ok.low;have X1:=(TT.1.ah YD).var;rw[TT.2.2]at X1;have Uz:=TT.1.j5 YD (c':=(m.cut 1).ah.jump x.a) rfl rfl;have UF:Up X l1 (bh l1 (hn 0 N1.ah.c) (.var 217 (MV.cE ((m.cut 1).ah.jump x.a) N1.ah))):=Up.put _ (.inl (by rw[TT.2.2,X1];simp));by_cases h17:x.op=17
 ·by_cases hz:m.ah.last.n=0
  ·have ei:m.ins p C inp x=(m.cut 1).bc ((m.cut 1).ah.jump x.a):=by
    unfold MV.ins;simp only[h17,hz];unfold MV.cut;rw[MV.dr,MV.bp h1];rfl
   rw[ei];refine⟨_,_,⟨Uz,TT.2.1,TT.2.2⟩,Uf.trans UF,⟨?_,hR.ok,Uz.ok,(Uf.trans UF).aZ,ig hR h1 rfl⟩⟩;have k2:=Uz.ok;clear Uz Uf UF;generalize hE:bh l1 (hn 0 N1.ah.c) (.var 217 (MV.cE ((m.cut 1).ah.jump x.a) N1.ah))=E at k2 ⊢;refine aM (L:=ids e) func167 ntmps167 ?_ (hL:=rfl);generalize hB:ids e=B;refine eO ?_
   (have W:=jA Tu (jA Uc (jA X1 (hz)));repeat' (first|refine aq fun K hK=>?_|refine ap ?_|(with_reducible refine gR 10 ?_);refine dQ 10 mixed ?_|(refine hK _ _ ?_;clear hK K)|(refine ao ?_ ?_<;>intro hc<;>try exact jz)|refine aT 9 ?_|refine cT U0 ?_|refine ar ?_|exact jI|(clear hK K)))
   subst hE;refine dY (tl:=[(9,.var 219 (dn x))]) hB hR.ok k2 (fun i=>?_) (dm jC dD) [.tmp 6];have:=TT.2.2;unfold MV.cE;rw[this];rfl
  ·have ei:m.ins p C inp x=m.cut 1:=by unfold MV.ins;simp only[h17];simp[hz]
   rw[ei];refine⟨_,_,TT,Uf,⟨?_,hR.ok,U0.e2,Uf.aZ,ig hR h1 rfl⟩⟩;refine aM (L:=ids e) func167 ntmps167 ?_ (hL:=rfl);generalize hB:ids e=B;refine eO ?_
   (have W:=jA Tu Uc;repeat' (first|refine aq fun K hK=>?_|refine ap ?_|(with_reducible refine gR 10 ?_);refine dQ 10 mixed ?_|(refine hK _ _ ?_;clear hK K)|(refine ao ?_ ?_<;>intro hc<;>try exact jz)|refine aT 9 ?_|refine cT U0 ?_|refine ar ?_|exact jI|(clear hK K)))
   exact dY hB hR.ok U0.e2 (fun _=>rfl) (dm jC dD) [.tmp 6]
 have Wg:=Qa hR h1 VO;have h2:x.op=18\/x.op=19:=jB;have W8:m.ins p C inp x=if(m.ah.last.n=1<->x.op=19)then m.bc (m.ah.jump x.a)else m.cut 1:=by unfold MV.ins;rcases h2 with h|h<;>simp only[h]<;>rfl
 by_cases hj:(m.ah.last.n=1<->x.op=19)
 ·have ei:m.ins p C inp x=m.bc (m.ah.jump x.a):=by rw[W8,if_pos hj]
  rw[ei];have Yk:=hR.j5 h1 (c':=m.ah.jump x.a) rfl rfl;have hU:Up X e (bh e (hn 0 N.ah.c) (.var 217 (MV.cE (m.ah.jump x.a) N.ah))):=Up.put _ (.inl (by rw[hT.var];simp));refine⟨_,_,⟨Yk,rfl,rfl⟩,hU,⟨?_,hR.ok,Yk.ok,hU.aZ,ig hR h1 rfl⟩⟩;have k2:=Yk.ok;clear Yk hU Uz UF Uf;generalize hE:bh e (hn 0 N.ah.c) (.var 217 (MV.cE (m.ah.jump x.a) N.ah))=E at k2 ⊢;have hj':(decide (m.ah.last.n=1) == decide (x.op=19))=true:=by by_cases a:m.ah.last.n=1<;>by_cases b:x.op=19<;>simp[a,b]at hj ⊢
  refine aM (L:=ids e) func167 ntmps167 ?_ (hL:=rfl);generalize hB:ids e=B;refine eO ?_;rcases h2 with h|h
  all_goals
   (have W:=jA Tu (jA hT.var (hj'));repeat' (first|refine aq fun K hK=>?_|refine ap ?_|(with_reducible refine gR 10 ?_);refine dC 10 ([],[35],[]) [] (aW 0 10) mixed ?_|(refine hK _ _ ?_;clear hK K)|(refine ao ?_ ?_<;>intro hc<;>try exact jz)|refine aT 9 ?_|refine mw Wg ?_|refine ar ?_|exact jI|(clear hK K)))
  all_goals
   subst hE;exact dY hB hR.ok k2 (fun _=>rfl) (dm jC dD) [.tmp 6]
 ·have ei:m.ins p C inp x=m.cut 1:=by rw[W8,if_neg hj]
  rw[ei];refine⟨_,_,TT,Uf,⟨?_,hR.ok,U0.e2,Uf.aZ,ig hR h1 rfl⟩⟩;have hj':(decide (m.ah.last.n=1) == decide (x.op=19))=false:=by by_cases a:m.ah.last.n=1<;>by_cases b:x.op=19<;>simp[a,b]at hj ⊢
  refine aM (L:=ids e) func167 ntmps167 ?_ (hL:=rfl);generalize hB:ids e=B;refine eO ?_;rcases h2 with h|h
  all_goals
   (have W:=jA Tu (hj');repeat' (first|refine aq fun K hK=>?_|refine ap ?_|(with_reducible refine gR 10 ?_);refine dC 10 ([],[35],[]) [] (aW 0 10) mixed ?_|(refine hK _ _ ?_;clear hK K)|(refine ao ?_ ?_<;>intro hc<;>try exact jz)|refine aT 9 ?_|refine mw Wg ?_|refine cT U0 ?_|refine ar ?_|exact jI|(clear hK K)))
  all_goals exact dY hB hR.ok U0.e2 (fun _=>rfl) (dm jC dD) [.tmp 6]
end
end Go.Proofs.YtjpcgmjaipfgdaaGreatDoor
namespace Go.Proofs.YtjpcgmjaipfgdaaGreatDoor
open Go Go.Gd Tryz
theorem Fz:∀h:TF,h.foldl lq (0:Int)=(h.flatten.length:Int)
 |[]=>rfl
 |x::h=>by show h.foldl lq (lq 0 x)=_;rw[nr,Fz h,List.flatten_cons,List.length_append];show(0:Int)+(x.length:Int)+_=_;omega
def wK(h:TF):gi h=h.length+h.flatten.length:=by unfold gi;rw[nr,Fz]
end Go.Proofs.YtjpcgmjaipfgdaaGreatDoor
namespace Go.Proofs.YtjpcgmjaipfgdaaGreatDoor
open Go Go.Gd Tryz Go.Gd.MV
section
variable {p:af}{C:aI}{m:MV}{N:NM}{e:TD}(X:TH)
def xm(hR:bJ p C m N e)(h1:1<=m.calls.length)(hb:1<=m.ah.stack.length):∃N' l,(To p C (m.cut 1) N N' l/\N'.ah.v=N.ah.v)/\Up X e l/\cU prog 208 [cP N] e (rV m.ah.last) l/\∀C D,CM ([hn 2 N.ah.v,hn 16 N.ah.c],C,D) e l:=by
 have ht:=hR.ah h1;have VG:=ht.bd;have hl:=hR.len;have e1:m.ah.stack.take (m.ah.stack.length-1)++[m.ah.last]=m.ah.stack:=by unfold MC.last;rw[fP jB,List.take_append_getElem,show m.ah.stack.length-1+1=m.ah.stack.length from jB,List.take_length]
 have O':(m.ah.stack.take (m.ah.stack.length-1)).length=m.ah.stack.length-1:=by rw[List.length_take];omega
 have hc:=DE m.ah.fn m.ah.at_ m.ah.mark (m.ah.stack.take (m.ah.stack.length-1)) N.ah.jk m.ah.slots m.ah.last (by rw[O'];omega);rw[e1]at hc;have hb3:(m.ah.cut 1).stack.length+(m.ah.last::N.ah.jk).length<=2000:=by show(m.ah.stack.take (m.ah.stack.length-1)).length+_<=_;rw[O',List.length_cons];omega
 obtain⟨⟨h2,h3⟩,h4,h5⟩:=hR.nn (X:=X) h1 (c':=m.ah.cut 1) hb3 rfl rfl hc;refine⟨_,_,⟨⟨h2,rfl,h3⟩,by rw[Io jB]⟩,h4,h5,fun C D j hj hje=>?_⟩;have Wf:j≠hn 2 N.ah.v:=fun e'=>by subst e';simp at hj
 unfold kL;by_cases h0:j=hn 0 N.ah.c
 ·right
  subst h0;refine⟨by rw[NB];simp,217,_,.rs (hn 2 N.ah.v) ((m.ah.cut 1).stack.length+(m.ah.last::N.ah.jk).length) 3 (m.ah.cut 1).stack.length,_,ht.var,?_⟩;rw[bO,if_neg (dh jB jB jB),bO,if_neg (dh jB jB jB),bO,if_pos rfl];rfl
 ·left
  rw[bO];by_cases X6:j=hn 1 N.ah.c
  ·rw[if_pos X6];subst X6;rw[ht.eQ];rfl
  ·rw[if_neg X6,bO,if_neg Wf,bO,if_neg h0]
def Lb(hR:bJ p C m N e)(h1:1<=m.calls.length)(x:ay)(hx:¬(x.op=7\/x.op=8\/x.op=9\/x.op=10)):cU prog 165 [mP N,cP N,.agg (dn x)] e (rB false) e:=by
 have Tu:=hR.ok.low;refine⟨?_,hR.ok,hR.ok,fun _ h=>h,ig hR h1 rfl⟩;refine aM (L:=ids e) func165 ntmps165 ?_ (hL:=rfl);generalize hB:ids e=B;refine eO ?_
 (have W:=Tu;repeat' (first|refine aq fun K hK=>?_|refine ap ?_|(refine hK _ _ ?_;clear hK K)|(refine ao ?_ ?_<;>intro hc<;>try exact jz)|refine aT 9 ?_|refine ar ?_|exact jI|(clear hK K)))
 exact dY hB hR.ok hR.ok (fun _=>rfl) (dm jC dD) [.tmp 6]
def Ej(h1:1<=m.calls.length)(a b:Nat)(Z5:a+b<=m.ah.stack.length):(m.cut a).cut b=m.cut (a+b):=by
 unfold MV.cut;rw[MV.dr,MV.bp h1];congr 1
 unfold MC.cut;simp only[List.length_take];rw[Nat.min_eq_left jB,List.take_take,Nat.min_eq_left jB];congr 1
 ·congr 1;omega
 ·omega
def Ha(hb:1<=m.ah.stack.length):m.ah.last∈m.ah.stack:=by unfold MC.last;rw[fP jB];exact List.getElem_mem _
def O6(hb:2<=m.ah.stack.length):(m.ah.cut 1).last∈m.ah.stack:=by unfold MC.last MC.cut;simp only[List.length_take];rw[Nat.min_eq_left jB,Go.Gd.MV.gD jB,fP jB];exact List.getElem_mem _
def JQ(hR:bJ p C m N e)(inp:TG)(x:ay)(hk:pn p C m x)(hx:x.op=7\/x.op=8\/x.op=9\/x.op=10):kK prog 165 [mP N,cP N,.agg (dn x)] e X (rB true) (To p C (m.ins p C inp x) N):=by
 have h1:=hk.calls;have Tu:=hR.ok.low;have hdp:=hk.ah;have Vm:1<=m.ah.stack.length:=by
  by_cases h7:x.op=7
  ·have:=hk.two (.inl h7);omega
  ·exact hk.one jB
 obtain⟨N1,l1,⟨TT,X1⟩,Uf,U0,VN⟩:=xm X hR h1 Vm;have T9:(m.cut 1).calls.length=m.calls.length:=MV.bH _ _;have WW:(m.cut 1).ah=m.ah.cut 1:=MV.bp h1 _;have Xt:(m.cut 1).ah.stack.length=m.ah.stack.length-1:=by rw[WW];show(m.ah.stack.take _).length=_;rw[List.length_take];omega
 have Uc:=TT.1.ok.low;have eN1:cP N1=cP N:=by unfold cP;rw[TT.2.2]
 have eM1:mP N1=mP N:=by unfold mP;rw[TT.2.1]
 by_cases h7:x.op=7
 ·have h2:=hk.two (.inl h7);rw[EV _ _ _ _ _ h7];obtain⟨N2,l2,⟨UA,XD⟩,UF,Xf,Zc⟩:=xm X TT.1 jB jB;rw[eN1,WW]at Xf;rw[X1,TT.2.2]at Zc;have ecc:(m.cut 1).cut 1=m.cut 2:=Ej h1 1 1 jB;rw[ecc]at UA;have Ve:=UA.1.ok.low;have hc2:(m.cut 2).calls.length=m.calls.length:=MV.bH _ _;have hs2:(m.cut 2).ah.stack.length<=1000:=by rw[show(m.cut 2).ah=m.ah.cut 2 from MV.bp h1 _];show(m.ah.stack.take _).length<=_;rw[List.length_take];omega
  obtain⟨N',l,hT,hU,hp⟩:=xr X UA.1 jB (qk x.s (m.ah.cut 1).last m.ah.last) hs2;rw[show mP N2=mP N by unfold mP;rw[UA.2.1,TT.2.1]]at hp;have haD:=hk.jZ _ (Ha Vm);have hsz2:=hk.jZ _ (O6 h2);have hbn:=SR x.s (m.ah.cut 1).last m.ah.last jB jB;refine⟨N',l,⟨hT.1,hT.2.1.trans (UA.2.1.trans TT.2.1),hT.2.2.trans (UA.2.2.trans TT.2.2)⟩,Uf.trans (UF.trans hU),⟨?_,hR.ok,hp.e2,(Uf.trans (UF.trans hU)).aZ,ig hR h1 rfl⟩⟩;refine aM (L:=ids e) func165 ntmps165 ?_ (hL:=rfl);generalize hB:ids e=B;refine eO ?_
  (have W:=jA Tu (jA Uc (Ve));repeat' (first|refine aq fun K hK=>?_|refine ap ?_|(with_reducible refine gR 5 ?_);refine qw 5 [hn 2 N.ah.v,hn 16 N.ah.c] [] [24] [] [0,1,2,3,4,5,7,6,8,9,10,11] mixed ?_|(refine hK _ _ ?_;clear hK K)|(refine ao ?_ ?_<;>intro hc<;>try exact jz)|refine aT 9 ?_|refine cH 10 ?_|refine cT U0 ?_|refine nU Xf (Zc _ _) ?_|refine cp (hbn) ?_|refine cT hp ?_|refine ar ?_|exact jI|(clear hK K)))
  exact dY hB hR.ok hp.e2 (fun _=>rfl) (dm jC (dm jC dD)) [.tmp 6]
 by_cases h10:x.op=10
 ·rw[HU _ _ _ _ _ h10];have haD:=hk.jZ _ (Ha Vm);have Xk:=hk.heap;rw[wK]at Xk;have T3:=Rv TT.1 m.ah.last.n (by show m.heap.length<=1000;omega) (by show m.heap.flatten.length<=1000;omega);have Zx:=TT.1.root;rw[TT.2.1]at Zx T3;by_cases Wi:m.ah.last.ty=4
  ·rw[if_pos Wi];obtain⟨N',l,hT,hU,hp⟩:=sy X TT.1 jB (vI (bk m.heap m.ah.last.n).length) jB;rw[eN1]at hp;refine⟨N',l,⟨hT.1,hT.2.1.trans TT.2.1,hT.2.2.trans TT.2.2⟩,Uf.trans hU,⟨?_,hR.ok,hp.e2,(Uf.trans hU).aZ,ig hR h1 rfl⟩⟩;refine aM (L:=ids e) func165 ntmps165 ?_ (hL:=rfl);generalize hB:ids e=B;refine eO ?_
   (have W:=jA Tu (jA Uc (jA Zx (TT.2.1)));repeat' (first|refine aq fun K hK=>?_|refine ap ?_|(with_reducible refine gR 14 ?_);refine dC 14 ([],[70],[]) [] (aW 0 8) mixed ?_|(with_reducible refine gR 15 ?_);refine dE 15 (aW 0 6) mixed ?_|(refine hK _ _ ?_;clear hK K)|(refine ao ?_ ?_<;>intro hc<;>try exact jz)|refine aT 9 ?_|refine cH 10 ?_|refine mw T3 ?_|refine cT U0 ?_|refine cp (tx _) ?_|refine cT hp ?_|refine ar ?_|exact jI|(clear hK K)))
   exact dY hB hR.ok hp.e2 (fun _=>rfl) (dm jC (dm jC dD)) [.tmp 6]
  ·rw[if_neg Wi];obtain⟨N',l,hT,hU,hp⟩:=sy X TT.1 jB (vI m.ah.last.s.size) jB;rw[eN1]at hp;refine⟨N',l,⟨hT.1,hT.2.1.trans TT.2.1,hT.2.2.trans TT.2.2⟩,Uf.trans hU,⟨?_,hR.ok,hp.e2,(Uf.trans hU).aZ,ig hR h1 rfl⟩⟩;refine aM (L:=ids e) func165 ntmps165 ?_ (hL:=rfl);generalize hB:ids e=B;refine eO ?_
   (have W:=jA Tu Uc;repeat' (first|refine aq fun K hK=>?_|refine ap ?_|(with_reducible refine gR 15 ?_);refine dE 15 (aW 0 6) mixed ?_|(refine hK _ _ ?_;clear hK K)|(refine ao ?_ ?_<;>intro hc<;>try exact jz)|refine aT 9 ?_|refine cH 10 ?_|refine cT U0 ?_|refine cp (tx _) ?_|refine cT hp ?_|refine ar ?_|exact jI|(clear hK K)))
   exact dY hB hR.ok hp.e2 (fun _=>rfl) (dm jC (dm jC dD)) [.tmp 6]
 have key:∀g:TI,((x.op=8/\g=(⟨#[45]⟩:TI))\/(x.op=9/\g=(⟨#[33]⟩:TI)))->kK prog 165 [mP N,cP N,.agg (dn x)] e X (rB true) (To p C ((m.cut 1).push (mH g m.ah.last)) N):=fun g hg=>by
  obtain⟨N',l,hT,hU,hp⟩:=sy X TT.1 jB (mH g m.ah.last) jB;rw[eN1]at hp;refine⟨N',l,⟨hT.1,hT.2.1.trans TT.2.1,hT.2.2.trans TT.2.2⟩,Uf.trans hU,⟨?_,hR.ok,hp.e2,(Uf.trans hU).aZ,ig hR h1 rfl⟩⟩;refine aM (L:=ids e) func165 ntmps165 ?_ (hL:=rfl);generalize hB:ids e=B;refine eO ?_;rcases hg with⟨h,rfl⟩|⟨h,rfl⟩
  all_goals
   (have W:=jA Tu Uc;repeat' (first|refine aq fun K hK=>?_|refine ap ?_|(with_reducible refine gR 7 ?_);refine dE 7 (aW 0 9) mixed ?_|(with_reducible refine gR 9 ?_);refine dE 9 (aW 0 9) mixed ?_|(refine hK _ _ ?_;clear hK K)|(refine ao ?_ ?_<;>intro hc<;>try exact jz)|refine aT 9 ?_|refine cT U0 ?_|refine cp (OW _ _) ?_|refine cT hp ?_|refine ar ?_|exact jI|(clear hK K)))
  all_goals exact dY hB hR.ok hp.e2 (fun _=>rfl) (dm jC dD) [.tmp 6]
 by_cases h8:x.op=8
 ·rw[Ea _ _ _ _ _ h8];exact key _ (.inl ⟨h8,rfl⟩)
 ·have h9:x.op=9:=jB;rw[Fh _ _ _ _ _ h9];exact key _ (.inr ⟨h9,rfl⟩)
end
section
variable {p:af}{C:aI}{m:MV}{N:NM}{e:TD}(X:TH)
def M5(hR:bJ p C m N e)(h1:1<=m.calls.length)(x:ay)(hx:¬(x.op=6\/x.op=23\/x.op=11\/x.op=12\/x.op=13)):cU prog 166 [mP N,cP N,.agg (dn x)] e (rB false) e:=by
 have Tu:=hR.ok.low;refine⟨?_,hR.ok,hR.ok,fun _ h=>h,ig hR h1 rfl⟩;refine aM (L:=ids e) func166 ntmps166 ?_ (hL:=rfl);generalize hB:ids e=B;refine eO ?_
 (have W:=Tu;repeat' (first|refine aq fun K hK=>?_|refine ap ?_|(refine hK _ _ ?_;clear hK K)|(refine ao ?_ ?_<;>intro hc<;>try exact jz)|refine aT 9 ?_|refine ar ?_|exact jI|(clear hK K)))
 exact dY hB hR.ok hR.ok (fun _=>rfl) (dm jC dD) [.tmp 6]
def La(hR:bJ p C m N e)(inp:TG)(x:ay)(hk:pn p C m x)(hx:x.op=6\/x.op=23\/x.op=11\/x.op=12\/x.op=13):kK prog 166 [mP N,cP N,.agg (dn x)] e X (rB true) (To p C (m.ins p C inp x) N):=by
 have h1:=hk.calls;have Tu:=hR.ok.low;have hdp:=hk.ah;have hT:=hR.ah h1;have Vm:1<=m.ah.stack.length:=by
  by_cases Yz:x.op=12
  ·have:=hk.two (.inr Yz);omega
  ·exact hk.one jB
 obtain⟨N1,l1,⟨TT,X1⟩,Uf,U0,VN⟩:=xm X hR h1 Vm;have T9:(m.cut 1).calls.length=m.calls.length:=MV.bH _ _;have WW:(m.cut 1).ah=m.ah.cut 1:=MV.bp h1 _;have Xt:(m.cut 1).ah.stack.length=m.ah.stack.length-1:=by rw[WW];show(m.ah.stack.take _).length=_;rw[List.length_take];omega
 have Uc:=TT.1.ok.low;have eN1:cP N1=cP N:=by unfold cP;rw[TT.2.2]
 have eM1:mP N1=mP N:=by unfold mP;rw[TT.2.1]
 have Xk:=hk.heap;rw[wK]at Xk;have Zx:=TT.1.root;rw[TT.2.1]at Zx;by_cases h23:x.op=23
 ·rw[GW _ _ _ _ _ h23];refine⟨N1,l1,TT,Uf,⟨?_,hR.ok,U0.e2,Uf.aZ,ig hR h1 rfl⟩⟩;refine aM (L:=ids e) func166 ntmps166 ?_ (hL:=rfl);generalize hB:ids e=B;refine eO ?_
  (have W:=jA Tu Uc;repeat' (first|refine aq fun K hK=>?_|refine ap ?_|(refine hK _ _ ?_;clear hK K)|(refine ao ?_ ?_<;>intro hc<;>try exact jz)|refine aT 9 ?_|refine cT U0 ?_|refine ar ?_|exact jI|(clear hK K)))
  exact dY hB hR.ok U0.e2 (fun _=>rfl) (dm jC dD) [.tmp 6]
 by_cases h6:x.op=6
 ·rw[GR _ _ _ _ _ h6];have UM:=hk.slot jB;have hss:=hk.slots;have Uz:=TT.1.sK jB (m.ah.slots.set x.a.toNat m.ah.last) (by rw[List.length_set,WW];rfl);have em:(m.cut 1).bc { (m.cut 1).ah with slots:=m.ah.slots.set x.a.toNat m.ah.last }=m.bc { m.ah.cut 1 with slots:=m.ah.slots.set x.a.toNat m.ah.last }:=by
   rw[WW];unfold MV.cut;rw[MV.dr]
  rw[em]at Uz;have XR:=(TT.1.ah jB).eQ;rw[TT.2.2,WW]at XR;have XR:aA l1 (hn 1 N.ah.c)=some (.aG 54 3 (m.ah.slots.map bS)):=XR;rw[TT.2.2]at Uz;have UF:Up X l1 (bh l1 (hn 1 N.ah.c) (.aG 54 3 ((m.ah.slots.set x.a.toNat m.ah.last).map bS))):=Up.put _ (.inl (by rw[XR];simp));refine⟨N1,_,⟨Uz,TT.2.1,TT.2.2⟩,Uf.trans UF,⟨?_,hR.ok,Uz.ok,(Uf.trans UF).aZ,ig hR h1 rfl⟩⟩;have k2:=Uz.ok;clear Uz UF Uf em;generalize hE:bh l1 (hn 1 N.ah.c) (.aG 54 3 ((m.ah.slots.set x.a.toNat m.ah.last).map bS))=E at k2 ⊢;refine aM (L:=ids e) func166 ntmps166 ?_ (hL:=rfl);generalize hB:ids e=B;refine eO ?_
  (have W:=jA Tu (jA Uc (jA hT.var (XR)));repeat' (first|refine aq fun K hK=>?_|refine ap ?_|(with_reducible refine gR 4 ?_);refine qw 4 [hn 2 N.ah.v,hn 16 N.ah.c] [] [26,1000000] [] (aW 0 12) mixed ?_|(refine hK _ _ ?_;clear hK K)|(refine ao ?_ ?_<;>intro hc<;>try exact jz)|refine aT 9 ?_|refine nU U0 (VN _ _) ?_|refine ar ?_|exact jI|(clear hK K)))
  subst hE;refine dY (tl:=[(9,.var 219 (dn x))]) hB hR.ok k2 (fun i=>?_) (dm jC dD) [.tmp 6];rw[List.map_set];rfl
 by_cases YD:x.op=11
 ·rw[Hi _ _ _ _ _ YD];have UM:=hk.slot jB;have VE:=Aq hR h1 x.a 4 UM (by have:=hk.slots;omega);have Wo:=Oc TT.1 (eR m.ah.slots x.a 4).n m.ah.last.n (by show m.heap.length<=1000;omega) (by show m.heap.flatten.length<=1000;omega);rw[TT.2.1]at Wo;have Wo:cU prog 213 [.pt (hn 5 N.k) 0 0 0,rI (eR m.ah.slots x.a 4).n,rI m.ah.last.n] l1 (.aQ [rI (if m.ah.last.n<0\/((bk m.heap (eR m.ah.slots x.a 4).n).length:Int)<=m.ah.last.n then 0 else nth (bk m.heap (eR m.ah.slots x.a 4).n) m.ah.last.n.toNat),rI (if m.ah.last.n<0\/((bk m.heap (eR m.ah.slots x.a 4).n).length:Int)<=m.ah.last.n then 2 else 0)]) l1:=Wo;have eg:(if m.ah.last.n<0\/((bk m.heap (eR m.ah.slots x.a 4).n).length:Int)<=m.ah.last.n then(m.cut 1).stops 3 2 else(m.cut 1).push (vI (nth (bk m.heap (eR m.ah.slots x.a 4).n) m.ah.last.n.toNat)))=(m.cut 1).dW (vI (if m.ah.last.n<0\/((bk m.heap (eR m.ah.slots x.a 4).n).length:Int)<=m.ah.last.n then 0 else nth (bk m.heap (eR m.ah.slots x.a 4).n) m.ah.last.n.toNat),if m.ah.last.n<0\/((bk m.heap (eR m.ah.slots x.a 4).n).length:Int)<=m.ah.last.n then 2 else 0):=by
   unfold MV.dW;split
   ·rename_i h;simp only[if_pos h];rfl
   ·rename_i h;simp only[if_neg h];rfl
  rw[eg];generalize (if m.ah.last.n<0\/((bk m.heap (eR m.ah.slots x.a 4).n).length:Int)<=m.ah.last.n then(0:Int)else nth (bk m.heap (eR m.ah.slots x.a 4).n) m.ah.last.n.toNat)=gn at Wo ⊢;generalize (if m.ah.last.n<0\/((bk m.heap (eR m.ah.slots x.a 4).n).length:Int)<=m.ah.last.n then(2:Int)else 0)=gt at Wo ⊢;obtain⟨N',l,UA,hU,hp⟩:=xr X TT.1 jB (vI gn,gt) jB;rw[eM1]at hp;refine⟨N',l,⟨UA.1,UA.2.1.trans TT.2.1,UA.2.2.trans TT.2.2⟩,Uf.trans hU,⟨?_,hR.ok,hp.e2,(Uf.trans hU).aZ,ig hR h1 rfl⟩⟩;refine aM (L:=ids e) func166 ntmps166 ?_ (hL:=rfl);generalize hB:ids e=B;refine eO ?_
  (have W:=jA Tu (jA Uc (hR.root));repeat' (first|refine aq fun K hK=>?_|refine ap ?_|(with_reducible refine gR 8 ?_);refine qw 8 [hn 2 N.ah.v,hn 16 N.ah.c] [44,51] [49] [] (aW 0 20) mixed ?_|(refine hK _ _ ?_;clear hK K)|(refine ao ?_ ?_<;>intro hc<;>try exact jz)|refine aT 9 ?_|refine mw VE ?_|refine nU U0 (VN _ _) ?_|refine mw Wo ?_|refine cp (tx _) ?_|refine cT hp ?_|refine ar ?_|exact jI|(clear hK K)))
  exact dY hB hR.ok hp.e2 (fun _=>rfl) (dm jC dD) [.tmp 6]
 by_cases h13:x.op=13
 ·rw[Ic _ _ _ _ _ h13];by_cases c1:m.ah.last.n<0\/16<m.ah.last.n
  ·rw[if_pos c1];have Xu:=J6 TT.1 m.ah.last.n c1 (by show m.heap.length<=40;omega) (by show m.heap.flatten.length<=40;omega);rw[TT.2.1]at Xu;obtain⟨N',l,UA,hU,hp⟩:=xr X TT.1 jB (⟨4,0,sE⟩,7) jB;rw[eM1]at hp;refine⟨N',l,⟨UA.1,UA.2.1.trans TT.2.1,UA.2.2.trans TT.2.2⟩,Uf.trans hU,⟨?_,hR.ok,hp.e2,(Uf.trans hU).aZ,ig hR h1 rfl⟩⟩;refine aM (L:=ids e) func166 ntmps166 ?_ (hL:=rfl);generalize hB:ids e=B;refine eO ?_
   (have W:=jA Tu (jA Uc (hR.root));repeat' (first|refine aq fun K hK=>?_|refine ap ?_|(with_reducible refine gR 16 ?_);refine qw 16 [hn 2 N.ah.v,hn 16 N.ah.c] [] [97] [] (aW 0 15) mixed ?_|(refine hK _ _ ?_;clear hK K)|(refine ao ?_ ?_<;>intro hc<;>try exact jz)|refine aT 9 ?_|refine nU U0 (VN _ _) ?_|refine cT Xu ?_|refine cT hp ?_|refine ar ?_|exact jI|(clear hK K)))
   exact dY hB hR.ok hp.e2 (fun _=>rfl) (dm jC dD) [.tmp 6]
  rw[if_neg c1];by_cases c2:40<gi m.heap+m.ah.last.n+1
  ·rw[if_pos c2];have Xu:=Q5 TT.1 m.ah.last.n jB (by show 40<(m.heap.length:Int)+m.heap.flatten.length+m.ah.last.n+1;rw[wK]at c2;omega) (by show m.heap.length<=40;omega) (by show m.heap.flatten.length<=40;omega);rw[TT.2.1]at Xu;obtain⟨N',l,UA,hU,hp⟩:=xr X TT.1 jB (⟨4,0,sE⟩,4) jB;rw[eM1]at hp;refine⟨N',l,⟨UA.1,UA.2.1.trans TT.2.1,UA.2.2.trans TT.2.2⟩,Uf.trans hU,⟨?_,hR.ok,hp.e2,(Uf.trans hU).aZ,ig hR h1 rfl⟩⟩;refine aM (L:=ids e) func166 ntmps166 ?_ (hL:=rfl);generalize hB:ids e=B;refine eO ?_
   (have W:=jA Tu (jA Uc (hR.root));repeat' (first|refine aq fun K hK=>?_|refine ap ?_|(with_reducible refine gR 16 ?_);refine qw 16 [hn 2 N.ah.v,hn 16 N.ah.c] [] [97] [] (aW 0 15) mixed ?_|(refine hK _ _ ?_;clear hK K)|(refine ao ?_ ?_<;>intro hc<;>try exact jz)|refine aT 9 ?_|refine nU U0 (VN _ _) ?_|refine cT Xu ?_|refine cT hp ?_|refine ar ?_|exact jI|(clear hK K)))
   exact dY hB hR.ok hp.e2 (fun _=>rfl) (dm jC dD) [.tmp 6]
  rw[if_neg c2];obtain⟨N2,l2,UA,UF,Xu⟩:=Su X TT.1 m.ah.last.n jB (by show gi m.heap+_+1<=40;omega) (wK _);rw[TT.2.1]at Xu;have Xu:cU prog 216 [.pt (hn 5 N.k) 0 0 0,rI m.ah.last.n] l1 (.aQ [rI (m.heap.length+1:Nat),rI 0]) l2:=Xu;obtain⟨N',l,YE,hU3,hp⟩:=sy X UA.1 (by show 1<=(m.cut 1).calls.length;omega) ⟨4,m.heap.length+1,sE⟩ (by show(m.cut 1).ah.stack.length<=1000;omega);obtain⟨N'',l',hT4,hU4,hp4⟩:=xr X UA.1 (by show 1<=(m.cut 1).calls.length;omega) (⟨4,m.heap.length+1,sE⟩,0) (by show(m.cut 1).ah.stack.length<=1000;omega);rw[show mP N2=mP N by unfold mP;rw[UA.2.1,TT.2.1]]at hp4;have Ve:=UA.1.ok.low;refine⟨N'',l',⟨hT4.1,hT4.2.1.trans (UA.2.1.trans TT.2.1),hT4.2.2.trans (UA.2.2.trans TT.2.2)⟩,Uf.trans (UF.trans hU4),⟨?_,hR.ok,hp4.e2,(Uf.trans (UF.trans hU4)).aZ,ig hR h1 rfl⟩⟩;refine aM (L:=ids e) func166 ntmps166 ?_ (hL:=rfl);generalize hB:ids e=B;refine eO ?_
  (have W:=jA Tu (jA Uc (jA Ve (hR.root)));repeat' (first|refine aq fun K hK=>?_|refine ap ?_|(with_reducible refine gR 16 ?_);refine qw 16 [hn 2 N.ah.v,hn 16 N.ah.c] [] [97] [] (aW 0 15) mixed ?_|(refine hK _ _ ?_;clear hK K)|(refine ao ?_ ?_<;>intro hc<;>try exact jz)|refine aT 9 ?_|refine nU U0 (VN _ _) ?_|refine cT Xu ?_|refine cT hp4 ?_|refine ar ?_|exact jI|(clear hK K)))
  exact dY hB hR.ok hp4.e2 (fun _=>rfl) (dm jC dD) [.tmp 6]
 have Yz:x.op=12:=jB;rw[Gr _ _ _ _ _ Yz];have h2:=hk.two (.inr Yz);have UM:=hk.slot jB;have VE:=Aq TT.1 jB x.a 4 (by rw[WW];exact UM) (by rw[WW];have:=hk.slots;show m.ah.slots.length<=1000;omega);rw[eN1,WW]at VE;have VE:cU prog 207 [cP N,rI x.a,rI 4] l1 (rV (eR m.ah.slots x.a 4)) l1:=VE;obtain⟨N2,l2,⟨UA,XD⟩,UF,Xf,Zc⟩:=xm X TT.1 jB jB;rw[eN1,WW]at Xf;rw[X1,TT.2.2]at Zc;have ecc:(m.cut 1).cut 1=m.cut 2:=Ej h1 1 1 jB;rw[ecc]at UA;have Ve:=UA.1.ok.low;have hc2:(m.cut 2).calls.length=m.calls.length:=MV.bH _ _;have ek:N2.k=N.k:=UA.2.1.trans TT.2.1;by_cases hi:(m.ah.cut 1).last.n<0\/((bk m.heap (eR m.ah.slots x.a 4).n).length:Int)<=(m.ah.cut 1).last.n
 ·rw[if_pos hi];have Xs:=K4 UA.1 (eR m.ah.slots x.a 4).n (m.ah.cut 1).last.n m.ah.last.n (by show m.heap.length<=1000;omega) (by show m.heap.flatten.length<=1000;omega) hi;rw[ek]at Xs;obtain⟨N',l,YE,hU,hp⟩:=wX X UA.1 jB 3 2;rw[show mP N2=mP N by unfold mP;rw[ek]]at hp;refine⟨N',l,⟨YE.1,YE.2.1.trans ek,YE.2.2.trans (UA.2.2.trans TT.2.2)⟩,Uf.trans (UF.trans hU),⟨?_,hR.ok,hp.e2,(Uf.trans (UF.trans hU)).aZ,ig hR h1 rfl⟩⟩;refine aM (L:=ids e) func166 ntmps166 ?_ (hL:=rfl);generalize hB:ids e=B;refine eO ?_
  (have W:=jA Tu (jA Uc (jA Ve (jA Zx (TT.2.1))));repeat' (first|refine aq fun K hK=>?_|refine ap ?_|(with_reducible refine gR 12 ?_);refine qw 12 [hn 2 N.ah.v,hn 16 N.ah.c] [73] [78] [] [0,1,2,3,4,5,6,7,8,9,10,11,14,12,13,15,16] mixed ?_|(refine hK _ _ ?_;clear hK K)|(refine ao ?_ ?_<;>intro hc<;>try exact jz)|refine aT 9 ?_|refine cT U0 ?_|refine mw VE ?_|refine nU Xf (Zc _ _) ?_|refine cT Xs ?_|refine cT hp ?_|refine ar ?_|exact jI|(clear hK K)))
  exact dY hB hR.ok hp.e2 (fun _=>rfl) (dm jC dD) [.tmp 6]
 ·rw[if_neg hi];obtain⟨N',l,YE,hU,hp⟩:=On X UA.1 (eR m.ah.slots x.a 4).n (m.ah.cut 1).last.n m.ah.last.n (by show m.heap.length<=1000;omega) (by show m.heap.flatten.length<=1000;omega) hi;rw[ek]at hp;refine⟨N',l,⟨YE.1,YE.2.1.trans ek,YE.2.2.trans (UA.2.2.trans TT.2.2)⟩,Uf.trans (UF.trans hU),⟨?_,hR.ok,hp.e2,(Uf.trans (UF.trans hU)).aZ,ig hR h1 rfl⟩⟩;refine aM (L:=ids e) func166 ntmps166 ?_ (hL:=rfl);generalize hB:ids e=B;refine eO ?_
  (have W:=jA Tu (jA Uc (jA Ve (jA Zx (TT.2.1))));repeat' (first|refine aq fun K hK=>?_|refine ap ?_|(with_reducible refine gR 12 ?_);refine qw 12 [hn 2 N.ah.v,hn 16 N.ah.c] [73] [78] [] [0,1,2,3,4,5,6,7,8,9,10,11,14,12,13,15,16] mixed ?_|(refine hK _ _ ?_;clear hK K)|(refine ao ?_ ?_<;>intro hc<;>try exact jz)|refine aT 9 ?_|refine cT U0 ?_|refine mw VE ?_|refine nU Xf (Zc _ _) ?_|refine cT hp ?_|refine ar ?_|exact jI|(clear hK K)))
  exact dY hB hR.ok hp.e2 (fun _=>rfl) (dm jC dD) [.tmp 6]
end
end Go.Proofs.YtjpcgmjaipfgdaaGreatDoor
namespace Go.Proofs.YtjpcgmjaipfgdaaGreatDoor
open Go Go.Gd Tryz
def Mp(l:List TI)(hl:l.length<=1000)(i:Nat):ab prog 119 [aO eS 1 l] [] (fun r l'=>r=.rs i l.length 1 l.length/\l'=[(i,.aG 9 1 (l.map eS))]):=by
 refine aM func119 ntmps119 ?_
 (repeat' (first|refine aq fun K hK=>?_|refine ap ?_|(refine hK _ _ ?_;clear hK K)|(refine ao ?_ ?_<;>intro hc<;>try exact jz)|(with_reducible refine fun(b:Bool) hb=>?_)|refine uU i ?_|refine ar ?_|exact jI|(clear hK K)))
 ·have Uq:l=[]:=by simpa using hb hc
  subst Uq;exact xt i 9 1 jC [.tmp 2] rfl rfl trivial
 ·(refine bV [.tmp 2] ?_ ?_<;>(try simp only[go_sem]))
def Hz(l:List (aj))(hl:l.length<=1000)(i:Nat):ab prog 120 [aO bS 3 l] [] (fun r l'=>r=.rs i l.length 3 l.length/\l'=[(i,.aG 54 3 (l.map bS))]):=by
 refine aM func120 ntmps120 ?_
 (repeat' (first|refine aq fun K hK=>?_|refine ap ?_|(refine hK _ _ ?_;clear hK K)|(refine ao ?_ ?_<;>intro hc<;>try exact jz)|(with_reducible refine fun(b:Bool) hb=>?_)|refine uU i ?_|refine ar ?_|exact jI|(clear hK K)))
 ·have Uq:l=[]:=by simpa using hb hc
  subst Uq;exact xt i 54 3 jC [.tmp 2] rfl rfl trivial
 ·(refine bV [.tmp 2] ?_ ?_<;>(try simp only[go_sem]))
def yA(l:List (Int))(hl:l.length<=1000)(i:Nat):ab prog 55 [aO eI 1 l] [] (fun r l'=>r=.rs i l.length 1 l.length/\l'=[(i,.aG 3 1 (l.map eI))]):=by
 refine aM func55 ntmps55 ?_
 (repeat' (first|refine aq fun K hK=>?_|refine ap ?_|(refine hK _ _ ?_;clear hK K)|(refine ao ?_ ?_<;>intro hc<;>try exact jz)|(with_reducible refine fun(b:Bool) hb=>?_)|refine uU i ?_|refine ar ?_|exact jI|(clear hK K)))
 ·have Uq:l=[]:=by simpa using hb hc
  subst Uq;exact xt i 3 1 jC [.tmp 2] rfl rfl trivial
 ·(refine bV [.tmp 2] ?_ ?_<;>(try simp only[go_sem]))
def gX(v:aj):Prop:=cf v.n/\v.s.size<=40
def qC{n:Int}(h:cf n):gX (vI n):=⟨h,by show sE.size<=40;decide⟩
def tB(b:Bool):gX (vB b):=⟨Gt b,by show sE.size<=40;decide⟩
def HO(t:Int):gX (vZ t):=⟨qI,by show sE.size<=40;decide⟩
def Es{s:TI}(h:s.size<=40):gX (vT s):=⟨qI,h⟩
def NP{l:List aj}(h:q9 l)(k t:Int):gX (eR l k t):=⟨Tb h k t,by
 unfold eR;split
 ·show sE.size<=40;decide
 split
 ·rename_i h;exact Kl h.1
 ·show sE.size<=40;decide⟩
def qJ(r:aj×Int):Prop:=gX r.1/\0<=r.2/\r.2<=9
def kZ{c:Prop}[Decidable c]{x y:aj×Int}(h:c->qJ x)(k:¬c->qJ y):qJ (if c then x else y):=by
 by_cases e:c
 ·rw[if_pos e];exact h e
 ·rw[if_neg e];exact k e
def mO{v:aj}(h:gX v):qJ (v,0):=⟨h,Int.le_refl _,by show(0:Int)<=9;decide⟩
def qY{t:Int}(h:0<=t/\t<=9):qJ (v0,t):=⟨HO 0,h⟩
def NA(s:TI){a b:Int}(ha:cf a):qJ (uF s a b):=by unfold uF;refine kZ (fun _=>mO (qC (wh _))) fun _=>kZ (fun _=>mO (qC (wh _))) fun _=>kZ (fun _=>mO (qC (wh _))) fun _=>kZ (fun _=>kZ (fun _=>qY jC) fun _=>mO (qC (wh _))) fun _=>kZ (fun _=>kZ (fun _=>qY jC) fun _=>mO (qC (Rq ha))) fun _=>kZ (fun _=>mO (tB _)) fun _=>kZ (fun _=>mO (tB _)) fun _=>qY jC
def RM(s:TI){a b:aj}(ha:gX a):qJ (qk s a b):=by
 unfold qk;refine kZ (fun _=>qY jC) fun _=>kZ (fun _=>mO (tB _)) fun _=>kZ (fun _=>mO (tB _)) fun _=>kZ (fun _=>NA _ ha.1) fun _=>kZ (fun _=>kZ (fun _=>mO (tB _)) fun _=>kZ (fun _=>mO (tB _)) fun _=>qY jC) fun _=>kZ (fun _=>kZ (fun _=>kZ (fun _=>qY jC) fun h=>mO (Es ?_)) fun _=>qY jC) fun _=>qY jC
 rw[ByteArray.size_append];omega
def F7(s:TI)(a:aj):gX (mH s a):=⟨Mv s a,by
 unfold mH
 (repeat' split)<;>(show sE.size<=40;decide)⟩
def CV{h:TF}(hc:gi h<=40)(hr:tA h)(n:Int):((MV.bk h n).length:Int)<=40/\∀k,k<(MV.bk h n).length->cf (nth (MV.bk h n) k):=by
 unfold MV.bk;split
 ·exact⟨jE,fun k hk=>by simp at hk⟩
 ·rename_i e;have hl:(n-1).toNat<h.length:=jB;have:=PX h (n-1).toNat hl;exact⟨jB,fun k hk=>hr _ (fg hl) _ (fg hk)⟩
def ow{p:af}{C:aI}{M:MV}{c:MC}{k:Nat}{x:ay}(h1:1<=M.calls.length)(h8:M.calls.length<=8)(hk:c.at_=k)(O':k<C.ins.length)(hx:nth C.ins k=x)(hz:∀v∈c.stack,gX v)(hd:c.stack.length<=1000)(op:1<=x.op/\x.op<=23)
  (n:Nat) (hn:n<=c.stack.length) (UB:n=0->x.op=2\/x.op=3\/x.op=4\/x.op=5\/x.op=14\/x.op=16\/x.op=20\/x.op=22) (VM:n=1->¬(x.op=7\/x.op=12))
  (slot:x.op=5\/x.op=6\/x.op=11\/x.op=12->0<=x.a/\x.a<c.slots.length)
  (call:x.op=20->0<=x.b/\x.b<=c.stack.length/\x.b<=3/\0<=x.a/\x.a<C.entry.length/\x.a<p.size.length/\0<=nth p.size x.a.toNat/\nth p.size x.a.toNat<=24/\x.b<=nth p.size x.a.toNat):(M.bc c).fM p C:=by
 refine fM.KQ h1 h8 hk O' hx (fun h=>?_) (fun h=>?_) slot call op (fun h=>?_) (fun v hv=>(hz v hv).2) hd
 ·by_cases e:n=0
  ·have:=UB e;omega
  ·omega
 ·by_cases e:n=0
  ·have:=UB e;omega
  ·by_cases e1:n=1
   ·exact(VM e1 h).elim
   ·omega
 ·have:1<=c.stack.length:=by
   by_cases e:n=0
   ·have:=UB e;omega
   ·omega
  exact(hz _ (fg jB)).1
def lN(p:af)(C:aI)(inp:TG)(M:MV)(c:MC)(k:Int):Prop:=
 (∃v q,gX v/\bf p C inp (M.bc c) (M.bc { c with at_:=k,stack:=c.stack++[v],aS:=q }))\/∃t:Int,(1<=t/\t<=9)/\bf p C inp (M.bc c) (M.iT c 3 t)
section
variable {p:af}{C:aI}{inp:TG}{M:MV}
def zG{c:MC}{k:Nat}{x:ay}{v:aj}(h1:1<=M.calls.length)(h8:M.calls.length<=8)(hs:M.status=0)(hk:c.at_=k)(hl:bI C.ins k [x])(VN:x.op≠1)(hok:(M.bc c).fM p C)(hv:gX v)
  (hi:(M.bc { c with at_:=(k:Int)+1 }).ins p C inp x=M.bc (MC.push { c with at_:=(k:Int)+1 } v)):lN p C inp M c (k+1):=
 .inl ⟨v,c.aS-1,hv,bf.ins h1 h8 hs hk hl.head.1 hl.head.2.1 VN hok (by rw[hi];exact bf.refl _)⟩
def lN.bind{c:MC}{k1 k2:Int}(hd:lN p C inp M c k1)(hn:∀v q,gX v->(∃w q',gX w/\bf p C inp (M.bc { c with at_:=k1,stack:=c.stack++[v],aS:=q }) (M.bc { c with at_:=k2,stack:=c.stack++[w],aS:=q' }))\/∃t:Int,(1<=t/\t<=9)/\bf p C inp (M.bc { c with at_:=k1,stack:=c.stack++[v],aS:=q }) (M.iT c 3 t)):lN p C inp M c k2:=by
 rcases hd with⟨v,q,hv,g⟩|⟨t,ht,g⟩
 ·rcases hn v q hv with⟨w,q',hw,g'⟩|⟨t,ht,g'⟩
  ·exact .inl ⟨w,q',hw,g.trans g'⟩
  ·exact .inr ⟨t,ht,g.trans g'⟩
 ·exact .inr ⟨t,ht,g⟩
def IX{c d:MC}{k:Nat}{x:ay}{r:aj×Int}{q:Nat}(h1:1<=M.calls.length)(h8:M.calls.length<=8)(hs:M.status=0)(hl:bI C.ins k [x])(VN:x.op≠1)(hd:d.at_=(k:Int))
  (hok:(M.bc d).fM p C) (hr:qJ r)
  (hi:(M.bc { d with at_:=(k:Int)+1 }).ins p C inp x=(M.bc { c with at_:=(k:Int)+1,aS:=q }).dW r) :
  (∃w q',gX w/\bf p C inp (M.bc d) (M.bc { c with at_:=(k:Int)+1,stack:=c.stack++[w],aS:=q' }))\/∃t:Int,(1<=t/\t<=9)/\bf p C inp (M.bc d) (M.iT c 3 t):=by
 have g:∀m',bf p C inp ((M.bc { c with at_:=(k:Int)+1,aS:=q }).dW r) m'->bf p C inp (M.bc d) m':=fun m' hg=> bf.ins (c:=d) h1 h8 hs hd hl.head.1 hl.head.2.1 VN hok (by rw[hi];exact hg)
 by_cases e:r.2=0
 ·refine .inl ⟨r.1,q-1,hr.1,g _ ?_⟩;unfold MV.dW;rw[if_neg (fun h=>h e),MV.fj h1];exact bf.refl _
 ·refine .inr ⟨r.2,by have:=hr.2;omega,g _ ?_⟩;unfold MV.dW;rw[if_pos e,MV.ee h1];exact bf.refl _
def wg{l:List aj}{v:aj}(h:∀u∈l,gX u)(hv:gX v):∀u∈l++[v],gX u:=OA h hv
theorem zw(hs:gj p)(h1:1<=M.calls.length)(h8:M.calls.length<=8)(P':M.status=0)(hhc:gi M.heap<=40)(hhr:tA M.heap){j:Nat}(hj:j<p.aa.aw.length){slots:List aj}(UM:(slots.length:Int)=nth p.size j)(Yr:q9 slots) :
  ∀(n:Nat) (a:Int) (k:Nat) (c:MC),0<=a->a.toNat<p.aa.nodes.length->jd p j a->cQ (bW p.aa.nodes a)->a.toNat<n->c.slots=slots->c.at_=k->bI C.ins k (bo p n a k)->(∀v∈c.stack,gX v)->c.stack.length+a.toNat<=900->
   lN p C inp M c (k+(bo p n a k).length)
 |0,a,k,c,h0,hl,hi,hk,hn,hc,Ut,hC,hz,hd=>by omega
 |n+1,a,k,c,h0,hl,hi,hk,hn,hc,Ut,hC,hz,hd=>by
  have sh:=(hs.ok.aa.shape a.toNat hl).1;have T4:cQ (au p a).kind:=hk;unfold cQ at T4;have Wm:jm (au p a).kind->0<=nth p.slots a.toNat/\nth p.slots a.toNat<c.slots.length:=fun h=>by have:=(hs.aw j hj).all a.toNat hi.1 (by have:=hi.2;omega) h;rw[hc];omega
  have ok0:∀(x:ay),bI C.ins k [x]->x.op=2\/x.op=3\/x.op=4\/(x.op=5/\0<=x.a/\x.a<c.slots.length)->(M.bc c).fM p C:=fun x hx ho=> ow h1 h8 Ut hx.head.1 hx.head.2.1 hz jB jB 0 jB (fun _=>jB) (fun h=>jB) (fun h=>jB) (fun h=>jB)
  have okU:∀(k':Nat) (x:ay) (u:aj) (q:Nat),bI C.ins k' [x]->gX u->x.op=8\/x.op=9\/x.op=10\/(x.op=11/\0<=x.a/\x.a<c.slots.length)\/x.op=18\/x.op=19->(M.bc { c with at_:=(k':Int),stack:=c.stack++[u],aS:=q }).fM p C:=fun k' x u q hx hu ho=> ow h1 h8 rfl hx.head.1 hx.head.2.1 (wg hz hu) jF jB 1 jE (fun h=>jB) (fun _=>jB) (fun h=>by show 0<=x.a/\x.a<c.slots.length;omega) (fun h=>jB)
  -- what is below it
  have sub:∀b∈(au p a).l,cQ (bW p.aa.nodes b)->∀(k':Nat) (c':MC),c'.slots=slots->c'.at_=k'->bI C.ins k' (bo p n b k')->(∀v∈c'.stack,gX v)->c'.stack.length<=c.stack.length+1->lN p C inp M c' (k'+(bo p n b k').length):=fun b hb hbE k' c' g1 g2 g3 g4 g5=>by obtain⟨b1,b2,b3,b4⟩:=hi.aF hs hj hb;exact zw hs h1 h8 P' hhc hhr hj UM Yr n b k' c' b2 b4 b1 hbE jB g1 g2 g3 g4 jB
  have Ur:(au p a).kind=1\/(au p a).kind=2\/(au p a).kind=3\/(au p a).kind=4\/(au p a).kind=5\/(au p a).kind=6\/(au p a).kind=7\/(au p a).kind=8\/(au p a).kind=9:=jB;have VL:=fun h=>(sh.one (h:(nth p.aa.nodes a.toNat).kind=5\/(nth p.aa.nodes a.toNat).kind=6\/(nth p.aa.nodes a.toNat).kind=7\/(nth p.aa.nodes a.toNat).kind=8\/(nth p.aa.nodes a.toNat).kind=14\/(nth p.aa.nodes a.toNat).kind=20))
  -- an operation on one value
  have un:∀(x:Int) (i:ay) (f:aj->aj×Int),(au p a).l=[x]->cQ (bW p.aa.nodes x)->bo p (n+1) a k=bo p n x k++[i]->i.op=8\/i.op=9\/i.op=10\/(i.op=11/\0<=i.a/\i.a<c.slots.length)->(∀v,gX v->qJ (f v))->
    (∀v q,(M.bc { c with at_:=((k+(bo p n x k).length:Nat):Int)+1,stack:=c.stack++[v],aS:=q }).ins p C inp i=(M.bc { c with at_:=((k+(bo p n x k).length:Nat):Int)+1,aS:=q+1 }).dW (f v))->lN p C inp M c (k+(bo p (n+1) a k).length):=fun x i f u' Uh e Wc hf UR=>by
   rw[e]at hC ⊢;have d:=sub x (by rw[u'];simp) Uh k c hc Ut hC.last.1 hz jB;have Tz:=hC.app.2;rw[List.length_append,List.length_singleton,Int.natCast_add,show((k:Int)+(((bo p n x k).length:Int)+((1:Nat):Int)))=((k+(bo p n x k).length:Nat):Int)+1 by push_cast;omega];refine d.bind fun v q hv=>?_
   exact IX (d:={ c with at_:=((k:Int)+((bo p n x k).length:Int)),stack:=c.stack++[v],aS:=q }) h1 h8 P' Tz (fun h=>jB) (by push_cast;rfl) (by have:=okU _ i v q Tz hv jB;rw[Int.natCast_add]at this;exact this) (hf v hv) (UR v q)
  rcases Ur with e|e|e|e|e|e|e|e|e
  ·rw[lP]at hC ⊢;simp only[e,Int.reduceEq,↓reduceIte]at hC ⊢;exact zG h1 h8 P' Ut hC (fun h=>by cases h) (ok0 _ hC (.inl rfl)) (qC (hs.ok.cf _ hl e)) (by rw[MV.rq,MV.fj h1];rfl)
  ·rw[lP]at hC ⊢;simp only[e,Int.reduceEq,↓reduceIte]at hC ⊢;exact zG h1 h8 P' Ut hC (fun h=>by cases h) (ok0 _ hC (.inr (.inl rfl))) (tB _) (by rw[MV.pM,MV.fj h1])
  ·rw[lP]at hC ⊢;simp only[e,Int.reduceEq,↓reduceIte]at hC ⊢;exact zG h1 h8 P' Ut hC (fun h=>by cases h) (ok0 _ hC (.inr (.inr (.inl rfl)))) (Es (by have:=sh.text e;show(nth p.aa.nodes a.toNat).name.size<=40;omega)) (by rw[MV.pK,MV.fj h1];rfl)
  ·have hs4:=Wm (.inl e);rw[lP]at hC ⊢;simp only[e,Int.reduceEq,↓reduceIte]at hC ⊢;exact zG h1 h8 P' Ut hC (fun h=>by cases h) (ok0 _ hC (.inr (.inr (.inr ⟨rfl,hs4⟩)))) (NP (l:=c.slots) (by rw[hc];exact Yr) _ _) (by rw[MV.pD,MV.fj h1,MV.bp h1])
  ·obtain⟨x,u',Uh⟩:=VL (.inl e);have u':(au p a).l=[x]:=u';have UO:nth (au p a).l 0=x:=by rw[u'];rfl
   have V4:=CV hhc hhr (eR c.slots (nth p.slots a.toNat) 4).n;refine un x (iI 11 (nth p.slots a.toNat)) (fun v=>if v.n<0\/((MV.bk M.heap (eR c.slots (nth p.slots a.toNat) 4).n).length:Int)<=v.n then(v0,2)else(vI (nth (MV.bk M.heap (eR c.slots (nth p.slots a.toNat) 4).n) v.n.toNat),0)) u' Uh (by rw[lP,UO];simp only[e,Int.reduceEq,↓reduceIte]) (.inr (.inr (.inr ⟨rfl,Wm (.inr (.inl e))⟩))) (fun v hv=>?_) fun v q=>?_
   ·exact kZ (fun _=>qY jC) fun _=>mO (qC (V4.2 _ jB))
   ·rw[MV.oH,MV.bp h1,MV.eZ,MV.da h1,MV.fR,MV.jS];dsimp only;split<;>rfl
  ·obtain⟨x,u',Uh⟩:=VL (by have e:(nth p.aa.nodes a.toNat).kind=6:=e;omega);have u':(au p a).l=[x]:=u';have UO:nth (au p a).l 0=x:=by rw[u'];rfl
   refine un x (iI 10 0) (fun v=>(vI (if v.ty=4 then((MV.bk M.heap v.n).length:Int)else(v.s.size:Int)),0)) u' Uh (by rw[lP,UO];simp only[e,Int.reduceEq,↓reduceIte]) (.inr (.inr (.inl rfl))) (fun v hv=>mO (qC ?_)) fun v q=>?_
   ·have:=(CV hhc hhr v.n).1;have:=hv.2;unfold cf;split<;>omega
   ·rw[MV.iC,MV.bp h1,MV.eZ,MV.da h1,MV.fR,MV.jS];rfl
  ·obtain⟨x,u',Uh⟩:=VL (by have e:(nth p.aa.nodes a.toNat).kind=7:=e;omega);have u':(au p a).l=[x]:=u';have UO:nth (au p a).l 0=x:=by rw[u'];rfl
   exact un x (iI 8 0) (fun v=>(mH (⟨#[45]⟩:TI) v,0)) u' Uh (by rw[lP,UO];simp only[e,Int.reduceEq,↓reduceIte]) (.inl rfl) (fun v hv=>mO (F7 _ _)) fun v q=>by rw[MV.rb,MV.bp h1,MV.eZ,MV.da h1,MV.fR];rfl
  ·obtain⟨x,u',Uh⟩:=VL (by have e:(nth p.aa.nodes a.toNat).kind=8:=e;omega);have u':(au p a).l=[x]:=u';have UO:nth (au p a).l 0=x:=by rw[u'];rfl
   exact un x (iI 9 0) (fun v=>(mH (⟨#[33]⟩:TI) v,0)) u' Uh (by rw[lP,UO];simp only[e,Int.reduceEq,↓reduceIte]) (.inr (.inl rfl)) (fun v hv=>mO (F7 _ _)) fun v q=>by rw[MV.rp,MV.bp h1,MV.eZ,MV.da h1,MV.fR];rfl
  ·obtain⟨x,y,u',Uh,Xg⟩:=sh.two (.inl e);have u':(au p a).l=[x,y]:=u';have UO:nth (au p a).l 0=x:=by rw[u'];rfl
   have XF:nth (au p a).l 1=y:=by rw[u'];rfl
   rw[lP]at hC ⊢;simp only[e,UO,XF,Int.reduceEq,↓reduceIte]at hC ⊢;by_cases VL:kX (au p a).name=7
   ·rw[if_pos VL]at hC ⊢;have d:=sub x (by rw[u'];simp) Uh k c hc Ut hC.last.1.app.1 hz jB;have Zd:=hC.last.1.app.2;have Tz:=hC.app.2;rw[List.length_append,List.length_append,List.length_singleton,show((k:Int)+(((bo p n x k).length+(bo p n y (k+(bo p n x k).length)).length+1:Nat):Int))=((k+(bo p n x k++bo p n y (k+(bo p n x k).length)).length:Nat):Int)+1 by rw[List.length_append];push_cast;omega];refine d.bind fun v q hv=>?_
    have dy:=sub y (by rw[u'];simp) Xg (k+(bo p n x k).length) { c with at_:=((k:Int)+((bo p n x k).length:Int)),stack:=c.stack++[v],aS:=q } hc (by push_cast;rfl) (by rw[Int.natCast_add];exact Zd) (wg hz hv) jE;rw[Int.natCast_add]at dy;rcases dy with⟨w,q2,hw,g⟩|⟨t,ht,g⟩
    ·have haE:((k:Int)+((bo p n x k).length:Int)+((bo p n y (k+(bo p n x k).length)).length:Int))=((k+(bo p n x k++bo p n y (k+(bo p n x k).length)).length:Nat):Int):=by rw[List.length_append];push_cast;omega
     rw[haE]at g;rcases IX (p:=p) (C:=C) (inp:=inp) (M:=M) (c:=c) (d:={ c with at_:=((k+(bo p n x k++bo p n y (k+(bo p n x k).length)).length:Nat):Int),stack:=c.stack++[v]++[w],aS:=q2 }) (r:=qk (au p a).name v w) (q:=q2+2) h1 h8 P' Tz (fun h=>by cases h) rfl
      (ow h1 h8 rfl Tz.head.1 Tz.head.2.1 (wg (wg hz hv) hw) jF ⟨by show(1:Int)<=7;decide,by show(7:Int)<=23;decide⟩ 2 jE (fun h=>by cases h) (fun h=>by cases h) (fun h=>by rcases h with h|h|h|h<;>cases h) (fun h=>by cases h)) (RM _ hv)
      (by rw[MV.rP,MV.bp h1,MV.eZ,MV.fR c w (c.stack++[v]),MV.eZ,MV.da h1,MV.oG])with⟨u,q3,hu,g'⟩|⟨t,ht,g'⟩
     ·exact .inl ⟨u,q3,hu,g.trans g'⟩
     ·exact .inr ⟨t,ht,g.trans g'⟩
    ·exact .inr ⟨t,ht,g⟩
   ·rw[if_neg VL]at hC ⊢;have hsg:kX (au p a).name=18\/kX (au p a).name=19:=by
     unfold kX at VL ⊢;split
     ·exact .inl rfl
     ·split
      ·exact .inr rfl
      ·rename_i h1 h2;rw[if_neg h1,if_neg h2]at VL;exact(VL rfl).elim
    have d:=sub x (by rw[u'];simp) Uh k c hc Ut hC.app.1.last.1 hz jB;have Tz:=hC.app.1.last;have haa:=hC.app.1.app.2;have Zd:=hC.app.2;generalize hX:(bo p n x k)=X at*;have eL:((k:Int)+(X.length:Int)+1)=((k+X.length+1:Nat):Int):=by push_cast;omega
    rw[eL]at Zd Tz haa ⊢;have Zd:bI C.ins (k+X.length+1) (bo p n y ((k+X.length+1:Nat):Int)):=by rw[List.length_append,List.length_singleton,<-Nat.add_assoc]at Zd;exact Zd
    have T1:((k:Int)+((X++[iI (kX (au p a).name) (((k+X.length+1:Nat):Int)+(bo p n y ((k+X.length+1:Nat):Int)).length)]++bo p n y ((k+X.length+1:Nat):Int)).length:Int))=((k+X.length+1:Nat):Int)+(bo p n y ((k+X.length+1:Nat):Int)).length:=by simp only[List.length_append,List.length_cons,List.length_nil];push_cast;omega
    rw[T1];refine d.bind fun v q hv=>?_
    have hok:=okU (k+X.length) _ v q haa hv (by rcases hsg with h|h<;>rw[h]<;>simp[iI]);rw[Int.natCast_add]at hok;have go:∀m',bf p C inp ((M.bc { c with at_:=((k+X.length:Nat):Int)+1,stack:=c.stack++[v],aS:=q }).ins p C inp (iI (kX (au p a).name) (((k+X.length+1:Nat):Int)+(bo p n y ((k+X.length+1:Nat):Int)).length))) m'->bf p C inp (M.bc { c with at_:=(k:Int)+X.length,stack:=c.stack++[v],aS:=q }) m':=fun m' hg=> bf.ins (c:={ c with at_:=(k:Int)+X.length,stack:=c.stack++[v],aS:=q }) (k:=k+X.length) h1 h8 P' (by push_cast;rfl) Tz.2.1 Tz.2.2 (by rcases hsg with h|h<;>rw[h]<;>(intro h;cases h)) hok hg
    have dy:=fun q2=>sub y (by rw[u'];simp) Xg (k+X.length+1) { c with at_:=((k+X.length+1:Nat):Int),aS:=q2 } hc rfl Zd hz (by show c.stack.length<=_;omega)
    -- the other side is taken, or not
    have take:lN p C inp M { c with at_:=((k+X.length+1:Nat):Int),aS:=q+1 } (((k+X.length+1:Nat):Int)+(bo p n y ((k+X.length+1:Nat):Int)).length):=dy (q+1);have e1:M.bc (({ c with at_:=((k+X.length:Nat):Int)+1,stack:=c.stack++[v],aS:=q }:MC).cut 1)=M.bc { c with at_:=((k+X.length+1:Nat):Int),aS:=q+1 }:=by rw[MV.fR,show((k+X.length:Nat):Int)+1=((k+X.length+1:Nat):Int) by push_cast;rfl]
    have fin:(M.bc { c with at_:=((k+X.length:Nat):Int)+1,stack:=c.stack++[v],aS:=q }).ins p C inp (iI (kX (au p a).name) (((k+X.length+1:Nat):Int)+(bo p n y ((k+X.length+1:Nat):Int)).length))=M.bc { c with at_:=((k+X.length+1:Nat):Int),aS:=q+1 }\/
      (M.bc { c with at_:=((k+X.length:Nat):Int)+1,stack:=c.stack++[v],aS:=q }).ins p C inp (iI (kX (au p a).name) (((k+X.length+1:Nat):Int)+(bo p n y ((k+X.length+1:Nat):Int)).length))=M.bc { c with at_:=(((k+X.length+1:Nat):Int)+(bo p n y ((k+X.length+1:Nat):Int)).length),stack:=c.stack++[v],aS:=q }:=by
     rcases hsg with h|h
     ·rw[h,MV.qM,MV.bp h1,MV.da h1,e1,MV.dr];split
      ·exact .inl rfl
      ·exact .inr rfl
     ·rw[h,MV.ue,MV.bp h1,MV.da h1,e1,MV.dr];split
      ·exact .inr rfl
      ·exact .inl rfl
    rcases fin with fin|fin
    ·rw[fin]at go;rcases take with⟨w,q2,hw,g⟩|⟨t,ht,g⟩
     ·exact .inl ⟨w,q2,hw,go _ g⟩
     ·exact .inr ⟨t,ht,go _ g⟩
    ·rw[fin]at go;exact .inl ⟨v,q,hv,go _ (bf.refl _)⟩
end
inductive dM(p:af)(C:aI)(j:Nat):Nat->Prop
 |mark {k n:Nat} {a:Int} (h0:0<=a) (hn:a.toNat<n+1) (hl:a.toNat<p.aa.nodes.length) (hi:jd p j a) (hk:fw (bW p.aa.nodes a)) (hC:bI C.ins k (gg p (n+1) a k)) (h:dM p C j (k+(gg p (n+1) a k).length)):dM p C j k
 |jump {k k':Nat} (hk:k<C.ins.length) (hx:nth C.ins k=iI 16 (k':Int)) (h:dM p C j k'):dM p C j k
 |fin {k:Nat} {r:Int} (hk:k<C.ins.length) (hx:nth C.ins k=iI 22 r):dM p C j k
structure ld(p:af)(C:aI)(j k n:Nat)(a:Int):Prop where
 h0:0<=a
 hn:a.toNat<n+1
 hl:a.toNat<p.aa.nodes.length
 hi:jd p j a
 hk:fw (bW p.aa.nodes a)
 hC:bI C.ins k (gg p (n+1) a k)
 h:dM p C j (k+(gg p (n+1) a k).length)
def uC(p:af)(C:aI)(j:Nat)(k:Int):Prop:=∃k0 n a,k=((k0:Nat):Int)/\ld p C j k0 n a
structure lZ(p:af)(c:MC):Prop where
 f0:0<=c.fn
 f1:c.fn<p.aa.aw.length
 sl:(c.slots.length:Int)=nth p.size c.fn.toNat
 rg:q9 c.slots
def wU(c:MC)(x:ay):Prop:=(∃s,x=iI 6 s/\0<=s/\s<c.slots.length)\/x=iI 23 0
structure qK(p:af)(C:aI)(c:MC):Prop where
 stack:c.stack=[]
 mark:uC p C c.fn.toNat c.mark
 at_:∃k:Nat,c.at_=(k:Int)/\k<C.ins.length/\wU c (nth C.ins k)/\dM p C c.fn.toNat (k+1)
structure eN(p:af)(C:aI)(M:MV):Prop where
 one:1<=M.calls.length
 dR:M.calls.length<=8
 st:M.status=0
 tr:0<=M.cX/\M.cX<=9
 low:∀k,k+1<M.calls.length->lZ p (nth M.calls k)/\qK p C (nth M.calls k)
 cells:gi M.heap<=40
 rg:tA M.heap
structure MI(p:af)(C:aI)(m:MV):Prop where
 dR:m.calls.length<=8
 low:∀k,k+1<m.calls.length->lZ p (nth m.calls k)/\qK p C (nth m.calls k)
 ah:m.status≠2->1<=m.calls.length/\lZ p m.ah/\m.ah.stack=[]/\uC p C m.ah.fn.toNat m.ah.at_
 xf:m.status=2->m.calls.length=0
 st:0<=m.status/\m.status<=3
 tr:0<=m.cX/\m.cX<=9
 cells:gi m.heap<=40
 rg:tA m.heap
def lL(p:af)(C:aI)(M m:MV):Prop:=m.dw C/\MI p C m/\m.time=M.time
section
variable {p:af}{C:aI}{inp:TG}
def PD(p:af)(n:Nat)(a k:Int):∃l,gg p (n+1) a k=iI 1 a::l:=⟨_,yx p n a k⟩
theorem ld.head{j k n:Nat}{a:Int}(h:ld p C j k n a):k<C.ins.length/\nth C.ins k=iI 1 a:=by obtain⟨l,e⟩:=PD p n a k;have hC:=h.hC;rw[e]at hC;exact⟨hC.head.1,hC.head.2.1⟩
theorem eN.bc{M:MV}(h:eN p C M)(c:MC):eN p C (M.bc c):=
 ⟨by rw[MV.bH];exact h.one,by rw[MV.bH];exact h.dR,h.st,h.tr,fun k hk=>by rw[MV.bH]at hk;rw[show nth (M.bc c).calls k=nth M.calls k from(Go.Gd.dx _ _ _ _ (by have:=h.one;omega)).trans (jN)];exact h.low k hk,h.cells,h.rg⟩
variable{M:MV}
def eN.mi(h:eN p C M){c:MC}(hc:lZ p c)(P':c.stack=[])(hm:uC p C c.fn.toNat c.at_){s t:Int}(hs:s=0\/s=1\/s=3)(ht:0<=t/\t<=9):MI p C { M.bc c with status:=s,cX:=t }:=by
 have hu:=h.bc c;refine⟨hu.dR,hu.low,fun _=>?_,fun e=>?_,?_,ht,h.cells,h.rg⟩
 ·have ht:MV.ah { M.bc c with status:=s,cX:=t }=c:=MV.bp h.one c;rw[ht];exact⟨hu.one,hc,P',hm⟩
 ·have e:s=2:=e;omega
 ·show 0<=s/\s<=3;omega
def uN(h:eN p C M){c:MC}(hc:lZ p c)(hm:uC p C c.fn.toNat c.mark){s t:Int}(hs:s=1\/s=3)(ht:0<=t/\t<=9):lL p C M (M.iT c s t):=
 ⟨.inl (by show s≠0;omega),h.mi (c:=c.back) ⟨hc.f0,hc.f1,hc.sl,hc.rg⟩ rfl hm jB ht,rfl⟩
def RA(c:MC):(M.bc c).pop=M.pop:=by show MV.mk ((M.calls.set (M.calls.length-1) c).take ((M.calls.set (M.calls.length-1) c).length-1)) _ _ _ _ _ _ _=_;rw[List.length_set,List.take_set_of_le jl];rfl
def JZ{α:Type}[Inhabited α](l:List α)(n k:Nat)(h:k<n):nth (l.take n) k=nth l k:=by unfold nth;rw[List.getD_eq_getElem?_getD,List.getElem?_take,if_pos h,List.getD_eq_getElem?_getD]
theorem eN.pop{M:MV}(h:eN p C M)(h2:2<=M.calls.length):eN p C M.pop/\M.pop.calls.length=M.calls.length-1/\lZ p M.pop.ah/\qK p C M.pop.ah:=by
 have hl:M.pop.calls.length=M.calls.length-1:=by show(M.calls.take _).length=_;rw[List.length_take];omega
 have hn:∀k,k<M.calls.length-1->nth M.pop.calls k=nth M.calls k:=fun k hk=>JZ _ _ _ hk
 have ht:M.pop.ah=nth M.calls (M.calls.length-2):=by unfold MV.ah;rw[hl,hn _ jB];rfl
 have Tz:=h.low (M.calls.length-2) jB;have:=h.dR;rw[ht];exact⟨⟨jB,jB,h.st,h.tr,fun k hk=>by rw[hn k jB];exact h.low k jB,h.cells,h.rg⟩,hl,Tz⟩
def DC{N:Nat}(hM:eN p C M)(hN:M.calls.length=N)
  (ih:∀(M:MV) (c:MC) (k:Nat),eN p C M->M.calls.length=N->lZ p c->c.stack=[]->c.at_=(k:Int)->dM p C c.fn.toNat k->∃m1,bf p C inp (M.bc c) m1/\lL p C M m1)
  {c:MC} {v:aj} {k:Nat} (hc:lZ p c) (P':c.stack=[v]) (hv:gX v) (Ut:c.at_=(k:Int)) (hk:k<C.ins.length) (hx:wU c (nth C.ins k)) (hn:dM p C c.fn.toNat (k+1)):∃m1,bf p C inp (M.bc c) m1/\lL p C M m1:=by
 have h1:=hM.one;have ht:=MV.bp (M:=M) h1;have hz:∀u∈c.stack,gX u:=fun u hu=>by rw[P']at hu;rw[List.mem_singleton.1 hu];exact hv
 rcases hx with⟨s,hx,s0,s1⟩|hx
 ·obtain⟨m1,g,d⟩:=ih M { c with at_:=((k+1:Nat):Int),slots:=c.slots.set s.toNat v,stack:=[],aS:=c.aS+1 } (k+1) hM hN ⟨hc.f0,hc.f1,by show((c.slots.set _ _).length:Int)=_;rw[List.length_set];exact hc.sl,Ji hc.rg _ hv.1⟩ rfl rfl hn;refine⟨m1,bf.ins h1 hM.dR hM.st Ut hk hx (fun h=>by cases h) (ow h1 hM.dR Ut hk hx hz (by rw[P'];simp) ⟨by show(1:Int)<=6;decide,by show(6:Int)<=23;decide⟩ 1 (by rw[P'];simp) (fun h=>by cases h) (fun _ h=>by rcases h with h|h<;>cases h) (fun _=>⟨s0,s1⟩) (fun h=>by cases h)) ?_,d⟩;rw[MV.oa,ht,MV.dr];have e:({ MC.cut { c with at_:=(k:Int)+1 } 1 with slots:=(MC.slots { c with at_:=(k:Int)+1 }).set s.toNat (MC.last { c with at_:=(k:Int)+1 }) }:MC)={ c with at_:=((k+1:Nat):Int),slots:=c.slots.set s.toNat v,stack:=[],aS:=c.aS+1 }:=by
   unfold MC.cut MC.last;simp only[P'];rfl
  rw[e];exact g
 ·obtain⟨m1,g,d⟩:=ih M { c with at_:=((k+1:Nat):Int),stack:=[],aS:=c.aS+1 } (k+1) hM hN ⟨hc.f0,hc.f1,hc.sl,hc.rg⟩ rfl rfl hn;refine⟨m1,bf.ins h1 hM.dR hM.st Ut hk hx (fun h=>by cases h) (ow h1 hM.dR Ut hk hx hz (by rw[P'];simp) ⟨by show(1:Int)<=23;decide,by show(23:Int)<=23;decide⟩ 1 (by rw[P'];simp) (fun h=>by cases h) (fun _ h=>by rcases h with h|h<;>cases h) (fun h=>by rcases h with h|h|h|h<;>cases h) (fun h=>by cases h)) ?_,d⟩;rw[MV.rH,MV.da h1];have e:MC.cut { c with at_:=(k:Int)+1 } 1={ c with at_:=((k+1:Nat):Int),stack:=[],aS:=c.aS+1 }:=by
   unfold MC.cut;simp only[P'];rfl
  rw[e];exact g
def G1{N:Nat}(hM:eN p C M)(hN:M.calls.length=N+1)
  (ih:∀(M:MV) (c:MC) (k:Nat),eN p C M->M.calls.length=N->lZ p c->c.stack=[]->c.at_=(k:Int)->dM p C c.fn.toNat k->∃m1,bf p C inp (M.bc c) m1/\lL p C M m1) {v:aj} (hv:gX v) (c:MC):∃m1,bf p C inp ((M.bc c).ends v) m1/\lL p C M m1:=by
 unfold MV.ends;rw[RA,MV.bH];by_cases h2:M.calls.length<=1
 ·rw[if_pos h2];have hl:M.pop.calls.length=0:=by show(M.calls.take _).length=_;rw[List.length_take];omega
  exact⟨_,bf.refl _,.inl (by show(2:Int)≠0;decide),⟨by show M.pop.calls.length<=8;omega,fun k hk=>by have hk:k+1<M.pop.calls.length:=hk;omega,fun e=>(e rfl).elim,fun _=>hl,⟨by show(0:Int)<=2;decide,by show(2:Int)<=3;decide⟩,hM.tr,hM.cells,hM.rg⟩,rfl⟩
 ·rw[if_neg h2];obtain⟨b,l,f,lo⟩:=hM.pop jB;obtain⟨k,k1,k2,k3,k4⟩:=lo.at_;have e:M.pop.push v=M.pop.bc { M.pop.ah with stack:=[v],aS:=M.pop.ah.aS-1 }:=by
   unfold MV.push MC.push;rw[lo.stack];rfl
  rw[e];exact DC b jB ih (c:={ M.pop.ah with stack:=[v],aS:=M.pop.ah.aS-1 }) ⟨f.f0,f.f1,f.sl,f.rg⟩ rfl hv k1 k2 k3 k4
theorem vh:∀(N:Nat) (M:MV) (c:MC) (k:Nat),eN p C M->M.calls.length=N->lZ p c->c.stack=[]->c.at_=(k:Int)->dM p C c.fn.toNat k->∃m1,bf p C inp (M.bc c) m1/\lL p C M m1
 |0,M,c,k,hM,hN,_,_,_,_=>by have:=hM.one;omega
 |N+1,M,c,k,hM,hN,hc,P',Ut,hk=>by
  generalize hj:c.fn.toNat=j at hk;have h1:=hM.one;have ht:=MV.bp (M:=M) h1;induction hk generalizing c with
  |@mark k n a h0 hn hl hi hkd hC h _=>
   have hm:ld p C j k n a:=⟨h0,hn,hl,hi,hkd,hC,h⟩;refine⟨_,bf.refl _,.inr ?_,?_,rfl⟩
   ·unfold MV.bn;rw[ht,Ut,Int.toNat_natCast,hm.head.2];rfl
   ·have:=hM.mi hc P' (by rw[hj];exact⟨k,n,a,Ut,hm⟩) (.inl rfl) hM.tr;have e:({ M.bc c with status:=0,cX:=M.cX }:MV)=M.bc c:=by
     have:=hM.st;unfold MV.bc;rw[this]
    rwa [e]at this
  |@jump k k' hk hx h ih=> obtain⟨m1,g,d⟩:=ih { c with at_:=(k':Int) } ⟨hc.f0,hc.f1,hc.sl,hc.rg⟩ P' rfl hj;refine⟨m1,bf.ins h1 hM.dR hM.st Ut hk hx (fun h=>by cases h) (ow h1 hM.dR Ut hk hx (fun u hu=>by rw[P']at hu;cases hu) (by rw[P'];simp) ⟨by show(1:Int)<=16;decide,by show(16:Int)<=23;decide⟩ 0 (Nat.zero_le _) (fun _=>.inr (.inr (.inr (.inr (.inr (.inl rfl)))))) (fun h=>by cases h) (fun h=>by rcases h with h|h|h|h<;>cases h) (fun h=>by cases h)) ?_,d⟩;rw[MV.l4,ht,MV.dr];exact g
  |@fin k r hk hx=>
   have go:∀m',bf p C inp ((M.bc { c with at_:=(k:Int)+1 }).ends (vZ r)) m'->bf p C inp (M.bc c) m':=fun m' g=> bf.ins h1 hM.dR hM.st Ut hk hx (fun h=>by cases h) (ow h1 hM.dR Ut hk hx (fun u hu=>by rw[P']at hu;cases hu) (by rw[P'];simp) ⟨by show(1:Int)<=22;decide,by show(22:Int)<=23;decide⟩ 0 (Nat.zero_le _) (fun _=>.inr (.inr (.inr (.inr (.inr (.inr (.inr rfl))))))) (fun h=>by cases h) (fun h=>by rcases h with h|h|h|h<;>cases h) (fun h=>by cases h)) g
   obtain⟨m1,g,d⟩:=G1 (inp:=inp) hM hN (fun M c k a b=>vh N M c k a b) (HO r) { c with at_:=(k:Int)+1 };exact⟨m1,go _ g,d⟩
end
def vV(p:af)(C:aI):Prop:=∀j,j<p.aa.aw.length->∃k:Nat,nth C.entry j=(k:Int)/\dM p C j k
section
variable {p:af}{C:aI}{inp:TG}
theorem E4{M:MV}(hs:gj p)(hM:eN p C M){j:Nat}(hj:j<p.aa.aw.length){n:Nat}(c:MC)(UM:(c.slots.length:Int)=nth p.size j)(Yr:q9 c.slots) :
  ∀(L:TG) (U7:List aj) (k q:Nat),(∀x∈L,0<=x/\x.toNat<p.aa.nodes.length/\jd p j x/\cQ (bW p.aa.nodes x)/\x.toNat<n)->bI C.ins k (bv (bo p n) k L [])->(∀v∈U7,gX v)->U7.length+L.length<=10->
   (∃vs q',vs.length=L.length/\(∀v∈vs,gX v)/\bf p C inp (M.bc { c with at_:=(k:Int),stack:=U7,aS:=q }) (M.bc { c with at_:=((k+(bv (bo p n) k L []).length:Nat):Int),stack:=U7++vs,aS:=q' }))\/∃t:Int,(1<=t/\t<=9)/\bf p C inp (M.bc { c with at_:=(k:Int),stack:=U7,aS:=q }) (M.iT c 3 t)
 |[],U7,k,q,hL,hl,hz,hd=>.inl ⟨[],q,rfl,fun v hv=>by(cases hv),by rw[List.append_nil];exact bf.refl _⟩
 |x::L,U7,k,q,hL,hl,hz,hd=>by
  obtain⟨x0,x1,x2,x3,x4⟩:=hL x jE;have hm:=hs.ok.aa.many;have e0:bv (bo p n) (k:Int) (x::L) []=bo p n x k++bv (bo p n) ((k+(bo p n x k).length:Nat):Int) L []:=by show bv (bo p n) k L ([]++bo p n x ((k:Int)+((0:Nat):Int)))=_;rw[uX,List.nil_append,show((k:Int)+((0:Nat):Int))=(k:Int) from jB,Int.natCast_add]
  rw[e0]at hl ⊢;rcases zw (inp:=inp) hs hM.one hM.dR hM.st hM.cells hM.rg hj UM Yr n x k { c with at_:=(k:Int),stack:=U7,aS:=q } x0 x1 x2 x3 x4 rfl rfl hl.app.1 hz (by show U7.length+x.toNat<=900;simp at hd;omega)with⟨v,q1,hv,g1⟩|⟨t,ht,g1⟩
  ·rcases E4 hs hM hj c UM Yr L (U7++[v]) (k+(bo p n x k).length) q1 (fun y hy=>hL y (by simp[hy])) hl.app.2 (wg hz hv) (by simp at hd ⊢;omega)with⟨vs,q',e,V2,g2⟩|⟨t,ht,g2⟩
   ·refine .inl ⟨v::vs,q',by simp[e],fun u hu=>?_,?_⟩
    ·rcases List.mem_cons.1 hu with rfl|hu
     ·exact hv
     ·exact V2 u hu
    ·rw[Int.natCast_add]at g2;rw[List.length_append,<-Nat.add_assoc];rw[List.append_assoc]at g2;exact g1.trans g2
   ·rw[Int.natCast_add]at g2;exact .inr ⟨t,ht,g1.trans g2⟩
  ·exact .inr ⟨t,ht,g1⟩
def DT{M:MV}(hs:gj p)(hE:vV p C)(hCl:C.entry.length=p.aa.aw.length)(hM:eN p C M){c:MC}(hc:lZ p c)(hm:uC p C c.fn.toNat c.mark)(P':c.stack=[]){n kc:Nat}{x:Int}(Ut:c.at_=(kc:Int))(h0:0<=x)(hl:x.toNat<p.aa.nodes.length)(hk:(au p x).kind=21)(UW:jd p c.fn.toNat x)(hn:x.toNat<n)
  (YF:bI C.ins kc (cB p n x kc)) (Vf:kc+(cB p n x kc).length<C.ins.length) (Vl:wU c (nth C.ins (kc+(cB p n x kc).length))) (Yc:dM p C c.fn.toNat (kc+(cB p n x kc).length+1)):∃m1,bf p C inp (M.bc c) m1/\lL p C M m1:=by
 have h1:=hM.one;have h8:=hM.dR;have f0:=hc.f0;have f1:=hc.f1;obtain⟨cal,U5⟩:=callee hs hl hk;have Yj:AA p x=(cal:Int):=U5.last;have XM:=hs.ok.aa.shape x.toNat hl;have haB:=U5.Ba;have WZ:=YF.app.2.head;have Tx:(cB p n x kc).length=(bv (bo p n) kc (au p x).l []).length+1:=by unfold cB;rw[List.length_append];rfl
 rw[Yj]at WZ;have U1:=E4 (inp:=inp) hs hM (j:=c.fn.toNat) jB (n:=n) c hc.sl hc.rg (au p x).l [] kc c.aS (fun y hy=>by obtain⟨y1,y2,y3,y4⟩:=UW.aF hs jB hy;exact⟨y2,y4,y1,XM.1.call hk y hy,jB⟩) YF.app.1 (fun v hv=>by cases hv) jF
 have ec:({ c with at_:=(kc:Int),stack:=[],aS:=c.aS }:MC)=c:=by rw[<-Ut,<-P']
 rw[ec]at U1;generalize hke2:kc+(bv (bo p n) kc (au p x).l []).length=ke at*;rcases U1 with⟨A,q,Xi,hA,g⟩|⟨t,ht,g⟩
 rotate_left
 ·exact⟨_,g,uN hM hc hm (.inr rfl) jB⟩
 rw[List.nil_append]at g;have hac:=hs.aw cal U5.lt;have TU:=hs.ok.size;have p1:=hac.uH;have p2:=hac.hi;have p3:=U5.args;have p5:=U5.lt;have hok:(M.bc { c with at_:=((ke:Nat):Int),stack:=A,aS:=q }).fM p C:=ow h1 h8 rfl WZ.1 WZ.2.1 hA (by show A.length<=1000;omega) ⟨by show(1:Int)<=20;decide,by show(20:Int)<=23;decide⟩ 0 (Nat.zero_le _) (fun _=>.inr (.inr (.inr (.inr (.inr (.inr (.inl rfl))))))) (fun h=>by cases h) (fun h=>by rcases h with h|h|h|h<;>cases h) (fun _=>by
  refine⟨?_,?_,?_,?_,?_,?_,?_,?_,?_⟩
  ·show(0:Int)<=((au p x).l.length:Int);omega
  ·show((au p x).l.length:Int)<=(A.length:Int);omega
  ·show((au p x).l.length:Int)<=3;omega
  ·show(0:Int)<=(cal:Int);omega
  ·show(cal:Int)<(C.entry.length:Int);omega
  ·show(cal:Int)<(p.size.length:Int);omega
  ·show 0<=nth p.size ((cal:Int)).toNat;rw[Int.toNat_natCast];omega
  ·show nth p.size ((cal:Int)).toNat<=24;rw[Int.toNat_natCast];omega
  ·show((au p x).l.length:Int)<=nth p.size ((cal:Int)).toNat;rw[Int.toNat_natCast];omega)
 have UR:∀m',bf p C inp ((M.bc { c with at_:=(ke:Int)+1,stack:=A,aS:=q }).ins p C inp ⟨20,(cal:Int),((au p x).l.length:Int),sE⟩) m'->bf p C inp (M.bc c) m':=fun m' hg=> g.trans (bf.ins (c:={ c with at_:=(ke:Int),stack:=A,aS:=q }) h1 h8 hM.st rfl WZ.1 WZ.2.1 (fun h=>by cases h) hok hg)
 have Vs:(M.bc { c with at_:=(ke:Int)+1,stack:=A,aS:=q }).cut ((au p x).l.length:Int).toNat=M.bc { c with at_:=(ke:Int)+1,stack:=[],aS:=q+(au p x).l.length }:=by rw[MV.da h1,Int.toNat_natCast];unfold MC.cut;show M.bc ⟨_,_,_,_,A.take (A.length-(au p x).l.length),_⟩=_;rw[Xi,Nat.sub_self];rfl
 rw[MV.pB,Vs,MV.bH]at UR;by_cases h88:8<=M.calls.length
 ·rw[if_pos h88,MV.ee h1]at UR;exact⟨_,UR _ (bf.refl _),uN hM hc hm (.inr rfl) ⟨jC,jC⟩⟩
 rw[if_neg h88,MV.bp h1]at UR;have XC:A.drop (A.length-((au p x).l.length:Int).toNat)=A:=by rw[Int.toNat_natCast,Xi,Nat.sub_self,List.drop_zero]
 have haF:(MC.stack { c with at_:=(ke:Int)+1,stack:=A,aS:=q }).drop ((MC.stack { c with at_:=(ke:Int)+1,stack:=A,aS:=q }).length-((au p x).l.length:Int).toNat)=A:=XC;rw[haF]at UR;obtain⟨ek,e1,e2⟩:=hE cal U5.lt;generalize UT:({ c with at_:=(ke:Int)+1,stack:=[],aS:=q+(au p x).l.length }:MC)=c' at*;have Y5:lZ p c'/\qK p C c':=by subst UT;refine⟨⟨hc.f0,hc.f1,hc.sl,hc.rg⟩,rfl,hm,ke+1,by push_cast;rfl,?_⟩;have e:kc+(cB p n x kc).length=ke+1:=jB;rw[e]at Vf Vl Yc;exact⟨Vf,Vl,Yc⟩
 generalize hd:MV.ir p C (cal:Int) A=d;have ZX:nth p.size ((cal:Int)).toNat=nth p.size cal:=by rw[Int.toNat_natCast]
 have hdF:lZ p d:=by
  subst hd;refine⟨by show(0:Int)<=cal;omega,by show(cal:Int)<_;omega,?_,?_⟩
  ·show((A++List.replicate _ v0).length:Int)=nth p.size ((cal:Int)).toNat;rw[List.length_append,List.length_replicate,ZX];omega
  ·intro v hv;rcases List.mem_append.1 (show v∈A++List.replicate _ v0 from hv)with hv|hv
   ·exact(hA v hv).1
   ·rw[(List.mem_replicate.1 hv).2];exact qI
 have Tz:((M.bc c').cO p C (cal:Int) A).calls.length=M.calls.length+1:=by show((M.bc c').calls++[_]).length=_;rw[List.length_append,MV.bH];rfl
 have hnk:∀k,k<M.calls.length->nth ((M.bc c').cO p C (cal:Int) A).calls k=nth (M.bc c').calls k:=fun k hk=>by show nth ((M.bc c').calls++[_]) k=_;unfold nth;rw[List.getD_eq_getElem?_getD,List.getElem?_append_left (by rw[MV.bH];exact hk),List.getD_eq_getElem?_getD]
 have haG:((M.bc c').cO p C (cal:Int) A).ah=d:=by
  unfold MV.ah;rw[Tz];show nth ((M.bc c').calls++[MV.ir p C (cal:Int) A]) (M.calls.length+1-1)=d;have:M.calls.length+1-1=(M.bc c').calls.length:=by rw[MV.bH];omega
  rw[this,qz,hd]
 have hB:eN p C ((M.bc c').cO p C (cal:Int) A):=by
  refine⟨jB,jB,hM.st,hM.tr,fun k hk=>?_,hM.cells,hM.rg⟩;rw[hnk k jB];by_cases e:k=M.calls.length-1
  ·have:nth (M.bc c').calls k=c':=by rw[e];exact(Go.Gd.dx _ _ _ _ jB).trans (if_pos rfl)
   rw[this];exact Y5
  ·have:nth (M.bc c').calls k=nth M.calls k:=(Go.Gd.dx _ _ _ _ jB).trans (jN);rw[this];exact hM.low k jB
 obtain⟨m1,g1,d1⟩:=vh (inp:=inp) _ _ d ek hB rfl hdF (by subst hd;rfl) (by subst hd;show nth C.entry ((cal:Int)).toNat=_;rw[Int.toNat_natCast];exact e1) (by subst hd;show dM p C ((cal:Int)).toNat ek;rw[Int.toNat_natCast];exact e2);refine⟨m1,UR _ ?_,d1⟩;have:=MV.rk ((M.bc c').cO p C (cal:Int) A) jB;rw[haG]at this;rw[<-this];exact g1
theorem Ag{j n:Nat}:∀(L:TG) (k:Nat),(∀x∈L,0<=x/\x.toNat<n/\x.toNat<p.aa.nodes.length/\jd p j x/\fw (bW p.aa.nodes x))->bI C.ins k (bv (gg p n) k L [])->dM p C j (k+(bv (gg p n) k L []).length)->dM p C j k
 |[],k,hL,hl,hc=>hc
 |x::L,k,hL,hl,hc=>by
  obtain⟨x0,x1,x2,x3,x4⟩:=hL x jE;obtain⟨m,rfl⟩:∃m,n=m+1:=⟨n-1,jB⟩;have e0:bv (gg p (m+1)) (k:Int) (x::L) []=gg p (m+1) x k++bv (gg p (m+1)) ((k+(gg p (m+1) x k).length:Nat):Int) L []:=by show bv (gg p (m+1)) k L ([]++gg p (m+1) x ((k:Int)+((0:Nat):Int)))=_;rw[uX,List.nil_append,show((k:Int)+((0:Nat):Int))=(k:Int) from jB,Int.natCast_add]
  rw[e0]at hl hc;rw[List.length_append,<-Nat.add_assoc]at hc;exact .mark x0 x1 x2 x3 x4 hl.app.1 (Ag L _ (fun y hy=>hL y (by simp[hy])) hl.app.2 hc)
end
section
variable {p:af}{C:aI}{inp:TG}
def NY{l:TG}(h:∀x∈l,cf x)(k:Nat):cf (nth l k):=by
 rcases Dv l k with e|e
 ·exact h _ e
 ·rw[e];exact qI
def MB{h:TF}(hr:tA h)(i k:Nat){v:Int}(hv:cf v):tA (h.set i ((nth h i).set k v)):=fun l hl x hx=>by
 rcases List.mem_or_eq_of_mem_set hl with hl|rfl
 ·exact hr l hl x hx
 ·rcases List.mem_or_eq_of_mem_set hx with hx|rfl
  ·rcases Dv h i with e|e
   ·exact hr _ e x hx
   ·rw[e]at hx;cases hx
  ·exact hv
def MH{M:MV}(hs:gj p)(hE:vV p C)(hCl:C.entry.length=p.aa.aw.length)(hi:∀x∈inp,cf x)(hM:eN p C M){c:MC}(hc:lZ p c){k n:Nat}{a:Int}(hm:ld p C c.fn.toNat k n a)(Xu:c.mark=(k:Int))(P':c.stack=[])(Ut:c.at_=(k:Int)+1):∃m1,bf p C inp (M.bc c) m1/\lL p C M m1:=by
 have h1:=hM.one;have h8:=hM.dR;have f0:=hc.f0;have f1:=hc.f1;have hj:c.fn.toNat<p.aa.aw.length:=jB;have Zy:uC p C c.fn.toNat c.mark:=⟨k,n,a,Xu,hm⟩;have hl:=hm.hl;have sh:=(hs.ok.aa.shape a.toNat hl).1;have TV:=hs.ok.aa.many;have T4:fw (au p a).kind:=hm.hk;unfold fw at T4;have Wm:jm (au p a).kind->0<=nth p.slots a.toNat/\nth p.slots a.toNat<c.slots.length:=fun h=>by have:=(hs.aw _ hj).all a.toNat hm.hi.1 (by have:=hm.hi.2;omega) h;rw[hc.sl];exact this
 have hC:=hm.hC;have T1:=hm.h;have e0:=yx p n a k;have ek:(k:Int)+1=((k+1:Nat):Int):=by push_cast;rfl
 rw[ek]at e0 Ut;have aF:∀x∈(au p a).l,0<=x/\x.toNat<n/\x.toNat<p.aa.nodes.length/\jd p c.fn.toNat x:=fun x hx=>by obtain⟨b1,b2,b3,b4⟩:=hm.hi.aF hs hj hx;have:=hm.hn;exact⟨b2,jB,b4,b1⟩
 have ex:∀(M':MV) (d:MC) (kd:Nat),eN p C M'->lZ p d->d.fn=c.fn->d.slots=c.slots->d.at_=(kd:Int)->(∀v∈d.stack,gX v)->d.stack.length<=2->∀x∈(au p a).l,cQ (bW p.aa.nodes x)->bI C.ins kd (bo p n x kd)->lN p C inp M' d (kd+(bo p n x kd).length):=fun M' d kd Yl hd d1 d2 d3 d4 d5 x hx Uh hCx=>by obtain⟨b1,b2,b3,b4⟩:=aF x hx;exact zw hs Yl.one Yl.dR Yl.st Yl.cells Yl.rg hj (slots:=c.slots) hc.sl hc.rg n x kd d b1 b3 b4 Uh b2 d2 d3 hCx d4 jB
 have fr:∀(kd q:Nat) (st:List aj),lZ p { c with at_:=(kd:Int),stack:=st,aS:=q }:=fun kd q st=>⟨hc.f0,hc.f1,hc.sl,hc.rg⟩
 have stop:∀(kd q:Nat) (st:List aj) (s t:Int),s=1\/s=3->0<=t/\t<=9->lL p C M (M.iT { c with at_:=(kd:Int),stack:=st,aS:=q } s t):=fun kd q st s t h h'=>uN hM (fr kd q st) Zy h h'
 have cont:∀(M':MV) (kd q:Nat),eN p C M'->dM p C c.fn.toNat kd->∃m1,bf p C inp (M'.bc { c with at_:=(kd:Int),stack:=[],aS:=q }) m1/\lL p C M' m1:=fun M' kd q Yl h=>vh _ M' _ kd Yl rfl (fr kd q []) rfl rfl h
 have finr:∀(M':MV) (kd q:Nat) (v:aj),eN p C M'->gX v->kd<C.ins.length->wU c (nth C.ins kd)->dM p C c.fn.toNat (kd+1)->∃m1,bf p C inp (M'.bc { c with at_:=(kd:Int),stack:=[v],aS:=q }) m1/\lL p C M' m1:=fun M' kd q v Yl hv h2 h3 h4=> DC Yl rfl (fun M c k a b=>vh _ M c k a b) (c:={ c with at_:=(kd:Int),stack:=[v],aS:=q }) (fr kd q [v]) rfl hv rfl h2 h3 h4
 -- an instruction on one value
 have go1:∀{kd q:Nat} {i:ay} {v:aj} {m':MV},bI C.ins kd [i]->gX v->i.op=13\/i.op=15\/i.op=17\/i.op=21->bf p C inp ((M.bc { c with at_:=(kd:Int)+1,stack:=[v],aS:=q }).ins p C inp i) m'->bf p C inp (M.bc { c with at_:=(kd:Int),stack:=[v],aS:=q }) m':=fun{kd q i v m'} hl hv ho g=> bf.ins (c:={ c with at_:=(kd:Int),stack:=[v],aS:=q }) h1 h8 hM.st rfl hl.head.1 hl.head.2.1 jB (ow h1 h8 rfl hl.head.1 hl.head.2.1 (fun u hu=>by rw[List.mem_singleton.1 hu];exact hv) jE jB 1 jE (fun h=>by cases h) (fun _=>jB) (fun h=>jB) (fun h=>jB)) g
 have last1:∀(kd:Int) (q:Nat) (v:aj),MC.last { c with at_:=kd,stack:=[v],aS:=q }=v:=fun _ _ _=>rfl
 have cut1:∀(kd:Int) (q:Nat) (v:aj),MC.cut { c with at_:=kd,stack:=[v],aS:=q } 1={ c with at_:=kd,stack:=[],aS:=q+1 }:=fun _ _ _=>rfl
 have nat1:∀kd:Nat,(kd:Int)+1=((kd+1:Nat):Int):=fun kd=>by push_cast;rfl
 have self:c={ c with at_:=((k+1:Nat):Int),stack:=[],aS:=c.aS }:=by rw[<-Ut,<-P']
 -- an expression at the beginning, and what is behind it
 have first:∀x∈(au p a).l,cQ (bW p.aa.nodes x)->bI C.ins (k+1) (bo p n x ((k+1:Nat):Int))->(∀v q,gX v->∃m1,bf p C inp (M.bc { c with at_:=((k+1+(bo p n x ((k+1:Nat):Int)).length:Nat):Int),stack:=[v],aS:=q }) m1/\lL p C M m1)->∃m1,bf p C inp (M.bc c) m1/\lL p C M m1:=fun x hx Uh hCx h=>by
  rcases ex M c (k+1) hM hc rfl rfl Ut (fun v hv=>by rw[P']at hv;cases hv) (by rw[P'];simp) x hx Uh hCx with⟨v,q,hv,g⟩|⟨t,ht,g⟩
  ·obtain⟨m1,g1,d⟩:=h v q hv;rw[P',List.nil_append]at g;rw[Int.natCast_add (k+1)]at g1;exact⟨m1,g.trans g1,d⟩
  ·exact⟨_,g,uN hM hc Zy (.inr rfl) jB⟩
 -- a block below it
 have blk:∀b∈(au p a).l,bW p.aa.nodes b=18->∀kb:Nat,bI C.ins kb (bv (gg p n) kb (au p b).l [])->dM p C c.fn.toNat (kb+(bv (gg p n) kb (au p b).l []).length)->dM p C c.fn.toNat kb:=fun b hb WE kb hl h=>by obtain⟨b1,b2,b3,b4⟩:=aF b hb;refine Ag _ kb (fun x hx=>?_) hl h;obtain⟨x1,x2,x3,x4⟩:=b4.aF hs hj hx;exact⟨x2,jB,x4,x1,(hs.ok.aa.shape b.toNat b3).1.block WE x hx⟩
 -- one way, or the other
 have branch:∀(kx q kt:Nat) (v:aj),bI C.ins kx [iI 17 (kt:Int)]->gX v->dM p C c.fn.toNat kt->dM p C c.fn.toNat (kx+1)->∃m1,bf p C inp (M.bc { c with at_:=(kx:Int),stack:=[v],aS:=q }) m1/\lL p C M m1:=fun kx q kt v hl hv ht hf=>by
  have go:∀m',_->bf p C inp (M.bc { c with at_:=(kx:Int),stack:=[v],aS:=q }) m':=fun m'=>go1 (m':=m') hl hv (.inr (.inr (.inl rfl)))
  rw[MV.oQ,MV.bp h1,last1,MV.da h1,cut1,MV.dr]at go;by_cases h:v.n=0
  ·rw[if_pos h]at go;obtain⟨m1,g,d⟩:=cont M kt (q+1) hM ht;exact⟨m1,go _ g,d⟩
  ·rw[if_neg h]at go;obtain⟨m1,g,d⟩:=cont M (kx+1) (q+1) hM hf;exact⟨m1,go _ g,d⟩
 have Ur:((au p a).kind=10\/(au p a).kind=11)\/(au p a).kind=12\/(au p a).kind=13\/(au p a).kind=14\/(au p a).kind=15\/(au p a).kind=16\/(au p a).kind=17:=jB;rcases Ur with e|e|e|e|e|e|e
 ·-- let, set
  obtain⟨x,u',X4⟩:=sh.right e;have u':(au p a).l=[x]:=u';have UO:nth (au p a).l 0=x:=by rw[u'];rfl
  have Wb:x∈(au p a).l:=by rw[u'];simp
  rw[if_pos e,UO]at e0;rw[e0]at hC T1;have hC:=hC.head.2.2;have UM:=Wm (by unfold jm;omega);obtain⟨b1,b2,b3,b4⟩:=aF x Wb;have hF:∀i,i=iI 6 (nth p.slots a.toNat)->wU c i:=fun i h=>.inl ⟨_,h,UM⟩
  have TW:=hC.last;rw[List.length_cons,List.length_append,List.length_singleton]at T1;rw[tD]at TW T1;by_cases k19:(au p x).kind=19
  ·rw[if_pos k19]at TW T1;have hx:=TW.1.head;have Tz:=TW.2;rw[List.length_singleton]at Tz T1;have go:∀m',bf p C inp ((M.bc { c with at_:=((k+1:Nat):Int)+1 }).ins p C inp (iI 14 0)) m'->bf p C inp (M.bc c) m':=fun m' g=>
    bf.ins h1 h8 hM.st Ut hx.1 hx.2.1 (fun h=>by cases h) (ow h1 h8 Ut hx.1 hx.2.1 (fun v hv=>by rw[P']at hv;cases hv) (by rw[P'];simp) ⟨by show(1:Int)<=14;decide,by show(14:Int)<=23;decide⟩ 0 (Nat.zero_le _) (fun _=>.inr (.inr (.inr (.inr (.inl rfl))))) (fun h=>by cases h) (fun h=>by rcases h with h|h|h|h<;>cases h) (fun h=>by cases h)) g
   rw[MV.oP]at go;by_cases hw:(inp.length:Int)<=M.in_
   ·have hw':(inp.length:Int)<=(M.bc { c with at_:=((k+1:Nat):Int)+1 }).in_:=hw;rw[if_pos hw',MV.ee h1]at go;exact⟨_,go _ (bf.refl _),uN hM (c:={ c with at_:=((k+1:Nat):Int)+1 }) ⟨hc.f0,hc.f1,hc.sl,hc.rg⟩ Zy (.inl rfl) ⟨Int.le_refl _,jC⟩⟩
   ·have hw':¬(inp.length:Int)<=(M.bc { c with at_:=((k+1:Nat):Int)+1 }).in_:=hw;rw[if_neg hw',MV.fj h1]at go;obtain⟨m1,g,d⟩:=finr { M with in_:=M.in_+1 } (k+1+1) (c.aS-1) (vI (nth inp M.in_.toNat)) ⟨hM.one,hM.dR,hM.st,hM.tr,hM.low,hM.cells,hM.rg⟩ (qC (NY hi _)) Tz.1 (hF _ Tz.2) T1;refine⟨m1,go _ ?_,d⟩;have e:MC.push { c with at_:=((k+1:Nat):Int)+1 } (vI (nth inp M.in_.toNat))={ c with at_:=((k+1+1:Nat):Int),stack:=[vI (nth inp M.in_.toNat)],aS:=c.aS-1 }:=by
     unfold MC.push;simp only[P'];rfl
    show bf p C inp { M.bc (MC.push { c with at_:=((k+1:Nat):Int)+1 } (vI (nth inp M.in_.toNat)))with in_:=M.in_+1 } m1;rw[e];exact g
  rw[if_neg k19]at TW T1;by_cases k20:(au p x).kind=20
  ·rw[if_pos k20]at TW T1;obtain⟨y,hly,Xg⟩:=(hs.ok.aa.shape x.toNat b3).1.one (.inr (.inr (.inr (.inr (.inr k20)))));have hly:(au p x).l=[y]:=hly;have XF:nth (au p x).l 0=y:=by rw[hly];rfl
   rw[XF]at TW T1;obtain⟨y1,y2,y3,y4⟩:=b4.aF hs hj (b:=y) (by rw[hly];simp);have Ym:=TW.1.last;rw[List.length_append,List.length_singleton]at TW T1;rcases zw (inp:=inp) hs h1 h8 hM.st hM.cells hM.rg hj (slots:=c.slots) hc.sl hc.rg n y (k+1) c y2 y4 y1 Xg jB rfl Ut Ym.1 (fun v hv=>by rw[P']at hv;cases hv) (by rw[P'];show 0+y.toNat<=900;omega)with⟨v,q,hv,g⟩|⟨t,ht,g⟩
   rotate_left
   ·exact⟨_,g,uN hM hc Zy (.inr rfl) jB⟩
   rw[P',List.nil_append,<-Int.natCast_add]at g;generalize hX:bo p n y ((k+1:Nat):Int)=X at*;have go:∀m',bf p C inp ((M.bc { c with at_:=((k+1+X.length:Nat):Int)+1,stack:=[v],aS:=q }).ins p C inp (iI 13 0)) m'->bf p C inp (M.bc c) m':=fun m' g'=>g.trans (go1 ⟨_,by rw[List.drop_eq_getElem_cons Ym.2.1,<-fP Ym.2.1,Ym.2.2];rfl⟩ hv (.inl rfl) g')
   rw[MV.q5,MV.bp h1,last1,MV.da h1,cut1,MV.ee h1,MV.ee h1,MV.fj h1,nat1]at go;by_cases hq:v.n<0\/16<v.n
   ·rw[if_pos hq]at go;exact⟨_,go _ (bf.refl _),stop _ _ _ _ _ (.inr rfl) jC⟩
   rw[if_neg hq]at go;by_cases ZZ:40<gi M.heap+v.n+1
   ·have Ze:40<gi (M.bc { c with at_:=((k+1+X.length+1:Nat):Int),stack:=[v],aS:=q }).heap+v.n+1:=ZZ;rw[if_pos Ze]at go;exact⟨_,go _ (bf.refl _),stop _ _ _ _ _ (.inr rfl) jC⟩
   have Ze:¬40<gi (M.bc { c with at_:=((k+1+X.length+1:Nat):Int),stack:=[v],aS:=q }).heap+v.n+1:=ZZ;rw[if_neg Ze]at go;have UD:gi (M.heap++[List.replicate v.n.toNat 0])<=40:=by rw[Du,List.length_replicate];omega
   have hhl:=RU M.heap;obtain⟨m1,g',d⟩:=finr { M with heap:=M.heap++[List.replicate v.n.toNat 0] } (k+1+(X.length+1)) (q+1-1) ⟨4,M.heap.length+1,sE⟩ ⟨hM.one,hM.dR,hM.st,hM.tr,hM.low,UD,fun l hl x hx=>by
    rcases List.mem_append.1 hl with hl|hl
    ·exact hM.rg l hl x hx
    ·rw[List.mem_singleton.1 hl]at hx;rw[(List.mem_replicate.1 hx).2];exact qI⟩ ⟨by show cf ((M.heap.length:Int)+1);have:=hM.cells;unfold cf;omega,by show sE.size<=40;decide⟩ TW.2.1 (hF _ TW.2.2) (by rw[show k+1+(X.length+1)+1=k+(X.length+1+1+1) from jB];exact T1)
   exact⟨m1,go _ g',d⟩
  rw[if_neg k20]at TW T1;by_cases k21:(au p x).kind=21
  ·rw[if_pos k21]at TW T1;exact DT hs hE hCl hM hc Zy P' Ut b1 b3 k21 b4 b2 TW.1 TW.2.1 (hF _ TW.2.2) (by rw[show k+1+(cB p n x ((k+1:Nat):Int)).length+1=k+((cB p n x ((k+1:Nat):Int)).length+1+1) from jB];exact T1)
  rw[if_neg k21]at TW T1;have Uh:cQ (bW p.aa.nodes x):=by
   rcases X4 with h|h|h|h
   ·exact h
   ·exact(k19 h).elim
   ·exact(k20 h).elim
   ·exact(k21 h).elim
  exact first x Wb Uh TW.1 fun v q hv=>finr M _ q v hM hv TW.2.1 (hF _ TW.2.2) (by rw[show k+1+(bo p n x ((k+1:Nat):Int)).length+1=k+((bo p n x ((k+1:Nat):Int)).length+1+1) from jB];exact T1)
 ·-- put
  obtain⟨x,y,u',Uh,Xg⟩:=sh.two (.inr e);have u':(au p a).l=[x,y]:=u';have UO:nth (au p a).l 0=x:=by rw[u'];rfl
  have XF:nth (au p a).l 1=y:=by rw[u'];rfl
  rw[jN,if_pos e,UO,XF]at e0;rw[e0]at hC T1;have hC:=hC.head.2.2;have UM:=Wm (by unfold jm;omega);have hxC:=hC.last.1.app.1;have hyC:=hC.last.1.app.2;have TW:=hC.last.2;simp only[List.length_cons,List.length_append,List.length_nil]at TW T1;refine first x (by rw[u'];simp) Uh hxC fun v q hv=>?_
  generalize hX:bo p n x ((k+1:Nat):Int)=X at*;rw[<-Int.natCast_add]at hyC TW T1;rcases ex M { c with at_:=((k+1+X.length:Nat):Int),stack:=[v],aS:=q } (k+1+X.length) hM (fr _ _ _) rfl rfl rfl (fun u hu=>by rw[List.mem_singleton.1 hu];exact hv) jE y (by rw[u'];simp) Xg hyC with⟨w,q2,hw,g⟩|⟨t,ht,g⟩
  rotate_left
  ·exact⟨_,g,stop _ _ _ _ _ (.inr rfl) jB⟩
  rw[<-Int.natCast_add]at g;generalize hY:bo p n y ((k+1+X.length:Nat):Int)=Y at*;rw[<-Nat.add_assoc]at TW;have go:∀m',bf p C inp ((M.bc { c with at_:=((k+1+X.length+Y.length:Nat):Int)+1,stack:=[v]++[w],aS:=q2 }).ins p C inp (iI 12 (nth p.slots a.toNat))) m'->bf p C inp (M.bc { c with at_:=((k+1+X.length:Nat):Int),stack:=[v],aS:=q }) m':=fun m' g'=>g.trans
   (bf.ins (c:={ c with at_:=((k+1+X.length+Y.length:Nat):Int),stack:=[v]++[w],aS:=q2 }) h1 h8 hM.st rfl TW.1 TW.2 (fun h=>by cases h) (ow h1 h8 rfl TW.1 TW.2 (wg (fun u hu=>by rw[List.mem_singleton.1 hu];exact hv) hw) jE ⟨by show(1:Int)<=12;decide,by show(12:Int)<=23;decide⟩ 2 jE (fun h=>by cases h) (fun h=>by cases h) (fun _=>UM) (fun h=>by cases h)) g')
  have c2:MC.cut { c with at_:=((k+1+X.length+Y.length:Nat):Int)+1,stack:=[v]++[w],aS:=q2 } 2={ c with at_:=((k+1+X.length+Y.length+1:Nat):Int),stack:=[],aS:=q2+2 }:=rfl;have l1:MC.last (MC.cut { c with at_:=((k+1+X.length+Y.length:Nat):Int)+1,stack:=[v]++[w],aS:=q2 } 1)=v:=rfl;have l2:MC.last { c with at_:=((k+1+X.length+Y.length:Nat):Int)+1,stack:=[v]++[w],aS:=q2 }=w:=rfl;rw[MV.qE,MV.bp h1,l1,l2,MV.da h1,c2,MV.ee h1,MV.jS]at go;have V4:=CV hM.cells hM.rg (eR c.slots (nth p.slots a.toNat) 4).n;by_cases hb:v.n<0\/((MV.bk M.heap (eR c.slots (nth p.slots a.toNat) 4).n).length:Int)<=v.n
  ·have Uq:v.n<0\/((MV.bk M.heap (eR (MC.slots { c with at_:=((k+1+X.length+Y.length:Nat):Int)+1,stack:=[v]++[w],aS:=q2 }) (nth p.slots a.toNat) 4).n).length:Int)<=v.n:=hb;rw[if_pos Uq]at go;exact⟨_,go _ (bf.refl _),stop _ _ _ _ _ (.inr rfl) jC⟩
  ·have Uq:¬(v.n<0\/((MV.bk M.heap (eR (MC.slots { c with at_:=((k+1+X.length+Y.length:Nat):Int)+1,stack:=[v]++[w],aS:=q2 }) (nth p.slots a.toNat) 4).n).length:Int)<=v.n):=hb;rw[if_neg Uq]at go;generalize hg:(eR c.slots (nth p.slots a.toNat) 4).n=g4 at*;have UD:gi (M.heap.set (g4-1).toNat ((nth M.heap (g4-1).toNat).set v.n.toNat w.n))<=40:=by
    by_cases O':(g4-1).toNat<M.heap.length
    ·rw[GI _ _ _ O' (by rw[List.length_set])];exact hM.cells
    ·rw[List.set_eq_of_length_le jB];exact hM.cells
   obtain⟨m1,g',d⟩:=cont { M with heap:=M.heap.set (g4-1).toNat ((nth M.heap (g4-1).toNat).set v.n.toNat w.n) } (k+1+X.length+Y.length+1) (q2+2) ⟨hM.one,hM.dR,hM.st,hM.tr,hM.low,UD,MB hM.rg _ _ hw.1⟩ (by rw[show k+1+X.length+Y.length+1=k+(X.length+Y.length+(0+1)+1) from jB];exact T1);exact⟨m1,go _ g',d⟩
 ·-- do
  obtain⟨x,u',haH⟩:=sh.sC e;have u':(au p a).l=[x]:=u';have UO:nth (au p a).l 0=x:=by rw[u'];rfl
  rw[jN,jN,if_pos e,UO]at e0;rw[e0]at hC T1;have hC:=hC.head.2.2.last;obtain⟨b1,b2,b3,b4⟩:=aF x (by rw[u'];simp);rw[List.length_cons,List.length_append,List.length_singleton]at T1;exact DT hs hE hCl hM hc Zy P' Ut b1 b3 haH b4 b2 hC.1 hC.2.1 (.inr hC.2.2) (by rw[show k+1+(cB p n x ((k+1:Nat):Int)).length+1=k+((cB p n x ((k+1:Nat):Int)).length+1+1) from jB];exact T1)
 ·-- print
  obtain⟨x,u',Uh⟩:=sh.one (.inr (.inr (.inr (.inr (.inl e)))));have u':(au p a).l=[x]:=u';have UO:nth (au p a).l 0=x:=by rw[u'];rfl
  rw[jN,jN,jN,if_pos e,UO]at e0;rw[e0]at hC T1;have hC:=hC.head.2.2;rw[List.length_cons,List.length_append,List.length_singleton]at T1;refine first x (by rw[u'];simp) Uh hC.last.1 fun v q hv=>?_
  have Tz:=hC.app.2;generalize hX:bo p n x ((k+1:Nat):Int)=X at*;have go:∀m',_->bf p C inp (M.bc { c with at_:=((k+1+X.length:Nat):Int),stack:=[v],aS:=q }) m':=fun m'=>go1 (m':=m') Tz hv (.inr (.inl rfl))
  rw[MV.oA,MV.bp h1,last1,MV.da h1,cut1,MV.ee h1,nat1]at go;by_cases ho:24<=M.bA.length
  ·have VQ:24<=(M.bc { c with at_:=((k+1+X.length+1:Nat):Int),stack:=[v],aS:=q }).bA.length:=ho;rw[if_pos VQ]at go;exact⟨_,go _ (bf.refl _),stop _ _ _ _ _ (.inr rfl) jC⟩
  ·have VQ:¬24<=(M.bc { c with at_:=((k+1+X.length+1:Nat):Int),stack:=[v],aS:=q }).bA.length:=ho;rw[if_neg VQ]at go;obtain⟨m1,g,d⟩:=cont { M with bA:=M.bA++[mN v] } (k+1+X.length+1) (q+1) ⟨hM.one,hM.dR,hM.st,hM.tr,hM.low,hM.cells,hM.rg⟩ (by rw[show k+1+X.length+1=k+(X.length+1+1) from jB];exact T1);exact⟨m1,go _ g,d⟩
 ·-- if
  obtain⟨x,b,Uh,WE,Zf⟩:=sh.lw e;rw[jN,jN,jN,jN,jN]at e0;rcases Zf with u'|⟨d,u',Ya⟩
  ·have u':(au p a).l=[x,b]:=u';have UO:nth (au p a).l 0=x:=by rw[u'];rfl
   have hb0:nth (au p a).l 1=b:=by rw[u'];rfl
   rw[Hv e (by rw[u'];show(2:Nat)≠3;decide),UO,hb0]at e0;rw[e0]at hC T1;have hC:=hC.head.2.2;refine first x (by rw[u'];simp) Uh hC.app.1.last.1 fun v q hv=>?_
   have Tz:=hC.app.1.app.2;have hB:=hC.app.2;generalize hX:bo p n x ((k+1:Nat):Int)=X at*;simp only[List.length_append,List.length_cons,List.length_nil]at hB T1;rw[<-Int.natCast_add,nat1]at Tz hB T1;generalize Wq:bv (gg p n) ((k+1+X.length+1:Nat):Int) (au p b).l []=B at*;rw[<-Int.natCast_add]at Tz;have c1:dM p C c.fn.toNat (k+1+X.length+1+B.length):=by rw[show k+1+X.length+1+B.length=k+(X.length+(0+1)+B.length+1) from jB];exact T1
   exact branch _ _ _ _ Tz hv c1 (blk b (by rw[u'];simp) WE _ (by rw[Wq];exact hB) (by rw[Wq];exact c1))
  ·have u':(au p a).l=[x,b,d]:=u';have UO:nth (au p a).l 0=x:=by rw[u'];rfl
   have hb0:nth (au p a).l 1=b:=by rw[u'];rfl
   have hd0:nth (au p a).l 2=d:=by rw[u'];rfl
   rw[Ir e (by rw[u'];rfl),UO,hb0,hd0]at e0;rw[e0]at hC T1;have hC:=hC.head.2.2;refine first x (by rw[u'];simp) Uh hC.app.1.app.1.last.1 fun v q hv=>?_
   have Tz:=hC.app.1.app.1.app.2;have hB:=hC.app.1.app.2.last;have hD:=hC.app.2;generalize hX:bo p n x ((k+1:Nat):Int)=X at*;simp only[List.length_append,List.length_cons,List.length_nil]at hB hD T1;rw[<-Int.natCast_add,nat1]at Tz hB hD T1;generalize Wq:bv (gg p n) ((k+1+X.length+1:Nat):Int) (au p b).l []=B at*;have e2:(((k+1+X.length+1:Nat):Int)+(B.length:Int)+1)=((k+1+X.length+1+B.length+1:Nat):Int):=by push_cast;omega
   rw[e2]at hB hD T1;generalize hDl:bv (gg p n) ((k+1+X.length+1+B.length+1:Nat):Int) (au p d).l []=D at*;have c1:dM p C c.fn.toNat (k+1+X.length+1+B.length+1+D.length):=by rw[show k+1+X.length+1+B.length+1+D.length=k+(X.length+(0+1)+(B.length+(0+1))+D.length+1) from jB];exact T1
   rw[show((k+1+X.length+1:Nat):Int)+((B.length:Int)+1)=((k+1+X.length+1+B.length+1:Nat):Int) by push_cast;omega]at Tz;rw[<-Int.natCast_add]at hB;have cD:=blk d (by rw[u'];simp) Ya (k+1+X.length+1+B.length+1) (by rw[hDl];rw[show k+1+(X.length+(0+1)+(B.length+(0+1)))=k+1+X.length+1+B.length+1 from jB]at hD;exact hD) (by rw[hDl];exact c1);have cJ:dM p C c.fn.toNat (k+1+X.length+1+B.length):=.jump (k':=k+1+X.length+1+B.length+1+D.length) (by have:=hB.2.1;omega) (by have:=hB.2.2;rw[show k+1+(X.length+(0+1))+B.length=k+1+X.length+1+B.length from jB]at this;exact this) c1;exact branch _ _ _ _ Tz hv cD (blk b (by rw[u'];simp) WE _ (by rw[Wq];exact hB.1) (by rw[Wq];exact cJ))
 ·-- while
  obtain⟨x,b,u',Uh,WE⟩:=sh.dZ e;rw[jN,jN,jN,jN,jN]at e0;have u':(au p a).l=[x,b]:=u';have UO:nth (au p a).l 0=x:=by rw[u'];rfl
  have hb0:nth (au p a).l 1=b:=by rw[u'];rfl
  rw[EN e,UO,hb0]at e0;have cK:dM p C c.fn.toNat k:=.mark hm.h0 hm.hn hm.hl hm.hi hm.hk hm.hC hm.h;rw[e0]at hC T1;have hC:=hC.head.2.2;refine first x (by rw[u'];simp) Uh hC.app.1.last.1 fun v q hv=>?_
  have Tz:=hC.app.1.app.2;have hB:=hC.app.2.last;generalize hX:bo p n x ((k+1:Nat):Int)=X at*;simp only[List.length_append,List.length_cons,List.length_nil]at hB T1;rw[<-Int.natCast_add,nat1]at Tz hB T1;generalize Wq:bv (gg p n) ((k+1+X.length+1:Nat):Int) (au p b).l []=B at*;rw[show((k+1+X.length+1:Nat):Int)+((B.length:Int)+1)=((k+1+X.length+1+B.length+1:Nat):Int) by push_cast;omega]at Tz;have c1:dM p C c.fn.toNat (k+1+X.length+1+B.length+1):=by rw[show k+1+X.length+1+B.length+1=k+(X.length+(0+1)+(B.length+(0+1))+1) from jB];exact T1
  have cJ:dM p C c.fn.toNat (k+1+X.length+1+B.length):=.jump (k':=k) (by have:=hB.2.1;omega) (by have:=hB.2.2;rw[show k+1+(X.length+(0+1))+B.length=k+1+X.length+1+B.length from jB]at this;rw[this];congr 1;push_cast;omega) cK;exact branch _ _ _ _ Tz hv c1 (blk b (by rw[u'];simp) WE _ (by rw[Wq];exact hB.1) (by rw[Wq];exact cJ))
 ·-- return
  rw[jN,jN,jN,jN,if_pos e]at e0;by_cases Vq:(au p a).l.length=0
  ·rw[if_pos Vq]at e0;rw[e0]at hC;have hx:=hC.head.2.2.head;rw[self];exact cont M (k+1) c.aS hM (.fin hx.1 hx.2.1)
  ·rw[if_neg Vq]at e0;rcases sh.ret e with h|⟨x,u',Uh⟩
   ·have h:(au p a).l=[]:=h;rw[h]at Vq;exact(Vq rfl).elim
   have u':(au p a).l=[x]:=u';have UO:nth (au p a).l 0=x:=by rw[u'];rfl
   rw[UO]at e0;rw[e0]at hC;have hC:=hC.head.2.2;refine first x (by rw[u'];simp) Uh hC.last.1 fun v q hv=>?_
   have Tz:=hC.app.2;generalize hX:bo p n x ((k+1:Nat):Int)=X at*;have go:∀m',_->bf p C inp (M.bc { c with at_:=((k+1+X.length:Nat):Int),stack:=[v],aS:=q }) m':=fun m'=>go1 (m':=m') Tz hv (.inr (.inr (.inr rfl)))
   rw[MV.rC,MV.bp h1,last1,MV.da h1,cut1]at go;obtain⟨N,hN⟩:∃N,M.calls.length=N+1:=⟨M.calls.length-1,jB⟩;obtain⟨m1,g,d⟩:=G1 (inp:=inp) hM hN (fun M c k a b=>vh N M c k a b) hv { c with at_:=((k+1+X.length:Nat):Int)+1,stack:=[],aS:=q+1 };exact⟨m1,go _ g,d⟩
end
section
variable {p:af}
def wP(hs:gj p):vV p (ci p):=fun j hj=>by
 obtain⟨k,h1,h2⟩:=(rG hs).at_ j hj;have U8:=h2.app.2.head;refine⟨k,h1,Ag _ k (fun x hx=>?_) h2.app.1 (.fin U8.1 U8.2.1)⟩;have hN:=o7 hs.ok.aa hj;have hb:=hs.ok.aa.body _ (fg hj);have T3:=(hs.aw j hj).chain.le;have I':(nth p.aa.aw j).body.toNat<p.aa.nodes.length:=by have:=hN.1;have:=hN.2;omega
 have hi:jd p j (nth p.aa.aw j).body:=⟨T3,Nat.le_refl _⟩;obtain⟨x1,x2,x3,x4⟩:=hi.aF hs hj (b:=x) hx;exact⟨x2,by unfold mI;omega,x4,x1,(hs.ok.aa.shape _ I').1.block hb x hx⟩
def _root_.Go.Gd.MV.halt(m:MV):Prop:=m.status=2\/m.status=3
theorem MI.fz{C:aI}{m:MV}(h:MI p C m):MI p C m.fz:=⟨h.dR,h.low,h.ah,h.xf,h.st,h.tr,h.cells,h.rg⟩
variable{inp:TG}
def SL{C:aI}(hs:gj p)(hE:vV p C)(hCl:C.entry.length=p.aa.aw.length)(hi:∀x∈inp,cf x){m:MV}(h:MI p C m)(P':¬m.halt):∃m1,bf p C inp m.dX m1/\lL p C m m1:=by obtain⟨h1,hc,U',k,n,a,hk,hm⟩:=h.ah (fun e=>P' (.inl e));have hM:eN p C { m with status:=0 }:=⟨h1,h.dR,rfl,h.tr,h.low,h.cells,h.rg⟩;exact MH hs hE hCl hi hM (c:={ m.ah with mark:=m.ah.at_,at_:=m.ah.at_+1 }) ⟨hc.f0,hc.f1,hc.sl,hc.rg⟩ hm hk U' (by show m.ah.at_+1=_;rw[hk])
def Am{C:aI}(hs:gj p)(hE:vV p C)(inp:TG):∃m1,bf p C inp (lW p C) m1/\lL p C (lW p C) m1:=by
 obtain⟨j,hj,VV,_,had⟩:=Ai hs;obtain⟨ek,e1,e2⟩:=hE j hj;have hf:=hs.aw j hj;have p1:=hf.uH;have hM:eN p C (lW p C):=⟨by show 1<=1;decide,by show 1<=8;decide,rfl,by show(0:Int)<=0/\(0:Int)<=9;decide,fun k hk=>by have hk:k+1<1:=hk;omega,by show gi []<=40;decide,fun l hl=>by cases hl⟩
 have UX:(MV.ir p C (gU p) []).fn.toNat=j:=by show(gU p).toNat=j;rw[VV,Int.toNat_natCast]
 have TU:nth p.size (gU p).toNat=nth p.size j:=by rw[VV,Int.toNat_natCast]
 obtain⟨m1,g,d⟩:=vh (inp:=inp) 1 (lW p C) (MV.ir p C (gU p) []) ek hM rfl ⟨by show 0<=gU p;omega,by show gU p<_;omega,by
  show(([]++List.replicate _ v0:List aj).length:Int)=nth p.size (gU p).toNat;rw[List.nil_append,List.length_replicate,TU];simp only[List.length_nil];omega,fun v hv=>by
  have hv:v∈([]++List.replicate _ v0:List aj):=hv;rw[List.nil_append]at hv;rw[(List.mem_replicate.1 hv).2];exact qI⟩ rfl (by show nth C.entry (gU p).toNat=_;rw[VV,Int.toNat_natCast];exact e1) (by rw[UX];exact e2)
 exact⟨m1,g,d⟩
structure bQ(p:af)(C:aI)(F:List Int->MV->MV):Prop where
 step:∀inp:List Int,(∀x∈inp,cf x)->∀m,MI p C m->¬m.halt->∃m1,bf p C inp m.dX m1/\lL p C m m1/\F inp m=m1.fz
 still:∀inp m,m.halt->F inp m=m
def Dm(hs:gj p):∃F,bQ p (ci p) F:=by
 classical
 refine⟨fun inp m=>if h:¬m.halt/\∃m1,bf p (ci p) inp m.dX m1/\lL p (ci p) m m1 then(Classical.choose h.2).fz else m,fun inp hi m hm P'=>?_,fun inp m h=>by rw[dif_neg (fun h'=>h'.1 h)]⟩;have h:¬m.halt/\∃m1,bf p (ci p) inp m.dX m1/\lL p (ci p) m m1:=⟨P',SL hs (wP hs) (rG hs).len hi hm P'⟩;have hc:=Classical.choose_spec h.2;exact⟨_,hc.1,hc.2,by rw[dif_pos h]⟩
def bQ.mi{C:aI}{F:TG->MV->MV}(hF:bQ p C F)(hi:∀x∈inp,cf x){m:MV}(h:MI p C m):MI p C (F inp m):=by
 by_cases e:m.halt
 ·rw[hF.still inp m e];exact h
 ·obtain⟨m1,_,d,e⟩:=hF.step inp hi m h e;rw[e];exact d.2.1.fz
theorem bQ.time{C:aI}{F:TG->MV->MV}(hF:bQ p C F){inp:TG}(hi:∀x∈inp,cf x){m:MV}(h:MI p C m):(F inp m).time=m.time\/((F inp m).time=m.time+1/\(F inp m).status≠1/\¬m.halt):=by
 by_cases e:m.halt
 ·exact .inl (by rw[hF.still inp m e])
 ·obtain⟨m1,_,d,e'⟩:=hF.step inp hi m h e;rw[e'];unfold MV.fz;dsimp only;split
  ·exact .inl d.2.2
  ·rename_i UK;exact .inr ⟨by rw[d.2.2],UK,e⟩
end
section
variable {p:af}{C:aI}{inp:TG}
def Dq(m:MV)(v:aj):(m.ends v).in_=m.in_:=by unfold MV.ends;split<;>rfl
def Gy(m:MV)(r:aj×Int):(m.dW r).in_=m.in_:=by unfold MV.dW;split<;>rfl
def FF{c:Prop}[Decidable c]{a b:MV}{k:Int}(h:a.in_=k)(h':b.in_=k):(if c then a else b).in_=k:=by
 by_cases e:c
 ·rw[if_pos e];exact h
 ·rw[if_neg e];exact h'
def RP(m:MV)(x:ay):(m.ins p C inp x).in_=m.in_\/(m.ins p C inp x).in_=m.in_+1:=by
 by_cases h:x.op=14
 ·rw[MV.ji _ _ _ _ _ h];split
  ·exact .inl rfl
  ·exact .inr rfl
 ·left
  unfold MV.ins;simp only[h,↓reduceIte];repeat' (first|rfl|exact Dq _ _|exact Gy _ _|refine FF ?_ ?_)
def PV{m b:MV}{k:Nat}(hb:fh p C inp k m b)(ha:m.dw C):m=b:=by cases hb with|refl=>rfl|step h0 h1=>exact(ha.elim (fun h=>h h0) h1).elim
def Ka{n:Nat}{m a:MV}(h:fh p C inp n m a):∀{k b},fh p C inp k m b->a.dw C->b.dw C->a=b:=by
 induction h with|refl m=>
  intro k b hb ha _;exact PV hb ha|@step n m m' h0 h1 hok hg ih=>
  intro k b hb ha Uq;cases hb with|refl=>exact(Uq.elim (fun h=>h h0) h1).elim|step _ _ _ hg'=>exact ih hg' ha Uq
def rJ(m:MV)(k:Nat)(v:aj):MV:=m.bc { m.ah with slots:=m.ah.slots.set k v }
def Fg{m:MV}(h:MI p C m)(hs:¬m.halt)(k:Nat){v:aj}(hv:cf v.n):MI p C (rJ m k v):=by
 obtain⟨h1,hf,P',hm⟩:=h.ah (fun e=>hs (.inl e));have ht:(rJ m k v).ah={ m.ah with slots:=m.ah.slots.set k v }:=MV.bp h1 _;have hl:(rJ m k v).calls.length=m.calls.length:=MV.bH _ _;refine⟨by rw[hl];exact h.dR,fun j hj=>?_,fun _=>?_,fun e=>(hs (.inl e)).elim,h.st,h.tr,h.cells,h.rg⟩
 ·rw[hl]at hj;rw[show nth (rJ m k v).calls j=nth m.calls j from(Go.Gd.dx _ _ _ _ jB).trans (jN)];exact h.low j hj
 ·rw[hl,ht];exact⟨h1,⟨hf.f0,hf.f1,by show((m.ah.slots.set k v).length:Int)=_;rw[List.length_set];exact hf.sl,Ji hf.rg _ hv⟩,P',hm⟩
end
end Go.Proofs.YtjpcgmjaipfgdaaGreatDoor
namespace Go.Proofs.YtjpcgmjaipfgdaaGreatDoor
open Go Go.Gd Tryz Go.Gd.MV
section
variable {p:af}{C:aI}{m:MV}{N:NM}{e:TD}
def OK(hR:bJ p C m N e)(hs:¬(m.status=2\/m.status=3))(h1:1<=m.calls.length)(k:Nat)(hk:k<m.ah.slots.length)(hl:m.ah.slots.length<=1000)(v:aj):cU prog 174 [mP N,rI k,.agg (bS v)] e (rB true) (bh e (hn 1 N.ah.c) (.aG 54 3 ((m.ah.slots.set k v).map bS)))/\bJ p C (rJ m k v) N (bh e (hn 1 N.ah.c) (.aG 54 3 ((m.ah.slots.set k v).map bS))):=by
 have ht:=tG hR h1;have hT:=hR.ah h1;have Tu:=hR.ok.low;have Uz:=hR.sK h1 (m.ah.slots.set k v) (List.length_set ..);have I':=hR.len;refine⟨⟨?_,hR.ok,Uz.ok,fun i hi=>?_,?_⟩,Uz⟩;rotate_left
 ·rw[bO];split
  ·simp
  ·exact hi
 ·simp only[aX,AV.all,fW hR.root,Bool.and_self,Bool.and_true,bS]
 have k2:=Uz.ok;have s2:¬m.status=2:=fun h=>hs (.inl h)
 have s3:¬m.status=3:=fun h=>hs (.inr h)
 have UM:=hT.eQ;have Xa:(k:Int)<(m.ah.slots.length:Int):=jB;have TZ:¬(k:Int)<0:=jB;have Ue:¬(m.ah.slots.length:Int)<=(k:Int):=jB;generalize hE:bh e (hn 1 N.ah.c) (.aG 54 3 ((m.ah.slots.set k v).map bS))=E at k2 ⊢;clear Uz;refine aM (L:=ids e) func174 ntmps174 ?_ (hL:=rfl);generalize hB:ids e=B;refine eO ?_
 (have W:=jA Tu (jA hR.root (jA hT.var (jA UM (jA s2 (jA s3 (jA Xa (jA hk (jA TZ (Ue)))))))));repeat' (first|refine aq fun K hK=>?_|refine ap ?_|(with_reducible refine gR 3 ?_);refine dC 3 ([],[34],[]) [] (aW 0 9) mixed ?_|(refine hK _ _ ?_;clear hK K)|(refine ao ?_ ?_<;>intro hc<;>try exact jz)|refine aT 9 ?_|refine mw ht ?_|refine cT ht ?_|(refine bF ?_ ?_<;>intro hc<;>try exact jz)|refine ar ?_|exact jI|(clear hK K)))
 subst hE;refine dY (tl:=[(9,.var 54 (bS v))]) hB hR.ok k2 (fun i=>?_) (dm jC dD) [.tmp 6];rw[List.map_set];rfl
end
section
variable {p:af}{C:aI}{m:MV}{N:NM}{e:TD}(X:TH)
def PL(hR:bJ p C m N e)(h1:1<=m.calls.length)(x:ay)(hx:¬(x.op=20\/x.op=21\/x.op=22)):cU prog 168 [mP N,cP N,.agg (dn x)] e (rB false) e:=by
 have Tu:=hR.ok.low;refine⟨?_,hR.ok,hR.ok,fun _ h=>h,ig hR h1 rfl⟩;refine aM (L:=ids e) func168 ntmps168 ?_ (hL:=rfl);generalize hB:ids e=B;refine eO ?_
 (have W:=Tu;repeat' (first|refine aq fun K hK=>?_|refine ap ?_|(refine hK _ _ ?_;clear hK K)|(refine ao ?_ ?_<;>intro hc<;>try exact jz)|refine aT 9 ?_|refine ar ?_|exact jI|(clear hK K)))
 exact dY hB hR.ok hR.ok (fun _=>rfl) (dm jC dD) [.tmp 6]
def MP(h1:1<=m.calls.length)(b:Nat)(hd:∀k,k<m.calls.length->(nth m.calls k).stack.length<=1000):∀k,k<(m.cut b).calls.length->(nth (m.cut b).calls k).stack.length<=1000:=fun k hk=>by
 have hl:(m.cut b).calls.length=m.calls.length:=MV.bH _ _;have e1:nth (m.cut b).calls k=if k=m.calls.length-1 then m.ah.cut b else nth m.calls k:=Go.Gd.dx _ _ _ _ jB
 rw[e1];split
 ·show(m.ah.stack.take _).length<=_;have:m.ah.stack.length<=1000:=hd (m.calls.length-1) jB;rw[List.length_take];omega
 ·exact hd k jB
def zy(x:aj):k9 (bS x)=true:=rfl
def JH(hR:bJ p C m N e)(inp:TG)(x:ay)(hk:pn p C m x)(hx:x.op=20\/x.op=21\/x.op=22):kK prog 168 [mP N,cP N,.agg (dn x)] e X (rB true) (fun N' l=>bJ p C (m.ins p C inp x) N' l/\N'.k=N.k):=by
 have h1:=hk.calls;have Tu:=hR.ok.low;have hT:=hR.ah h1;have hl:=hR.len;by_cases h22:x.op=22
 ·have ei:m.ins p C inp x=m.ends (vZ x.a):=Db _ _ _ _ _ h22;rw[ei];obtain⟨N',l,TT,hU,hp⟩:=Jm X hR h1 (vZ x.a) hk.deep;refine⟨N',l,TT,hU,⟨?_,hR.ok,hp.e2,hU.aZ,ig hR h1 rfl⟩⟩;refine aM (L:=ids e) func168 ntmps168 ?_ (hL:=rfl);generalize hB:ids e=B;refine eO ?_
  (have W:=Tu;repeat' (first|refine aq fun K hK=>?_|refine ap ?_|(refine hK _ _ ?_;clear hK K)|(refine ao ?_ ?_<;>intro hc<;>try exact jz)|refine aT 9 ?_|refine cp (Bu _) ?_|refine cT hp ?_|refine ar ?_|exact jI|(clear hK K)))
  exact dY hB hR.ok hp.e2 (fun _=>rfl) (dm jC dD) [.tmp 6]
 by_cases h21:x.op=21
 ·have ei:m.ins p C inp x=(m.cut 1).ends m.ah.last:=El _ _ _ _ _ h21;rw[ei];obtain⟨N1,l1,TT,Uf,U0⟩:=Hw X hR h1 (hk.one jB);have YD:1<=(m.cut 1).calls.length:=by rw[show(m.cut 1).calls.length=m.calls.length from MV.bH _ _];exact h1
  obtain⟨N',l,UA,hU,hp⟩:=Jm X TT.1 YD m.ah.last (MP h1 1 hk.deep);rw[show mP N1=mP N by unfold mP;rw[TT.2.1]]at hp;have Uc:=TT.1.ok.low;refine⟨N',l,⟨UA.1,UA.2.trans TT.2.1⟩,Uf.trans hU,⟨?_,hR.ok,hp.e2,(Uf.trans hU).aZ,ig hR h1 rfl⟩⟩;refine aM (L:=ids e) func168 ntmps168 ?_ (hL:=rfl);generalize hB:ids e=B;refine eO ?_
  (have W:=jA Tu Uc;repeat' (first|refine aq fun K hK=>?_|refine ap ?_|(refine hK _ _ ?_;clear hK K)|(refine ao ?_ ?_<;>intro hc<;>try exact jz)|refine aT 9 ?_|refine cT U0 ?_|refine cT hp ?_|refine ar ?_|exact jI|(clear hK K)))
  exact dY hB hR.ok hp.e2 (fun _=>rfl) (dm jC dD) [.tmp 6]
 have h20:x.op=20:=jB;obtain⟨c1,c2,c3⟩:=hk.call h20;obtain⟨b,hb⟩:∃b:Nat,x.b=b:=⟨x.b.toNat,jB⟩;have Yb:x.b.toNat=b:=jB;rw[Yb]at c3;have VG:b<=m.ah.stack.length:=jB;have hdp:=hk.ah;have UJ:=hR.Bv h1 b VG;have Uf:Up X e (bh e (hn 0 N.ah.c) (.var 217 (MV.cE (m.ah.cut b) ⟨N.ah.c,N.ah.v,m.ah.stack.drop (m.ah.stack.length-b)++N.ah.jk⟩))):=Up.put _ (.inl (by rw[hT.var];simp));have eC:MV.cE (m.ah.cut b) ⟨N.ah.c,N.ah.v,m.ah.stack.drop (m.ah.stack.length-b)++N.ah.jk⟩=[.rs (hn 2 N.ah.v) (m.ah.stack.length+N.ah.jk.length) 3 (m.ah.stack.length-b),.raw (.int .i64 m.ah.fn),.raw (.int .i64 m.ah.at_),.raw (.int .i64 m.ah.mark),.rs (hn 1 N.ah.c) m.ah.slots.length 3 m.ah.slots.length]:=by
  have e1:(m.ah.cut b).stack.length=m.ah.stack.length-b:=by show(m.ah.stack.take _).length=_;rw[List.length_take];omega
  unfold MV.cE;rw[e1,List.length_append,List.length_drop,show m.ah.stack.length-b+(m.ah.stack.length-(m.ah.stack.length-b)+N.ah.jk.length)=m.ah.stack.length+N.ah.jk.length from jB];rfl
 rw[eC]at UJ Uf;have Tx:=Hz (m.ah.stack.drop (m.ah.stack.length-b)) (by rw[List.length_drop];omega) 10;have V9:(m.cut b).calls.length=m.calls.length:=MV.bH _ _;have Uc:=UJ.ok.low;by_cases h8:8<=m.calls.length
 ·have ei:m.ins p C inp x=(m.cut b).stops 3 3:=by rw[AL _ _ _ _ _ h20,if_pos h8,Yb]
  rw[ei];obtain⟨N',l,UA,hU,hp⟩:=wX X UJ jB 3 3;refine⟨N',l,⟨UA.1,UA.2.1⟩,Uf.trans hU,⟨?_,hR.ok,hp.e2,(Uf.trans hU).aZ,ig hR h1 rfl⟩⟩;clear eC Uf hU;refine aM (L:=ids e) func168 ntmps168 ?_ (hL:=rfl);generalize hB:ids e=B;refine eO ?_
  (have W:=jA Tu (jA hR.root (jA hT.var (hb)));repeat' (first|refine aq fun K hK=>?_|refine ap ?_|(with_reducible refine gR 4 ?_);refine dE 4 (aW 0 10) mixed ?_|(refine hK _ _ ?_;clear hK K)|(refine ao ?_ ?_<;>intro hc<;>try exact jz)|refine aT 9 ?_|refine AG 10 zy Tx (by show aA (tie _ _) _=_;rw[jO,Tu _ jC];rfl) (Jy m.ah.stack N.ah.jk (by show aA (tie _ _) _=_;rw[jO,hT.cC];rfl) rfl jB jC) ?_|refine cT hp ?_|refine ar ?_|exact jI|(clear hK K)))
  exact dY hB hR.ok hp.e2 (fun _=>rfl) (dm jC dD) [.tmp 6]
 ·have ei:m.ins p C inp x=(m.cut b).cO p C x.a (m.ah.stack.drop (m.ah.stack.length-b)):=by rw[AL _ _ _ _ _ h20,if_neg h8,Yb]
  rw[ei];obtain⟨f0,f1,f2,s0,s1,s2,b1,h8'⟩:=c3 jB;obtain⟨N',l,UA,hU,hp⟩:=IS X UJ x.a (m.ah.stack.drop (m.ah.stack.length-b)) ⟨f0,f1,f2,s0,s1,s2,b1,by rw[V9];exact h8'⟩;refine⟨N',l,⟨UA.1,UA.2⟩,Uf.trans hU,⟨?_,hR.ok,hp.e2,(Uf.trans hU).aZ,ig hR h1 rfl⟩⟩;clear eC Uf hU;refine aM (L:=ids e) func168 ntmps168 ?_ (hL:=rfl);generalize hB:ids e=B;refine eO ?_
  (have W:=jA Tu (jA hR.root (jA hT.var (hb)));repeat' (first|refine aq fun K hK=>?_|refine ap ?_|(with_reducible refine gR 4 ?_);refine dE 4 (aW 0 10) mixed ?_|(refine hK _ _ ?_;clear hK K)|(refine ao ?_ ?_<;>intro hc<;>try exact jz)|refine aT 9 ?_|refine AG 10 zy Tx (by show aA (tie _ _) _=_;rw[jO,Tu _ jC];rfl) (Jy m.ah.stack N.ah.jk (by show aA (tie _ _) _=_;rw[jO,hT.cC];rfl) rfl jB jC) ?_|refine cT hp ?_|refine ar ?_|exact jI|(clear hK K)))
  exact dY hB hR.ok hp.e2 (fun _=>rfl) (dm jC dD) [.tmp 6]
end
def Lq{p:af}{C:aI}{m:MV}{n:Nat}(h:Bd n m)(hn:n<=1000)(hok:m.fM p C)(hC:C.entry.length<=1000)(hP:p.size.length<=1000):pn p C (m.bc (m.ah.jump (m.ah.at_+1))) (m.bn C):=by
 have h1:=hok.calls;have ht:(m.bc (m.ah.jump (m.ah.at_+1))).ah=m.ah.jump (m.ah.at_+1):=MV.bp h1 _;have hl:(m.bc (m.ah.jump (m.ah.at_+1))).calls.length=m.calls.length:=MV.bH _ _;have P':(m.ah.jump (m.ah.at_+1)).stack=m.ah.stack:=rfl;have UM:(m.ah.jump (m.ah.at_+1)).slots=m.ah.slots:=rfl;have Wg:(m.ah.jump (m.ah.at_+1)).last=m.ah.last:=rfl;refine⟨by rw[hl];exact h1,by rw[hl];exact hok.nb,?_,?_,?_,fun h20=>?_,?_,?_,fun k hk=>?_,?_,h.heap,h.outs,h.n7,by have:=h.oq;show m.in_<=1000;omega⟩
 ·rw[ht,P'];exact hok.one
 ·rw[ht,P'];exact hok.two
 ·rw[ht,UM];exact hok.slot
 ·obtain⟨c1,c2,c3,c4,c5,c6,c7,c8,c9⟩:=hok.call h20;rw[ht,P'];refine⟨c1,c2,fun h8=>⟨c4,c5,c6,c7,c8,?_,⟨hC,hP⟩,hok.nb |> (by rw[hl];exact·)⟩⟩;rw[List.length_drop];omega
 ·rw[ht,Wg];exact hok.word
 ·rw[ht,P'];exact hok.jZ
 ·rw[hl]at hk;have e:nth (m.bc (m.ah.jump (m.ah.at_+1))).calls k=if k=m.calls.length-1 then m.ah.jump (m.ah.at_+1)else nth m.calls k:=Go.Gd.dx _ _ _ _ jB
  rw[e];split
  ·exact hok.deep
  ·exact h.deep k jB
 ·rw[ht,UM];exact h.ah h1
def JS{h:TF}{a i:Int}(hi:¬(i<0\/((MV.bk h a).length:Int)<=i)):(a-1).toNat<h.length/\i.toNat<(nth h (a-1).toNat).length:=by
 unfold MV.bk at hi;by_cases e:a<1\/(h.length:Int)<a
 ·rw[if_pos e]at hi;simp only[List.length_nil]at hi;omega
 ·rw[if_neg e]at hi;omega
def MT{p:af}{C:aI}{m:MV}{inp:TG}{x:ay}(h:Bd inp.length m)(hk:pn p C m x):Bd inp.length (m.ins p C inp x):=by
 have h1:=hk.calls;have Vs:∀k,(m.cut k).calls.length=m.calls.length:=fun k=>MV.bH _ _
 have hc:∀k,Bd inp.length (m.cut k):=fun k=>h.cut h1 k
 have T9:∀k,1<=(m.cut k).calls.length:=fun k=>by rw[Vs];exact h1
 by_cases a:x.op=2
 ·rw[P5 _ _ _ _ _ a];exact h.push h1 _
 by_cases a:x.op=3
 ·rw[SO _ _ _ _ _ a];exact h.push h1 _
 by_cases a:x.op=4
 ·rw[Oj _ _ _ _ _ a];exact h.push h1 _
 by_cases a:x.op=5
 ·rw[Ni _ _ _ _ _ a];exact h.push h1 _
 by_cases a:x.op=6
 ·rw[GR _ _ _ _ _ a];refine h.bc ?_;show(m.ah.slots.set _ _).length<=24;rw[List.length_set];exact hk.slots
 by_cases a:x.op=7
 ·rw[EV _ _ _ _ _ a];exact(hc 2).dW (T9 2) _
 by_cases a:x.op=8
 ·rw[Ea _ _ _ _ _ a];exact(hc 1).push (T9 1) _
 by_cases a:x.op=9
 ·rw[Fh _ _ _ _ _ a];exact(hc 1).push (T9 1) _
 by_cases a:x.op=10
 ·rw[HU _ _ _ _ _ a];exact(hc 1).push (T9 1) _
 by_cases a:x.op=11
 ·rw[Hi _ _ _ _ _ a];split
  ·exact(hc 1).stops (T9 1) _ _
  ·exact(hc 1).push (T9 1) _
 by_cases a:x.op=12
 ·rw[Gr _ _ _ _ _ a];split
  ·exact(hc 2).stops (T9 2) _ _
  ·rename_i hi;refine(hc 2).nF ?_;obtain⟨q1,q2⟩:=JS hi;rw[GI _ _ _ q1 (by rw[List.length_set])];exact h.heap
 by_cases a:x.op=13
 ·rw[Ic _ _ _ _ _ a];split
  ·exact(hc 1).stops (T9 1) _ _
  ·split
   ·exact(hc 1).stops (T9 1) _ _
   ·refine((hc 1).push (T9 1) _).nF ?_;rw[Du,List.length_replicate];omega
 by_cases a:x.op=14
 ·rw[ji _ _ _ _ _ a];split
  ·exact h.stops h1 _ _
  ·have:=h.push h1 (vI (nth inp m.in_.toNat));have h0:=h.n7;exact⟨this.deep,this.slots,this.heap,this.outs,by show 0<=m.in_+1;omega,by show m.in_+1<=_;omega⟩
 by_cases a:x.op=15
 ·rw[Jv _ _ _ _ _ a];split
  ·exact h.stops h1 _ _
  ·have:=hc 1;exact⟨this.deep,this.slots,this.heap,by show(m.bA++[_]).length<=24;rw[List.length_append,List.length_singleton];omega,this.n7,this.oq⟩
 by_cases a:x.op=16
 ·rw[Mn _ _ _ _ _ a];exact h.bc hk.slots
 by_cases a:x.op=17
 ·rw[QJ _ _ _ _ _ a];split
  ·exact h.bc hk.slots
  ·exact hc 1
 by_cases a:x.op=18\/x.op=19
 ·rw[SI _ _ _ _ _ a];split
  ·exact h.bc hk.slots
  ·exact hc 1
 by_cases a:x.op=20
 ·rw[AL _ _ _ _ _ a];split
  ·exact(hc _).stops (T9 _) _ _
  ·rename_i h8;obtain⟨c1,c2,c3⟩:=hk.call a;have c3:=c3 jB;refine(hc _).cO (T9 _) ?_ c3.s1 c3.s2;rw[show(m.cut x.b.toNat).ah=m.ah.cut x.b.toNat from MV.bp h1 _];show(m.ah.stack.take _).length<=1000;have:=hk.ah;rw[List.length_take];omega
 by_cases a:x.op=21
 ·rw[El _ _ _ _ _ a];exact(hc 1).ends _
 by_cases a:x.op=22
 ·rw[Db _ _ _ _ _ a];exact h.ends _
 by_cases a:x.op=23
 ·rw[GW _ _ _ _ _ a];exact hc 1
 ·rw[Nl _ _ _ _ _ jB];exact h
section
variable {p:af}{C:aI}{m:MV}{N:NM}{e:TD}(X:TH)
def J2(hR:bJ p C m N e)(inp:TG)(x:ay)(hk:pn p C m x)(UB:inp.length<=1000)(hx:x.op=14\/x.op=15):kK prog 169 [mP N,cP N,.agg (dn x),aO eI 1 inp] e X (.aQ []) (To p C (m.ins p C inp x) N):=by
 have h1:=hk.calls;have Tu:=hR.ok.low;have hdp:=hk.ah;have n7:=hk.n7;have oq:=hk.oq;have hou:=hk.outs;by_cases h14:x.op=14
 ·rw[ji _ _ _ _ _ h14];by_cases hw:(inp.length:Int)<=m.in_
  ·rw[if_pos hw];obtain⟨N',l,hT,hU,hp⟩:=wX X hR h1 1 0;refine⟨N',l,hT,hU,⟨?_,hR.ok,hp.e2,hU.aZ,ig hR h1 rfl⟩⟩;refine aM (L:=ids e) func169 ntmps169 ?_ (hL:=rfl);generalize hB:ids e=B;refine eO ?_
   (have W:=jA Tu (hR.root);repeat' (first|refine aq fun K hK=>?_|refine ap ?_|(refine hK _ _ ?_;clear hK K)|(refine ao ?_ ?_<;>intro hc<;>try exact jz)|refine aT 9 ?_|refine cT hp ?_|refine ar ?_|exact jI|(clear hK K)))
   exact dY hB hR.ok hp.e2 (fun _=>rfl) (dm jC dD) []
  ·rw[if_neg hw];obtain⟨N1,l1,TT,Uf,U0⟩:=sy X hR h1 (vI (nth inp m.in_.toNat)) hdp;have Uz:=TT.1.l7 (m':={ m.push (vI (nth inp m.in_.toNat))with in_:=m.in_+1 }) rfl rfl rfl;have Uc:=TT.1.ok.low;have VT:=TT.1.root;rw[TT.2.1]at VT;have UW:(m.push (vI (nth inp m.in_.toNat))).in_=m.in_:=rfl;have UF:Up X l1 (bh l1 (hn 3 N1.k) (.var 205 (mE p C { m.push (vI (nth inp m.in_.toNat))with in_:=m.in_+1 } N1))):=Up.put _ (.inl (by rw[TT.2.1,VT];simp));refine⟨N1,_,⟨Uz,TT.2.1,TT.2.2⟩,Uf.trans UF,⟨?_,hR.ok,Uz.ok,(Uf.trans UF).aZ,ig hR h1 rfl⟩⟩;have k2:=Uz.ok;clear Uz Uf UF;generalize hE:bh l1 (hn 3 N1.k) (.var 205 (mE p C { m.push (vI (nth inp m.in_.toNat))with in_:=m.in_+1 } N1))=E at k2 ⊢;refine aM (L:=ids e) func169 ntmps169 ?_ (hL:=rfl);generalize hB:ids e=B;refine eO ?_
   (have W:=jA Tu (jA Uc (jA hR.root (jA VT (jA TT.2.1 (UW)))));repeat' (first|refine aq fun K hK=>?_|refine ap ?_|(with_reducible refine gR 4 ?_);refine dE 4 (aW 0 12) mixed ?_|(refine hK _ _ ?_;clear hK K)|(refine ao ?_ ?_<;>intro hc<;>try exact jz)|refine aT 9 ?_|refine cp (tx _) ?_|refine cT U0 ?_|refine ar ?_|exact jI|(clear hK K)))
   subst hE;refine dY (tl:=[(9,.var 219 (dn x))]) hB hR.ok k2 (fun i=>?_) (dm jC dD) [];have:=TT.2.1;unfold mE;rw[this];rfl
 have h15:x.op=15:=jB;rw[Jv _ _ _ _ _ h15];by_cases ho:24<=m.bA.length
 ·rw[if_pos ho];obtain⟨N',l,hT,hU,hp⟩:=wX X hR h1 3 5;refine⟨N',l,hT,hU,⟨?_,hR.ok,hp.e2,hU.aZ,ig hR h1 rfl⟩⟩;refine aM (L:=ids e) func169 ntmps169 ?_ (hL:=rfl);generalize hB:ids e=B;refine eO ?_
  (have W:=jA Tu (hR.root);repeat' (first|refine aq fun K hK=>?_|refine ap ?_|(refine hK _ _ ?_;clear hK K)|(refine ao ?_ ?_<;>intro hc<;>try exact jz)|refine aT 9 ?_|refine cT hp ?_|refine ar ?_|exact jI|(clear hK K)))
  exact dY hB hR.ok hp.e2 (fun _=>rfl) (dm jC dD) []
 ·rw[if_neg ho];have Vm:=hk.one jB;obtain⟨N1,l1,⟨TT,X1⟩,Uf,U0,VN⟩:=xm X hR h1 Vm;have Uz:=TT.1.By (m':={ m.cut 1 with bA:=m.bA++[mN m.ah.last] }) rfl rfl;have Uc:=TT.1.ok.low;have VT:=TT.1.root;have ho1:=TT.1.outs;rw[TT.2.1]at VT ho1;have UF:Up X l1 (bh (bh l1 (hn 8 N1.k) (.aG 9 1 ((m.bA++[mN m.ah.last]).map eS))) (hn 3 N1.k) (.var 205 (mE p C { m.cut 1 with bA:=m.bA++[mN m.ah.last] } N1))):=by
   refine(Up.put _ (.inl ?_)).trans (Up.put _ (.inl ?_))
   ·rw[TT.2.1,ho1];simp
   ·rw[bO,if_neg (dh jB jB jB),TT.2.1,VT];simp
  have hwd:=JD m.ah.last (hk.word h15);refine⟨N1,_,⟨Uz,TT.2.1,TT.2.2⟩,Uf.trans UF,⟨?_,hR.ok,Uz.ok,(Uf.trans UF).aZ,ig hR h1 rfl⟩⟩;have k2:=Uz.ok;clear Uz Uf UF;have ho1:aA l1 (hn 8 N.k)=some (.aG 9 1 (m.bA.map eS)):=ho1;show ab _ _ _ _ fun r l'=>r=_/\l'=bh (bh l1 (hn 8 N1.k) (.aG 9 1 ((m.bA++[mN m.ah.last]).map eS))) (hn 3 N1.k) (.var 205 (mE p C { m.cut 1 with bA:=m.bA++[mN m.ah.last] } N1))
  have k2:fI 0 (bh (bh l1 (hn 8 N1.k) (.aG 9 1 ((m.bA++[mN m.ah.last]).map eS))) (hn 3 N1.k) (.var 205 (mE p C { m.cut 1 with bA:=m.bA++[mN m.ah.last] } N1))):=k2;generalize hE:bh (bh l1 (hn 8 N1.k) (.aG 9 1 ((m.bA++[mN m.ah.last]).map eS))) (hn 3 N1.k) (.var 205 (mE p C { m.cut 1 with bA:=m.bA++[mN m.ah.last] } N1))=E at k2 ⊢;refine aM (L:=ids e) func169 ntmps169 ?_ (hL:=rfl);generalize hB:ids e=B;refine eO ?_
  (have W:=jA Tu (jA Uc (jA hR.root (jA VT (jA ho1 (TT.2.1)))));repeat' (first|refine aq fun K hK=>?_|refine ap ?_|(with_reducible refine gR 9 ?_);refine qw 9 [hn 2 N.ah.v,hn 16 N.ah.c] [73] [72,1000000] [] (aW 0 15) mixed ?_|(refine hK _ _ ?_;clear hK K)|(refine ao ?_ ?_<;>intro hc<;>try exact jz)|refine aT 9 ?_|refine nU U0 (VN _ _) ?_|refine cq (hwd) ?_|refine ar ?_|exact jI|(clear hK K)))
  subst hE;refine dY (tl:=[(9,.var 219 (dn x))]) hB hR.ok k2 (fun i=>?_) (dm jC dD) [];have:=TT.2.1;have e1:(m.bA++[mN m.ah.last]).length=m.bA.length+1:=jE;unfold mE;dsimp only;rw[this,List.map_append,e1];rfl
end
section
variable {p:af}{C:aI}(X:TH)
inductive sq(inp:List Int)(N:NM)(x:ay)(e l:List (Nat×Row)):Prop
 |a (h:cU prog 164 [mP N,cP N,.agg (dn x)] e (rB true) l)
 |b (h1:cU prog 164 [mP N,cP N,.agg (dn x)] e (rB false) e) (h:cU prog 165 [mP N,cP N,.agg (dn x)] e (rB true) l)
 |c (h1:cU prog 164 [mP N,cP N,.agg (dn x)] e (rB false) e) (h2:cU prog 165 [mP N,cP N,.agg (dn x)] e (rB false) e) (h:cU prog 166 [mP N,cP N,.agg (dn x)] e (rB true) l)
 |d (h1:cU prog 164 [mP N,cP N,.agg (dn x)] e (rB false) e) (h2:cU prog 165 [mP N,cP N,.agg (dn x)] e (rB false) e) (h3:cU prog 166 [mP N,cP N,.agg (dn x)] e (rB false) e) (h:cU prog 167 [mP N,cP N,.agg (dn x)] e (rB true) l)
 |e (h1:cU prog 164 [mP N,cP N,.agg (dn x)] e (rB false) e) (h2:cU prog 165 [mP N,cP N,.agg (dn x)] e (rB false) e) (h3:cU prog 166 [mP N,cP N,.agg (dn x)] e (rB false) e) (h4:cU prog 167 [mP N,cP N,.agg (dn x)] e (rB false) e) (h:cU prog 168 [mP N,cP N,.agg (dn x)] e (rB true) l)
 |f (h1:cU prog 164 [mP N,cP N,.agg (dn x)] e (rB false) e) (h2:cU prog 165 [mP N,cP N,.agg (dn x)] e (rB false) e) (h3:cU prog 166 [mP N,cP N,.agg (dn x)] e (rB false) e) (h4:cU prog 167 [mP N,cP N,.agg (dn x)] e (rB false) e) (h5:cU prog 168 [mP N,cP N,.agg (dn x)] e (rB false) e) (h:cU prog 169 [mP N,cP N,.agg (dn x),aO eI 1 inp] e (.aQ []) l)
variable{m:MV}
def NQ{N:NM}{e:TD}(hR:bJ p C m N e)(inp:TG)(UB:inp.length<=1000)(x:ay)(hk:pn p C m x)(hx:2<=x.op/\x.op<=23):∃N' l,(bJ p C (m.ins p C inp x) N' l/\N'.k=N.k)/\Up X e l/\sq inp N x e l:=by
 have h1:=hk.calls;by_cases a:x.op=2\/x.op=3\/x.op=4\/x.op=5
 ·obtain⟨N',l,hT,hU,hp⟩:=Nf X hR inp x hk a;exact⟨N',l,⟨hT.1,hT.2.1⟩,hU,.a hp⟩
 have n1:=KP hR h1 x a;by_cases b:x.op=7\/x.op=8\/x.op=9\/x.op=10
 ·obtain⟨N',l,hT,hU,hp⟩:=JQ X hR inp x hk b;exact⟨N',l,⟨hT.1,hT.2.1⟩,hU,.b n1 hp⟩
 have n2:=Lb hR h1 x b;by_cases c:x.op=6\/x.op=23\/x.op=11\/x.op=12\/x.op=13
 ·obtain⟨N',l,hT,hU,hp⟩:=La X hR inp x hk c;exact⟨N',l,⟨hT.1,hT.2.1⟩,hU,.c n1 n2 hp⟩
 have n3:=M5 hR h1 x c;by_cases d:x.op=16\/x.op=17\/x.op=18\/x.op=19
 ·obtain⟨N',l,hT,hU,hp⟩:=O3 X hR inp x hk d;exact⟨N',l,⟨hT.1,hT.2.1⟩,hU,.d n1 n2 n3 hp⟩
 have n4:=Kf hR h1 x d;by_cases g:x.op=20\/x.op=21\/x.op=22
 ·obtain⟨N',l,hT,hU,hp⟩:=JH X hR inp x hk g;exact⟨N',l,hT,hU,.e n1 n2 n3 n4 hp⟩
 have n5:=PL hR h1 x g;obtain⟨N',l,hT,hU,hp⟩:=J2 X hR inp x hk UB jB;exact⟨N',l,⟨hT.1,hT.2.1⟩,hU,.f n1 n2 n3 n4 n5 hp⟩
structure MS where
 m:MV
 N:NM
 e:List (Nat×Row)
structure Round(p:af)(C:aI)(inp:List Int)(X:List Nat)(a b:MS):Prop where
 rep:bJ p C a.m a.N a.e
 st:a.m.status=0
 op:(a.m.bn C).op≠1
 calls:1<=a.m.calls.length
 a0:0<=a.m.ah.at_
 a1:a.m.ah.at_<C.ins.length
 up:Up X a.e b.e
 k:b.N.k=a.N.k
 does:sq inp a.N (a.m.bn C) (bh a.e (hn 0 a.N.ah.c) (.var 217 (MV.cE (a.m.ah.jump (a.m.ah.at_+1)) a.N.ah))) b.e
 ok:fI 0 b.e
variable{inp:TG}
def OB{N:NM}{e:TD}(hR:bJ p C m N e)(hb:Bd inp.length m)(UB:inp.length<=1000)(hC:C.entry.length<=1000)(hP:p.size.length<=1000)(h0:m.status=0)(h1:(m.bn C).op≠1)(hok:m.fM p C):∃N' e',Round p C inp X ⟨m,N,e⟩ ⟨m.one p C inp,N',e'⟩/\bJ p C (m.one p C inp) N' e'/\Bd inp.length (m.one p C inp):=by have Tx:=hok.calls;have hx:=Lq hb UB hok hC hP;have hT:=hR.ah Tx;have UJ:=hR.j5 Tx (c':=m.ah.jump (m.ah.at_+1)) rfl rfl;have Uf:Up X e (bh e (hn 0 N.ah.c) (.var 217 (MV.cE (m.ah.jump (m.ah.at_+1)) N.ah))):=Up.put _ (.inl (by rw[hT.var];simp));obtain⟨N',l,UA,UF,hd⟩:=NQ X UJ inp UB (m.bn C) hx (by have:=hok.op;omega);have Vm:Bd inp.length (m.bc (m.ah.jump (m.ah.at_+1))):=hb.bc (hb.ah Tx);exact⟨N',l,⟨hR,h0,h1,Tx,hok.a0,hok.a1,Uf.trans UF,UA.2,hd,UA.1.ok⟩,UA.1,MT Vm hx⟩
def QG(UB:inp.length<=1000)(hC:C.entry.length<=1000)(hP:p.size.length<=1000){n:Nat}{m':MV}(hg:fh p C inp n m m'):∀{N:NM} {e:TD},bJ p C m N e->Bd inp.length m->∃f:Nat->MS,f 0=⟨m,N,e⟩/\(∀i,i<n->Round p C inp X (f i) (f (i+1)))/\(f n).m=m'/\bJ p C m' (f n).N (f n).e/\Bd inp.length m':=by
 induction hg with
 |refl m=>intro N e hR hb;exact⟨fun _=>⟨m,N,e⟩,rfl,fun i hi=>jB,rfl,hR,hb⟩
 |@step n m m' h0 h1 hok _ ih=>
  intro N e hR hb;obtain⟨N1,e1,hr,UJ,Vm⟩:=OB X hR hb UB hC hP h0 h1 hok;obtain⟨f,f0,f1,f2,f3,f4⟩:=ih UJ Vm;refine⟨fun i=>match i with|0=>⟨m,N,e⟩|i+1=>f i,rfl,fun i hi=>?_,f2,f3,f4⟩;match i with
  |0=>show Round p C inp X ⟨m,N,e⟩ (f 0);rw[f0];exact hr
  |i+1=>exact f1 i jB
def Ge{m':MV}{N:NM}{e:TD}(hR:bJ p C m N e)(hb:Bd inp.length m)(UB:inp.length<=1000)(hC:C.entry.length<=1000)(hP:p.size.length<=1000)(hI:C.ins.length<=1000000)(hg:bf p C inp m m')(P':m'.dw C)(Ut:m'.status=0->1<=m'.calls.length/\0<=m'.ah.at_/\m'.ah.at_<C.ins.length) :
  kK prog 114 [mP N,aO eI 1 inp] e X (.aQ []) (fun N' l=>bJ p C m' N' l/\N'.k=N.k/\Bd inp.length m'):=by
 obtain⟨n,hg⟩:=hg;obtain⟨f,f0,f1,f2,f3,f4⟩:=QG X UB hC hP hg hR hb;have hk:∀i,i<=n->(f i).N.k=N.k/\Up X e (f i).e/\fI 0 (f i).e:=fun i=>by
  induction i with
  |zero=>intro _;rw[f0];exact⟨rfl,Up.refl _ _,hR.ok⟩
  |succ i ih=> intro hi;obtain⟨a,b,c⟩:=ih jB;have:=f1 i jB;exact⟨this.k.trans a,b.trans this.up,this.ok⟩
 obtain⟨k1,k2,k3⟩:=hk n jl;refine⟨(f n).N,(f n).e,⟨f3,k1,f4⟩,k2,⟨?_,hR.ok,k3,k2.aZ,pZ hR rfl⟩⟩;refine aM (L:=ids e) func114 ntmps114 ?_ (hL:=rfl);generalize hB:ids e=B;refine eO ?_
 (repeat' (first|(with_reducible refine gR 5 ?_);refine sS [43,50,57,64] ?_|refine aq fun K hK=>?_|refine ap ?_|(with_reducible refine gR 2 ?_);refine dE 2 (aW 0 13) mixed ?_|(refine hK _ _ ?_;clear hK K)|(refine ao ?_ ?_<;>intro hc<;>try exact jz)|refine ar ?_|exact jI|(clear hK K)))
 refine dV (S:=Nat) [(4,68)] (fun i=>i<=n) (fun i=>[]) (fun i=>⟨B,tie (f i).e []⟩) (fun i=>n-i) 0 jB (dS (by rw[f0]) cv) ?_;rintro i hi Kr TR;by_cases O':i<n
 ·have hr:=f1 i O';have Xa:=hk i hi;obtain⟨q1,q2,q3⟩:=hk (i+1) O';obtain⟨r1,r2,r3,r4,r5,r6,r7,r8,r9,r10⟩:=hr;generalize Uq:f (i+1)=b at*;generalize f i=a at*;obtain⟨am,aN,ae⟩:=a;obtain⟨bm,bN,be⟩:=b;simp only at*;have eM:mP aN=mP N:=by unfold mP;rw[Xa.1]
  have ht:=tG r1 r4;rw[eM]at ht;have hT:=r1.ah r4;have Tu:=r1.ok.low;have Vu:=r1.root;rw[Xa.1]at Vu;have haI:=r10.low;have Ve:∀i,i<1000->aA (bh ae (hn 0 aN.ah.c) (.var 217 (MV.cE (am.ah.jump (am.ah.at_+1)) aN.ah))) i=none:=fun i hi=>by rw[bO,if_neg (by have:=ix 0 aN.ah.c;omega)];exact Tu i hi
  have hx:nth C.ins am.ah.at_.toNat=am.bn C:=rfl;have hxo:=r3;generalize am.bn C=x at*
  (refine S ?_;try exact jI)
  rcases r9 with h|⟨h1,h⟩|⟨h1,h2,h⟩|⟨h1,h2,h3,h⟩|⟨h1,h2,h3,h4,h⟩|⟨h1,h2,h3,h4,h5,h⟩
  all_goals
   simp only[eM]at*
   (have W:=jA Tu (jA Ve (jA haI (jA Vu (jA hT.var (jA r2 (hx))))));repeat' (first|(with_reducible refine gR 5 ?_);refine sS [43,50,57,64] ?_|refine aq fun K hK=>?_|refine ap ?_|(with_reducible refine gR 2 ?_);refine dE 2 (aW 0 13) mixed ?_|(refine hK _ _ ?_;clear hK K)|(refine ao ?_ ?_<;>intro hc<;>try exact jz)|refine cH 9 ?_|refine cT ht ?_|refine cT h ?_|refine cT h1 ?_|refine cT h2 ?_|refine cT h3 ?_|refine cT h4 ?_|refine cT h5 ?_|refine ar ?_|exact jI|(clear hK K)))
  all_goals exact TR _ _ (OY hB hR.ok r10 (dm jC dD) (i+1) jB (by show n-(i+1)<n-i;omega) (by show _=Hp.mk B (tie (f (i+1)).e []);rw[Uq]) iF)
 ·have UW:i=n:=jB;subst UW;have ht0:(f i).m=m':=f2;generalize f i=a at*;obtain⟨am,aN,ae⟩:=a;simp only at*;subst ht0;have eM:mP aN=mP N:=by unfold mP;rw[k1]
  have Tu:=f3.ok.low;have Vu:=f3.root;rw[k1]at Vu;by_cases h0:am.status=0
  ·obtain⟨r4,r5,r6⟩:=Ut h0;have VL:(am.bn C).op=1:=by
    rcases P' with h|h
    ·exact(h h0).elim
    ·exact h
   have ht:=tG f3 r4;rw[eM]at ht;have hT:=f3.ah r4;have hx:nth C.ins am.ah.at_.toNat=am.bn C:=rfl;generalize am.bn C=x at*;refine S ?_
   (have W:=jA Tu (jA Vu (jA hT.var (jA h0 (hx))));repeat' (first|(with_reducible refine gR 5 ?_);refine sS [43,50,57,64] ?_|refine aq fun K hK=>?_|refine ap ?_|(with_reducible refine gR 2 ?_);refine dE 2 (aW 0 13) mixed ?_|(refine hK _ _ ?_;clear hK K)|(refine ao ?_ ?_<;>intro hc<;>try exact jz)|refine cH 9 ?_|refine cT ht ?_|refine ar ?_|exact jI|(clear hK K)))
   exact dY hB hR.ok f3.ok (fun _=>rfl) (dm jC dD) []
  ·(refine S ?_;try exact jI)
   (have W:=jA Tu Vu;repeat' (first|(with_reducible refine gR 5 ?_);refine sS [43,50,57,64] ?_|refine aq fun K hK=>?_|refine ap ?_|(with_reducible refine gR 2 ?_);refine dE 2 (aW 0 13) mixed ?_|(refine hK _ _ ?_;clear hK K)|(refine ao ?_ ?_<;>intro hc<;>try exact jz)|refine ar ?_|exact jI|(clear hK K)))
   exact dY hB hR.ok f3.ok (tl:=[]) (fun _=>rfl) dD []
end
attribute [local go_sem] Ox
section
variable {p:af}{C:aI}(X:TH)
def LN{m:MV}{N:NM}{e:TD}(hR:bJ p C m N e)(inp:TG)(hs:m.status=2\/m.status=3):cU prog 117 [mP N,aO eI 1 inp] e (.aQ []) e:=by
 have Tu:=hR.ok.low;refine⟨?_,hR.ok,hR.ok,fun _ h=>h,pZ hR rfl⟩;rcases hs with h|h
 all_goals
  refine aM (L:=ids e) func117 ntmps117 ?_ (hL:=rfl);generalize hB:ids e=B;refine eO ?_
  (have W:=jA Tu (jA hR.root (h));repeat' (first|refine aq fun K hK=>?_|refine ap ?_|(refine hK _ _ ?_;clear hK K)|(refine ao ?_ ?_<;>intro hc<;>try exact jz)|refine ar ?_|exact jI|(clear hK K)))
  exact dY hB hR.ok hR.ok (tl:=[]) (fun _=>rfl) dD []
def O5{inp:TG}{m m1:MV}{N:NM}{e:TD}(hR:bJ p C m N e)(h1:1<=m.calls.length)(hb:Bd inp.length m)(UB:inp.length<=1000)(hC:C.entry.length<=1000)(hP:p.size.length<=1000)(hI:C.ins.length<=1000000)(P':¬(m.status=2\/m.status=3))(Ut:0<=m.ah.at_/\m.ah.at_<=1000000)(WU:0<=m.time/\m.time<=1000000)
  (hg:bf p C inp m.dX m1) (Xt:m1.dw C) (haJ:m1.status=0->1<=m1.calls.length/\0<=m1.ah.at_/\m1.ah.at_<C.ins.length) (WW:-1<=m1.time/\m1.time<=1000000) :
  kK prog 117 [mP N,aO eI 1 inp] e X (.aQ []) (fun N' l=>bJ p C m1.fz N' l/\N'.k=N.k/\Bd inp.length m1.fz):=by
 have Tu:=hR.ok.low;have hT:=hR.ah h1;have Xh:=hR.l7 (m':={ m with status:=0 }) rfl rfl rfl;have ht:=tG Xh h1;have UJ:=NX hR h1;have Vm:Bd inp.length m.dX:=(hb.bc (c:={ m.ah with mark:=m.ah.at_,at_:=m.ah.at_+1 }) (hb.ah h1)).status 0 m.cX;have Uf:Up X e (bh (bh e (hn 3 N.k) (.var 205 (mE p C { m with status:=0 } N))) (hn 0 N.ah.c) (.var 217 (MV.cE { m.ah with mark:=m.ah.at_,at_:=m.ah.at_+1 } N.ah))):=by
  refine(Up.put _ (.inl ?_)).trans (Up.put _ (.inl ?_))
  ·rw[hR.root];simp
  ·rw[bO,if_neg (dh jB jB jB),hT.var];simp
 obtain⟨N1,l1,⟨Uz,TY,VG⟩,UF,hp⟩:=Ge X UJ Vm UB hC hP hI hg Xt haJ;have Uc:=Uz.ok.low;have Xb:=Uz.root;rw[TY]at Xb;by_cases hw:m1.status=1
 ·have et:m1.fz=m1:=by unfold MV.fz;rw[if_pos hw]
  rw[et];refine⟨N1,l1,⟨Uz,TY,VG⟩,Uf.trans UF,⟨?_,hR.ok,Uz.ok,(Uf.trans UF).aZ,pZ hR rfl⟩⟩;clear Uf UF Xh UJ;refine aM (L:=ids e) func117 ntmps117 ?_ (hL:=rfl);generalize hB:ids e=B;refine eO ?_
  (have W:=jA Tu (jA Uc (jA hR.root (jA hT.var (Xb))));repeat' (first|refine aq fun K hK=>?_|refine ap ?_|(refine hK _ _ ?_;clear hK K)|(refine ao ?_ ?_<;>intro hc<;>try exact jz)|refine cT ht ?_|refine cT hp ?_|refine ar ?_|exact jI|(clear hK K)))
  exact dY hB hR.ok Uz.ok (tl:=[]) (fun _=>rfl) dD []
 ·have et:m1.fz={ m1 with time:=m1.time+1 }:=by unfold MV.fz;rw[if_neg hw]
  rw[et];have Yk:=Uz.l7 (m':={ m1 with time:=m1.time+1 }) rfl rfl rfl;have hU3:Up X l1 (bh l1 (hn 3 N1.k) (.var 205 (mE p C { m1 with time:=m1.time+1 } N1))):=Up.put _ (.inl (by rw[Uz.root];simp));refine⟨N1,_,⟨Yk,TY,⟨VG.deep,VG.slots,VG.heap,VG.outs,VG.n7,VG.oq⟩⟩,Uf.trans (UF.trans hU3),⟨?_,hR.ok,Yk.ok,(Uf.trans (UF.trans hU3)).aZ,pZ hR rfl⟩⟩;have k2:=Yk.ok;clear Uf UF hU3 Xh UJ Yk;generalize hE:bh l1 (hn 3 N1.k) (.var 205 (mE p C { m1 with time:=m1.time+1 } N1))=E at k2 ⊢;refine aM (L:=ids e) func117 ntmps117 ?_ (hL:=rfl);generalize hB:ids e=B;refine eO ?_
  (have W:=jA Tu (jA Uc (jA hR.root (jA hT.var (Xb))));repeat' (first|refine aq fun K hK=>?_|refine ap ?_|(refine hK _ _ ?_;clear hK K)|(refine ao ?_ ?_<;>intro hc<;>try exact jz)|refine cT ht ?_|refine cT hp ?_|refine ar ?_|exact jI|(clear hK K)))
  subst hE;refine dY hB hR.ok k2 (tl:=[]) (fun i=>?_) dD [];unfold mE;rw[TY];rfl
end
end Go.Proofs.YtjpcgmjaipfgdaaGreatDoor
namespace Go.Proofs.YtjpcgmjaipfgdaaGreatDoor
open Go Go.Gd Tryz
def L0(x:Int):k9 (eI x)=true:=rfl
def P8(x:TI):k9 (eS x)=true:=rfl
def R9(i:Nat):ab prog 111 [] [] (fun r l=>r=.pt i 0 0 0/\l=[(i,.var 269 [.raw (.slice none 0 0),.raw (.slice none 0 0)])]):=by
 refine aM func111 ntmps111 ?_;refine S ?_
 (repeat' (first|refine aq fun K hK=>?_|refine ap ?_|(refine hK _ _ ?_;clear hK K)|(refine ao ?_ ?_<;>intro hc<;>try exact jz)|refine aT i ?_|refine ar ?_|exact jI|(clear hK K)))
 (refine bV [.tmp 0] ?_ ?_<;>(try simp only[go_sem]))
def Oy(h:TF)(hl:h.length<=1000)(hf:h.flatten.length<=1000):ab prog 118 [.pt 2 0 0 0] (gG h) (fun r l=>r=aO sj 1 h/\l=gG h):=by
 refine aM func118 ntmps118 ?_;refine S ?_
 (repeat' (first|refine aq fun K hK=>?_|refine ap ?_|(refine hK _ _ ?_;clear hK K)|(refine ao ?_ ?_<;>intro hc<;>try exact jz)|refine ar ?_|exact jI|(clear hK K)))
 refine jq (dL.nil 5 3 22 (sz:=1) rfl jC (Or.inl rfl)) ?_
 (refine S ?_;try exact jI)
 have TX:=hK;clear hK;refine dV (S:=Nat) [(3,2),(10,12)] (fun k=>k<=h.length) (fun k=>[(3,.rs 5 k 1 k),(10,rI k)])
  (fun k=>⟨[2,3,4],gG h++[(5,.aG 22 1 ((h.take k).map sj))]⟩) (fun k=>h.length-k) 0 jB (dS rfl cv) ?_
 rintro k hk Kr TR;by_cases O':k<h.length
 ·have T9:=xj h k ((k:Int)+1) rfl hl hf O';have T3:=wC h (k+1);have hof:=vN O';have Tx:=yA (nth h k) jB 6;have etk:h.take (k+1)=h.take k++[nth h k]:=by rw[List.take_succ,List.getElem?_eq_getElem O',fP O'];rfl
  refine S ?_
  (repeat' (first|refine aq fun K hK=>?_|refine ap ?_|(refine hK _ _ ?_;clear hK K)|(refine ao ?_ ?_<;>intro hc<;>try exact jz)|refine cm (T9) ?_|refine AG 6 L0 Tx rfl (fun w vs hw hv=>by have:=LY (enc:=eI) h.flatten rfl rfl jB jC w vs hw hv;rw[OH O']at this;exact this) ?_|refine ar ?_|exact jI|(clear hK K)))
  refine TR _ _ (eu (k+1) jB (by show h.length-(k+1)<h.length-k;omega) (by rw[etk,List.map_append];rfl) cv)
 ·have Vf:k=h.length:=jB;subst Vf;refine S ?_
  (repeat' (first|refine aq fun K hK=>?_|refine ap ?_|(refine hK _ _ ?_;clear hK K)|(refine ao ?_ ?_<;>intro hc<;>try exact jz)|refine TX _ _ ?_|refine ar ?_|exact jI|(clear hK K)))
  refine fA [.tmp 2] ?_;exact cW.row (enc:=sj) h rfl rfl rfl
end Go.Proofs.YtjpcgmjaipfgdaaGreatDoor
namespace Go.Proofs.YtjpcgmjaipfgdaaGreatDoor
open Go Go.Gd Tryz Go.Gd.MV
section
variable {p:af}{C:aI}(X:TH)
def Pq{m:MV}{N:NM}{e:TD}(hR:bJ p C m N e)(hl:m.heap.length<=1000)(hf:m.heap.flatten.length<=1000):cU prog 118 [.pt (hn 5 N.k) 0 0 0] e (aO sj 1 m.heap) e:=
 hR.kW rfl rfl (Oy m.heap hl hf)
def Lj{m:MV}{N:NM}{e:TD}(hR:bJ p C m N e){k:Nat}(hk:k<m.calls.length):(List.map (fun j=>[AV.pt (hn 0 j) 0 0 0]) (List.map NC.c N.cs)++List.map (fun j=>[AV.pt (hn 0 j) 0 0 0]) N.cj).getD k []=[.pt (hn 0 (nth N.cs k).c) 0 0 0]:=by have hl:=hR.len;rw[<-List.map_append];rw[List.getD_eq_getElem?_getD,List.getElem?_map,List.getElem?_append_left (by rw[List.length_map];omega),List.getElem?_map,List.getElem?_eq_getElem jB,fP jB];rfl
structure um(C:aI)(m:MV):Prop where
 calls:m.calls.length<=8
 sel:∀k,k<m.calls.length->0<=m.fQ k/\m.fQ k<C.ins.length
 slots:∀k,k<m.calls.length->(nth m.calls k).slots.length<=24
 heap:gi m.heap<=40
 outs:m.bA.length<=24
 ins:C.ins.length<=1000000
def xM{m:MV}{N:NM}{e:TD}(hR:bJ p C m N e)(hk:um C m):cU prog 63 [mP N] e (.agg (lI (m.dB C))) e:=by
 obtain⟨s1,s2,s3,s4,s5,s6⟩:=hk;rw[wK]at s4;have Tu:=hR.ok.low;have hl:=hR.len;have Yt:=Pq hR jB jB;have Xj:=Mp m.bA jB 8;refine⟨?_,hR.ok,hR.ok,fun _ h=>h,pZ hR rfl⟩;refine aM (L:=ids e) func63 ntmps63 ?_ (hL:=rfl);generalize hB:ids e=B;refine eO ?_
 (have W:=jA Tu (hR.root);repeat' (first|refine aq fun K hK=>?_|refine ap ?_|(with_reducible refine gR 1 ?_);refine dC 1 ([],[],[11,20]) [27] [0,1,2,3,5,6,7,8,9,10,11,12,14,15,16,17,18,19,20,21,22,23,24,25,4,13,26,27,28] mixed ?_|(refine hK _ _ ?_;clear hK K)|(refine ao ?_ ?_<;>intro hc<;>try exact jz)|refine cH 9 ?_|refine cH 10 ?_|refine nU Yt (fun _ _ _=>.inl rfl) ?_|refine JI 8 P8 Xj (by show aA (tie _ _) _=_;rw[jO,Tu _ jC];rfl) (Bq m.bA (by show aA (tie _ _) _=_;rw[jO,hR.outs];rfl) rfl) ?_|refine ar ?_|exact jI|(clear hK K)))
 refine jq (dL.gb 11 10 0 137 3 (by show aA (tie _ _) _=_;rw[jO,Tu _ jC];rfl) jC (by show aA (tie _ _) _=_;rw[jO,Tu _ jC];rfl) rfl) ?_
 (have W:=jA Tu Tu;refine S ?_;clear W;try exact jI)
 have TX:=hK;clear hK;refine dV (S:=Nat) [(4,3),(39,46)] (fun i=>i<=m.calls.length) (fun i=>[(39,rI i)])
  (fun i=>⟨B,tie e [(9,.var 45 [.raw (.slice none 0 0),.raw (.slice none 0 0),.raw (.int .i64 0),.raw (.slice none 0 0),.raw (.int .i64 0),.raw (.int .i64 0),.raw (.int .i64 0)]),
   (10,.var 45 [.rs 11 i 3 i,aO sj 1 m.heap,.raw (.int .i64 m.in_),aO eS 1 m.bA,.raw (.int .i64 m.status),.raw (.int .i64 m.cX),.raw (.int .i64 m.time)]),(11,.aG 137 3 (((List.range i).map (m.spot C)).map qL))]⟩)
  (fun i=>m.calls.length-i) 0 jB (dS rfl cv) ?_
 rintro i hi Kr TR;by_cases O':i<m.calls.length
 ·have U5:=hR.call i O';have VJ:=Lj hR O';have UM:=s3 i O';obtain⟨a1,a2⟩:=s2 i O';have Xk:=Hz (nth m.calls i).slots jB 8;have hrg:List.range (i+1)=List.range i++[i]:=List.range_succ;have Zr:((List.range i).map (m.spot C)).length=i:=jE;have key:∀a:Int,m.fQ i=a->nth C.ins a.toNat=nth C.ins (m.fQ i).toNat:=fun a ha=>by rw[ha]
  unfold MV.fQ at a1 a2;by_cases Wg:(i:Int)=(m.calls.length:Int)-1
  ·have Vg:m.fQ i=(nth m.calls i).at_:=by unfold MV.fQ;rw[if_pos Wg]
   rw[if_pos Wg]at a1 a2;refine S ?_
   (have W:=jA Tu (jA hR.root (jA hR.row (jA VJ (jA U5.var (hl)))));repeat' (first|refine aq fun K hK=>?_|refine ap ?_|(with_reducible refine gR 8 ?_);refine dC 8 ([],[79],[]) [] (aW 0 25) mixed ?_|(refine hK _ _ ?_;clear hK K)|(refine ao ?_ ?_<;>intro hc<;>try exact jz)|refine Iv 8 zy Xk (by show aA (tie _ _) _=_;rw[jO,Tu _ jC];rfl) (Bq (nth m.calls i).slots (by show aA (tie _ _) _=_;rw[jO,U5.eQ];rfl) rfl) ?_|refine ar ?_|exact jI|(clear hK K)))
   refine TR _ _ (eu (i+1) jB (by show m.calls.length-(i+1)<m.calls.length-i;omega) ?_ cv);rw[hrg,List.map_append,List.map_append,List.map_singleton,List.map_singleton];unfold MV.spot;rw[Vg];rfl
  ·have Vg:m.fQ i=(nth m.calls i).mark:=by unfold MV.fQ;rw[if_neg Wg]
   rw[if_neg Wg]at a1 a2;refine S ?_
   (have W:=jA Tu (jA hR.root (jA hR.row (jA VJ (jA U5.var (hl)))));repeat' (first|refine aq fun K hK=>?_|refine ap ?_|(with_reducible refine gR 8 ?_);refine dC 8 ([],[79],[]) [] (aW 0 25) mixed ?_|(refine hK _ _ ?_;clear hK K)|(refine ao ?_ ?_<;>intro hc<;>try exact jz)|refine Iv 8 zy Xk (by show aA (tie _ _) _=_;rw[jO,Tu _ jC];rfl) (Bq (nth m.calls i).slots (by show aA (tie _ _) _=_;rw[jO,U5.eQ];rfl) rfl) ?_|refine ar ?_|exact jI|(clear hK K)))
   refine TR _ _ (eu (i+1) jB (by show m.calls.length-(i+1)<m.calls.length-i;omega) ?_ cv);rw[hrg,List.map_append,List.map_append,List.map_singleton,List.map_singleton];unfold MV.spot;rw[Vg];rfl
 ·have UW:i=m.calls.length:=jB;subst UW;refine S ?_
  (have W:=jA Tu hl;repeat' (first|refine aq fun K hK=>?_|refine ap ?_|(refine hK _ _ ?_;clear hK K)|(refine ao ?_ ?_<;>intro hc<;>try exact jz)|refine TX _ _ ?_|refine ar ?_|exact jI|(clear hK K)))
  have h9:=Tu 9 jC;have YD:=Tu 11 jC;refine KE hB hR.ok hR.ok rfl (dm jC (dm jC (dm jC dD))) [.cell 2 45] ?_ (ho:=by simp(disch:=first|omega|assumption|fail) only[go_sem,↓reduceIte,h9];rfl) (hok:=by simp(disch:=first|omega|assumption|fail) only[go_sem,↓reduceIte,h9];first|done|decide|(repeat' (first|exact trivial|decide|(simp;done)|refine jA ?_ ?_)));have Zr:((List.range m.calls.length).map (m.spot C)).length=m.calls.length:=jE;exact bu.agg (ds:=lI (m.dB C)) (jA (cW.row (enc:=qL) ((List.range m.calls.length).map (m.spot C)) rfl (by show aA (tie _ _) _=_;rw[jO,YD];rfl) Zr.symm) (jA (.same _ rfl) (jA (.same _ rfl) (jA (.same _ rfl) (jA (.same _ rfl) (jA (.same _ rfl) (jA (.same _ rfl) trivial)))))))
end
def RH{p:af}(h:gj p):aB prog 113 [.agg (cd p)] (rI (gU p))/\pV p (ci p) MV.mc (gU p) []:=by obtain⟨j,hj,VV,TV,had⟩:=Ai h;have hfs:=h.ok.aa.aw;have hC:=rG h;have TU:=h.ok.size;have Tx:=hC.len;rw[VV];refine⟨Mh j jB hj TV fun i hi e=>(h.names.one i j hi hj (by rw[e,TV])).elim,?_⟩;have hfj:=h.aw j hj;have hp:=hfj.uH;have hh:=hfj.hi;have ej:((j:Int)).toNat=j:=Int.toNat_natCast j;have h0:gU p=(j:Int):=VV;exact⟨jB,jB,jB,by rw[ej];omega,by rw[ej];omega,by rw[ej];show(0:Int)<=_;omega,⟨jB,jB⟩,jC⟩
def P6{p:af}(hp:fu p)(X:TH){m1:MV}(hg:bf p (ci p) [] (lW p (ci p)) m1)(P':m1.dw (ci p))(Ut:m1.status=0->1<=m1.calls.length/\0<=m1.ah.at_/\m1.ah.at_<(ci p).ins.length) :
  ∃N l,bJ p (ci p) m1 N l/\(∀i,aA l i≠none->i ∉ X)/\Bd 0 m1/\ab prog 58 [.agg (cd p)] [] (fun r l'=>r=mP N/\l'=l):=by
 obtain⟨hmn,hbo⟩:=RH hp.ok;have Xi:=Ou hp;have hC:=rG hp.ok;have hfs:=hp.ok.ok.aa.aw;have Tx:=hC.len;have TU:=hp.ok.ok.size;have Vo:=hC.pj;generalize ci p=C at*;have hk:=fun a=>Ca X a 0
 generalize rh X+0=k at hk;have Xh:=M8 p C k;obtain⟨N1,l1,⟨UJ,Ue⟩,Uf,U0⟩:=IS X Xh (gU p) [] hbo;have e1:MV.mc.cO p C (gU p) []=lW p C:=rfl;rw[e1]at UJ;have Vm:Bd 0 (lW p C):=by
  refine⟨fun k hk=>?_,fun k hk=>?_,(by show gi []<=40;decide),(by show 0<=24;omega),(by show(0:Int)<=0;omega),(by show(0:Int)<=0;omega)⟩
  ·have:k+1<1:=hk;omega
  ·have:k<1:=hk;have:k=0:=jB;subst this;show(([]:List aj)++List.replicate _ v0).length<=24;have h1:=hbo.s1;simp only[List.nil_append,List.length_replicate,List.length_nil];omega
 obtain⟨N2,l2,⟨Uz,TY,VG⟩,UF,Xf⟩:=Ge (inp:=[]) X UJ Vm jC jB jB Vo hg P' Ut;have eM:mP N1=mP ⟨k,[],[]⟩:=by unfold mP;rw[Ue]
 have eM2:mP N2=mP ⟨k,[],[]⟩:=by unfold mP;rw[TY,Ue]
 rw[eM]at Xf;rw[show aO bS 3 []=(.sl false 3 [] (bS default):AV) from rfl]at U0;have U0:=U0.args (args:=[mP ⟨k,[],[]⟩,rI (gU p),.raw (.slice none 0 0)]) (fun w vs hw hv=>xF hv (fun _ h=>h) fun us hu=>xF hu (fun _ h=>h) fun us hu=>xF hu (D8 3 _) (fun _ h=>h)) (pZ Xh rfl);have Xf:=Xf.args (args:=[mP ⟨k,[],[]⟩,.raw (.slice none 0 0)]) (fun w vs hw hv=>xF hv (fun _ h=>h) fun us hu=>xF hu (D8 1 _) (fun _ h=>h)) (by have:=pZ (N:=N1) UJ (l:=[.raw (.slice none 0 0)]) rfl;rw[eM]at this;exact this);refine⟨N2,l2,Uz,fun i hi=>?_,VG,?_⟩
 ·rcases(Uf.trans UF).new i hi with h|h
  ·have hm:=(lr _ _).2 h;rw[CO]at hm;simp only[List.mem_cons,List.not_mem_nil,or_false]at hm;rcases hm with rfl|rfl|rfl|rfl|rfl|rfl<;>exact hk _
  ·exact h
 ·rw[eM2];have hhn:=R9 (hn 5 k);have eC:wO C=[aO dn 4 C.ins,aO eI 1 C.entry]:=rfl;rw[eC]at Xi;rw[z8]at Xi hmn ⊢;refine aM func58 ntmps58 ?_;have hae:=Xh.ok.low;have Uc:=UJ.ok.low;have Ve:=Uz.ok.low
  (have W:=jA hae (jA Uc (Ve));repeat' (first|(with_reducible refine gR 2 ?_);refine jq (KO p C k _) ?_|refine aq fun K hK=>?_|refine ap ?_|(with_reducible refine gR 1 ?_);refine dC 1 ([],[6],[7]) [] (aW 0 7) mixed ?_|(refine hK _ _ ?_;clear hK K)|(refine ao ?_ ?_<;>intro hc<;>try exact jz)|refine aT 9 ?_|refine aT (hn 3 k) ?_|refine cq (Xi) ?_|refine cN hhn ?_|refine cp (hmn) ?_|refine cT U0 ?_|refine cT Xf ?_|refine ar ?_|exact jI|(clear hK K)))
  exact dY (e:=[]) rfl ⟨fun _ _ _=>rfl,List.nodup_nil,fun i r h=>by cases h⟩ Uz.ok (fun _=>rfl) (dm jC dD) [.tmp 2]
end Go.Proofs.YtjpcgmjaipfgdaaGreatDoor
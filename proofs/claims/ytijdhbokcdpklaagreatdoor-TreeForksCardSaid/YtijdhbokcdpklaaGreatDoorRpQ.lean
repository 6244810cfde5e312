/- Lemmas. No conditions. -/
import Derived.Test.YtijdhbokcdpklaaGreatDoorRpA
import Derived.Test.YtijdhbokcdpklaaGreatDoorCmG
set_option linter.all false
set_option maxHeartbeats 4000000
set_option maxRecDepth 10000
namespace Go.Gd
open Go
structure NC where
 c:Nat
 v:Nat
 jk:List aj
 deriving Inhabited
structure NM where
 k:Nat
 cs:List NC
 cj:List Nat
namespace MV
def cE(c:MC)(n:NC):UE:=[.rs (hn 2 n.v) (c.stack.length+n.jk.length) 3 c.stack.length,.raw (.int .i64 c.fn),.raw (.int .i64 c.at_),.raw (.int .i64 c.mark),.rs (hn 1 n.c) c.slots.length 3 c.slots.length]
def mE(p:af)(C:aI)(m:MV)(N:NM):UE:=ko p++[aP dq 4 C.ins,aP eI 1 C.entry,.rs (hn 4 N.k) (N.cs.length+N.cj.length) 1 N.cs.length,.pt (hn 5 N.k) 0 0 0,.rs (hn 8 N.k) m.bC.length 1 m.bC.length,.raw (.int .i64 m.in_),.raw (.int .i64 m.status),.raw (.int .i64 m.dn),.raw (.int .i64 m.time)]
structure iP(c:MC)(n:NC)(e:List (Nat×Row)):Prop where
 var:aA e (hn 0 n.c)=some (.var 174 (cE c n))
 cI:aA e (hn 2 n.v)=some (.aG 42 3 ((c.stack++n.jk).map bV))
 eT:aA e (hn 1 n.c)=some (.aG 42 3 (c.slots.map bV))
 bd:c.stack.length+n.jk.length<=2000
structure bL(p:af)(C:aI)(m:MV)(N:NM)(e:List (Nat×Row)):Prop where
 ok:fQ 0 e
 root:aA e (hn 3 N.k)=some (.var 166 (mE p C m N))
 row:aA e (hn 4 N.k)=some (.aG 169 1 ((N.cs.map NC.c++N.cj).map fun j=>[.pt (hn 0 j) 0 0 0]))
 hp:aA e (hn 5 N.k)=some (.var 196 [.rs (hn 6 N.k) m.heap.flatten.length 1 m.heap.flatten.length,.rs (hn 7 N.k) m.heap.length 1 m.heap.length])
 cells:aA e (hn 6 N.k)=some (.aG 3 1 (m.heap.flatten.map eI))
 ends:aA e (hn 7 N.k)=some (.aG 3 1 ((lu m.heap).map eI))
 outs:aA e (hn 8 N.k)=some (.aG 9 1 (m.bC.map eS))
 len:N.cs.length=m.calls.length
 call:∀k,k<m.calls.length->iP (nth m.calls k) (nth N.cs k) e
 nc:(N.cs.map NC.c).Nodup
 nv:(N.cs.map NC.v).Nodup
 bd:N.cs.length+N.cj.length<=1000
end MV
def NM.ah(N:NM):NC:=nth N.cs (N.cs.length-1)
def NM.aW(N:NM)(n:NC):NM:={ N with cs:=N.cs.set (N.cs.length-1) n }
attribute [go_sem] MV.cE MV.mE
variable{α:Type}
def vL{β:Type}[Inhabited α][Inhabited β](f:α->β)(l:List α)(k:Nat)(h:k<l.length):nth (l.map f) k=f (nth l k):=by rw[fO (by simpa using h),fO h];simp
def Fh[Inhabited α]{l:List α}(h:l.Nodup){i j:Nat}(hi:i<l.length)(hj:j<l.length)(e:nth l i=nth l j):i=j:=by rw[fO hi,fO hj]at e;exact(List.getElem_inj h).1 e
def Sr[Inhabited α]{l:List α}(h:l.Nodup){i:Nat}(hi:i<l.length){v:α}(hv:∀j,j<l.length->j≠i->nth l j≠v):(l.set i v).Nodup:=by
 unfold List.Nodup;rw[List.pairwise_iff_getElem];intro a b ha hb hab e;rw[List.length_set]at ha hb;rw[List.getElem_set,List.getElem_set]at e;split at e<;>split at e
 ·omega
 ·rename_i h1 h2;exact hv b hb jB (by rw[fO hb];exact e.symm)
 ·rename_i h1 h2;exact hv a jB jB (by rw[fO jB];exact e)
 ·have:=(List.getElem_inj h).1 e;omega
namespace MV
variable {p:af}{C:aI}{m:MV}{N:NM}{e:UD}
theorem bL.ah(h:bL p C m N e)(h1:1<=m.calls.length):iP m.ah N.ah e:=by have:=h.call (m.calls.length-1) jB;unfold NM.ah MV.ah;rw[h.len];exact this
def bL.ne{k j:Nat}(h:bL p C m N e)(hk:k<N.cs.length)(hj:j<N.cs.length)(hkj:k≠j):(nth N.cs k).c≠(nth N.cs j).c/\(nth N.cs k).v≠(nth N.cs j).v:=by
 constructor
 ·intro e';exact hkj (Fh h.nc (by simpa using hk) (by simpa using hj) (by rw[vL _ _ _ hk,vL _ _ _ hj];exact e'))
 ·intro e';exact hkj (Fh h.nv (by simpa using hk) (by simpa using hj) (by rw[vL _ _ _ hk,vL _ _ _ hj];exact e'))
theorem bL.aW(hR:bL p C m N e)(h1:1<=m.calls.length){c':MC}{n':NC}{e':UD}(hnc:n'.c=N.ah.c)(ok:fQ 0 e')(hc:iP c' n' e')(hv:n'.v=N.ah.v\/aA e (hn 2 n'.v)=none)
  (hs:∀j,aA e j≠none->j≠hn 0 N.ah.c->j≠hn 1 N.ah.c->j≠hn 2 N.ah.v->aA e' j=aA e j):bL p C (m.aW c') (N.aW n') e':=by
 have hl:=hR.len;have kind:∀(a k:Nat) (r:Row),2<a->a<32->aA e (hn a k)=some r->aA e' (hn a k)=some r:=fun a k r h2 Ww h=>by rw[hs _ (by rw[h];simp) (dj Ww jB jB) (dj Ww jB jB) (dj Ww jB jB)];exact h
 have cs:(N.aW n').cs.map NC.c=N.cs.map NC.c:=by show(N.cs.set _ n').map NC.c=_;rw[List.map_set,hnc];unfold NM.ah;rw[<-vL NC.c N.cs _ jB,fO (by rw[List.length_map];omega),List.set_getElem_self]
 have ln:(N.aW n').cs.length=N.cs.length:=by show(N.cs.set _ n').length=_;simp
 have nu:∀k,nth (N.aW n').cs k=if k=N.cs.length-1 then n' else nth N.cs k:=fun k=>Go.Gd.dG _ _ _ _ jB
 have mu:∀k,nth (m.aW c').calls k=if k=m.calls.length-1 then c' else nth m.calls k:=fun k=>Go.Gd.dG _ _ _ _ jB
 have ml:(m.aW c').calls.length=m.calls.length:=by show(m.calls.set _ c').length=_;simp
 refine⟨ok,?_,?_,kind 5 _ _ jB jB hR.hp,kind 6 _ _ jB jB hR.cells,kind 7 _ _ jB jB hR.ends,kind 8 _ _ jB jB hR.outs,by rw[ln,ml];exact hl,fun k hk=>?_,by rw[cs];exact hR.nc,?_,by rw[ln];exact hR.bd⟩
 ·rw[show mE p C (m.aW c') (N.aW n')=mE p C m N by unfold mE;rw[ln];rfl];exact kind 3 _ _ jB jB hR.root
 ·rw[cs];exact kind 4 _ _ jB jB hR.row
 ·rw[ml]at hk;rw[nu,mu,hl];by_cases ek:k=m.calls.length-1
  ·rw[if_pos ek,if_pos ek];exact hc
  ·rw[if_neg ek,if_neg ek];have VX:=hR.call k hk;obtain⟨n1,n2⟩:=hR.ne (k:=k) (j:=N.cs.length-1) jB jB jB;have n1:(nth N.cs k).c≠N.ah.c:=n1;have n2:(nth N.cs k).v≠N.ah.v:=n2;exact⟨by rw[hs _ (by rw[VX.var];simp) (fun e=>n1 (yc jB jB e).2) (dj jB jB jB) (dj jB jB jB)];exact VX.var,
    by rw[hs _ (by rw[VX.cI];simp) (dj jB jB jB) (dj jB jB jB) (fun e=>n2 (yc jB jB e).2)];exact VX.cI,
    by rw[hs _ (by rw[VX.eT];simp) (dj jB jB jB) (fun e=>n1 (yc jB jB e).2) (dj jB jB jB)];exact VX.eT,VX.bd⟩
 ·show((N.cs.set _ n').map NC.v).Nodup;rw[List.map_set];refine Sr hR.nv (by rw[List.length_map];omega) fun j hj Xf e'=>?_
  rw[List.length_map]at hj;rw[vL _ _ _ hj]at e';rcases hv with hv|hv
  ·rw[hv]at e';exact(hR.ne hj jB Xf).2 e'
  ·have VX:=(hR.call j jB).cI;rw[e',hv]at VX;cases VX
def bL.mB(hR:bL p C m N e){m':MV}(h1:m'.calls=m.calls)(h2:m'.heap=m.heap)(h3:m'.bC=m.bC):bL p C m' N (bj e (hn 3 N.k) (.var 166 (mE p C m' N))):=by
 have kind:∀(a k:Nat) (r:Row),a≠3->a<32->aA e (hn a k)=some r->aA (bj e (hn 3 N.k) (.var 166 (mE p C m' N))) (hn a k)=some r:=fun a k r h3 Ww h=>by rw[bP,if_neg (dj Ww jB h3)];exact h
 refine⟨hR.ok.put (.inr (iA _ _)) ?_,by rw[bP,if_pos rfl],kind _ _ _ jB jB hR.row,?_,?_,?_,?_,by rw[h1];exact hR.len,fun k hk=>?_,hR.nc,hR.nv,hR.bd⟩
 ·have c4:=ga hR.row;have c5:=ga hR.hp;have c8:=ga hR.outs;have up:aY (fun j=>decide (j=hn 3 N.k) || (ids e).contains j) (ko p)=true:=fV (q:=eu) (fun _ h=>by cases h) _ rfl;unfold mE;simp only[Row.cells];rw[sI,up];simp only[aY,AV.all,c4,c5,c8,Bool.or_true,Bool.and_self,aP]
 ·rw[h2];exact kind _ _ _ jB jB hR.hp
 ·rw[h2];exact kind _ _ _ jB jB hR.cells
 ·rw[h2];exact kind _ _ _ jB jB hR.ends
 ·rw[h3];exact kind _ _ _ jB jB hR.outs
 ·rw[h1]at hk ⊢;have hc:=hR.call k hk;exact⟨kind _ _ _ jB jB hc.var,kind _ _ _ jB jB hc.cI,kind _ _ _ jB jB hc.eT,hc.bd⟩
end MV
def kE(fn at_ mark:Int)(vs jk slots:List aj):UD:=[(6,.var 174 [.rs 7 (vs.length+jk.length) 3 vs.length,.raw (.int .i64 fn),.raw (.int .i64 at_),.raw (.int .i64 mark),.rs 8 slots.length 3 slots.length]),(7,.aG 42 3 ((vs++jk).map bV)),(8,.aG 42 3 (slots.map bV))]
attribute [go_sem] kE
mutual
theorem wa{f:Nat->Nat}:∀a:AV,a.all eu=true->a.bS f=a
 |.raw _,_=>by simp only[AV.bS]
 |.any,_=>by simp only[AV.bS]
 |.agg cs,h=>by simp only[AV.all]at h;simp only[AV.bS,s9 cs h]
 |.aQ cs,h=>by simp only[AV.all]at h;simp only[AV.bS,s9 cs h]
 |.sl _ _ _ _,_=>by simp only[AV.bS]
 |.ip _,_=>by simp only[AV.bS]
 |.gd _ v,h=>by simp only[AV.all]at h;simp only[AV.bS,wa v h]
 |.dW _ cs,h=>by simp only[AV.all]at h;simp only[AV.bS,s9 cs h]
 |.pt _ _ _ _,h=>by simp only[AV.all]at h;cases h
 |.rs _ _ _ _,h=>by simp only[AV.all]at h;cases h
 |.rc _ _ _ _,h=>by simp only[AV.all]at h;cases h
 |.rv _ _ _ _ _,h=>by simp only[AV.all]at h;cases h
 |.mr _,h=>by simp only[AV.all]at h;cases h
 |.bd _ fs,h=>by simp only[AV.all]at h;simp only[AV.bS,s9 fs h]
 |.iK _ v,h=>by simp only[AV.all]at h;simp only[AV.bS,wa v h]
 |.mv _ v,h=>by simp only[AV.all]at h;simp only[AV.bS,wa v h]
theorem s9{f:Nat->Nat}:∀l:UE,aY eu l=true->fh f l=l
 |[],_=>rfl
 |a::l,h=>by simp only[aY,Bool.and_eq_true]at h;simp only[fh,wa a h.1,s9 l h.2]
end
variable{α:Type}{sz:Nat}
def vA{f:Nat->Nat}{enc:α->UE}[he:bH enc sz](l:List α):(l.map enc).map (fh f)=l.map enc:=by rw[List.map_map];exact List.map_congr_left fun x _=>s9 _ (he.free x)
def o7(x y z a b c:Nat)(i:Nat):Nat:=if i=x then a else if i=y then b else if i=z then c else i+(a+b+c+1)
def wN(x y z a b c:Nat)(j:Nat):Nat:=if j=a then x else if j=b then y else if j=c then z else j-(a+b+c+1)
def G0{x y z a b c:Nat}(h1:a≠b)(h2:a≠c)(h3:b≠c)(i:Nat):wN x y z a b c (o7 x y z a b c i)=i:=by
 unfold o7;split
 ·rename_i e;unfold wN;rw[if_pos rfl];exact e.symm
 ·split
  ·rename_i e;unfold wN;rw[if_neg (fun e=>h1 e.symm),if_pos rfl];exact e.symm
  ·split
   ·rename_i e;unfold wN;rw[if_neg (fun e=>h2 e.symm),if_neg (fun e=>h3 e.symm),if_pos rfl];exact e.symm
   ·unfold wN;rw[jN,jN,jN];omega
mutual
theorem yd{f:Nat->Nat}{q q':UO}(h:∀i,q i=true->q' (f i)=true):∀a:AV,a.all q=true->(a.bS f).all q'=true
 |.raw _,_=>by simp only[AV.bS,AV.all]
 |.any,_=>by simp only[AV.bS,AV.all]
 |.agg cs,k=>by simp only[AV.all]at k;simp only[AV.bS,AV.all];exact ws h cs k
 |.aQ cs,k=>by simp only[AV.all]at k;simp only[AV.bS,AV.all];exact ws h cs k
 |.sl _ _ _ _,_=>by simp only[AV.bS,AV.all]
 |.ip _,_=>by simp only[AV.bS,AV.all]
 |.gd _ v,k=>by simp only[AV.all]at k;simp only[AV.bS,AV.all];exact yd h v k
 |.dW _ cs,k=>by simp only[AV.all]at k;simp only[AV.bS,AV.all];exact ws h cs k
 |.pt i _ _ _,k=>by simp only[AV.all]at k;simp only[AV.bS,AV.all];exact h i k
 |.rs i _ _ _,k=>by simp only[AV.all]at k;simp only[AV.bS,AV.all];exact h i k
 |.rc i _ _ _,k=>by simp only[AV.all]at k;simp only[AV.bS,AV.all];exact h i k
 |.rv i _ _ _ _,k=>by simp only[AV.all]at k;simp only[AV.bS,AV.all];exact h i k
 |.mr i,k=>by simp only[AV.all]at k;simp only[AV.bS,AV.all];exact h i k
 |.bd _ fs,k=>by simp only[AV.all]at k;simp only[AV.bS,AV.all];exact ws h fs k
 |.iK _ v,k=>by simp only[AV.all]at k;simp only[AV.bS,AV.all];exact yd h v k
 |.mv _ v,k=>by simp only[AV.all]at k;simp only[AV.bS,AV.all];exact yd h v k
theorem ws{f:Nat->Nat}{q q':UO}(h:∀i,q i=true->q' (f i)=true):∀l:UE,aY q l=true->aY q' (fh f l)=true
 |[],_=>rfl
 |a::l,k=>by simp only[aY,Bool.and_eq_true]at k;simp only[fh,aY,Bool.and_eq_true];exact⟨yd h a k.1,ws h l k.2⟩
end
variable{P:UP}{f:FuncId}
def ab.at{args:UE}{s s' e:UD}{r0:AV}{ρ g:Nat->Nat}(hg:∀i,g (ρ i)=i)(hc:ab P f args s fun r l=>r=r0/\l=s')(hs:∀i r,aA s i=some r->aA e (ρ i)=some (r.bS ρ))(ha:aY (fun i=>(ids s).contains i) args=true)
  (Uo:∀i r,aA s i=some r->aY (fun i=>(ids s).contains i) r.cells=true) (hn:(ids s').Nodup) (XZ:∀i∈ids s',i∈ids s):ab P f (fh ρ args) e fun r l=>r=r0.bS ρ/\l=gF e (lm ρ s'):=by
 have mem:∀i,(ids s).contains i=true->(ids (lm ρ s)).contains (ρ i)=true:=fun i hi=>by rw[yS,List.contains_iff_mem];exact List.mem_map_of_mem (List.contains_iff_mem.1 hi)
 have up:∀l:UE,aY (fun i=>(ids s).contains i) l=true->aY (fun i=>(ids (lm ρ s)).contains i) (fh ρ l)=true:=fun l h=>ws mem l h
 have:=ab.more (e:=e) (ab.bS hg hc) (fun i r hi=>?_) (up _ ha) (fun i r hi=>?_) (fun r l hR=>?_)
 ·refine this.mono fun r l ⟨l0,⟨r1,l1,e1,e2,e3,e4⟩,e5⟩=>?_
  rw[e1,e3,e5,e2,e4];exact⟨rfl,rfl⟩
 ·obtain⟨j,r0,rfl,rfl,h3⟩:=xH hg hi;exact hs j r0 h3
 ·obtain⟨j,r0,rfl,rfl,h3⟩:=xH hg hi;rw[Row.gU];exact up _ (Uo j r0 h3)
 ·obtain⟨r1,l1,e1,e2,e3,e4⟩:=hR;subst e2 e4;refine⟨?_,fun i hi=>.inl ?_⟩
  ·rw[yS];exact hn.map _ (fun a b h1 h2=>h1 (by rw[<-hg a,<-hg b,h2]))
  ·obtain⟨r,hr⟩:=Option.ne_none_iff_exists'.1 hi;obtain⟨j,r0,rfl,rfl,h3⟩:=xH hg hr;obtain⟨x,hx⟩:=Option.ne_none_iff_exists'.1 ((lJ _ _).1 (XZ j ((lJ _ _).2 (by rw[h3];simp))));rw[zj hg,hx];simp
def kW(P:UP)(f:FuncId)(args:UE)(e:UD)(X:UH)(r0:AV)(Q:NM->List UR->Prop):Prop:=∃N' l,Q N' l/\Up X e l/\cW P f args e r0 l
namespace MV
variable {p:af}{C:aI}{m:MV}{N:NM}{e:UD}{P:UP}{f:FuncId}{rest:UE}{r0:AV}{X:UH}
def kL(N:NM)(c':MC)(jk':List aj)(e:UD):UD:=bj (bj (bj e (hn 0 N.ah.c) (.var 174 (cE c' ⟨N.ah.c,N.ah.v,jk'⟩))) (hn 2 N.ah.v) (.aG 42 3 ((c'.stack++jk').map bV))) (hn 1 N.ah.c) (.aG 42 3 (c'.slots.map bV))
def bL.nr(hR:bL p C m N e)(h1:1<=m.calls.length){c':MC}{jk':List aj}(hb:c'.stack.length+jk'.length<=2000)(UZ:aY eu rest=true)(hr:r0.all eu=true)
  (hc:ab P f (.pt 6 0 0 0::rest) (kE m.ah.fn m.ah.at_ m.ah.mark m.ah.stack N.ah.jk m.ah.slots) fun r l=>r=r0/\l=kE c'.fn c'.at_ c'.mark c'.stack jk' c'.slots) :
  (bL p C (m.aW c') (N.aW ⟨N.ah.c,N.ah.v,jk'⟩) (kL N c' jk' e)/\(N.aW ⟨N.ah.c,N.ah.v,jk'⟩).ah.c=N.ah.c)/\Up X e (kL N c' jk' e)/\cW P f (.pt (hn 0 N.ah.c) 0 0 0::rest) e r0 (kL N c' jk' e):=by
 have ht:=hR.ah h1;unfold kL;have a1:hn 0 N.ah.c≠hn 2 N.ah.v:=dj jB jB jB;have a2:hn 0 N.ah.c≠hn 1 N.ah.c:=dj jB jB jB;have a3:hn 2 N.ah.v≠hn 1 N.ah.c:=dj jB jB jB;have q6:o7 6 7 8 (hn 0 N.ah.c) (hn 2 N.ah.v) (hn 1 N.ah.c) 6=hn 0 N.ah.c:=rfl;have q7:o7 6 7 8 (hn 0 N.ah.c) (hn 2 N.ah.v) (hn 1 N.ah.c) 7=hn 2 N.ah.v:=rfl;have q8:o7 6 7 8 (hn 0 N.ah.c) (hn 2 N.ah.v) (hn 1 N.ah.c) 8=hn 1 N.ah.c:=rfl;have ea:fh (o7 6 7 8 (hn 0 N.ah.c) (hn 2 N.ah.v) (hn 1 N.ah.c)) (.pt 6 0 0 0::rest)=.pt (hn 0 N.ah.c) 0 0 0::rest:=by simp only[fh,AV.bS,q6,s9 _ UZ]
 have el:gF e (lm (o7 6 7 8 (hn 0 N.ah.c) (hn 2 N.ah.v) (hn 1 N.ah.c)) (kE c'.fn c'.at_ c'.mark c'.stack jk' c'.slots))=bj (bj (bj e (hn 0 N.ah.c) (.var 174 (cE c' ⟨N.ah.c,N.ah.v,jk'⟩))) (hn 2 N.ah.v) (.aG 42 3 ((c'.stack++jk').map bV))) (hn 1 N.ah.c) (.aG 42 3 (c'.slots.map bV)):=by simp only[kE,lm,List.map_cons,List.map_nil,gF,q6,q7,q8,Row.bS,fh,AV.bS,vA (enc:=bV) (sz:=3),cE]
 have i0:=ga ht.var;have i1:=ga ht.eT;have i2:=ga ht.cI;have no:∀l:List aj,aY eu ((l.map bV).flatten)=true:=fun l=>po (nG (enc:=bV) (sz:=3) _)
 have hl:=hR.len;have YK:bL p C (m.aW c') (N.aW ⟨N.ah.c,N.ah.v,jk'⟩) (bj (bj (bj e (hn 0 N.ah.c) (.var 174 (cE c' ⟨N.ah.c,N.ah.v,jk'⟩))) (hn 2 N.ah.v) (.aG 42 3 ((c'.stack++jk').map bV))) (hn 1 N.ah.c) (.aG 42 3 (c'.slots.map bV))):=by
  refine hR.aW h1 rfl ?_ ⟨?_,?_,?_,hb⟩ (.inl rfl) fun j hj n0 n1 n2=>?_
  ·refine((hR.ok.put (.inr (iA _ _)) ?_).put (.inr (iA _ _)) ?_).put (.inr (iA _ _)) ?_
   ·simp only[Row.cells,cE,aY,AV.all,i1,i2,Bool.or_true,Bool.and_self]
   ·exact fV (fun _ h=>by cases h) _ (no _)
   ·exact fV (fun _ h=>by cases h) _ (no _)
  ·rw[bP,if_neg a2,bP,if_neg a1,bP,if_pos rfl]
  ·rw[bP,if_neg a3,bP,if_pos rfl]
  ·rw[bP,if_pos rfl]
  ·rw[bP,if_neg n1,bP,if_neg n2,bP,if_neg n0]
 have hup:Up X e (bj (bj (bj e (hn 0 N.ah.c) (.var 174 (cE c' ⟨N.ah.c,N.ah.v,jk'⟩))) (hn 2 N.ah.v) (.aG 42 3 ((c'.stack++jk').map bV))) (hn 1 N.ah.c) (.aG 42 3 (c'.slots.map bV))):=by
  refine((Up.put _ (.inl ?_)).trans (Up.put _ (.inl ?_))).trans (Up.put _ (.inl ?_))
  ·rw[ht.var];simp
  ·rw[bP,if_neg (fun e=>a1 e.symm),ht.cI];simp
  ·rw[bP,if_neg (fun e=>a3 e.symm),bP,if_neg (fun e=>a2 e.symm),ht.eT];simp
 refine⟨⟨YK,?_⟩,hup,⟨?_,hR.ok,YK.ok,hup.aX,?_⟩⟩
 ·show(nth (N.cs.set _ _) ((N.cs.set _ _).length-1)).c=_;rw[List.length_set,Go.Gd.dG _ _ _ _ jB,if_pos rfl]
 ·rw[<-ea,<-el];refine(ab.at (e:=e) (G0 a1 a2 a3) hc (fun i r h=>?_) ?_ (fun i r h=>?_) ?_ (fun i h=>h)).mono fun r l ⟨e1,e2⟩=>⟨by rw[e1,wa _ hr],e2⟩
  ·simp only[kE,aA]at h;split at h
   ·rename_i ei;subst ei;cases h;rw[q6,ht.var];simp only[cE,Row.bS,fh,AV.bS,q7,q8]
   ·split at h
    ·rename_i ei;subst ei;cases h;rw[q7,ht.cI];simp only[Row.bS,vA (enc:=bV) (sz:=3)]
    ·split at h
     ·rename_i ei;subst ei;cases h;rw[q8,ht.eT];simp only[Row.bS,vA (enc:=bV) (sz:=3)]
     ·cases h
  ·simp only[aY,Bool.and_eq_true];exact⟨rfl,fV (fun _ h=>by cases h) _ UZ⟩
  ·simp only[kE,aA]at h;split at h
   ·cases h;rfl
   ·split at h
    ·cases h;exact fV (q:=eu) (fun _ h=>by cases h) _ (no _)
    ·split at h
     ·cases h;exact fV (q:=eu) (fun _ h=>by cases h) _ (no _)
     ·cases h
  ·show([6,7,8]:UH).Nodup;decide
 ·simp only[aY,Bool.and_eq_true];exact⟨i0,fV (fun _ h=>by cases h) _ UZ⟩
def bL.cF(hR:bL p C m N e)(h1:1<=m.calls.length){c':MC}{jk':List aj}(hb:c'.stack.length+jk'.length<=2000)(UZ:aY eu rest=true)(hr:r0.all eu=true)
  (hc:ab P f (.pt 6 0 0 0::rest) (kE m.ah.fn m.ah.at_ m.ah.mark m.ah.stack N.ah.jk m.ah.slots) fun r l=>r=r0/\l=kE c'.fn c'.at_ c'.mark c'.stack jk' c'.slots) :
  kW P f (.pt (hn 0 N.ah.c) 0 0 0::rest) e X r0 fun N' l=>bL p C (m.aW c') N' l/\N'.k=N.k/\N'.ah.c=N.ah.c:=by
 obtain⟨h2,h3,h4⟩:=hR.nr (X:=X) h1 hb UZ hr hc;exact⟨_,_,⟨h2.1,rfl,h2.2⟩,h3,h4⟩
def bL.sr(hR:bL p C m N e)(h1:1<=m.calls.length)(UZ:aY eu rest=true)(hr:r0.all eu=true)
  (hc:ab P f (.pt 6 0 0 0::rest) (kE m.ah.fn m.ah.at_ m.ah.mark m.ah.stack N.ah.jk m.ah.slots) fun r l=>r=r0/\l=kE m.ah.fn m.ah.at_ m.ah.mark m.ah.stack N.ah.jk m.ah.slots):cW P f (.pt (hn 0 N.ah.c) 0 0 0::rest) e r0 e:=by
 have ht:=hR.ah h1;obtain⟨h2,h3,h4⟩:=hR.nr (X:=[]) (c':=m.ah) (jk':=N.ah.jk) h1 ht.bd UZ hr hc;have el:kL N m.ah N.ah.jk e=e:=by unfold kL;have e0:(⟨N.ah.c,N.ah.v,N.ah.jk⟩:NC)=N.ah:=rfl;rw[e0,tZ ht.var,tZ ht.cI,tZ ht.eT]
 rw[el]at h4;exact h4
variable{h':UF}
def bL.nI(hR:bL p C m N e){e':UD}(ok:fQ 0 e')(h1:aA e' (hn 5 N.k)=some (.var 196 [.rs (hn 6 N.k) h'.flatten.length 1 h'.flatten.length,.rs (hn 7 N.k) h'.length 1 h'.length]))
  (h2:aA e' (hn 6 N.k)=some (.aG 3 1 (h'.flatten.map eI))) (h3:aA e' (hn 7 N.k)=some (.aG 3 1 ((lu h').map eI))) (hs:∀j,j≠hn 5 N.k->j≠hn 6 N.k->j≠hn 7 N.k->aA e' j=aA e j):bL p C { m with heap:=h' } N e':=by
 have kind:∀(a k:Nat) (r:Row),a≠5->a≠6->a≠7->a<32->aA e (hn a k)=some r->aA e' (hn a k)=some r:=fun a k r h5 h6 h7 Ww h=>by rw[hs _ (dj Ww jB h5) (dj Ww jB h6) (dj Ww jB h7)];exact h
 exact⟨ok,kind _ _ _ jB jB jB jB hR.root,kind _ _ _ jB jB jB jB hR.row,h1,h2,h3,kind _ _ _ jB jB jB jB hR.outs,hR.len,fun k hk=> ⟨kind _ _ _ jB jB jB jB (hR.call k hk).var,kind _ _ _ jB jB jB jB (hR.call k hk).cI,kind _ _ _ jB jB jB jB (hR.call k hk).eT,(hR.call k hk).bd⟩,hR.nc,hR.nv,hR.bd⟩
def hL(N:NM)(h':UF)(e:UD):UD:=bj (bj (bj e (hn 5 N.k) (.var 196 [.rs (hn 6 N.k) h'.flatten.length 1 h'.flatten.length,.rs (hn 7 N.k) h'.length 1 h'.length])) (hn 6 N.k) (.aG 3 1 (h'.flatten.map eI))) (hn 7 N.k) (.aG 3 1 ((lu h').map eI))
def bL.pF(hR:bL p C m N e)(UZ:aY eu rest=true)(hr:r0.all eu=true)(hc:ab P f (.pt 2 0 0 0::rest) (gM m.heap) fun r l=>r=r0/\l=gM h') :
  bL p C { m with heap:=h' } N (hL N h' e)/\Up X e (hL N h' e)/\cW P f (.pt (hn 5 N.k) 0 0 0::rest) e r0 (hL N h' e):=by
 unfold hL;have a1:hn 5 N.k≠hn 6 N.k:=dj jB jB jB;have a2:hn 5 N.k≠hn 7 N.k:=dj jB jB jB;have a3:hn 6 N.k≠hn 7 N.k:=dj jB jB jB;have q6:o7 2 3 4 (hn 5 N.k) (hn 6 N.k) (hn 7 N.k) 2=hn 5 N.k:=rfl;have q7:o7 2 3 4 (hn 5 N.k) (hn 6 N.k) (hn 7 N.k) 3=hn 6 N.k:=rfl;have q8:o7 2 3 4 (hn 5 N.k) (hn 6 N.k) (hn 7 N.k) 4=hn 7 N.k:=rfl;have ea:fh (o7 2 3 4 (hn 5 N.k) (hn 6 N.k) (hn 7 N.k)) (.pt 2 0 0 0::rest)=.pt (hn 5 N.k) 0 0 0::rest:=by simp only[fh,AV.bS,q6,s9 _ UZ]
 have el:gF e (lm (o7 2 3 4 (hn 5 N.k) (hn 6 N.k) (hn 7 N.k)) (gM h'))=bj (bj (bj e (hn 5 N.k) (.var 196 [.rs (hn 6 N.k) h'.flatten.length 1 h'.flatten.length,.rs (hn 7 N.k) h'.length 1 h'.length])) (hn 6 N.k) (.aG 3 1 (h'.flatten.map eI))) (hn 7 N.k) (.aG 3 1 ((lu h').map eI)):=by simp only[gM,lm,List.map_cons,List.map_nil,gF,q6,q7,q8,Row.bS,fh,AV.bS,vA (enc:=eI) (sz:=1)]
 have i0:=ga hR.hp;have i1:=ga hR.cells;have i2:=ga hR.ends;have no:∀l:UG,aY eu ((l.map eI).flatten)=true:=fun l=>po (nG (enc:=eI) (sz:=1) _)
 have YK:bL p C { m with heap:=h' } N (bj (bj (bj e (hn 5 N.k) (.var 196 [.rs (hn 6 N.k) h'.flatten.length 1 h'.flatten.length,.rs (hn 7 N.k) h'.length 1 h'.length])) (hn 6 N.k) (.aG 3 1 (h'.flatten.map eI))) (hn 7 N.k) (.aG 3 1 ((lu h').map eI))):=by
  refine hR.nI ?_ ?_ ?_ ?_ fun j n0 n1 n2=>?_
  ·refine((hR.ok.put (.inr (iA _ _)) ?_).put (.inr (iA _ _)) ?_).put (.inr (iA _ _)) ?_
   ·simp only[Row.cells,aY,AV.all,i1,i2,Bool.or_true,Bool.and_self]
   ·exact fV (fun _ h=>by cases h) _ (no _)
   ·exact fV (fun _ h=>by cases h) _ (no _)
  ·rw[bP,if_neg a2,bP,if_neg a1,bP,if_pos rfl]
  ·rw[bP,if_neg a3,bP,if_pos rfl]
  ·rw[bP,if_pos rfl]
  ·rw[bP,if_neg n2,bP,if_neg n1,bP,if_neg n0]
 have hup:Up X e (bj (bj (bj e (hn 5 N.k) (.var 196 [.rs (hn 6 N.k) h'.flatten.length 1 h'.flatten.length,.rs (hn 7 N.k) h'.length 1 h'.length])) (hn 6 N.k) (.aG 3 1 (h'.flatten.map eI))) (hn 7 N.k) (.aG 3 1 ((lu h').map eI))):=by
  refine((Up.put _ (.inl ?_)).trans (Up.put _ (.inl ?_))).trans (Up.put _ (.inl ?_))
  ·rw[hR.hp];simp
  ·rw[bP,if_neg (fun e=>a1 e.symm),hR.cells];simp
  ·rw[bP,if_neg (fun e=>a3 e.symm),bP,if_neg (fun e=>a2 e.symm),hR.ends];simp
 refine⟨YK,hup,⟨?_,hR.ok,YK.ok,hup.aX,?_⟩⟩
 ·rw[<-ea,<-el];refine(ab.at (e:=e) (G0 a1 a2 a3) hc (fun i r h=>?_) ?_ (fun i r h=>?_) ?_ (fun i h=>h)).mono fun r l ⟨e1,e2⟩=>⟨by rw[e1,wa _ hr],e2⟩
  ·simp only[gM,aA]at h;split at h
   ·rename_i ei;subst ei;cases h;rw[q6,hR.hp];simp only[Row.bS,fh,AV.bS,q7,q8]
   ·split at h
    ·rename_i ei;subst ei;cases h;rw[q7,hR.cells];simp only[Row.bS,vA (enc:=eI) (sz:=1)]
    ·split at h
     ·rename_i ei;subst ei;cases h;rw[q8,hR.ends];simp only[Row.bS,vA (enc:=eI) (sz:=1)]
     ·cases h
  ·simp only[aY,Bool.and_eq_true];exact⟨rfl,fV (fun _ h=>by cases h) _ UZ⟩
  ·simp only[gM,aA]at h;split at h
   ·cases h;rfl
   ·split at h
    ·cases h;exact fV (q:=eu) (fun _ h=>by cases h) _ (no _)
    ·split at h
     ·cases h;exact fV (q:=eu) (fun _ h=>by cases h) _ (no _)
     ·cases h
  ·show([2,3,4]:UH).Nodup;decide
 ·simp only[aY,Bool.and_eq_true];exact⟨i0,fV (fun _ h=>by cases h) _ UZ⟩
def bL.te(hR:bL p C m N e)(UZ:aY eu rest=true)(hr:r0.all eu=true)(hc:ab P f (.pt 2 0 0 0::rest) (gM m.heap) fun r l=>r=r0/\l=gM h') :
  kW P f (.pt (hn 5 N.k) 0 0 0::rest) e X r0 fun N' l=>bL p C { m with heap:=h' } N' l/\N'.k=N.k/\N'.ah.c=N.ah.c:=by
 obtain⟨h2,h3,h4⟩:=hR.pF (X:=X) UZ hr hc;exact⟨_,_,⟨h2,rfl,rfl⟩,h3,h4⟩
def bL.k7(hR:bL p C m N e)(UZ:aY eu rest=true)(hr:r0.all eu=true)(hc:ab P f (.pt 2 0 0 0::rest) (gM m.heap) fun r l=>r=r0/\l=gM m.heap):cW P f (.pt (hn 5 N.k) 0 0 0::rest) e r0 e:=by
 obtain⟨h2,h3,h4⟩:=hR.pF (X:=[]) (h':=m.heap) UZ hr hc;have el:hL N m.heap e=e:=by unfold hL;rw[tZ hR.hp,tZ hR.cells,tZ hR.ends]
 rw[el]at h4;exact h4
end MV
variable{H:Hp}{t:UJ}
def iD.gl{r:AV}(i j k:Nat)(e:UJ)(sz:Nat){cs:UE}(hi:H.get i=none)(h0:0<sz)(hj:H.get j=some (.var t cs))(hk:cs[k]?=some (.raw (.slice none 0 0))):iD r H r ((H.put i (.aG e sz [])).put j (.var t (cs.set k (.rs i 0 sz 0)))):=fun w v h1 h2=>by
 obtain⟨a,b⟩:=xy h1 hi e h0;have hij:j≠i:=fun e=>by subst e;rw[hi]at hj;cases hj
 obtain⟨a',b'⟩:=B6 (cs':=cs.set k (.rs i 0 sz 0)) a (j:=j) (t:=t) (cs:=cs) (by rw[Hp.bk,if_neg hij];exact hj) jE fun n x x' v hx Va hv=>by
  rw[List.getElem?_set]at Va;by_cases hn:k=n
  ·subst hn;rw[if_pos rfl]at Va;split at Va
   ·cases Va;rw[hk]at hx;cases hx;cases hv;exact .iJ _ _ _ _ (NW.cz _ _ _ _)
   ·cases Va
  ·rw[if_neg hn,hx]at Va;cases Va;exact hv
 exact⟨w.name i 0 .nil,rfl,a',h2.ext b,(b.trans b').pB⟩
abbrev mP(N:NM):AV:=.pt (hn 3 N.k) 0 0 0
abbrev cP(N:NM):AV:=.pt (hn 0 N.ah.c) 0 0 0
def To(p:af)(C:aI)(m':MV)(N:NM)(N':NM)(l:UD):Prop:=MV.bL p C m' N' l/\N'.k=N.k/\N'.ah.c=N.ah.c
def NM.pop(N:NM):NM:={ N with cs:=N.cs.take (N.cs.length-1),cj:=N.ah.c::N.cj }
def NM.nM(N:NM)(j:Nat):NM:={ N with cs:=N.cs++[⟨j,j,[]⟩],cj:=N.cj.drop 1 }
namespace MV
variable {p:af}{C:aI}{m:MV}{N:NM}{e:UD}
def bL.gy(hR:bL p C m N e){e':UD}(h:∀j,j∈ids e->j∈ids e')(m':MV)(N':NM)(hk:N'.k=N.k):aY (fun j=>(ids e').contains j) (mE p C m' N')=true:=by have c4:=List.contains_iff_mem.2 (h _ (List.contains_iff_mem.1 (ga hR.row)));have c5:=List.contains_iff_mem.2 (h _ (List.contains_iff_mem.1 (ga hR.hp)));have c8:=List.contains_iff_mem.2 (h _ (List.contains_iff_mem.1 (ga hR.outs)));have up:aY (fun j=>(ids e').contains j) (ko p)=true:=fV (q:=eu) (fun _ h=>by cases h) _ rfl;unfold mE;rw[sI,up,hk];simp only[aY,AV.all,c4,c5,c8,Bool.and_self,aP]
def TG(h1:1<=N.cs.length):N.pop.cs.map NC.c++N.pop.cj=N.cs.map NC.c++N.cj:=by
 show(N.cs.take (N.cs.length-1)).map NC.c++(N.ah.c::N.cj)=_;have e1:N.cs.take (N.cs.length-1)++[N.ah]=N.cs:=by unfold NM.ah;rw[fO jB,List.take_append_getElem,show N.cs.length-1+1=N.cs.length from jB,List.take_length]
 have:(N.cs.take (N.cs.length-1)).map NC.c++(N.ah.c::N.cj)=((N.cs.take (N.cs.length-1)++[N.ah]).map NC.c)++N.cj:=jE;rw[this,e1]
def bL.xG(hR:bL p C m N e)(h1:1<=m.calls.length){m':MV}(hc:m'.calls=m.calls.take (m.calls.length-1))(h2:m'.heap=m.heap)(h3:m'.bC=m.bC):bL p C m' N.pop (bj e (hn 3 N.k) (.var 166 (mE p C m' N.pop))):=by
 have hl:=hR.len;have kind:∀(a k:Nat) (r:Row),a≠3->a<32->aA e (hn a k)=some r->aA (bj e (hn 3 N.k) (.var 166 (mE p C m' N.pop))) (hn a k)=some r:=fun a k r h3 Ww h=>by rw[bP,if_neg (dj Ww jB h3)];exact h
 have lt:(N.cs.take (N.cs.length-1)).length=N.cs.length-1:=by rw[List.length_take];omega
 have ml:m'.calls.length=m.calls.length-1:=by rw[hc,List.length_take];omega
 refine⟨hR.ok.put (.inr (iA _ _)) ?_,by show aA _ (hn 3 N.k)=_;rw[bP,if_pos rfl],?_,?_,?_,?_,?_,by rw[ml,<-hl];exact lt,fun k hk=>?_,?_,?_,?_⟩
 ·exact fV (fun j hj=>by rw[Bool.or_eq_true];exact .inr hj) _ (hR.gy (fun _ h=>h) m' N.pop rfl)
 ·rw[TG jB];exact kind _ _ _ jB jB hR.row
 ·rw[h2];exact kind _ _ _ jB jB hR.hp
 ·rw[h2];exact kind _ _ _ jB jB hR.cells
 ·rw[h2];exact kind _ _ _ jB jB hR.ends
 ·rw[h3];exact kind _ _ _ jB jB hR.outs
 ·rw[ml]at hk;have VX:=hR.call k jB;have e1:nth m'.calls k=nth m.calls k:=by
   rw[hc];unfold nth;rw[List.getD_eq_getElem?_getD,List.getElem?_take,if_pos hk,List.getD_eq_getElem?_getD]
  have e2:nth N.pop.cs k=nth N.cs k:=by show nth (N.cs.take _) k=_;unfold nth;rw[List.getD_eq_getElem?_getD,List.getElem?_take,jP,List.getD_eq_getElem?_getD]
  rw[e1,e2];exact⟨kind _ _ _ jB jB VX.var,kind _ _ _ jB jB VX.cI,kind _ _ _ jB jB VX.eT,VX.bd⟩
 ·show((N.cs.take _).map NC.c).Nodup;rw[List.map_take];exact(List.take_sublist _ _).nodup hR.nc
 ·show((N.cs.take _).map NC.v).Nodup;rw[List.map_take];exact(List.take_sublist _ _).nodup hR.nv
 ·show(N.cs.take _).length+(N.ah.c::N.cj).length<=1000;have:=hR.bd;rw[lt,List.length_cons];omega
def nW(p:af)(C:aI)(m':MV)(N:NM)(c':MC)(j:Nat)(e:UD):UD:=
 bj (bj (bj (bj (bj e (hn 1 j) (.aG 42 3 (c'.slots.map bV))) (hn 2 j) (.aG 42 3 (c'.stack.map bV))) (hn 0 j) (.var 174 (cE c' ⟨j,j,[]⟩))) (hn 4 N.k) (.aG 169 1 (((N.nM j).cs.map NC.c++(N.nM j).cj).map fun j=>[.pt (hn 0 j) 0 0 0]))) (hn 3 N.k) (.var 166 (mE p C m' (N.nM j)))
def bL.Bm(hR:bL p C m N e)(h8:m.calls.length<=100){m':MV}{c':MC}{j:Nat}(hc:m'.calls=m.calls++[c'])(h2:m'.heap=m.heap)(h3:m'.bC=m.bC)(j0:aA e (hn 0 j)=none)(j1:aA e (hn 1 j)=none)(j2:aA e (hn 2 j)=none)(hb:c'.stack.length<=2000) :
  bL p C m' (N.nM j) (nW p C m' N c' j e):=by
 have hl:=hR.len;have no:∀l:List aj,aY eu ((l.map bV).flatten)=true:=fun l=>po (nG (enc:=bV) (sz:=3) _)
 have kind:∀(a k:Nat) (r:Row),a<32->(hn a k≠hn 1 j)->(hn a k≠hn 2 j)->(hn a k≠hn 0 j)->a≠4->a≠3->aA e (hn a k)=some r->aA (nW p C m' N c' j e) (hn a k)=some r:=fun a k r Ww n1 n2 n0 h4 h3 h=>by unfold nW;rw[bP,if_neg (dj Ww jB h3),bP,if_neg (dj Ww jB h4),bP,if_neg n0,bP,if_neg n2,bP,if_neg n1];exact h
 have o0:∀(a k:Nat) (r:Row),a<32->4<a->aA e (hn a k)=some r->aA (nW p C m' N c' j e) (hn a k)=some r:=fun a k r Ww h4 h=>kind a k r Ww (dj Ww jB jB) (dj Ww jB jB) (dj Ww jB jB) jB jB h
 have ml:m'.calls.length=m.calls.length+1:=by rw[hc];simp
 have nl:(N.nM j).cs.length=N.cs.length+1:=by show(N.cs++[_]).length=_;simp
 refine⟨?_,by show aA _ (hn 3 N.k)=_;unfold nW;rw[bP,if_pos rfl],by show aA _ (hn 4 N.k)=_;unfold nW;rw[bP,if_neg (dj jB jB jB),bP,if_pos rfl],by rw[h2];exact o0 5 _ _ jB jB hR.hp,by rw[h2];exact o0 6 _ _ jB jB hR.cells,by rw[h2];exact o0 7 _ _ jB jB hR.ends,by rw[h3];exact o0 8 _ _ jB jB hR.outs,by rw[nl,ml,hl],fun k hk=>?_,?_,?_,?_⟩
 ·unfold nW;have k1:=((hR.ok.put (i:=hn 1 j) (r:=.aG 42 3 (c'.slots.map bV)) (.inr (iA _ _)) (fV (fun _ h=>by cases h) _ (no _))).put (i:=hn 2 j) (r:=.aG 42 3 (c'.stack.map bV)) (.inr (iA _ _)) (fV (fun _ h=>by cases h) _ (no _)));have m1:∀x,x∈ids e->x∈ids (bj (bj e (hn 1 j) (.aG 42 3 (c'.slots.map bV))) (hn 2 j) (.aG 42 3 (c'.stack.map bV))):=fun x hx=>(oj _ _ _ _).2 (.inr ((oj _ _ _ _).2 (.inr hx)))
  have i1:hn 1 j∈ids (bj (bj e (hn 1 j) (.aG 42 3 (c'.slots.map bV))) (hn 2 j) (.aG 42 3 (c'.stack.map bV))):=(oj _ _ _ _).2 (.inr ((oj _ _ _ _).2 (.inl rfl)));have i2:hn 2 j∈ids (bj (bj e (hn 1 j) (.aG 42 3 (c'.slots.map bV))) (hn 2 j) (.aG 42 3 (c'.stack.map bV))):=(oj _ _ _ _).2 (.inl rfl);generalize bj (bj e (hn 1 j) (.aG 42 3 (c'.slots.map bV))) (hn 2 j) (.aG 42 3 (c'.stack.map bV))=e1 at k1 m1 i1 i2;rw[<-List.contains_iff_mem]at i1 i2;have k2:=k1.put (i:=hn 0 j) (r:=.var 174 (cE c' ⟨j,j,[]⟩)) (.inr (iA _ _)) (by simp only[Row.cells,cE,aY,AV.all,i1,i2,Bool.or_true,Bool.and_self]);have m2:∀x,x∈ids e->x∈ids (bj e1 (hn 0 j) (.var 174 (cE c' ⟨j,j,[]⟩))):=fun x hx=>(oj _ _ _ _).2 (.inr (m1 x hx))
  have i0:hn 0 j∈ids (bj e1 (hn 0 j) (.var 174 (cE c' ⟨j,j,[]⟩))):=(oj _ _ _ _).2 (.inl rfl);generalize bj e1 (hn 0 j) (.var 174 (cE c' ⟨j,j,[]⟩))=e2 at k2 m2 i0;have hold:∀x∈N.cs.map NC.c++N.cj,hn 0 x∈ids e:=fun x hx=>by have:=A0 (hR.ok.closed _ _ hR.row) [.pt (hn 0 x) 0 0 0] (List.mem_map.2 ⟨x,hx,rfl⟩);simp only[aY,AV.all,Bool.and_true]at this;exact List.contains_iff_mem.1 this
  have XW:∀x∈(N.nM j).cs.map NC.c++(N.nM j).cj,hn 0 x∈ids e2:=fun x hx=>by
   have hx:x∈(N.cs++[(⟨j,j,[]⟩:NC)]).map NC.c++N.cj.drop 1:=hx;rw[List.map_append]at hx;simp only[List.mem_append,List.map_cons,List.map_nil,List.mem_singleton]at hx;rcases hx with(hx|rfl)|hx
   ·exact m2 _ (hold x (List.mem_append_left _ hx))
   ·exact i0
   ·exact m2 _ (hold x (List.mem_append_right _ (List.mem_of_mem_drop hx)))
  have k3:=k2.put (i:=hn 4 N.k) (r:=.aG 169 1 (((N.nM j).cs.map NC.c++(N.nM j).cj).map fun j=>[.pt (hn 0 j) 0 0 0])) (.inr (iA _ _)) (po fun y hy=>by obtain⟨x,hx,rfl⟩:=List.mem_map.1 hy;have:=List.contains_iff_mem.2 (XW x hx);simp only[aY,AV.all,this,Bool.or_true,Bool.and_self])
  refine k3.put (.inr (iA _ _)) ?_;exact fV (fun j hj=>by rw[Bool.or_eq_true];exact .inr hj) _ (hR.gy (fun x hx=>(oj _ _ _ _).2 (.inr (m2 x hx))) m' (N.nM j) rfl)
 ·rw[ml]at hk;by_cases Uy:k<m.calls.length
  ·have VX:=hR.call k Uy;have e1:nth m'.calls k=nth m.calls k:=by rw[hc,pZ Uy]
   have e2:nth (N.nM j).cs k=nth N.cs k:=by show nth (N.cs++_) k=_;rw[pZ jB]
   have q0:hn 0 (nth N.cs k).c≠hn 0 j:=fun e'=>by rw[<-e',VX.var]at j0;cases j0
   have q1:hn 1 (nth N.cs k).c≠hn 1 j:=fun e'=>by rw[<-e',VX.eT]at j1;cases j1
   have q2:hn 2 (nth N.cs k).v≠hn 2 j:=fun e'=>by rw[<-e',VX.cI]at j2;cases j2
   rw[e1,e2];exact⟨kind _ _ _ jB (dj jB jB jB) (dj jB jB jB) q0 jB jB VX.var,kind _ _ _ jB (dj jB jB jB) q2 (dj jB jB jB) jB jB VX.cI,kind _ _ _ jB q1 (dj jB jB jB) (dj jB jB jB) jB jB VX.eT,VX.bd⟩
  ·have ek:k=m.calls.length:=jB;subst ek;have e1:nth m'.calls m.calls.length=c':=by rw[hc,qc]
   have e2:nth (N.nM j).cs m.calls.length=⟨j,j,[]⟩:=by show nth (N.cs++[_]) _=_;rw[<-hl,qc]
   rw[e1,e2];refine⟨?_,?_,?_,by show c'.stack.length+0<=2000;omega⟩
   ·unfold nW;rw[bP,if_neg (dj jB jB jB),bP,if_neg (dj jB jB jB),bP,if_pos rfl]
   ·unfold nW;rw[bP,if_neg (dj jB jB jB),bP,if_neg (dj jB jB jB),bP,if_neg (dj jB jB jB),bP,if_pos rfl,List.append_nil]
   ·unfold nW;rw[bP,if_neg (dj jB jB jB),bP,if_neg (dj jB jB jB),bP,if_neg (dj jB jB jB),bP,if_neg (dj jB jB jB),bP,if_pos rfl]
 ·show((N.cs++[(⟨j,j,[]⟩:NC)]).map NC.c).Nodup;rw[List.map_append,List.nodup_append];refine⟨hR.nc,jE,fun a ha b hb e'=>?_⟩;have hb:b=j:=by simpa using hb
  obtain⟨x,hx,rfl⟩:=List.mem_map.1 ha;obtain⟨k,hk,rfl⟩:=List.getElem_of_mem hx;have:=(hR.call k jB).var;rw[fO jB,e',hb,j0]at this;cases this
 ·show((N.cs++[(⟨j,j,[]⟩:NC)]).map NC.v).Nodup;rw[List.map_append,List.nodup_append];refine⟨hR.nv,jE,fun a ha b hb e'=>?_⟩;have hb:b=j:=by simpa using hb
  obtain⟨x,hx,rfl⟩:=List.mem_map.1 ha;obtain⟨k,hk,rfl⟩:=List.getElem_of_mem hx;have:=(hR.call k jB).cI;rw[fO jB,e',hb,j2]at this;cases this
 ·show(N.cs++[_]).length+(N.cj.drop 1).length<=1000;have:=hR.bd;rw[List.length_append,List.length_drop,List.length_singleton];omega
end MV
namespace MV
variable {p:af}{C:aI}{m:MV}{N:NM}{e:UD}
def Es(h:1<=N.cs.length):N.aW N.ah=N:=by unfold NM.aW NM.ah;rw[fO jB,List.set_getElem_self]
def bL.j5(hR:bL p C m N e)(h1:1<=m.calls.length){c':MC}(hs:c'.stack=m.ah.stack)(hl:c'.slots=m.ah.slots):bL p C (m.aW c') N (bj e (hn 0 N.ah.c) (.var 174 (MV.cE c' N.ah))):=by
 have ht:=hR.ah h1;have I':=hR.len;have h:=hR.aW (e':=bj e (hn 0 N.ah.c) (.var 174 (MV.cE c' N.ah))) h1 (c':=c') (n':=N.ah) rfl ?_ ⟨?_,?_,?_,by rw[hs];exact ht.bd⟩ (.inl rfl) fun j hj n0 n1 n2=>by rw[bP,if_neg n0]
 ·rw[Es jB]at h;exact h
 ·refine hR.ok.put (.inr (iA _ _)) ?_;have i1:=ga ht.eT;have i2:=ga ht.cI;simp only[Row.cells,MV.cE,aY,AV.all,i1,i2,Bool.or_true,Bool.and_self]
 ·rw[bP,if_pos rfl]
 ·rw[bP,if_neg (dj jB jB jB),hs];exact ht.cI
 ·rw[bP,if_neg (dj jB jB jB),hl];exact ht.eT
end MV
namespace MV
structure Bd(n:Nat)(m:MV):Prop where
 deep:∀k,k+1<m.calls.length->(nth m.calls k).stack.length<=1000
 slots:∀k,k<m.calls.length->(nth m.calls k).slots.length<=24
 heap:gr m.heap<=40
 outs:m.bC.length<=24
 nQ:0<=m.in_
 oF:m.in_<=n
variable {n:Nat}{m:MV}
theorem Bd.ah(h:Bd n m)(h1:1<=m.calls.length):m.ah.slots.length<=24:=h.slots (m.calls.length-1) jB
theorem Bd.aW(h:Bd n m){c:MC}(hc:c.slots.length<=24):Bd n (m.aW c):=by
 have hl:(m.aW c).calls.length=m.calls.length:=bM _ _;have e:∀k,k<m.calls.length->nth (m.aW c).calls k=if k=m.calls.length-1 then c else nth m.calls k:=fun k hk=>Go.Gd.dG _ _ _ _ jB
 refine⟨fun k hk=>?_,fun k hk=>?_,h.heap,h.outs,h.nQ,h.oF⟩
 ·rw[hl]at hk;rw[e k jB,jN];exact h.deep k hk
 ·rw[hl]at hk;rw[e k hk];split
  ·exact hc
  ·exact h.slots k hk
theorem Bd.status(h:Bd n m)(s t:Int):Bd n { m with status:=s,dn:=t }:=⟨h.deep,h.slots,h.heap,h.outs,h.nQ,h.oF⟩
theorem Bd.push(h:Bd n m)(h1:1<=m.calls.length)(v:aj):Bd n (m.push v):=h.aW (h.ah h1)
theorem Bd.cut(h:Bd n m)(h1:1<=m.calls.length)(k:Nat):Bd n (m.cut k):=h.aW (h.ah h1)
theorem Bd.stops(h:Bd n m)(h1:1<=m.calls.length)(s t:Int):Bd n (m.stops s t):=(h.aW (c:=m.ah.back) (h.ah h1)).status s t
theorem Bd.dZ(h:Bd n m)(h1:1<=m.calls.length)(r:aj×Int):Bd n (m.dZ r):=by
 unfold MV.dZ;split
 ·exact h.stops h1 _ _
 ·exact h.push h1 _
def gO{α:Type}[Inhabited α]{l:List α}{n k:Nat}(h:k<n):nth (l.take n) k=nth l k:=by unfold nth;rw[List.getD_eq_getElem?_getD,List.getElem?_take,if_pos h,List.getD_eq_getElem?_getD]
theorem Bd.pop(h:Bd n m):Bd n m.pop:=by
 have hl:m.pop.calls.length=m.calls.length-1:=by show(m.calls.take _).length=_;rw[List.length_take];omega
 have e:∀k,k<m.calls.length-1->nth m.pop.calls k=nth m.calls k:=fun k hk=>gO hk
 refine⟨fun k hk=>?_,fun k hk=>?_,h.heap,h.outs,h.nQ,h.oF⟩
 ·rw[hl]at hk;rw[e k jB];exact h.deep k jB
 ·rw[hl]at hk;rw[e k hk];exact h.slots k jB
theorem Bd.ends(h:Bd n m)(v:aj):Bd n (m.ends v):=by
 unfold MV.ends;split
 ·exact h.pop.status 2 m.pop.dn
 ·rename_i h2;refine h.pop.push ?_ v;show 1<=(m.calls.take _).length;rw[List.length_take];omega
theorem Bd.cQ{p:af}{C:aI}(h:Bd n m)(h1:1<=m.calls.length)(hd:m.ah.stack.length<=1000){fn:Int}{args:List aj}(s1:nth p.size fn.toNat<=24)(s2:(args.length:Int)<=nth p.size fn.toNat):Bd n (m.cQ p C fn args):=by
 have hl:(m.cQ p C fn args).calls.length=m.calls.length+1:=by show(m.calls++[_]).length=_;simp
 have e:∀k,k<m.calls.length->nth (m.cQ p C fn args).calls k=nth m.calls k:=fun k hk=>pZ hk
 refine⟨fun k hk=>?_,fun k hk=>?_,h.heap,h.outs,h.nQ,h.oF⟩
 ·rw[hl]at hk;rw[e k jB];by_cases Uy:k=m.calls.length-1
  ·subst Uy;exact hd
  ·exact h.deep k jB
 ·rw[hl]at hk;by_cases Uy:k<m.calls.length
  ·rw[e k Uy];exact h.slots k Uy
  ·have:k=m.calls.length:=jB;subst this;have:nth (m.cQ p C fn args).calls m.calls.length=iH p C fn args:=qc _ _;rw[this];show(args++List.replicate _ v0).length<=24;rw[List.length_append,List.length_replicate];omega
def Bd.nI(h:Bd n m){h':UF}(hc:gr h'<=40):Bd n { m with heap:=h' }:=⟨h.deep,h.slots,hc,h.outs,h.nQ,h.oF⟩
end MV
namespace MV
variable (m:MV)(p:af)(C:aI)(inp:UG)(x:ay)
def OB(h:x.op=2):m.ins p C inp x=m.push (vI x.a):=by unfold MV.ins;dsimp only;rw[if_pos h]
def Sg(h:x.op=3):m.ins p C inp x=m.push (vB (decide (x.a=1))):=by unfold MV.ins;dsimp only;rw[jN,if_pos h]
def R6(h:x.op=4):m.ins p C inp x=m.push (vT x.s):=by unfold MV.ins;dsimp only;rw[jN,jN,if_pos h]
def S5(h:x.op=5):m.ins p C inp x=m.push (fc m.ah.slots x.a x.b):=by unfold MV.ins;dsimp only;rw[jN,jN,jN,if_pos h]
def Ff(h:x.op=6):m.ins p C inp x=m.aW { m.ah.cut 1 with slots:=m.ah.slots.set x.a.toNat m.ah.last }:=by unfold MV.ins;dsimp only;rw[jN,jN,jN,jN,if_pos h]
def It(h:x.op=7):m.ins p C inp x=(m.cut 2).dZ (qt x.s (m.ah.cut 1).last m.ah.last):=by unfold MV.ins;dsimp only;rw[jN,jN,jN,jN,jN,if_pos h]
def H9(h:x.op=8):m.ins p C inp x=(m.cut 1).push (mG (⟨#[45]⟩:UI) m.ah.last):=by unfold MV.ins;dsimp only;rw[jN,jN,jN,jN,jN,jN,if_pos h]
def IW(h:x.op=9):m.ins p C inp x=(m.cut 1).push (mG (⟨#[33]⟩:UI) m.ah.last):=by unfold MV.ins;dsimp only;rw[jN,jN,jN,jN,jN,jN,jN,if_pos h]
def Ea(h:x.op=10):m.ins p C inp x=(m.cut 1).push (vI (if m.ah.last.ty=4 then((bn m.heap m.ah.last.n).length:Int)else(m.ah.last.s.size:Int))):=by unfold MV.ins;dsimp only;rw[jN,jN,jN,jN,jN,jN,jN,jN,if_pos h]
def Ha(h:x.op=11):m.ins p C inp x=if m.ah.last.n<0\/((bn m.heap (fc m.ah.slots x.a 4).n).length:Int)<=m.ah.last.n then(m.cut 1).stops 3 2 else(m.cut 1).push (vI (nth (bn m.heap (fc m.ah.slots x.a 4).n) m.ah.last.n.toNat)):=by unfold MV.ins;dsimp only;rw[jN,jN,jN,jN,jN,jN,jN,jN,jN,if_pos h]
def HG(h:x.op=12):m.ins p C inp x=if(m.ah.cut 1).last.n<0\/((bn m.heap (fc m.ah.slots x.a 4).n).length:Int)<=(m.ah.cut 1).last.n then(m.cut 2).stops 3 2 else{ m.cut 2 with heap:=m.heap.set ((fc m.ah.slots x.a 4).n-1).toNat ((nth m.heap ((fc m.ah.slots x.a 4).n-1).toNat).set (m.ah.cut 1).last.n.toNat m.ah.last.n) }:=by unfold MV.ins;dsimp only;rw[jN,jN,jN,jN,jN,jN,jN,jN,jN,jN,if_pos h]
def Ga(h:x.op=13):m.ins p C inp x=if m.ah.last.n<0\/16<m.ah.last.n then(m.cut 1).stops 3 7 else if 40<gr m.heap+m.ah.last.n+1 then(m.cut 1).stops 3 4 else{ (m.cut 1).push ⟨4,m.heap.length+1,sE⟩with heap:=m.heap++[List.replicate m.ah.last.n.toNat 0] }:=by unfold MV.ins;dsimp only;rw[jN,jN,jN,jN,jN,jN,jN,jN,jN,jN,jN,if_pos h]
def gT(h:x.op=14):m.ins p C inp x=if(inp.length:Int)<=m.in_ then m.stops 1 0 else{ m.push (vI (nth inp m.in_.toNat))with in_:=m.in_+1 }:=by unfold MV.ins;dsimp only;rw[jN,jN,jN,jN,jN,jN,jN,jN,jN,jN,jN,jN,if_pos h]
def Hx(h:x.op=15):m.ins p C inp x=if 24<=m.bC.length then m.stops 3 5 else{ m.cut 1 with bC:=m.bC++[mH m.ah.last] }:=by unfold MV.ins;dsimp only;rw[jN,jN,jN,jN,jN,jN,jN,jN,jN,jN,jN,jN,jN,if_pos h]
def RB(h:x.op=16):m.ins p C inp x=m.aW (m.ah.jump x.a):=by unfold MV.ins;dsimp only;rw[jN,jN,jN,jN,jN,jN,jN,jN,jN,jN,jN,jN,jN,jN,if_pos h]
def Tv(h:x.op=17):m.ins p C inp x=if m.ah.last.n=0 then m.aW ((m.ah.cut 1).jump x.a)else m.cut 1:=by unfold MV.ins;dsimp only;rw[jN,jN,jN,jN,jN,jN,jN,jN,jN,jN,jN,jN,jN,jN,jN,if_pos h]
def Mp(h:x.op=18\/x.op=19):m.ins p C inp x=if(m.ah.last.n=1<->x.op=19)then m.aW (m.ah.jump x.a)else m.cut 1:=by unfold MV.ins;dsimp only;rw[jN,jN,jN,jN,jN,jN,jN,jN,jN,jN,jN,jN,jN,jN,jN,jN,if_pos h]
def BV(h:x.op=20):m.ins p C inp x=if 8<=m.calls.length then(m.cut x.b.toNat).stops 3 3 else(m.cut x.b.toNat).cQ p C x.a (m.ah.stack.drop (m.ah.stack.length-x.b.toNat)):=by unfold MV.ins;dsimp only;rw[jN,jN,jN,jN,jN,jN,jN,jN,jN,jN,jN,jN,jN,jN,jN,jN,jN,if_pos h]
def F0(h:x.op=21):m.ins p C inp x=(m.cut 1).ends m.ah.last:=by unfold MV.ins;dsimp only;rw[jN,jN,jN,jN,jN,jN,jN,jN,jN,jN,jN,jN,jN,jN,jN,jN,jN,jN,if_pos h]
def IF(h:x.op=22):m.ins p C inp x=m.ends (vZ x.a):=by unfold MV.ins;dsimp only;rw[jN,jN,jN,jN,jN,jN,jN,jN,jN,jN,jN,jN,jN,jN,jN,jN,jN,jN,jN,if_pos h]
def E6(h:x.op=23):m.ins p C inp x=m.cut 1:=by unfold MV.ins;dsimp only;rw[jN,jN,jN,jN,jN,jN,jN,jN,jN,jN,jN,jN,jN,jN,jN,jN,jN,jN,jN,jN,if_pos h]
def Qu(h:x.op<2\/23<x.op):m.ins p C inp x=m:=by unfold MV.ins;dsimp only;rw[jN,jN,jN,jN,jN,jN,jN,jN,jN,jN,jN,jN,jN,jN,jN,jN,jN,jN,jN,jN,jN]
end MV
namespace MV
variable {p:af}{C:aI}{m:MV}{N:NM}{e:UD}
def bL.si(hR:bL p C m N e)(h1:1<=m.calls.length)(l:List aj)(hl:l.length=m.ah.slots.length):bL p C (m.aW { m.ah with slots:=l }) N (bj e (hn 1 N.ah.c) (.aG 42 3 (l.map bV))):=by
 have ht:=hR.ah h1;have I':=hR.len;have h:=hR.aW (e':=bj e (hn 1 N.ah.c) (.aG 42 3 (l.map bV))) h1 (c':={ m.ah with slots:=l }) (n':=N.ah) rfl ?_ ⟨?_,?_,?_,ht.bd⟩ (.inl rfl) fun j hj n0 n1 n2=>by rw[bP,if_neg n1]
 ·rw[Es jB]at h;exact h
 ·exact hR.ok.put (.inr (iA _ _)) (fV (q:=eu) (fun _ h=>by cases h) _ (po (nG (enc:=bV) (sz:=3) _)))
 ·rw[bP,if_neg (dj jB jB jB),ht.var];unfold MV.cE;rw[<-hl]
 ·rw[bP,if_neg (dj jB jB jB)];exact ht.cI
 ·rw[bP,if_pos rfl]
end MV
theorem iD.nil{r:AV}{H:Hp}(i:Nat)(e:UJ){sz:Nat}(hi:H.get i=none)(h0:0<sz)(hs:r=.raw (.slice none 0 0)):iD r H (.rs i 0 sz 0) (H.put i (.aG e sz [])):=fun w v h1 h2=>by
 obtain⟨w',e,a,b,c⟩:=dV.nil (F:=[r]) i 0 e hi h0 (.inl (by rw[hs];rfl)) w #[v] h1 ⟨rfl,fun k a x ha hx=>by
  match k with
  |0=>cases ha;cases hx;exact h2
  |k+1=>simp at ha⟩
 exact⟨w',e,a,b.2 0 _ v rfl rfl,c⟩
variable{F:UE}
def xQ{fn:Func}{out:UE}{e:Exit}(i:Nat)(t:UJ)(sz:Nat)(h0:0<sz)(rs:List ResultVar)(ha3:kz out=.raw (.slice none 0 0))(ho:jU P ⟨[],[]⟩ F rs=some out)(hok:kG P ⟨[],[]⟩ F rs)(W0:fn.results.toList=rs:=by rfl)(he:e=.normal\/e=.ret:=by first|exact Or.inr rfl|exact Or.inl rfl|fail) :
  lD P fn (fun r l=>r=.rs i 0 sz 0/\l=[(i,.aG t sz [])]) e F ⟨[],[]⟩:=by
 subst W0;exact uO he ho hok _ _ (iD.nil i t rfl h0 ha3) ⟨rfl,rfl⟩
variable{args':UE}{q:Prop}
def CE{args:UE}{K:UB}[Inhabited α]{enc:α->UE}[he:bH enc sz]{xs:List α}(i:Nat)(VN:∀x,k8 (enc x)=true)
  (hc:ab P f args' [] fun r l=>r=.rs i xs.length sz xs.length/\l=[(i,.aG t sz (xs.map enc))]) (hi:H.get i=none) (hv:∀w vs,aJ w H->bs w args vs->bs (w.cS fun _=>true) args' vs) (k:q) (h0:aS P f=true:=by exact dD) (e:K (aP enc sz xs) H=q:=by exact fq):fg P (.raw (.func (.func f) #[] #[])) args H K:=
 nZ h0 (Bg VN hi hc hv (e ▸ k))
def IZ{w w':NW}{a b:AV}{vs:UL}(h:bs w [a] vs)(hab:∀v,ax w a v->ax w' b v):bs w' [b] vs:=⟨h.1,fun i x v hx hv=>by
 match i with
 |0=>cases hx;exact hab v (h.2 0 a v rfl hv)
 |i+1=>simp at hx⟩
variable{i n:Nat}
def HM{m o:Nat}[Inhabited α]{enc:α->UE}[he:bH enc sz](l more:List α)(hi:H.get i=some (.aG t sz ((l++more).map enc)))(hm:m=l.length+more.length)(hn:o+n=l.length)(h0:0<sz):∀w vs,aJ w H->bs w [.rv i m sz o n] vs->bs (w.cS fun _=>true) [aP enc sz (l.drop o)] vs:=fun w vs hw hv=>
 IZ hv fun v h=>by
  have:=GK (d:=enc default) hw hi (by rw[List.length_map,List.length_append];exact hm) jB h0 (nG (enc:=enc) (sz:=sz) _) h;have e:(((l++more).map enc).drop o).take n=(l.drop o).map enc:=by rw[<-List.map_drop,<-List.map_take,List.drop_append_of_le_length jB,List.take_append_of_le_length (by rw[List.length_drop];omega),List.take_of_length_le (by rw[List.length_drop];omega)]
  rw[e]at this;exact this
namespace MV
variable {p:af}{C:aI}{m:MV}{N:NM}{e:UD}
def bL.Cd(hR:bL p C m N e)(h1:1<=m.calls.length)(b:Nat)(hb:b<=m.ah.stack.length):bL p C (m.cut b) (N.aW ⟨N.ah.c,N.ah.v,m.ah.stack.drop (m.ah.stack.length-b)++N.ah.jk⟩) (bj e (hn 0 N.ah.c) (.var 174 (MV.cE (m.ah.cut b) ⟨N.ah.c,N.ah.v,m.ah.stack.drop (m.ah.stack.length-b)++N.ah.jk⟩))):=by
 have ht:=hR.ah h1;have hbd:=ht.bd;refine hR.aW h1 (c':=m.ah.cut b) rfl ?_ ⟨?_,?_,?_,?_⟩ (.inl rfl) fun j hj n0 n1 n2=>by rw[bP,if_neg n0]
 ·refine hR.ok.put (.inr (iA _ _)) ?_;have i1:=ga ht.eT;have i2:=ga ht.cI;simp only[Row.cells,MV.cE,aY,AV.all,i1,i2,Bool.or_true,Bool.and_self]
 ·rw[bP,if_pos rfl]
 ·rw[bP,if_neg (dj jB jB jB)];show _=some (Row.aG _ 3 ((m.ah.stack.take (m.ah.stack.length-b)++(m.ah.stack.drop (m.ah.stack.length-b)++N.ah.jk)).map bV));rw[<-List.append_assoc,List.take_append_drop];exact ht.cI
 ·rw[bP,if_neg (dj jB jB jB)];exact ht.eT
 ·show(m.ah.stack.take (m.ah.stack.length-b)).length+(m.ah.stack.drop (m.ah.stack.length-b)++N.ah.jk).length<=2000;rw[List.length_take,List.length_append,List.length_drop];omega
end MV
namespace MV
variable {p:af}{C:aI}{m:MV}{N:NM}{e:UD}
def bL.Cq(hR:bL p C m N e){m':MV}(h1:m'.calls=m.calls)(h2:m'.heap=m.heap):bL p C m' N (bj (bj e (hn 8 N.k) (.aG 9 1 (m'.bC.map eS))) (hn 3 N.k) (.var 166 (mE p C m' N))):=by
 have kind:∀(a k:Nat) (r:Row),a≠3->a≠8->a<32->aA e (hn a k)=some r->aA (bj (bj e (hn 8 N.k) (.aG 9 1 (m'.bC.map eS))) (hn 3 N.k) (.var 166 (mE p C m' N))) (hn a k)=some r:=fun a k r h3 h8 Ww h=>by rw[bP,if_neg (dj Ww jB h3),bP,if_neg (dj Ww jB h8)];exact h
 refine⟨?_,by rw[bP,if_pos rfl],kind _ _ _ jB jB jB hR.row,?_,?_,?_,?_,by rw[h1];exact hR.len,fun k hk=>?_,hR.nc,hR.nv,hR.bd⟩
 ·refine(hR.ok.put (.inr (iA _ _)) (fV (q:=eu) (fun _ h=>by cases h) _ (po (nG (enc:=eS) (sz:=1) _)))).put (.inr (iA _ _)) ?_;exact fV (fun j hj=>by rw[Bool.or_eq_true];exact .inr hj) _ (hR.gy (fun _ h=>(oj _ _ _ _).2 (.inr h)) m' N rfl)
 ·rw[h2];exact kind _ _ _ jB jB jB hR.hp
 ·rw[h2];exact kind _ _ _ jB jB jB hR.cells
 ·rw[h2];exact kind _ _ _ jB jB jB hR.ends
 ·rw[bP,if_neg (dj jB jB jB),bP,if_pos rfl]
 ·rw[h1]at hk ⊢;have hc:=hR.call k hk;exact⟨kind _ _ _ jB jB jB hc.var,kind _ _ _ jB jB jB hc.cI,kind _ _ _ jB jB jB hc.eT,hc.bd⟩
end MV
theorem cW.args{P:UP}{f:FuncId}{args args':UE}{e l:UD}{r0:AV}(h:cW P f args' e r0 l)(hv:∀w vs,aJ w (entry e)->bs w args vs->bs w args' vs)(ha:aY (fun i=>(ids e).contains i) args=true):cW P f args e r0 l:=⟨h.c.args hv,h.e1,h.e2,h.aX,ha⟩
theorem Fg:∀(l:UD) (i:Nat) (r r':Row),bj (bj l i r) i r'=bj l i r'
 |[],i,r,r'=>by simp[bj]
 |(j,s)::l,i,r,r'=>by
  show bj (if i=j then(i,r)::l else(j,s)::bj l i r) i r'=(if i=j then(i,r')::l else(j,s)::bj l i r');by_cases e:i=j
  ·subst e;rw[if_pos rfl,if_pos rfl];simp[bj]
  ·rw[if_neg e,if_neg e];show(if i=j then _ else(j,s)::bj (bj l i r) i r')=_;rw[if_neg e,Fg l i r r']
def Ro(l:UD)(a k:Nat)(r r':Row):bj (bj l (hn a k) r) (hn a k) r'=bj l (hn a k) r':=Fg _ _ _ _
namespace MV
variable {p:af}{C:aI}{m:MV}{N:NM}{e:UD}
def Pj(hR:bL p C m N e)(h1:1<=m.calls.length):bL p C m.eo N (bj (bj e (hn 3 N.k) (.var 166 (mE p C { m with status:=0 } N))) (hn 0 N.ah.c) (.var 174 (MV.cE { m.ah with mark:=m.ah.at_,at_:=m.ah.at_+1 } N.ah))):=
 (hR.mB (m':={ m with status:=0 }) rfl rfl rfl).j5 h1 (c':={ m.ah with mark:=m.ah.at_,at_:=m.ah.at_+1 }) rfl rfl
end MV
def Qt{m o:Nat}[Inhabited α]{enc:α->UE}[he:bH enc sz](l:List α)(hi:H.get i=some (.aG t sz (l.map enc)))(hm:m=l.length)(hn:o+n<=l.length)(h0:0<sz):∀w vs,aJ w H->bs w [.rv i m sz o n] vs->bs (w.cS fun _=>true) [aP enc sz ((l.drop o).take n)] vs:=fun w vs hw hv=>
 IZ hv fun v h=>by have:=GK (d:=enc default) hw hi (by rw[List.length_map];exact hm) jB h0 (nG (enc:=enc) (sz:=sz) _) h;rw[<-List.map_drop,<-List.map_take]at this;exact this
def Ps{h:UF}{k:Nat}(hk:k<h.length):(h.flatten.drop (kv h k)).take (nth h k).length=nth h k:=by
 have e:h.flatten=(h.take k).flatten++(nth h k++(h.drop (k+1)).flatten):=by rw[fO hk,<-List.flatten_cons,List.getElem_cons_drop,<-List.flatten_append,List.take_append_drop]
 rw[e];unfold kv;rw[List.drop_left,List.take_left]
def SY{fn:Func}{B:UH}{L:UD}{out:UE}{ex:Exit}{r0:AV}{e l tl:UD}(hB:ids e=B)(k1:fQ 0 e)(k2:fQ 0 l)(hp:L=tie l tl)(hl:oa 0 tl)(rs:List ResultVar)(hv:cY (fT 0) ⟨B,tie l tl⟩ (kz out) r0)
  (W0:fn.results.toList=rs:=by rfl) (he:ex=.normal\/ex=.ret:=by first|exact Or.inr rfl|exact Or.inl rfl|fail) (ho:jU P ⟨B,L⟩ F rs=some out:=by first|rfl|(simp(disch:=first|omega|fail) only[go_sem,↓reduceIte,Nat.reduceEqDiff,Nat.reduceLeDiff,Nat.reduceSub,Nat.reduceAdd];rfl)) (hok:kG P ⟨B,L⟩ F rs:=by first|exact jI|(simp(disch:=first|omega|fail) only[go_sem,↓reduceIte,Nat.reduceEqDiff,Nat.reduceLeDiff,Nat.reduceSub,Nat.reduceAdd])):lD P fn (fun r l'=>r=r0/\l'=l) ex F ⟨B,L⟩:=by
 subst W0 hp;obtain⟨h1,h2,h3⟩:=k1.free k2 hB hl;have:=iD.free (r:=kz out) (r':=r0) (H:=⟨B,l++tl⟩) (Go.Gd.fT 0) h1 h2 hv;rw[show(Hp.mk B (l++tl)).l=l++tl from rfl,h3]at this;exact uO he ho hok r0 ⟨B,l⟩ this ⟨rfl,rfl⟩
def FN{args:UE}{R:AV->Prop}[Inhabited α]{enc:α->UE}[he:bH enc sz]{xs:List α}(i:Nat)(VN:∀x,k8 (enc x)=true)
  (hc:ab P f args' [] fun r l=>r=.rs i xs.length sz xs.length/\l=[(i,.aG t sz (xs.map enc))]) (hi:H.get i=none) (hv:∀w vs,aJ w H->bs w args vs->bs (w.cS fun _=>true) args' vs) (k:q) (h0:aS P f=true:=by exact dD) (e:R (aP enc sz xs)=q:=by exact fq):∃r,(fg P (.raw (.func (.func f) #[] #[])) args H fun r' H'=>r'=r/\H'=H)/\R r:=
 ⟨_,nZ h0 (Bg (K:=fun r' H'=>r'=aP enc sz xs/\H'=H) VN hi hc hv ⟨rfl,rfl⟩),e ▸ k⟩
def Rl{A:AS}{args:UE}{g:UB}{d:iw fun r H'=>eK A H H'/\g r H'}[Inhabited α]{enc:α->UE}[he:bH enc sz]{xs:List α}(i:Nat)(VN:∀x,k8 (enc x)=true)
  (hc:ab P f args' [] fun r l=>r=.rs i xs.length sz xs.length/\l=[(i,.aG t sz (xs.map enc))]) (hi:H.get i=none) (hv:∀w vs,aJ w H->bs w args vs->bs (w.cS fun _=>true) args' vs) (k:q) (h0:aS P f=true:=by exact dD) (e:g (aP enc sz xs) H=q:=by exact fq):fg P (.raw (.func (.func f) #[] #[])) args H (AP (fun r H'=>eK A H H'/\g r H') d):=
 nZ h0 (Bg (K:=AP (fun r H'=>eK A H H'/\g r H') d) VN hi hc hv ⟨eK.refl _ _,e ▸ k⟩)
def Cv[Inhabited α]{enc:α->UE}[he:bH enc sz](l:List α)(hi:H.get i=some (.aG t sz (l.map enc)))(hn:n=l.length):∀w vs,aJ w H->bs w [.rs i n sz n] vs->bs (w.cS fun _=>true) [aP enc sz l] vs:=
 PC ⟨cY.row (dd:=enc default) l rfl hi hn,trivial⟩
namespace MV
def fN(m:MV)(k:Nat):Int:=if(k:Int)=(m.calls.length:Int)-1 then(nth m.calls k).at_ else(nth m.calls k).mark
def spot(C:aI)(m:MV)(k:Nat):ma:=⟨(nth m.calls k).fn,(nth C.ins (m.fN k).toNat).a,(nth m.calls k).slots⟩
def dJ(C:aI)(m:MV):lg:=⟨(List.range m.calls.length).map (m.spot C),m.heap,m.in_,m.bC,m.status,m.dn,m.time⟩
end MV
def MV.mz:MV:=⟨[],0,[],0,[],0,0,0⟩
def wO(p:af)(C:aI)(k:Nat):UD:=
 [(hn 5 k,.var 196 [.rs (hn 6 k) 0 1 0,.rs (hn 7 k) 0 1 0]),(hn 3 k,.var 166 (MV.mE p C MV.mz ⟨k,[],[]⟩)),(hn 4 k,.aG 169 1 []),(hn 8 k,.aG 9 1 []),(hn 6 k,.aG 3 1 []),(hn 7 k,.aG 3 1 [])]
def yE(p:af)(C:aI)(k i:Nat):aA (wO p C k) i=if i=hn 5 k then some (.var 196 [.rs (hn 6 k) 0 1 0,.rs (hn 7 k) 0 1 0])else if i=hn 3 k then some (.var 166 (MV.mE p C MV.mz ⟨k,[],[]⟩))else if i=hn 4 k then some (.aG 169 1 [])else if i=hn 8 k then some (.aG 9 1 [])else if i=hn 6 k then some (.aG 3 1 [])else if i=hn 7 k then some (.aG 3 1 [])else none:=rfl
def B4(p:af)(C:aI)(k:Nat):ids (wO p C k)=[hn 5 k,hn 3 k,hn 4 k,hn 8 k,hn 6 k,hn 7 k]:=rfl
def TD(p:af)(C:aI)(k:Nat):MV.bL p C MV.mz ⟨k,[],[]⟩ (wO p C k):=by
 have nd:∀a b:Nat,a<32->b<32->a≠b->hn a k≠hn b k:=fun a b ha hb h=>dj ha hb h
 have ok:fQ 0 (wO p C k):=by
  refine⟨fun i _ hi=>?_,?_,fun i r hi=>?_⟩
  ·rw[yE];have g:=fun a=>iA a k
   rw[if_neg (by have:=g 5;omega),if_neg (by have:=g 3;omega),if_neg (by have:=g 4;omega),if_neg (by have:=g 8;omega),if_neg (by have:=g 6;omega),if_neg (by have:=g 7;omega)]
  ·rw[B4];simp[hn]
  ·rw[B4];rw[yE]at hi;have up:aY (fun j=>[hn 5 k,hn 3 k,hn 4 k,hn 8 k,hn 6 k,hn 7 k].contains j) (ko p)=true:=fV (q:=eu) (fun _ h=>by cases h) _ rfl;split at hi
   ·cases hi;simp[Row.cells,aY,AV.all]
   ·split at hi
    ·cases hi;show aY _ (MV.mE _ _ _ _)=true;unfold MV.mE;rw[sI,up];simp[aY,AV.all,aP]
    ·split at hi
     ·cases hi;rfl
     ·split at hi
      ·cases hi;rfl
      ·split at hi
       ·cases hi;rfl
       ·split at hi
        ·cases hi;rfl
        ·cases hi
 refine⟨ok,?_,?_,?_,?_,?_,?_,rfl,(fun k hk=>by cases hk),List.nodup_nil,List.nodup_nil,by show 0+0<=1000;omega⟩;all_goals rw[yE]
 ·rw[if_neg (nd 3 5 jB jB jB),if_pos rfl]
 ·rw[if_neg (nd 4 5 jB jB jB),if_neg (nd 4 3 jB jB jB),if_pos rfl];rfl
 ·rw[if_pos rfl];rfl
 ·rw[if_neg (nd 6 5 jB jB jB),if_neg (nd 6 3 jB jB jB),if_neg (nd 6 4 jB jB jB),if_neg (nd 6 8 jB jB jB),if_pos rfl];rfl
 ·rw[if_neg (nd 7 5 jB jB jB),if_neg (nd 7 3 jB jB jB),if_neg (nd 7 4 jB jB jB),if_neg (nd 7 8 jB jB jB),if_neg (nd 7 6 jB jB jB),if_pos rfl];rfl
 ·rw[if_neg (nd 8 5 jB jB jB),if_neg (nd 8 3 jB jB jB),if_neg (nd 8 4 jB jB jB),if_pos rfl];rfl
def P8(p:af)(C:aI)(k:Nat)(r9:Row):dV F ⟨[],[(9,r9),(hn 5 k,.var 196 [.raw (.slice none 0 0),.raw (.slice none 0 0)]),(hn 3 k,.var 166 (ko p++[aP dq 4 C.ins,aP eI 1 C.entry,.raw (.slice none 0 0),.pt (hn 5 k) 0 0 0,.raw (.slice none 0 0),.raw (.int .i64 0),.raw (.int .i64 0),.raw (.int .i64 0),.raw (.int .i64 0)]))]⟩ F ⟨[],tie (wO p C k) [(9,r9)]⟩:=by
 have n9:∀a,hn a k≠9:=fun a e=>by have:=iA a k;omega
 have nd:∀a b:Nat,a<32->b<32->a≠b->hn a k≠hn b k:=fun a b ha hb h=>dj ha hb h
 have s1:=dV.gl (F:=F) (H:=⟨[],[(9,r9),(hn 5 k,.var 196 [.raw (.slice none 0 0),.raw (.slice none 0 0)]),(hn 3 k,.var 166 (ko p++[aP dq 4 C.ins,aP eI 1 C.entry,.raw (.slice none 0 0),.pt (hn 5 k) 0 0 0,.raw (.slice none 0 0),.raw (.int .i64 0),.raw (.int .i64 0),.raw (.int .i64 0),.raw (.int .i64 0)]))]⟩) (hn 4 k) (hn 3 k) 8 169 1 (t:=166) (cs:=ko p++[aP dq 4 C.ins,aP eI 1 C.entry,.raw (.slice none 0 0),.pt (hn 5 k) 0 0 0,.raw (.slice none 0 0),.raw (.int .i64 0),.raw (.int .i64 0),.raw (.int .i64 0),.raw (.int .i64 0)])
  (by show aA _ _=_;simp only[aA,if_neg (n9 4),if_neg (nd 4 5 jB jB jB),if_neg (nd 4 3 jB jB jB)]) jC (by show aA _ _=_;simp only[aA,if_neg (n9 3),if_neg (nd 3 5 jB jB jB),if_pos]) rfl
 have s2:=dV.gl (F:=F) (H:=(((⟨[],[(9,r9),(hn 5 k,.var 196 [.raw (.slice none 0 0),.raw (.slice none 0 0)]),(hn 3 k,.var 166 (ko p++[aP dq 4 C.ins,aP eI 1 C.entry,.raw (.slice none 0 0),.pt (hn 5 k) 0 0 0,.raw (.slice none 0 0),.raw (.int .i64 0),.raw (.int .i64 0),.raw (.int .i64 0),.raw (.int .i64 0)]))]⟩:Hp).put (hn 4 k) (.aG 169 1 [])).put (hn 3 k) (.var 166 (ko p++[aP dq 4 C.ins,aP eI 1 C.entry,.rs (hn 4 k) 0 1 0,.pt (hn 5 k) 0 0 0,.raw (.slice none 0 0),.raw (.int .i64 0),.raw (.int .i64 0),.raw (.int .i64 0),.raw (.int .i64 0)])))) (hn 8 k) (hn 3 k) 10 9 1 (t:=166) (cs:=ko p++[aP dq 4 C.ins,aP eI 1 C.entry,.rs (hn 4 k) 0 1 0,.pt (hn 5 k) 0 0 0,.raw (.slice none 0 0),.raw (.int .i64 0),.raw (.int .i64 0),.raw (.int .i64 0),.raw (.int .i64 0)])
  (by rw[Hp.bk,if_neg (nd 8 3 jB jB jB),Hp.bk,if_neg (nd 8 4 jB jB jB)];show aA _ _=_;simp only[aA,if_neg (n9 8),if_neg (nd 8 5 jB jB jB),if_neg (nd 8 3 jB jB jB)]) jC (by rw[Hp.bk,if_pos rfl]) rfl
 have s3:=dV.gl (F:=F) (H:=((((((⟨[],[(9,r9),(hn 5 k,.var 196 [.raw (.slice none 0 0),.raw (.slice none 0 0)]),(hn 3 k,.var 166 (ko p++[aP dq 4 C.ins,aP eI 1 C.entry,.raw (.slice none 0 0),.pt (hn 5 k) 0 0 0,.raw (.slice none 0 0),.raw (.int .i64 0),.raw (.int .i64 0),.raw (.int .i64 0),.raw (.int .i64 0)]))]⟩:Hp).put (hn 4 k) (.aG 169 1 [])).put (hn 3 k) (.var 166 (ko p++[aP dq 4 C.ins,aP eI 1 C.entry,.rs (hn 4 k) 0 1 0,.pt (hn 5 k) 0 0 0,.raw (.slice none 0 0),.raw (.int .i64 0),.raw (.int .i64 0),.raw (.int .i64 0),.raw (.int .i64 0)])))).put (hn 8 k) (.aG 9 1 [])).put (hn 3 k) (.var 166 (ko p++[aP dq 4 C.ins,aP eI 1 C.entry,.rs (hn 4 k) 0 1 0,.pt (hn 5 k) 0 0 0,.rs (hn 8 k) 0 1 0,.raw (.int .i64 0),.raw (.int .i64 0),.raw (.int .i64 0),.raw (.int .i64 0)]))))
  (hn 6 k) (hn 5 k) 0 3 1 (t:=196) (cs:=[.raw (.slice none 0 0),.raw (.slice none 0 0)])
  (by rw[Hp.bk,if_neg (nd 6 3 jB jB jB),Hp.bk,if_neg (nd 6 8 jB jB jB),Hp.bk,if_neg (nd 6 3 jB jB jB),Hp.bk,if_neg (nd 6 4 jB jB jB)];show aA _ _=_;simp only[aA,if_neg (n9 6),if_neg (nd 6 5 jB jB jB),if_neg (nd 6 3 jB jB jB)]) jC
  (by rw[Hp.bk,if_neg (nd 5 3 jB jB jB),Hp.bk,if_neg (nd 5 8 jB jB jB),Hp.bk,if_neg (nd 5 3 jB jB jB),Hp.bk,if_neg (nd 5 4 jB jB jB)];show aA _ _=_;simp only[aA,if_neg (n9 5),if_pos]) rfl
 refine s1.trans (s2.trans (s3.trans ?_));refine dV.trans (dV.gl (hn 7 k) (hn 5 k) 1 3 1 (t:=196) (cs:=[.rs (hn 6 k) 0 1 0,.raw (.slice none 0 0)]) ?_ jC ?_ rfl) (dV.perm _ fun i=>?_)
 ·simp only[Hp.bk,if_neg (nd 7 5 jB jB jB),if_neg (nd 7 6 jB jB jB),if_neg (nd 7 3 jB jB jB),if_neg (nd 7 8 jB jB jB),if_neg (nd 7 4 jB jB jB)];show aA _ _=_;simp only[aA,if_neg (n9 7),if_neg (nd 7 5 jB jB jB),if_neg (nd 7 3 jB jB jB)]
 ·rw[Hp.bk,if_pos rfl];rfl
 ·simp only[Hp.put,bP,kg,yE];by_cases a5:i=hn 5 k
  ·simp only[if_pos a5];rfl
  simp only[if_neg a5];by_cases a7:i=hn 7 k
  ·subst a7;simp(disch:=omega) only[go_sem,↓reduceIte]
  simp only[if_neg a7];by_cases a6:i=hn 6 k
  ·subst a6;simp(disch:=omega) only[go_sem,↓reduceIte]
  simp only[if_neg a6];by_cases a3:i=hn 3 k
  ·simp only[if_pos a3];rfl
  simp only[if_neg a3];by_cases a8:i=hn 8 k
  ·subst a8;simp(disch:=omega) only[go_sem,↓reduceIte]
  simp only[if_neg a8];by_cases a4:i=hn 4 k
  ·subst a4;simp(disch:=omega) only[go_sem,↓reduceIte]
  simp only[if_neg a4,aA,if_neg a5,if_neg a3,Option.none_or]
end Go.Gd
namespace Go.Proofs.YtijdhbokcdpklaaGreatDoor
open Go Go.Gd Tryz
def LL(fn at_ mark:Int)(vs jk slots:List aj)(v:aj)(hL:¬(100000<vs.length+jk.length)):ab prog 144 [.pt 6 0 0 0,rV v] (kE fn at_ mark vs jk slots) (fun r l=>r=.aQ []/\l=kE fn at_ mark (vs++[v]) (jk.drop 1) slots):=by
 refine aM func144 ntmps144 ?_;refine S ?_
 (repeat' (first|refine av fun K hK=>?_|refine au ?_|(with_reducible refine gR 1 ?_);refine dE 1 (bf 0 11) mixed ?_|(refine hK _ _ ?_;clear hK K)|(refine ar ?_ ?_<;>intro hc<;>try exact jz)|refine aV 9 ?_|refine rp vs jk [v] ?_|refine aq ?_|exact jI|(clear hK K)))
 (refine ba [] ?_;try simp only[go_sem])
def E7(fn at_ mark:Int)(vs jk slots:List aj)(h1:1<=vs.length)(hL:¬(100000<vs.length+jk.length)):ab prog 158 [.pt 6 0 0 0] (kE fn at_ mark vs jk slots) (fun r l=>r=rV (nth vs (vs.length-1))/\l=kE fn at_ mark vs jk slots):=by
 refine aM func158 ntmps158 ?_;refine S ?_
 (repeat' (first|refine av fun K hK=>?_|refine au ?_|(with_reducible refine gR 1 ?_);refine dE 1 (bf 0 13) mixed ?_|(refine hK _ _ ?_;clear hK K)|(refine ar ?_ ?_<;>intro hc<;>try exact jz)|refine al 9 ?_|refine aq ?_|exact jI|(clear hK K)))
 (refine ba [.cell 2 42] ?_;try simp only[go_sem])
def FK(fn at_ mark:Int)(vs jk slots:List aj)(v:aj)(hL:¬(100000<vs.length+1+jk.length)):ab prog 149 [.pt 6 0 0 0] (kE fn at_ mark (vs++[v]) jk slots) (fun r l=>r=rV v/\l=kE fn at_ mark vs (v::jk) slots):=by
 have Xg:=E7 fn at_ mark (vs++[v]) jk slots jE (by rw[List.length_append,List.length_singleton];omega);rw[show nth (vs++[v]) ((vs++[v]).length-1)=v by simp[nth]]at Xg;have e:(vs++[v])++jk=vs++(v::jk):=jE;have e2:((vs++[v]).length:Int)-1=vs.length:=jE;have e3:(vs++[v]).length=vs.length+1:=jE;have e4:vs.length+(v::jk).length=vs.length+1+jk.length:=by simp only[List.length_cons];omega
 unfold kE at Xg ⊢;rw[e,e3]at Xg ⊢;rw[e4];refine aM func149 ntmps149 ?_;refine S ?_
 (repeat' (first|refine av fun K hK=>?_|refine au ?_|(with_reducible refine gR 2 ?_);refine dE 2 (bf 0 15) mixed ?_|(refine hK _ _ ?_;clear hK K)|(refine ar ?_ ?_<;>intro hc<;>try exact jz)|refine al 9 ?_|refine al 10 ?_|refine cm (Xg) ?_|refine aq ?_|exact jI|(clear hK K)))
 refine ba [.cell 2 42] rfl (h2:=?_);simp[fy,mL]
def SU(fn at_ mark:Int)(vs jk slots:List aj)(k t:Int)(hk:0<=k/\k<slots.length)(hL:¬(100000<slots.length)):ab prog 148 [.pt 6 0 0 0,rI k,rI t] (kE fn at_ mark vs jk slots) (fun r l=>r=rV (fc slots k t)/\l=kE fn at_ mark vs jk slots):=by
 refine aM func148 ntmps148 ?_;refine S ?_
 (repeat' (first|refine av fun K hK=>?_|refine au ?_|(refine hK _ _ ?_;clear hK K)|(refine ar ?_ ?_<;>intro hc<;>try exact jz)|refine al 9 ?_|refine al 10 ?_|refine cp (Dq _) ?_|(first|refine cg (vV _) ?_|refine qb (vV _) ?_)|refine aq ?_|exact jI|(clear hK K)))
 all_goals(refine ba [.cell 6 42] ?_;try simp only[go_sem])
 all_goals(unfold fc;(repeat' split)<;>first|rfl|omega|(exfalso;simp_all;done)|(simp_all;done)|skip)
end Go.Proofs.YtijdhbokcdpklaaGreatDoor
namespace Go.Proofs.YtijdhbokcdpklaaGreatDoor
open Go Go.Gd Tryz Go.Gd.MV
section
variable {p:af}{C:aI}{m:MV}{N:NM}{e:UD}(X:UH)
def sV(hR:bL p C m N e)(h1:1<=m.calls.length)(v:aj)(hb:m.ah.stack.length<=1000):kW prog 144 [cP N,rV v] e X (.aQ []) (To p C (m.push v) N):=by have WA:=(hR.ah h1).bd;exact hR.cF h1 (c':=m.ah.push v) (jk':=N.ah.jk.drop 1) (by show(m.ah.stack++[v]).length+_<=_;rw[List.length_append,List.length_drop,List.length_singleton];omega) rfl rfl (LL _ _ _ _ _ _ v jB)
def FX(hR:bL p C m N e)(h1:1<=m.calls.length)(hb:1<=m.ah.stack.length):kW prog 149 [cP N] e X (rV m.ah.last) (To p C (m.cut 1) N):=by
 have WA:=(hR.ah h1).bd;have e1:m.ah.stack.take (m.ah.stack.length-1)++[m.ah.last]=m.ah.stack:=by unfold MC.last;rw[fO jB,List.take_append_getElem,show m.ah.stack.length-1+1=m.ah.stack.length from jB,List.take_length]
 have O':(m.ah.stack.take (m.ah.stack.length-1)).length=m.ah.stack.length-1:=by rw[List.length_take];omega
 have hc:=FK m.ah.fn m.ah.at_ m.ah.mark (m.ah.stack.take (m.ah.stack.length-1)) N.ah.jk m.ah.slots m.ah.last (by rw[O'];omega);rw[e1]at hc;have hb3:(m.ah.cut 1).stack.length+(m.ah.last::N.ah.jk).length<=2000:=by show(m.ah.stack.take (m.ah.stack.length-1)).length+_<=_;rw[O',List.length_cons];omega
 exact hR.cF h1 (c':=m.ah.cut 1) hb3 rfl rfl hc
def Tc(hR:bL p C m N e)(h1:1<=m.calls.length)(hb:1<=m.ah.stack.length):cW prog 158 [cP N] e (rV m.ah.last) e:=by have WA:=(hR.ah h1).bd;exact hR.sr h1 rfl rfl (E7 _ _ _ _ _ _ hb jB)
def C8(hR:bL p C m N e)(h1:1<=m.calls.length)(k t:Int)(hk:0<=k/\k<m.ah.slots.length)(hb:m.ah.slots.length<=1000):cW prog 148 [cP N,rI k,rI t] e (rV (fc m.ah.slots k t)) e:=
 hR.sr h1 rfl rfl (SU _ _ _ _ _ _ k t hk jB)
def M0(hR:bL p C m N e)(a i:Int)(hl:m.heap.length<=1000)(hf:m.heap.flatten.length<=1000):cW prog 154 [.pt (hn 5 N.k) 0 0 0,rI a,rI i] e (.aQ [rI (if i<0\/((MV.bn m.heap a).length:Int)<=i then 0 else nth (MV.bn m.heap a) i.toNat),rI (if i<0\/((MV.bn m.heap a).length:Int)<=i then 2 else 0)]) e:=
 hR.k7 rfl rfl (Pu m.heap a i hl hf)
def LF(hR:bL p C m N e)(a:Int)(hl:m.heap.length<=1000)(hf:m.heap.flatten.length<=1000):cW prog 153 [.pt (hn 5 N.k) 0 0 0,rI a] e (rI (MV.bn m.heap a).length) e:=
 hR.k7 rfl rfl (Pc m.heap a hl hf)
def MF(hR:bL p C m N e)(a i n:Int)(hl:m.heap.length<=1000)(hf:m.heap.flatten.length<=1000)(hi:¬(i<0\/((MV.bn m.heap a).length:Int)<=i)):kW prog 155 [.pt (hn 5 N.k) 0 0 0,rI a,rI i,rI n] e X (rI 0) (To p C { m with heap:=m.heap.set (a-1).toNat ((nth m.heap (a-1).toNat).set i.toNat n) } N):=
 hR.te rfl rfl (Kv m.heap a i n hl hf hi)
def Q0(hR:bL p C m N e)(a i n:Int)(hl:m.heap.length<=1000)(hf:m.heap.flatten.length<=1000)(hi:i<0\/((MV.bn m.heap a).length:Int)<=i):cW prog 155 [.pt (hn 5 N.k) 0 0 0,rI a,rI i,rI n] e (rI 2) e:=
 hR.k7 rfl rfl (Qs m.heap a i n hl hf hi)
def OW(hR:bL p C m N e)(n:Int)(h0:0<=n/\n<=16)(hc:gr m.heap+n+1<=40)(Yf:gr m.heap=m.heap.length+m.heap.flatten.length):kW prog 157 [.pt (hn 5 N.k) 0 0 0,rI n] e X (.aQ [rI (m.heap.length+1:Nat),rI 0]) (To p C { m with heap:=m.heap++[List.replicate n.toNat 0] } N):=by obtain⟨k,rfl⟩:∃k:Nat,n=k:=⟨n.toNat,jB⟩;rw[Int.toNat_natCast];exact hR.te rfl rfl (On m.heap k jB jB)
def Px(hR:bL p C m N e)(n:Int)(h0:n<0\/16<n)(hl:m.heap.length<=40)(hf:m.heap.flatten.length<=40):cW prog 157 [.pt (hn 5 N.k) 0 0 0,rI n] e (.aQ [rI 0,rI 7]) e:=
 hR.k7 rfl rfl (KT m.heap n h0 hl hf)
def R4(hR:bL p C m N e)(n:Int)(h0:0<=n/\n<=16)(hc:40<(m.heap.length:Int)+m.heap.flatten.length+n+1)(hl:m.heap.length<=40)(hf:m.heap.flatten.length<=40):cW prog 157 [.pt (hn 5 N.k) 0 0 0,rI n] e (.aQ [rI 0,rI 4]) e:=
 hR.k7 rfl rfl (O6 m.heap n h0 hc hl hf)
def P7(hR:bL p C m N e)(h1:1<=m.calls.length):(List.map (fun j=>[AV.pt (hn 0 j) 0 0 0]) (List.map NC.c N.cs)++List.map (fun j=>[AV.pt (hn 0 j) 0 0 0]) N.cj).getD (N.cs.length-1) []=[cP N]:=by have hl:=hR.len;rw[<-List.map_append];rw[List.getD_eq_getElem?_getD,List.getElem?_map,List.getElem?_append_left (by rw[List.length_map];omega),List.getElem?_map,List.getElem?_eq_getElem jB];unfold cP NM.ah;rw[fO jB];rfl
def tX(hR:bL p C m N e)(h1:1<=m.calls.length):cW prog 129 [mP N] e (cP N) e:=by
 have Ul:=hR.ok.low;have hl:=hR.len;have hb:=hR.bd;have hg:=P7 hR h1;refine⟨?_,hR.ok,hR.ok,fun _ h=>h,by simp only[aY,AV.all,ga hR.root,Bool.and_self]⟩;refine aM (L:=ids e) func129 ntmps129 ?_ (hL:=rfl);generalize hB:ids e=B;refine eW ?_
 (have W:=jA Ul (jA hR.root (jA hR.row (hg)));repeat' (first|refine av fun K hK=>?_|refine au ?_|(with_reducible refine gR 1 ?_);refine dE 1 (bf 0 13) mixed ?_|(refine hK _ _ ?_;clear hK K)|(refine ar ?_ ?_<;>intro hc<;>try exact jz)|refine aq ?_|exact jI|(clear hK K)))
 exact eD hB hR.ok hR.ok (tl:=[]) (fun _=>rfl) dK [.tmp 2]
def Ep{N:NM}{n:NC}(h:1<=N.cs.length):(N.aW n).ah=n:=by show nth (N.cs.set _ n) ((N.cs.set _ n).length-1)=n;rw[List.length_set,Go.Gd.dG _ _ _ _ jB,if_pos rfl]
def xZ(hR:bL p C m N e)(h1:1<=m.calls.length)(s t:Int):kW prog 156 [mP N,rI s,rI t] e X (.aQ []) (To p C (m.stops s t) N):=by
 have ht:=tX hR h1;have hT:=hR.ah h1;have Ul:=hR.ok.low;have hl:=hR.len;have Yc:bL p C { m with status:=s,dn:=t } N (bj e (hn 3 N.k) (.var 166 (mE p C { m with status:=s,dn:=t } N))):=hR.mB rfl rfl rfl;have Vw:=yj e X 2 0;have hnX:=zX e X 2 0;generalize rR (ids e++X)+0=k at Vw hnX;have Yk:aA (bj e (hn 3 N.k) (.var 166 (mE p C { m with status:=s,dn:=t } N))) (hn 2 k)=none:=by rw[bP,if_neg (dj jB jB jB)];exact Vw
 have i1:=ga hT.eT;have VE:bL p C (m.stops s t) (N.aW ⟨N.ah.c,k,[]⟩) (bj (bj (bj e (hn 3 N.k) (.var 166 (mE p C { m with status:=s,dn:=t } N))) (hn 2 k) (.aG 42 3 [])) (hn 0 N.ah.c) (.var 174 (MV.cE m.ah.back ⟨N.ah.c,k,[]⟩))):=by
  refine Yc.aW (c':=m.ah.back) (n':=⟨N.ah.c,k,[]⟩) h1 rfl ?_ ⟨?_,?_,?_,by show 0+0<=2000;omega⟩ (.inr Yk) fun j hj n0 n1 n2=>?_
  ·refine(Yc.ok.put (.inr (iA _ _)) rfl).put (.inr (iA _ _)) ?_;have j1:=ga (Yc.ah h1).eT;have q1:=(oj (bj e (hn 3 N.k) (.var 166 (mE p C { m with status:=s,dn:=t } N))) (hn 2 k) (hn 2 k) (.aG 42 3 [])).2 (.inl rfl);have q2:=(oj (bj e (hn 3 N.k) (.var 166 (mE p C { m with status:=s,dn:=t } N))) (hn 2 k) (hn 1 N.ah.c) (.aG 42 3 [])).2 (.inr (List.contains_iff_mem.1 j1));rw[<-List.contains_iff_mem]at q1 q2;simp only[Row.cells,MV.cE,aY,AV.all,q1,q2,Bool.or_true,Bool.and_self]
  ·rw[bP,if_pos rfl]
  ·rw[bP,if_neg (dj jB jB jB),bP,if_pos rfl];rfl
  ·rw[bP,if_neg (dj jB jB jB),bP,if_neg (dj jB jB jB)];exact(Yc.ah h1).eT
  ·rw[bP,if_neg n0,bP,if_neg (fun e'=>by subst e';exact hj Yk)]
 have hU:Up X e (bj (bj (bj e (hn 3 N.k) (.var 166 (mE p C { m with status:=s,dn:=t } N))) (hn 2 k) (.aG 42 3 [])) (hn 0 N.ah.c) (.var 174 (MV.cE m.ah.back ⟨N.ah.c,k,[]⟩))):=by
  refine((Up.put _ (.inl ?_)).trans (Up.put _ (.inr hnX))).trans (Up.put _ (.inl ?_))
  ·rw[hR.root];simp
  ·rw[bP,if_neg (dj jB jB jB),bP,if_neg (dj jB jB jB),hT.var];simp
 refine⟨_,_,⟨VE,rfl,by rw[Ep jB]⟩,hU,⟨?_,hR.ok,VE.ok,hU.aX,by simp only[aY,AV.all,ga hR.root,Bool.and_self]⟩⟩;have k2:=VE.ok;clear VE hU;generalize hE:bj (bj (bj e (hn 3 N.k) (.var 166 (mE p C { m with status:=s,dn:=t } N))) (hn 2 k) (.aG 42 3 [])) (hn 0 N.ah.c) (.var 174 (MV.cE m.ah.back ⟨N.ah.c,k,[]⟩))=E at k2 ⊢;refine aM (L:=ids e) func156 ntmps156 ?_ (hL:=rfl);generalize hB:ids e=B;refine eW ?_
 (have W:=jA Ul (jA hR.root (hT.var));repeat' (first|refine av fun K hK=>?_|refine au ?_|(refine hK _ _ ?_;clear hK K)|(refine ar ?_ ?_<;>intro hc<;>try exact jz)|refine cT ht ?_|refine aq ?_|exact jI|(clear hK K)))
 refine Jo hB hR.ok k2 (iD.gl (t:=174) (cs:=[.raw (.slice none 0 0),rI m.ah.fn,rI m.ah.mark,rI m.ah.mark,.rs (hn 1 N.ah.c) m.ah.slots.length 3 m.ah.slots.length]) (hn 2 k) (hn 0 N.ah.c) 0 42 3 ?_ jC ?_ rfl) (tl:=[]) (fun i=>?_) dK []
 ·show aA (tie _ []) _=_;simp(disch:=first|omega|assumption|fail) only[go_sem,↓reduceIte,Vw]
 ·show aA (tie _ []) _=_;simp(disch:=first|omega|assumption|fail) only[go_sem,↓reduceIte,hT.var]
 ·subst hE;simp only[Hp.put,kg,bP,aA,Option.or_none];by_cases a:i=hn 0 N.ah.c
  ·rw[if_pos a,if_pos a];rfl
  ·simp only[if_neg a];by_cases b:i=hn 2 k
   ·simp only[if_pos b]
   ·simp only[if_neg b];by_cases c:i=hn 3 N.k
    ·simp only[if_pos c];rfl
    ·simp only[if_neg c]
def wZ(hR:bL p C m N e)(h1:1<=m.calls.length)(r:aj×Int)(hb:m.ah.stack.length<=1000):kW prog 150 [mP N,rV r.1,rI r.2] e X (.aQ []) (To p C (m.dZ r) N):=by
 have ht:=tX hR h1;have Ul:=hR.ok.low;have ha:∀v t:AV,v.all eu=true->t.all eu=true->aY (fun i=>(ids e).contains i) [mP N,v,t]=true:=fun v t h h'=>by simp only[aY,AV.all,ga hR.root,Bool.true_and,Bool.and_true];exact Bool.and_eq_true _ _ ▸ ⟨qe (fun _ h=>by cases h) _ h,qe (fun _ h=>by cases h) _ h'⟩
 unfold MV.dZ;by_cases h0:r.2≠0
 ·rw[if_pos h0];obtain⟨N',l,hT,hU,hp⟩:=xZ X hR h1 3 r.2;refine⟨N',l,hT,hU,⟨?_,hR.ok,hp.e2,hU.aX,ha _ _ rfl rfl⟩⟩;refine aM (L:=ids e) func150 ntmps150 ?_ (hL:=rfl);generalize hB:ids e=B;refine eW ?_
  (have W:=Ul;repeat' (first|refine av fun K hK=>?_|refine au ?_|(refine hK _ _ ?_;clear hK K)|(refine ar ?_ ?_<;>intro hc<;>try exact jz)|refine aV 9 ?_|refine cT hp ?_|refine aq ?_|exact jI|(clear hK K)))
  exact eD hB hR.ok hp.e2 (fun _=>rfl) (dp jC dK) []
 ·rw[if_neg h0];have h0:r.2=0:=jB;obtain⟨N',l,hT,hU,hp⟩:=sV X hR h1 r.1 hb;refine⟨N',l,hT,hU,⟨?_,hR.ok,hp.e2,hU.aX,ha _ _ rfl rfl⟩⟩;refine aM (L:=ids e) func150 ntmps150 ?_ (hL:=rfl);generalize hB:ids e=B;refine eW ?_
  (have W:=jA Ul h0;repeat' (first|refine av fun K hK=>?_|refine au ?_|(with_reducible refine gR 3 ?_);refine dC 3 ([],[12],[]) [] (bf 0 6) mixed ?_|(refine hK _ _ ?_;clear hK K)|(refine ar ?_ ?_<;>intro hc<;>try exact jz)|refine aV 9 ?_|refine mS ht ?_|refine cT hp ?_|refine aq ?_|exact jI|(clear hK K)))
  exact eD hB hR.ok hp.e2 (fun _=>rfl) (dp jC dK) []
end
section
variable {p:af}{C:aI}{m:MV}{N:NM}{e:UD}(X:UH)
def qh(hR:bL p C m N e){l:UE}(h:aY eu l=true):aY (fun i=>(ids e).contains i) (mP N::l)=true:=by simp only[aY,AV.all,ga hR.root,Bool.true_and];exact fV (fun _ h=>by cases h) _ h
def Hy(hR:bL p C m N e)(h1:1<=m.calls.length)(v:aj)(hb:∀k,k<m.calls.length->(nth m.calls k).stack.length<=1000):kW prog 159 [mP N,rV v] e X (.aQ []) (fun N' l=>bL p C (m.ends v) N' l/\N'.k=N.k):=by
 have Ul:=hR.ok.low;have hl:=hR.len;have hbd:=hR.bd;unfold MV.ends;by_cases h2:m.calls.length<=1
 ·rw[if_pos h2];have VE:bL p C { m.pop with status:=2 } N.pop (bj e (hn 3 N.k) (.var 166 (mE p C { m.pop with status:=2 } N.pop))):=hR.xG h1 rfl rfl rfl;have hU:Up X e (bj e (hn 3 N.k) (.var 166 (mE p C { m.pop with status:=2 } N.pop))):=Up.put _ (.inl (by rw[hR.root];simp));refine⟨_,_,⟨VE,rfl⟩,hU,⟨?_,hR.ok,VE.ok,hU.aX,qh hR rfl⟩⟩;have k2:=VE.ok;clear VE hU;generalize hE:bj e (hn 3 N.k) (.var 166 (mE p C { m.pop with status:=2 } N.pop))=E at k2 ⊢;refine aM (L:=ids e) func159 ntmps159 ?_ (hL:=rfl);generalize hB:ids e=B;refine eW ?_
  (have W:=jA Ul (hR.root);repeat' (first|refine av fun K hK=>?_|refine au ?_|(with_reducible refine gR 1 ?_);refine dE 1 (bf 0 15) mixed ?_|(refine hK _ _ ?_;clear hK K)|(refine ar ?_ ?_<;>intro hc<;>try exact jz)|refine aV 9 ?_|refine aq ?_|exact jI|(clear hK K)))
  refine eD (tl:=[(9,.var 42 (bV v))]) hB hR.ok k2 (fun i=>?_) (dp jC dK) [];subst hE;have e1:N.cs.length=1:=jB;simp only[kg,bP];by_cases a:i=hn 3 N.k
  ·simp only[if_pos a,Option.some_or];unfold mE NM.pop;simp[MV.pop,ko,e1,Nat.add_comm]
  ·simp only[if_neg a]
 ·rw[if_neg h2];have VE:bL p C m.pop N.pop (bj e (hn 3 N.k) (.var 166 (mE p C m.pop N.pop))):=hR.xG h1 rfl rfl rfl;have eE:bj e (hn 3 N.k) (.var 166 (mE p C m.pop N.pop))=bj e (hn 3 N.k) (.var 166 (ko p++[aP dq 4 C.ins,aP eI 1 C.entry,.rs (hn 4 N.k) (N.cs.length+N.cj.length) 1 (N.cs.length-1),.pt (hn 5 N.k) 0 0 0,.rs (hn 8 N.k) m.bC.length 1 m.bC.length,.raw (.int .i64 m.in_),.raw (.int .i64 m.status),.raw (.int .i64 m.dn),.raw (.int .i64 m.time)])):=by
   unfold mE NM.pop;have:N.cs.length-1+(N.cj.length+1)=N.cs.length+N.cj.length:=jB;simp[MV.pop,this]
  rw[eE]at VE;have hU:Up X e (bj e (hn 3 N.k) (.var 166 (ko p++[aP dq 4 C.ins,aP eI 1 C.entry,.rs (hn 4 N.k) (N.cs.length+N.cj.length) 1 (N.cs.length-1),.pt (hn 5 N.k) 0 0 0,.rs (hn 8 N.k) m.bC.length 1 m.bC.length,.raw (.int .i64 m.in_),.raw (.int .i64 m.status),.raw (.int .i64 m.dn),.raw (.int .i64 m.time)]))):=Up.put _ (.inl (by rw[hR.root];simp));have p1:1<=m.pop.calls.length:=by show 1<=(m.calls.take _).length;rw[List.length_take];omega
  have ht:=tX VE p1;have Y4:m.pop.ah.stack.length<=1000:=by have:m.pop.ah=nth m.calls (m.calls.length-1-1):=MV.qT jB;rw[this];exact hb _ jB
  obtain⟨N',l,hT,Vz,hp⟩:=sV X VE p1 v Y4;refine⟨N',l,⟨hT.1,hT.2.1⟩,hU.trans Vz,⟨?_,hR.ok,hp.e2,(hU.trans Vz).aX,qh hR rfl⟩⟩;clear hU Vz eE;refine aM (L:=ids e) func159 ntmps159 ?_ (hL:=rfl);generalize hB:ids e=B;refine eW ?_
  (have W:=jA Ul (hR.root);repeat' (first|refine av fun K hK=>?_|refine au ?_|(with_reducible refine gR 1 ?_);refine dE 1 (bf 0 15) mixed ?_|(with_reducible refine gR 4 ?_);refine dC 4 ([],[28],[]) [] (bf 0 6) mixed ?_|(refine hK _ _ ?_;clear hK K)|(refine ar ?_ ?_<;>intro hc<;>try exact jz)|refine aV 9 ?_|refine mS ht ?_|refine cT hp ?_|refine aq ?_|exact jI|(clear hK K)))
  exact eD hB hR.ok hp.e2 (fun _=>rfl) (dp jC dK) []
structure pw(p:af)(C:aI)(m:MV)(fn:Int)(args:List aj):Prop where
 f0:0<=fn
 f1:fn<C.entry.length
 f2:fn<p.size.length
 s0:0<=nth p.size fn.toNat
 s1:nth p.size fn.toNat<=24
 s2:(args.length:Int)<=nth p.size fn.toNat
 o0:C.entry.length<=1000/\p.size.length<=1000
 calls:m.calls.length<=8
def DW(hR:bL p C m N e)(fn:Int)(args:List aj)(hk:pw p C m fn args):kW prog 111 [mP N,rI fn,aP bV 3 args] e X (.aQ []) (fun N' l=>bL p C (m.cQ p C fn args) N' l/\N'.k=N.k):=by
 have Ul:=hR.ok.low;have hl:=hR.len;have hbd:=hR.bd;obtain⟨f0,f1,f2,s0,s1,s2,⟨b1,b2⟩,h8⟩:=hk;have n0:=yj e X 0 0;have n1:=yj e X 1 0;have n2:=yj e X 2 0;have x0:=zX e X 0 0;have x1:=zX e X 1 0;have x2:=zX e X 2 0;generalize rR (ids e++X)+0=k at n0 n1 n2 x0 x1 x2;have VE:=hR.Bm (m':=m.cQ p C fn args) (c':=iH p C fn args) (j:=k) jB rfl rfl rfl n0 n1 n2 (by show 0<=2000;omega);have hU:Up X e (nW p C (m.cQ p C fn args) N (iH p C fn args) k e):=by
  unfold nW;refine((((Up.put _ (.inr x1)).trans (Up.put _ (.inr x2))).trans (Up.put _ (.inr x0))).trans (Up.put _ (.inl ?_))).trans (Up.put _ (.inl ?_))
  ·rw[bP,if_neg (dj jB jB jB),bP,if_neg (dj jB jB jB),bP,if_neg (dj jB jB jB),hR.row];simp
  ·rw[bP,if_neg (dj jB jB jB),bP,if_neg (dj jB jB jB),bP,if_neg (dj jB jB jB),bP,if_neg (dj jB jB jB),hR.root];simp
 obtain⟨n,Yj⟩:∃n:Nat,nth p.size fn.toNat=(n:Int):=⟨(nth p.size fn.toNat).toNat,jB⟩;refine⟨_,_,⟨VE,rfl⟩,hU,⟨?_,hR.ok,VE.ok,hU.aX,qh hR rfl⟩⟩;have k2:=VE.ok;clear VE hU;generalize hE:nW p C (m.cQ p C fn args) N (iH p C fn args) k e=E at k2 ⊢;have han:args.length<=n:=jB;refine aM (L:=ids e) func111 ntmps111 ?_ (hL:=rfl);generalize hB:ids e=B;refine eW ?_
 (have W:=jA Ul (jA hR.root (jA hR.row (jA Yj (jA n0 (n1)))));repeat' (first|refine av fun K hK=>?_|refine au ?_|(with_reducible refine gR 0 ?_);refine dC 0 ([],[],[32]) [] (bf 0 29) mixed ?_|(refine hK _ _ ?_;clear hK K)|(refine ar ?_ ?_<;>intro hc<;>try exact jz)|refine aV (hn 0 k) ?_|refine Li (n:=n) (hn 1 k) ?_|refine Rf ?_ (hd:=by(show aA (tie _ _) _=_;rw[kg,n1,Option.none_or];exact if_pos rfl))|refine wb 10 ?_|refine rp (enc:=fun j=>[.pt (hn 0 j) 0 0 0]) (N.cs.map NC.c) N.cj [k] ?_ (hm:=by rw[List.length_map]) (hn:=by rw[List.length_map])|refine aq ?_|exact jI|(clear hK K)))
 refine Jo (tl:=[(10,.aG 169 1 [[.pt (hn 0 k) 0 0 0]])]) hB hR.ok k2 (iD.gl (t:=174) (cs:=[.raw (.slice none 0 0),rI fn,rI (nth C.entry fn.toNat),rI (nth C.entry fn.toNat),.rs (hn 1 k) n 3 n]) (hn 2 k) (hn 0 k) 0 42 3 ?_ jC ?_ rfl) (fun i=>?_) (dp jC dK) []
 ·show aA (tie _ _) _=_;simp(disch:=first|omega|assumption|fail) only[go_sem,↓reduceIte,n2]
 ·show aA (tie _ _) _=_;simp(disch:=first|omega|assumption|fail) only[go_sem,↓reduceIte,n0]
 ·subst hE;have en:((nth p.size fn.toNat)-(args.length:Int)).toNat=n-args.length:=jB;have es:(iH p C fn args).slots.map bV=dx (List.replicate n (bV v0)) 0 (args.map bV):=by
   show(args++List.replicate _ v0).map bV=_;unfold dx;rw[en,List.map_append,List.map_replicate];simp
  have el:(iH p C fn args).slots.length=n:=by show(args++List.replicate _ v0).length=n;rw[en,List.length_append,List.length_replicate];omega
  have q4:hn 4 N.k≠hn 3 N.k:=dj jB jB jB;simp only[nW,Hp.put,kg,bP,es];by_cases a:i=hn 3 N.k
  ·subst a;simp(disch:=first|omega|assumption|fail) only[go_sem,↓reduceIte,NM.nM,List.length_append,List.length_drop,List.length_singleton,MV.cQ]
  simp only[if_neg a];by_cases b:i=hn 4 N.k
  ·subst b;simp(disch:=first|omega|assumption|fail) only[go_sem,↓reduceIte,NM.nM,List.map_append,List.append_assoc]
  simp only[if_neg b];by_cases c:i=hn 0 k
  ·subst c;simp(disch:=first|omega|assumption|fail) only[go_sem,↓reduceIte,el];rfl
  simp only[if_neg c];by_cases d:i=hn 2 k
  ·subst d;simp(disch:=first|omega|assumption|fail) only[go_sem,↓reduceIte];rfl
  simp only[if_neg d];by_cases f:i=hn 1 k
  ·subst f;simp(disch:=first|omega|assumption|fail) only[go_sem,↓reduceIte,n1];rfl
  simp only[if_neg f,aA,if_neg c]
end
structure pC(p:af)(C:aI)(m:MV)(x:ay):Prop where
 calls:1<=m.calls.length
 nb:m.calls.length<=8
 one:x.op=6\/x.op=8\/x.op=9\/x.op=10\/x.op=11\/x.op=13\/x.op=15\/x.op=17\/x.op=18\/x.op=19\/x.op=21\/x.op=23->1<=m.ah.stack.length
 two:x.op=7\/x.op=12->2<=m.ah.stack.length
 slot:x.op=5\/x.op=6\/x.op=11\/x.op=12->0<=x.a/\x.a<m.ah.slots.length
 call:x.op=20->0<=x.b/\x.b<=m.ah.stack.length/\(m.calls.length<8->pw p C m x.a (m.ah.stack.drop (m.ah.stack.length-x.b.toNat)))
 word:x.op=15->bD m.ah.last.n
 j6:∀v∈m.ah.stack,v.s.size<=40
 deep:∀k,k<m.calls.length->(nth m.calls k).stack.length<=1000
 slots:m.ah.slots.length<=24
 heap:gr m.heap<=40
 outs:m.bC.length<=24
 nQ:0<=m.in_
 oF:m.in_<=1000
theorem pC.ah{p:af}{C:aI}{m:MV}{x:ay}(h:pC p C m x):m.ah.stack.length<=1000:=h.deep (m.calls.length-1) (by have:=h.calls;omega)
section
variable {p:af}{C:aI}{m:MV}{N:NM}{e:UD}(X:UH)
def ik(hR:bL p C m N e)(h1:1<=m.calls.length){l:UE}(h:aY eu l=true):aY (fun i=>(ids e).contains i) (mP N::cP N::l)=true:=by simp only[aY,AV.all,ga hR.root,ga (hR.ah h1).var,Bool.true_and];exact fV (fun _ h=>by cases h) _ h
def Sy(hR:bL p C m N e)(h1:1<=m.calls.length)(x:ay)(hx:¬(x.op=2\/x.op=3\/x.op=4\/x.op=5)):cW prog 130 [mP N,cP N,.agg (dq x)] e (rB false) e:=by
 have Ul:=hR.ok.low;refine⟨?_,hR.ok,hR.ok,fun _ h=>h,ik hR h1 rfl⟩;refine aM (L:=ids e) func130 ntmps130 ?_ (hL:=rfl);generalize hB:ids e=B;refine eW ?_
 (have W:=Ul;repeat' (first|refine av fun K hK=>?_|refine au ?_|(with_reducible refine gR 4 ?_);refine dE 4 (bf 0 7) mixed ?_|(with_reducible refine gR 6 ?_);refine dE 6 (bf 0 8) mixed ?_|(with_reducible refine gR 8 ?_);refine dE 8 (bf 0 7) mixed ?_|(with_reducible refine gR 10 ?_);refine dE 10 (bf 0 10) mixed ?_|(refine hK _ _ ?_;clear hK K)|(refine ar ?_ ?_<;>intro hc<;>try exact jz)|refine aV 9 ?_|refine aq ?_|exact jI|(clear hK K)))
 exact eD hB hR.ok hR.ok (fun _=>rfl) (dp jC dK) [.tmp 6]
def T1(hR:bL p C m N e)(inp:UG)(x:ay)(hk:pC p C m x)(hx:x.op=2\/x.op=3\/x.op=4\/x.op=5):kW prog 130 [mP N,cP N,.agg (dq x)] e X (rB true) (To p C (m.ins p C inp x) N):=by
 have h1:=hk.calls;have Ul:=hR.ok.low;have h5:x.op=5->cW prog 148 [cP N,rI x.a,rI x.b] e (rV (fc m.ah.slots x.a x.b)) e:=fun h=>C8 hR h1 x.a x.b (hk.slot (.inl h)) (by have:=hk.slots;omega)
 have key:∀v:aj,((x.op=2/\v=vI x.a)\/(x.op=3/\v=vB (decide (x.a=1)))\/(x.op=4/\v=vT x.s)\/(x.op=5/\v=fc m.ah.slots x.a x.b))->kW prog 130 [mP N,cP N,.agg (dq x)] e X (rB true) (To p C (m.push v) N):=fun v hv=>by
  obtain⟨N',l,hT,hU,hp⟩:=sV X hR h1 v hk.ah;refine⟨N',l,hT,hU,⟨?_,hR.ok,hp.e2,hU.aX,ik hR h1 rfl⟩⟩;refine aM (L:=ids e) func130 ntmps130 ?_ (hL:=rfl);generalize hB:ids e=B;refine eW ?_;rcases hv with⟨h,rfl⟩|⟨h,rfl⟩|⟨h,rfl⟩|⟨h,rfl⟩
  all_goals
   (have W:=Ul;repeat' (first|refine av fun K hK=>?_|refine au ?_|(with_reducible refine gR 4 ?_);refine dE 4 (bf 0 7) mixed ?_|(with_reducible refine gR 6 ?_);refine dE 6 (bf 0 8) mixed ?_|(with_reducible refine gR 8 ?_);refine dE 8 (bf 0 7) mixed ?_|(with_reducible refine gR 10 ?_);refine dC 10 ([],[47],[]) [] (bf 0 10) mixed ?_|(refine hK _ _ ?_;clear hK K)|(refine ar ?_ ?_<;>intro hc<;>try exact jz)|refine aV 9 ?_|refine cp (ux _) ?_|refine cp (xY _) ?_|refine cp (H4 _) ?_|refine mS (h5 h) ?_|refine cT hp ?_|refine aq ?_|exact jI|(clear hK K)))
  all_goals exact eD hB hR.ok hp.e2 (fun _=>rfl) (dp jC dK) [.tmp 6]
 unfold MV.ins;rcases hx with h|h|h|h
 ·have:=key (vI x.a) (.inl ⟨h,rfl⟩);simpa[h]using this
 ·have:=key (vB (decide (x.a=1))) (.inr (.inl ⟨h,rfl⟩));simpa[h]using this
 ·have:=key (vT x.s) (.inr (.inr (.inl ⟨h,rfl⟩)));simpa[h]using this
 ·have:=key (fc m.ah.slots x.a x.b) (.inr (.inr (.inr ⟨h,rfl⟩)));simpa[h]using this
end
section
variable {p:af}{C:aI}{m:MV}{N:NM}{e:UD}(X:UH)
def MX(hR:bL p C m N e)(h1:1<=m.calls.length)(x:ay)(hx:¬(x.op=16\/x.op=17\/x.op=18\/x.op=19)):cW prog 133 [mP N,cP N,.agg (dq x)] e (rB false) e:=by
 have Ul:=hR.ok.low;refine⟨?_,hR.ok,hR.ok,fun _ h=>h,ik hR h1 rfl⟩;refine aM (L:=ids e) func133 ntmps133 ?_ (hL:=rfl);generalize hB:ids e=B;refine eW ?_
 (have W:=Ul;repeat' (first|refine av fun K hK=>?_|refine au ?_|(with_reducible refine gR 10 ?_);refine dQ 10 mixed ?_|(refine hK _ _ ?_;clear hK K)|(refine ar ?_ ?_<;>intro hc<;>try exact jz)|refine aV 9 ?_|refine aq ?_|exact jI|(clear hK K)))
 exact eD hB hR.ok hR.ok (fun _=>rfl) (dp jC dK) [.tmp 6]
def PN(hR:bL p C m N e)(inp:UG)(x:ay)(hk:pC p C m x)(hx:x.op=16\/x.op=17\/x.op=18\/x.op=19):kW prog 133 [mP N,cP N,.agg (dq x)] e X (rB true) (To p C (m.ins p C inp x) N):=by
 have h1:=hk.calls;have Ul:=hR.ok.low;have hT:=hR.ah h1;by_cases Ww:x.op=16
 ·have ei:m.ins p C inp x=m.aW (m.ah.jump x.a):=by unfold MV.ins;simp[Ww]
  rw[ei];have VE:=hR.j5 h1 (c':=m.ah.jump x.a) rfl rfl;have hU:Up X e (bj e (hn 0 N.ah.c) (.var 174 (MV.cE (m.ah.jump x.a) N.ah))):=Up.put _ (.inl (by rw[hT.var];simp));refine⟨_,_,⟨VE,rfl,rfl⟩,hU,⟨?_,hR.ok,VE.ok,hU.aX,ik hR h1 rfl⟩⟩;have k2:=VE.ok;clear VE hU;generalize hE:bj e (hn 0 N.ah.c) (.var 174 (MV.cE (m.ah.jump x.a) N.ah))=E at k2 ⊢;refine aM (L:=ids e) func133 ntmps133 ?_ (hL:=rfl);generalize hB:ids e=B;refine eW ?_
  (have W:=jA Ul (hT.var);repeat' (first|refine av fun K hK=>?_|refine au ?_|(with_reducible refine gR 10 ?_);refine dQ 10 mixed ?_|(refine hK _ _ ?_;clear hK K)|(refine ar ?_ ?_<;>intro hc<;>try exact jz)|refine aV 9 ?_|refine aq ?_|exact jI|(clear hK K)))
  subst hE;exact eD hB hR.ok k2 (fun _=>rfl) (dp jC dK) [.tmp 6]
 have WK:=hk.one jB;obtain⟨N1,l1,Us,U9,VR⟩:=FX X hR h1 WK;have Zv:1<=(m.cut 1).calls.length:=by rw[show(m.cut 1).calls.length=m.calls.length from MV.bM _ _];exact h1
 have U6:=Us.1.ok.low;have YV:=(Us.1.ah Zv).var;rw[Us.2.2]at YV;have Vs:=Us.1.j5 Zv (c':=(m.cut 1).ah.jump x.a) rfl rfl;have Vz:Up X l1 (bj l1 (hn 0 N1.ah.c) (.var 174 (MV.cE ((m.cut 1).ah.jump x.a) N1.ah))):=Up.put _ (.inl (by rw[Us.2.2,YV];simp));by_cases h17:x.op=17
 ·by_cases hz:m.ah.last.n=0
  ·have ei:m.ins p C inp x=(m.cut 1).aW ((m.cut 1).ah.jump x.a):=by
    unfold MV.ins;simp only[h17,hz];unfold MV.cut;rw[MV.dt,MV.bp h1];rfl
   rw[ei];refine⟨_,_,⟨Vs,Us.2.1,Us.2.2⟩,U9.trans Vz,⟨?_,hR.ok,Vs.ok,(U9.trans Vz).aX,ik hR h1 rfl⟩⟩;have k2:=Vs.ok;clear Vs U9 Vz;generalize hE:bj l1 (hn 0 N1.ah.c) (.var 174 (MV.cE ((m.cut 1).ah.jump x.a) N1.ah))=E at k2 ⊢;refine aM (L:=ids e) func133 ntmps133 ?_ (hL:=rfl);generalize hB:ids e=B;refine eW ?_
   (have W:=jA Ul (jA U6 (jA YV (hz)));repeat' (first|refine av fun K hK=>?_|refine au ?_|(with_reducible refine gR 10 ?_);refine dQ 10 mixed ?_|(refine hK _ _ ?_;clear hK K)|(refine ar ?_ ?_<;>intro hc<;>try exact jz)|refine aV 9 ?_|refine cT VR ?_|refine aq ?_|exact jI|(clear hK K)))
   subst hE;refine eD (tl:=[(9,.var 176 (dq x))]) hB hR.ok k2 (fun i=>?_) (dp jC dK) [.tmp 6];have:=Us.2.2;unfold MV.cE;rw[this];rfl
  ·have ei:m.ins p C inp x=m.cut 1:=by unfold MV.ins;simp only[h17];simp[hz]
   rw[ei];refine⟨_,_,Us,U9,⟨?_,hR.ok,VR.e2,U9.aX,ik hR h1 rfl⟩⟩;refine aM (L:=ids e) func133 ntmps133 ?_ (hL:=rfl);generalize hB:ids e=B;refine eW ?_
   (have W:=jA Ul U6;repeat' (first|refine av fun K hK=>?_|refine au ?_|(with_reducible refine gR 10 ?_);refine dQ 10 mixed ?_|(refine hK _ _ ?_;clear hK K)|(refine ar ?_ ?_<;>intro hc<;>try exact jz)|refine aV 9 ?_|refine cT VR ?_|refine aq ?_|exact jI|(clear hK K)))
   exact eD hB hR.ok VR.e2 (fun _=>rfl) (dp jC dK) [.tmp 6]
 have Xg:=Tc hR h1 WK;have h2:x.op=18\/x.op=19:=jB;have X4:m.ins p C inp x=if(m.ah.last.n=1<->x.op=19)then m.aW (m.ah.jump x.a)else m.cut 1:=by unfold MV.ins;rcases h2 with h|h<;>simp only[h]<;>rfl
 by_cases hj:(m.ah.last.n=1<->x.op=19)
 ·have ei:m.ins p C inp x=m.aW (m.ah.jump x.a):=by rw[X4,if_pos hj]
  rw[ei];have Zd:=hR.j5 h1 (c':=m.ah.jump x.a) rfl rfl;have hU:Up X e (bj e (hn 0 N.ah.c) (.var 174 (MV.cE (m.ah.jump x.a) N.ah))):=Up.put _ (.inl (by rw[hT.var];simp));refine⟨_,_,⟨Zd,rfl,rfl⟩,hU,⟨?_,hR.ok,Zd.ok,hU.aX,ik hR h1 rfl⟩⟩;have k2:=Zd.ok;clear Zd hU Vs Vz U9;generalize hE:bj e (hn 0 N.ah.c) (.var 174 (MV.cE (m.ah.jump x.a) N.ah))=E at k2 ⊢;have hj':(decide (m.ah.last.n=1) == decide (x.op=19))=true:=by by_cases a:m.ah.last.n=1<;>by_cases b:x.op=19<;>simp[a,b]at hj ⊢
  refine aM (L:=ids e) func133 ntmps133 ?_ (hL:=rfl);generalize hB:ids e=B;refine eW ?_;rcases h2 with h|h
  all_goals
   (have W:=jA Ul (jA hT.var (hj'));repeat' (first|refine av fun K hK=>?_|refine au ?_|(with_reducible refine gR 10 ?_);refine dC 10 ([],[35],[]) [] (bf 0 10) mixed ?_|(refine hK _ _ ?_;clear hK K)|(refine ar ?_ ?_<;>intro hc<;>try exact jz)|refine aV 9 ?_|refine mS Xg ?_|refine aq ?_|exact jI|(clear hK K)))
  all_goals
   subst hE;exact eD hB hR.ok k2 (fun _=>rfl) (dp jC dK) [.tmp 6]
 ·have ei:m.ins p C inp x=m.cut 1:=by rw[X4,if_neg hj]
  rw[ei];refine⟨_,_,Us,U9,⟨?_,hR.ok,VR.e2,U9.aX,ik hR h1 rfl⟩⟩;have hj':(decide (m.ah.last.n=1) == decide (x.op=19))=false:=by by_cases a:m.ah.last.n=1<;>by_cases b:x.op=19<;>simp[a,b]at hj ⊢
  refine aM (L:=ids e) func133 ntmps133 ?_ (hL:=rfl);generalize hB:ids e=B;refine eW ?_;rcases h2 with h|h
  all_goals
   (have W:=jA Ul (hj');repeat' (first|refine av fun K hK=>?_|refine au ?_|(with_reducible refine gR 10 ?_);refine dC 10 ([],[35],[]) [] (bf 0 10) mixed ?_|(refine hK _ _ ?_;clear hK K)|(refine ar ?_ ?_<;>intro hc<;>try exact jz)|refine aV 9 ?_|refine mS Xg ?_|refine cT VR ?_|refine aq ?_|exact jI|(clear hK K)))
  all_goals exact eD hB hR.ok VR.e2 (fun _=>rfl) (dp jC dK) [.tmp 6]
end
end Go.Proofs.YtijdhbokcdpklaaGreatDoor
namespace Go.Proofs.YtijdhbokcdpklaaGreatDoor
open Go Go.Gd Tryz
theorem JV:∀h:UF,h.foldl lC (0:Int)=(h.flatten.length:Int)
 |[]=>rfl
 |x::h=>by show h.foldl lC (lC 0 x)=_;rw[nC,JV h,List.flatten_cons,List.length_append];show(0:Int)+(x.length:Int)+_=_;omega
def xc(h:UF):gr h=h.length+h.flatten.length:=by unfold gr;rw[nC,JV]
end Go.Proofs.YtijdhbokcdpklaaGreatDoor
namespace Go.Proofs.YtijdhbokcdpklaaGreatDoor
open Go Go.Gd Tryz Go.Gd.MV
section
variable {p:af}{C:aI}{m:MV}{N:NM}{e:UD}(X:UH)
def wz(hR:bL p C m N e)(h1:1<=m.calls.length)(hb:1<=m.ah.stack.length):∃N' l,(To p C (m.cut 1) N N' l/\N'.ah.v=N.ah.v)/\Up X e l/\cW prog 149 [cP N] e (rV m.ah.last) l/\∀C D,As ([hn 2 N.ah.v,hn 16 N.ah.c],C,D) e l:=by
 have ht:=hR.ah h1;have WA:=ht.bd;have hl:=hR.len;have e1:m.ah.stack.take (m.ah.stack.length-1)++[m.ah.last]=m.ah.stack:=by unfold MC.last;rw[fO jB,List.take_append_getElem,show m.ah.stack.length-1+1=m.ah.stack.length from jB,List.take_length]
 have O':(m.ah.stack.take (m.ah.stack.length-1)).length=m.ah.stack.length-1:=by rw[List.length_take];omega
 have hc:=FK m.ah.fn m.ah.at_ m.ah.mark (m.ah.stack.take (m.ah.stack.length-1)) N.ah.jk m.ah.slots m.ah.last (by rw[O'];omega);rw[e1]at hc;have hb3:(m.ah.cut 1).stack.length+(m.ah.last::N.ah.jk).length<=2000:=by show(m.ah.stack.take (m.ah.stack.length-1)).length+_<=_;rw[O',List.length_cons];omega
 obtain⟨⟨h2,h3⟩,h4,h5⟩:=hR.nr (X:=X) h1 (c':=m.ah.cut 1) hb3 rfl rfl hc;refine⟨_,_,⟨⟨h2,rfl,h3⟩,by rw[Ep jB]⟩,h4,h5,fun C D j hj hje=>?_⟩;have Xf:j≠hn 2 N.ah.v:=fun e'=>by subst e';simp at hj
 unfold kL;by_cases h0:j=hn 0 N.ah.c
 ·right
  subst h0;refine⟨by rw[KW];simp,174,_,.rs (hn 2 N.ah.v) ((m.ah.cut 1).stack.length+(m.ah.last::N.ah.jk).length) 3 (m.ah.cut 1).stack.length,_,ht.var,?_⟩;rw[bP,if_neg (dj jB jB jB),bP,if_neg (dj jB jB jB),bP,if_pos rfl];rfl
 ·left
  rw[bP];by_cases YY:j=hn 1 N.ah.c
  ·rw[if_pos YY];subst YY;rw[ht.eT];rfl
  ·rw[if_neg YY,bP,if_neg Xf,bP,if_neg h0]
def T0(hR:bL p C m N e)(h1:1<=m.calls.length)(x:ay)(hx:¬(x.op=7\/x.op=8\/x.op=9\/x.op=10)):cW prog 131 [mP N,cP N,.agg (dq x)] e (rB false) e:=by
 have Ul:=hR.ok.low;refine⟨?_,hR.ok,hR.ok,fun _ h=>h,ik hR h1 rfl⟩;refine aM (L:=ids e) func131 ntmps131 ?_ (hL:=rfl);generalize hB:ids e=B;refine eW ?_
 (have W:=Ul;repeat' (first|refine av fun K hK=>?_|refine au ?_|(refine hK _ _ ?_;clear hK K)|(refine ar ?_ ?_<;>intro hc<;>try exact jz)|refine aV 9 ?_|refine aq ?_|exact jI|(clear hK K)))
 exact eD hB hR.ok hR.ok (fun _=>rfl) (dp jC dK) [.tmp 6]
def Ix(h1:1<=m.calls.length)(a b:Nat)(hab:a+b<=m.ah.stack.length):(m.cut a).cut b=m.cut (a+b):=by
 unfold MV.cut;rw[MV.dt,MV.bp h1];congr 1
 unfold MC.cut;simp only[List.length_take];rw[Nat.min_eq_left jB,List.take_take,Nat.min_eq_left jB];congr 1
 ·congr 1;omega
 ·omega
def EL(hb:1<=m.ah.stack.length):m.ah.last∈m.ah.stack:=by unfold MC.last;rw[fO jB];exact List.getElem_mem _
def PV(hb:2<=m.ah.stack.length):(m.ah.cut 1).last∈m.ah.stack:=by unfold MC.last MC.cut;simp only[List.length_take];rw[Nat.min_eq_left jB,Go.Gd.MV.gO jB,fO jB];exact List.getElem_mem _
def Ks(hR:bL p C m N e)(inp:UG)(x:ay)(hk:pC p C m x)(hx:x.op=7\/x.op=8\/x.op=9\/x.op=10):kW prog 131 [mP N,cP N,.agg (dq x)] e X (rB true) (To p C (m.ins p C inp x) N):=by
 have h1:=hk.calls;have Ul:=hR.ok.low;have hdp:=hk.ah;have Wh:1<=m.ah.stack.length:=by
  by_cases h7:x.op=7
  ·have:=hk.two (.inl h7);omega
  ·exact hk.one jB
 obtain⟨N1,l1,⟨Us,YV⟩,U9,VR,WH⟩:=wz X hR h1 Wh;have U1:(m.cut 1).calls.length=m.calls.length:=MV.bM _ _;have XU:(m.cut 1).ah=m.ah.cut 1:=MV.bp h1 _;have Yo:(m.cut 1).ah.stack.length=m.ah.stack.length-1:=by rw[XU];show(m.ah.stack.take _).length=_;rw[List.length_take];omega
 have U6:=Us.1.ok.low;have eN1:cP N1=cP N:=by unfold cP;rw[Us.2.2]
 have eM1:mP N1=mP N:=by unfold mP;rw[Us.2.1]
 by_cases h7:x.op=7
 ·have h2:=hk.two (.inl h7);rw[It _ _ _ _ _ h7];obtain⟨N2,l2,⟨Vt,Yx⟩,Vz,Ya,Z4⟩:=wz X Us.1 jB jB;rw[eN1,XU]at Ya;rw[YV,Us.2.2]at Z4;have ecc:(m.cut 1).cut 1=m.cut 2:=Ix h1 1 1 jB;rw[ecc]at Vt;have V':=Vt.1.ok.low;have hc2:(m.cut 2).calls.length=m.calls.length:=MV.bM _ _;have hs2:(m.cut 2).ah.stack.length<=1000:=by rw[show(m.cut 2).ah=m.ah.cut 2 from MV.bp h1 _];show(m.ah.stack.take _).length<=_;rw[List.length_take];omega
  obtain⟨N',l,hT,hU,hp⟩:=wZ X Vt.1 jB (qt x.s (m.ah.cut 1).last m.ah.last) hs2;rw[show mP N2=mP N by unfold mP;rw[Vt.2.1,Us.2.1]]at hp;have ha4:=hk.j6 _ (EL Wh);have hsz2:=hk.j6 _ (PV h2);have hbn:=L4 x.s (m.ah.cut 1).last m.ah.last jB jB;refine⟨N',l,⟨hT.1,hT.2.1.trans (Vt.2.1.trans Us.2.1),hT.2.2.trans (Vt.2.2.trans Us.2.2)⟩,U9.trans (Vz.trans hU),⟨?_,hR.ok,hp.e2,(U9.trans (Vz.trans hU)).aX,ik hR h1 rfl⟩⟩;refine aM (L:=ids e) func131 ntmps131 ?_ (hL:=rfl);generalize hB:ids e=B;refine eW ?_
  (have W:=jA Ul (jA U6 (V'));repeat' (first|refine av fun K hK=>?_|refine au ?_|(with_reducible refine gR 5 ?_);refine qA 5 [hn 2 N.ah.v,hn 16 N.ah.c] [] [24] [] [0,1,2,3,4,5,7,6,8,9,10,11] mixed ?_|(refine hK _ _ ?_;clear hK K)|(refine ar ?_ ?_<;>intro hc<;>try exact jz)|refine aV 9 ?_|refine cL 10 ?_|refine cT VR ?_|refine nN Ya (Z4 _ _) ?_|refine cp (hbn) ?_|refine cT hp ?_|refine aq ?_|exact jI|(clear hK K)))
  exact eD hB hR.ok hp.e2 (fun _=>rfl) (dp jC (dp jC dK)) [.tmp 6]
 by_cases h10:x.op=10
 ·rw[Ea _ _ _ _ _ h10];have ha4:=hk.j6 _ (EL Wh);have Yf:=hk.heap;rw[xc]at Yf;have Uq:=LF Us.1 m.ah.last.n (by show m.heap.length<=1000;omega) (by show m.heap.flatten.length<=1000;omega);have hv3:=Us.1.root;rw[Us.2.1]at hv3 Uq;by_cases Xi:m.ah.last.ty=4
  ·rw[if_pos Xi];obtain⟨N',l,hT,hU,hp⟩:=sV X Us.1 jB (vI (bn m.heap m.ah.last.n).length) jB;rw[eN1]at hp;refine⟨N',l,⟨hT.1,hT.2.1.trans Us.2.1,hT.2.2.trans Us.2.2⟩,U9.trans hU,⟨?_,hR.ok,hp.e2,(U9.trans hU).aX,ik hR h1 rfl⟩⟩;refine aM (L:=ids e) func131 ntmps131 ?_ (hL:=rfl);generalize hB:ids e=B;refine eW ?_
   (have W:=jA Ul (jA U6 (jA hv3 (Us.2.1)));repeat' (first|refine av fun K hK=>?_|refine au ?_|(with_reducible refine gR 14 ?_);refine dC 14 ([],[70],[]) [] (bf 0 8) mixed ?_|(with_reducible refine gR 15 ?_);refine dE 15 (bf 0 6) mixed ?_|(refine hK _ _ ?_;clear hK K)|(refine ar ?_ ?_<;>intro hc<;>try exact jz)|refine aV 9 ?_|refine cL 10 ?_|refine mS Uq ?_|refine cT VR ?_|refine cp (ux _) ?_|refine cT hp ?_|refine aq ?_|exact jI|(clear hK K)))
   exact eD hB hR.ok hp.e2 (fun _=>rfl) (dp jC (dp jC dK)) [.tmp 6]
  ·rw[if_neg Xi];obtain⟨N',l,hT,hU,hp⟩:=sV X Us.1 jB (vI m.ah.last.s.size) jB;rw[eN1]at hp;refine⟨N',l,⟨hT.1,hT.2.1.trans Us.2.1,hT.2.2.trans Us.2.2⟩,U9.trans hU,⟨?_,hR.ok,hp.e2,(U9.trans hU).aX,ik hR h1 rfl⟩⟩;refine aM (L:=ids e) func131 ntmps131 ?_ (hL:=rfl);generalize hB:ids e=B;refine eW ?_
   (have W:=jA Ul U6;repeat' (first|refine av fun K hK=>?_|refine au ?_|(with_reducible refine gR 15 ?_);refine dE 15 (bf 0 6) mixed ?_|(refine hK _ _ ?_;clear hK K)|(refine ar ?_ ?_<;>intro hc<;>try exact jz)|refine aV 9 ?_|refine cL 10 ?_|refine cT VR ?_|refine cp (ux _) ?_|refine cT hp ?_|refine aq ?_|exact jI|(clear hK K)))
   exact eD hB hR.ok hp.e2 (fun _=>rfl) (dp jC (dp jC dK)) [.tmp 6]
 have key:∀g:UI,((x.op=8/\g=(⟨#[45]⟩:UI))\/(x.op=9/\g=(⟨#[33]⟩:UI)))->kW prog 131 [mP N,cP N,.agg (dq x)] e X (rB true) (To p C ((m.cut 1).push (mG g m.ah.last)) N):=fun g hg=>by
  obtain⟨N',l,hT,hU,hp⟩:=sV X Us.1 jB (mG g m.ah.last) jB;rw[eN1]at hp;refine⟨N',l,⟨hT.1,hT.2.1.trans Us.2.1,hT.2.2.trans Us.2.2⟩,U9.trans hU,⟨?_,hR.ok,hp.e2,(U9.trans hU).aX,ik hR h1 rfl⟩⟩;refine aM (L:=ids e) func131 ntmps131 ?_ (hL:=rfl);generalize hB:ids e=B;refine eW ?_;rcases hg with⟨h,rfl⟩|⟨h,rfl⟩
  all_goals
   (have W:=jA Ul U6;repeat' (first|refine av fun K hK=>?_|refine au ?_|(with_reducible refine gR 7 ?_);refine dE 7 (bf 0 9) mixed ?_|(with_reducible refine gR 9 ?_);refine dE 9 (bf 0 9) mixed ?_|(refine hK _ _ ?_;clear hK K)|(refine ar ?_ ?_<;>intro hc<;>try exact jz)|refine aV 9 ?_|refine cT VR ?_|refine cp (Mx _ _) ?_|refine cT hp ?_|refine aq ?_|exact jI|(clear hK K)))
  all_goals exact eD hB hR.ok hp.e2 (fun _=>rfl) (dp jC dK) [.tmp 6]
 by_cases h8:x.op=8
 ·rw[H9 _ _ _ _ _ h8];exact key _ (.inl ⟨h8,rfl⟩)
 ·have h9:x.op=9:=jB;rw[IW _ _ _ _ _ h9];exact key _ (.inr ⟨h9,rfl⟩)
end
section
variable {p:af}{C:aI}{m:MV}{N:NM}{e:UD}(X:UH)
def QA(hR:bL p C m N e)(h1:1<=m.calls.length)(x:ay)(hx:¬(x.op=6\/x.op=23\/x.op=11\/x.op=12\/x.op=13)):cW prog 132 [mP N,cP N,.agg (dq x)] e (rB false) e:=by
 have Ul:=hR.ok.low;refine⟨?_,hR.ok,hR.ok,fun _ h=>h,ik hR h1 rfl⟩;refine aM (L:=ids e) func132 ntmps132 ?_ (hL:=rfl);generalize hB:ids e=B;refine eW ?_
 (have W:=Ul;repeat' (first|refine av fun K hK=>?_|refine au ?_|(refine hK _ _ ?_;clear hK K)|(refine ar ?_ ?_<;>intro hc<;>try exact jz)|refine aV 9 ?_|refine aq ?_|exact jI|(clear hK K)))
 exact eD hB hR.ok hR.ok (fun _=>rfl) (dp jC dK) [.tmp 6]
def Tb(hR:bL p C m N e)(inp:UG)(x:ay)(hk:pC p C m x)(hx:x.op=6\/x.op=23\/x.op=11\/x.op=12\/x.op=13):kW prog 132 [mP N,cP N,.agg (dq x)] e X (rB true) (To p C (m.ins p C inp x) N):=by
 have h1:=hk.calls;have Ul:=hR.ok.low;have hdp:=hk.ah;have hT:=hR.ah h1;have Wh:1<=m.ah.stack.length:=by
  by_cases Zs:x.op=12
  ·have:=hk.two (.inr Zs);omega
  ·exact hk.one jB
 obtain⟨N1,l1,⟨Us,YV⟩,U9,VR,WH⟩:=wz X hR h1 Wh;have U1:(m.cut 1).calls.length=m.calls.length:=MV.bM _ _;have XU:(m.cut 1).ah=m.ah.cut 1:=MV.bp h1 _;have Yo:(m.cut 1).ah.stack.length=m.ah.stack.length-1:=by rw[XU];show(m.ah.stack.take _).length=_;rw[List.length_take];omega
 have U6:=Us.1.ok.low;have eN1:cP N1=cP N:=by unfold cP;rw[Us.2.2]
 have eM1:mP N1=mP N:=by unfold mP;rw[Us.2.1]
 have Yf:=hk.heap;rw[xc]at Yf;have hv3:=Us.1.root;rw[Us.2.1]at hv3;by_cases h23:x.op=23
 ·rw[E6 _ _ _ _ _ h23];refine⟨N1,l1,Us,U9,⟨?_,hR.ok,VR.e2,U9.aX,ik hR h1 rfl⟩⟩;refine aM (L:=ids e) func132 ntmps132 ?_ (hL:=rfl);generalize hB:ids e=B;refine eW ?_
  (have W:=jA Ul U6;repeat' (first|refine av fun K hK=>?_|refine au ?_|(refine hK _ _ ?_;clear hK K)|(refine ar ?_ ?_<;>intro hc<;>try exact jz)|refine aV 9 ?_|refine cT VR ?_|refine aq ?_|exact jI|(clear hK K)))
  exact eD hB hR.ok VR.e2 (fun _=>rfl) (dp jC dK) [.tmp 6]
 by_cases h6:x.op=6
 ·rw[Ff _ _ _ _ _ h6];have VH:=hk.slot jB;have hss:=hk.slots;have Vs:=Us.1.si jB (m.ah.slots.set x.a.toNat m.ah.last) (by rw[List.length_set,XU];rfl);have em:(m.cut 1).aW { (m.cut 1).ah with slots:=m.ah.slots.set x.a.toNat m.ah.last }=m.aW { m.ah.cut 1 with slots:=m.ah.slots.set x.a.toNat m.ah.last }:=by
   rw[XU];unfold MV.cut;rw[MV.dt]
  rw[em]at Vs;have YL:=(Us.1.ah jB).eT;rw[Us.2.2,XU]at YL;have YL:aA l1 (hn 1 N.ah.c)=some (.aG 42 3 (m.ah.slots.map bV)):=YL;rw[Us.2.2]at Vs;have Vz:Up X l1 (bj l1 (hn 1 N.ah.c) (.aG 42 3 ((m.ah.slots.set x.a.toNat m.ah.last).map bV))):=Up.put _ (.inl (by rw[YL];simp));refine⟨N1,_,⟨Vs,Us.2.1,Us.2.2⟩,U9.trans Vz,⟨?_,hR.ok,Vs.ok,(U9.trans Vz).aX,ik hR h1 rfl⟩⟩;have k2:=Vs.ok;clear Vs Vz U9 em;generalize hE:bj l1 (hn 1 N.ah.c) (.aG 42 3 ((m.ah.slots.set x.a.toNat m.ah.last).map bV))=E at k2 ⊢;refine aM (L:=ids e) func132 ntmps132 ?_ (hL:=rfl);generalize hB:ids e=B;refine eW ?_
  (have W:=jA Ul (jA U6 (jA hT.var (YL)));repeat' (first|refine av fun K hK=>?_|refine au ?_|(with_reducible refine gR 4 ?_);refine qA 4 [hn 2 N.ah.v,hn 16 N.ah.c] [] [26,1000000] [] (bf 0 12) mixed ?_|(refine hK _ _ ?_;clear hK K)|(refine ar ?_ ?_<;>intro hc<;>try exact jz)|refine aV 9 ?_|refine nN VR (WH _ _) ?_|refine aq ?_|exact jI|(clear hK K)))
  subst hE;refine eD (tl:=[(9,.var 176 (dq x))]) hB hR.ok k2 (fun i=>?_) (dp jC dK) [.tmp 6];rw[List.map_set];rfl
 by_cases Zv:x.op=11
 ·rw[Ha _ _ _ _ _ Zv];have VH:=hk.slot jB;have Wz:=C8 hR h1 x.a 4 VH (by have:=hk.slots;omega);have Xo:=M0 Us.1 (fc m.ah.slots x.a 4).n m.ah.last.n (by show m.heap.length<=1000;omega) (by show m.heap.flatten.length<=1000;omega);rw[Us.2.1]at Xo;have Xo:cW prog 154 [.pt (hn 5 N.k) 0 0 0,rI (fc m.ah.slots x.a 4).n,rI m.ah.last.n] l1 (.aQ [rI (if m.ah.last.n<0\/((bn m.heap (fc m.ah.slots x.a 4).n).length:Int)<=m.ah.last.n then 0 else nth (bn m.heap (fc m.ah.slots x.a 4).n) m.ah.last.n.toNat),rI (if m.ah.last.n<0\/((bn m.heap (fc m.ah.slots x.a 4).n).length:Int)<=m.ah.last.n then 2 else 0)]) l1:=Xo;have eg:(if m.ah.last.n<0\/((bn m.heap (fc m.ah.slots x.a 4).n).length:Int)<=m.ah.last.n then(m.cut 1).stops 3 2 else(m.cut 1).push (vI (nth (bn m.heap (fc m.ah.slots x.a 4).n) m.ah.last.n.toNat)))=(m.cut 1).dZ (vI (if m.ah.last.n<0\/((bn m.heap (fc m.ah.slots x.a 4).n).length:Int)<=m.ah.last.n then 0 else nth (bn m.heap (fc m.ah.slots x.a 4).n) m.ah.last.n.toNat),if m.ah.last.n<0\/((bn m.heap (fc m.ah.slots x.a 4).n).length:Int)<=m.ah.last.n then 2 else 0):=by
   unfold MV.dZ;split
   ·rename_i h;simp only[if_pos h];rfl
   ·rename_i h;simp only[if_neg h];rfl
  rw[eg];generalize (if m.ah.last.n<0\/((bn m.heap (fc m.ah.slots x.a 4).n).length:Int)<=m.ah.last.n then(0:Int)else nth (bn m.heap (fc m.ah.slots x.a 4).n) m.ah.last.n.toNat)=gn at Xo ⊢;generalize (if m.ah.last.n<0\/((bn m.heap (fc m.ah.slots x.a 4).n).length:Int)<=m.ah.last.n then(2:Int)else 0)=gt at Xo ⊢;obtain⟨N',l,Vt,hU,hp⟩:=wZ X Us.1 jB (vI gn,gt) jB;rw[eM1]at hp;refine⟨N',l,⟨Vt.1,Vt.2.1.trans Us.2.1,Vt.2.2.trans Us.2.2⟩,U9.trans hU,⟨?_,hR.ok,hp.e2,(U9.trans hU).aX,ik hR h1 rfl⟩⟩;refine aM (L:=ids e) func132 ntmps132 ?_ (hL:=rfl);generalize hB:ids e=B;refine eW ?_
  (have W:=jA Ul (jA U6 (hR.root));repeat' (first|refine av fun K hK=>?_|refine au ?_|(with_reducible refine gR 8 ?_);refine qA 8 [hn 2 N.ah.v,hn 16 N.ah.c] [44,51] [49] [] (bf 0 20) mixed ?_|(refine hK _ _ ?_;clear hK K)|(refine ar ?_ ?_<;>intro hc<;>try exact jz)|refine aV 9 ?_|refine mS Wz ?_|refine nN VR (WH _ _) ?_|refine mS Xo ?_|refine cp (ux _) ?_|refine cT hp ?_|refine aq ?_|exact jI|(clear hK K)))
  exact eD hB hR.ok hp.e2 (fun _=>rfl) (dp jC dK) [.tmp 6]
 by_cases h13:x.op=13
 ·rw[Ga _ _ _ _ _ h13];by_cases c1:m.ah.last.n<0\/16<m.ah.last.n
  ·rw[if_pos c1];have Yp:=Px Us.1 m.ah.last.n c1 (by show m.heap.length<=40;omega) (by show m.heap.flatten.length<=40;omega);rw[Us.2.1]at Yp;obtain⟨N',l,Vt,hU,hp⟩:=wZ X Us.1 jB (⟨4,0,sE⟩,7) jB;rw[eM1]at hp;refine⟨N',l,⟨Vt.1,Vt.2.1.trans Us.2.1,Vt.2.2.trans Us.2.2⟩,U9.trans hU,⟨?_,hR.ok,hp.e2,(U9.trans hU).aX,ik hR h1 rfl⟩⟩;refine aM (L:=ids e) func132 ntmps132 ?_ (hL:=rfl);generalize hB:ids e=B;refine eW ?_
   (have W:=jA Ul (jA U6 (hR.root));repeat' (first|refine av fun K hK=>?_|refine au ?_|(with_reducible refine gR 16 ?_);refine qA 16 [hn 2 N.ah.v,hn 16 N.ah.c] [] [97] [] (bf 0 15) mixed ?_|(refine hK _ _ ?_;clear hK K)|(refine ar ?_ ?_<;>intro hc<;>try exact jz)|refine aV 9 ?_|refine nN VR (WH _ _) ?_|refine cT Yp ?_|refine cT hp ?_|refine aq ?_|exact jI|(clear hK K)))
   exact eD hB hR.ok hp.e2 (fun _=>rfl) (dp jC dK) [.tmp 6]
  rw[if_neg c1];by_cases c2:40<gr m.heap+m.ah.last.n+1
  ·rw[if_pos c2];have Yp:=R4 Us.1 m.ah.last.n jB (by show 40<(m.heap.length:Int)+m.heap.flatten.length+m.ah.last.n+1;rw[xc]at c2;omega) (by show m.heap.length<=40;omega) (by show m.heap.flatten.length<=40;omega);rw[Us.2.1]at Yp;obtain⟨N',l,Vt,hU,hp⟩:=wZ X Us.1 jB (⟨4,0,sE⟩,4) jB;rw[eM1]at hp;refine⟨N',l,⟨Vt.1,Vt.2.1.trans Us.2.1,Vt.2.2.trans Us.2.2⟩,U9.trans hU,⟨?_,hR.ok,hp.e2,(U9.trans hU).aX,ik hR h1 rfl⟩⟩;refine aM (L:=ids e) func132 ntmps132 ?_ (hL:=rfl);generalize hB:ids e=B;refine eW ?_
   (have W:=jA Ul (jA U6 (hR.root));repeat' (first|refine av fun K hK=>?_|refine au ?_|(with_reducible refine gR 16 ?_);refine qA 16 [hn 2 N.ah.v,hn 16 N.ah.c] [] [97] [] (bf 0 15) mixed ?_|(refine hK _ _ ?_;clear hK K)|(refine ar ?_ ?_<;>intro hc<;>try exact jz)|refine aV 9 ?_|refine nN VR (WH _ _) ?_|refine cT Yp ?_|refine cT hp ?_|refine aq ?_|exact jI|(clear hK K)))
   exact eD hB hR.ok hp.e2 (fun _=>rfl) (dp jC dK) [.tmp 6]
  rw[if_neg c2];obtain⟨N2,l2,Vt,Vz,Yp⟩:=OW X Us.1 m.ah.last.n jB (by show gr m.heap+_+1<=40;omega) (xc _);rw[Us.2.1]at Yp;have Yp:cW prog 157 [.pt (hn 5 N.k) 0 0 0,rI m.ah.last.n] l1 (.aQ [rI (m.heap.length+1:Nat),rI 0]) l2:=Yp;obtain⟨N',l,Zw,hU3,hp⟩:=sV X Vt.1 (by show 1<=(m.cut 1).calls.length;omega) ⟨4,m.heap.length+1,sE⟩ (by show(m.cut 1).ah.stack.length<=1000;omega);obtain⟨N'',l',hT4,hU4,hp4⟩:=wZ X Vt.1 (by show 1<=(m.cut 1).calls.length;omega) (⟨4,m.heap.length+1,sE⟩,0) (by show(m.cut 1).ah.stack.length<=1000;omega);rw[show mP N2=mP N by unfold mP;rw[Vt.2.1,Us.2.1]]at hp4;have V':=Vt.1.ok.low;refine⟨N'',l',⟨hT4.1,hT4.2.1.trans (Vt.2.1.trans Us.2.1),hT4.2.2.trans (Vt.2.2.trans Us.2.2)⟩,U9.trans (Vz.trans hU4),⟨?_,hR.ok,hp4.e2,(U9.trans (Vz.trans hU4)).aX,ik hR h1 rfl⟩⟩;refine aM (L:=ids e) func132 ntmps132 ?_ (hL:=rfl);generalize hB:ids e=B;refine eW ?_
  (have W:=jA Ul (jA U6 (jA V' (hR.root)));repeat' (first|refine av fun K hK=>?_|refine au ?_|(with_reducible refine gR 16 ?_);refine qA 16 [hn 2 N.ah.v,hn 16 N.ah.c] [] [97] [] (bf 0 15) mixed ?_|(refine hK _ _ ?_;clear hK K)|(refine ar ?_ ?_<;>intro hc<;>try exact jz)|refine aV 9 ?_|refine nN VR (WH _ _) ?_|refine cT Yp ?_|refine cT hp4 ?_|refine aq ?_|exact jI|(clear hK K)))
  exact eD hB hR.ok hp4.e2 (fun _=>rfl) (dp jC dK) [.tmp 6]
 have Zs:x.op=12:=jB;rw[HG _ _ _ _ _ Zs];have h2:=hk.two (.inr Zs);have VH:=hk.slot jB;have Wz:=C8 Us.1 jB x.a 4 (by rw[XU];exact VH) (by rw[XU];have:=hk.slots;show m.ah.slots.length<=1000;omega);rw[eN1,XU]at Wz;have Wz:cW prog 148 [cP N,rI x.a,rI 4] l1 (rV (fc m.ah.slots x.a 4)) l1:=Wz;obtain⟨N2,l2,⟨Vt,Yx⟩,Vz,Ya,Z4⟩:=wz X Us.1 jB jB;rw[eN1,XU]at Ya;rw[YV,Us.2.2]at Z4;have ecc:(m.cut 1).cut 1=m.cut 2:=Ix h1 1 1 jB;rw[ecc]at Vt;have V':=Vt.1.ok.low;have hc2:(m.cut 2).calls.length=m.calls.length:=MV.bM _ _;have ek:N2.k=N.k:=Vt.2.1.trans Us.2.1;by_cases hi:(m.ah.cut 1).last.n<0\/((bn m.heap (fc m.ah.slots x.a 4).n).length:Int)<=(m.ah.cut 1).last.n
 ·rw[if_pos hi];have Yn:=Q0 Vt.1 (fc m.ah.slots x.a 4).n (m.ah.cut 1).last.n m.ah.last.n (by show m.heap.length<=1000;omega) (by show m.heap.flatten.length<=1000;omega) hi;rw[ek]at Yn;obtain⟨N',l,Zw,hU,hp⟩:=xZ X Vt.1 jB 3 2;rw[show mP N2=mP N by unfold mP;rw[ek]]at hp;refine⟨N',l,⟨Zw.1,Zw.2.1.trans ek,Zw.2.2.trans (Vt.2.2.trans Us.2.2)⟩,U9.trans (Vz.trans hU),⟨?_,hR.ok,hp.e2,(U9.trans (Vz.trans hU)).aX,ik hR h1 rfl⟩⟩;refine aM (L:=ids e) func132 ntmps132 ?_ (hL:=rfl);generalize hB:ids e=B;refine eW ?_
  (have W:=jA Ul (jA U6 (jA V' (jA hv3 (Us.2.1))));repeat' (first|refine av fun K hK=>?_|refine au ?_|(with_reducible refine gR 12 ?_);refine qA 12 [hn 2 N.ah.v,hn 16 N.ah.c] [73] [78] [] [0,1,2,3,4,5,6,7,8,9,10,11,14,12,13,15,16] mixed ?_|(refine hK _ _ ?_;clear hK K)|(refine ar ?_ ?_<;>intro hc<;>try exact jz)|refine aV 9 ?_|refine cT VR ?_|refine mS Wz ?_|refine nN Ya (Z4 _ _) ?_|refine cT Yn ?_|refine cT hp ?_|refine aq ?_|exact jI|(clear hK K)))
  exact eD hB hR.ok hp.e2 (fun _=>rfl) (dp jC dK) [.tmp 6]
 ·rw[if_neg hi];obtain⟨N',l,Zw,hU,hp⟩:=MF X Vt.1 (fc m.ah.slots x.a 4).n (m.ah.cut 1).last.n m.ah.last.n (by show m.heap.length<=1000;omega) (by show m.heap.flatten.length<=1000;omega) hi;rw[ek]at hp;refine⟨N',l,⟨Zw.1,Zw.2.1.trans ek,Zw.2.2.trans (Vt.2.2.trans Us.2.2)⟩,U9.trans (Vz.trans hU),⟨?_,hR.ok,hp.e2,(U9.trans (Vz.trans hU)).aX,ik hR h1 rfl⟩⟩;refine aM (L:=ids e) func132 ntmps132 ?_ (hL:=rfl);generalize hB:ids e=B;refine eW ?_
  (have W:=jA Ul (jA U6 (jA V' (jA hv3 (Us.2.1))));repeat' (first|refine av fun K hK=>?_|refine au ?_|(with_reducible refine gR 12 ?_);refine qA 12 [hn 2 N.ah.v,hn 16 N.ah.c] [73] [78] [] [0,1,2,3,4,5,6,7,8,9,10,11,14,12,13,15,16] mixed ?_|(refine hK _ _ ?_;clear hK K)|(refine ar ?_ ?_<;>intro hc<;>try exact jz)|refine aV 9 ?_|refine cT VR ?_|refine mS Wz ?_|refine nN Ya (Z4 _ _) ?_|refine cT hp ?_|refine aq ?_|exact jI|(clear hK K)))
  exact eD hB hR.ok hp.e2 (fun _=>rfl) (dp jC dK) [.tmp 6]
end
end Go.Proofs.YtijdhbokcdpklaaGreatDoor
namespace Go.Proofs.YtijdhbokcdpklaaGreatDoor
open Go Go.Gd Tryz
def Si(l:List UI)(hl:l.length<=1000)(i:Nat):ab prog 90 [aP eS 1 l] [] (fun r l'=>r=.rs i l.length 1 l.length/\l'=[(i,.aG 9 1 (l.map eS))]):=by
 refine aM func90 ntmps90 ?_
 (repeat' (first|refine av fun K hK=>?_|refine au ?_|(refine hK _ _ ?_;clear hK K)|(refine ar ?_ ?_<;>intro hc<;>try exact jz)|(with_reducible refine fun(b:Bool) hb=>?_)|refine wb i ?_|refine aq ?_|exact jI|(clear hK K)))
 ·have Vv:l=[]:=by simpa using hb hc
  subst Vv;exact xQ i 9 1 jC [.tmp 2] rfl rfl trivial
 ·(refine bW [.tmp 2] ?_ ?_<;>(try simp only[go_sem]))
def Ho(l:List (aj))(hl:l.length<=1000)(i:Nat):ab prog 91 [aP bV 3 l] [] (fun r l'=>r=.rs i l.length 3 l.length/\l'=[(i,.aG 42 3 (l.map bV))]):=by
 refine aM func91 ntmps91 ?_
 (repeat' (first|refine av fun K hK=>?_|refine au ?_|(refine hK _ _ ?_;clear hK K)|(refine ar ?_ ?_<;>intro hc<;>try exact jz)|(with_reducible refine fun(b:Bool) hb=>?_)|refine wb i ?_|refine aq ?_|exact jI|(clear hK K)))
 ·have Vv:l=[]:=by simpa using hb hc
  subst Vv;exact xQ i 42 3 jC [.tmp 2] rfl rfl trivial
 ·(refine bW [.tmp 2] ?_ ?_<;>(try simp only[go_sem]))
def zT(l:List (Int))(hl:l.length<=1000)(i:Nat):ab prog 52 [aP eI 1 l] [] (fun r l'=>r=.rs i l.length 1 l.length/\l'=[(i,.aG 3 1 (l.map eI))]):=by
 refine aM func52 ntmps52 ?_
 (repeat' (first|refine av fun K hK=>?_|refine au ?_|(refine hK _ _ ?_;clear hK K)|(refine ar ?_ ?_<;>intro hc<;>try exact jz)|(with_reducible refine fun(b:Bool) hb=>?_)|refine wb i ?_|refine aq ?_|exact jI|(clear hK K)))
 ·have Vv:l=[]:=by simpa using hb hc
  subst Vv;exact xQ i 3 1 jC [.tmp 2] rfl rfl trivial
 ·(refine bW [.tmp 2] ?_ ?_<;>(try simp only[go_sem]))
def ig(v:aj):Prop:=bD v.n/\v.s.size<=40
def ry{n:Int}(h:bD n):ig (vI n):=⟨h,by show sE.size<=40;decide⟩
def tI(b:Bool):ig (vB b):=⟨D0 b,by show sE.size<=40;decide⟩
def Gq(t:Int):ig (vZ t):=⟨rP,by show sE.size<=40;decide⟩
def Kd{s:UI}(h:s.size<=40):ig (vT s):=⟨rP,h⟩
def QN{l:List aj}(h:qX l)(k t:Int):ig (fc l k t):=⟨KZ h k t,by
 unfold fc;split
 ·show sE.size<=40;decide
 split
 ·rename_i h;exact Kn h.1
 ·show sE.size<=40;decide⟩
def q9(r:aj×Int):Prop:=ig r.1/\0<=r.2/\r.2<=9
def ll{c:Prop}[Decidable c]{x y:aj×Int}(h:c->q9 x)(k:¬c->q9 y):q9 (if c then x else y):=by
 by_cases e:c
 ·rw[if_pos e];exact h e
 ·rw[if_neg e];exact k e
def mF{v:aj}(h:ig v):q9 (v,0):=⟨h,Int.le_refl _,by show(0:Int)<=9;decide⟩
def rE{t:Int}(h:0<=t/\t<=9):q9 (v0,t):=⟨Gq 0,h⟩
def Ri(s:UI){a b:Int}(ha:bD a):q9 (uZ s a b):=by unfold uZ;refine ll (fun _=>mF (ry (wP _))) fun _=>ll (fun _=>mF (ry (wP _))) fun _=>ll (fun _=>mF (ry (wP _))) fun _=>ll (fun _=>ll (fun _=>rE jC) fun _=>mF (ry (wP _))) fun _=>ll (fun _=>ll (fun _=>rE jC) fun _=>mF (ry (O9 ha))) fun _=>ll (fun _=>mF (tI _)) fun _=>ll (fun _=>mF (tI _)) fun _=>rE jC
def KU(s:UI){a b:aj}(ha:ig a):q9 (qt s a b):=by
 unfold qt;refine ll (fun _=>rE jC) fun _=>ll (fun _=>mF (tI _)) fun _=>ll (fun _=>mF (tI _)) fun _=>ll (fun _=>Ri _ ha.1) fun _=>ll (fun _=>ll (fun _=>mF (tI _)) fun _=>ll (fun _=>mF (tI _)) fun _=>rE jC) fun _=>ll (fun _=>ll (fun _=>ll (fun _=>rE jC) fun h=>mF (Kd ?_)) fun _=>rE jC) fun _=>rE jC
 rw[ByteArray.size_append];omega
def GX(s:UI)(a:aj):ig (mG s a):=⟨Mh s a,by
 unfold mG
 (repeat' split)<;>(show sE.size<=40;decide)⟩
def Dl{h:UF}(hc:gr h<=40)(hr:tK h)(n:Int):((MV.bn h n).length:Int)<=40/\∀k,k<(MV.bn h n).length->bD (nth (MV.bn h n) k):=by
 unfold MV.bn;split
 ·exact⟨jE,fun k hk=>by simp at hk⟩
 ·rename_i e;have hl:(n-1).toNat<h.length:=jB;have:=OC h (n-1).toNat hl;exact⟨jB,fun k hk=>hr _ (ff hl) _ (ff hk)⟩
def oC{p:af}{C:aI}{M:MV}{c:MC}{k:Nat}{x:ay}(h1:1<=M.calls.length)(h8:M.calls.length<=8)(hk:c.at_=k)(O':k<C.ins.length)(hx:nth C.ins k=x)(hz:∀v∈c.stack,ig v)(hd:c.stack.length<=1000)(op:1<=x.op/\x.op<=23)
  (n:Nat) (hn:n<=c.stack.length) (Vw:n=0->x.op=2\/x.op=3\/x.op=4\/x.op=5\/x.op=14\/x.op=16\/x.op=20\/x.op=22) (WG:n=1->¬(x.op=7\/x.op=12))
  (slot:x.op=5\/x.op=6\/x.op=11\/x.op=12->0<=x.a/\x.a<c.slots.length)
  (call:x.op=20->0<=x.b/\x.b<=c.stack.length/\x.b<=3/\0<=x.a/\x.a<C.entry.length/\x.a<p.size.length/\0<=nth p.size x.a.toNat/\nth p.size x.a.toNat<=24/\x.b<=nth p.size x.a.toNat):(M.aW c).fS p C:=by
 refine fS.Lm h1 h8 hk O' hx (fun h=>?_) (fun h=>?_) slot call op (fun h=>?_) (fun v hv=>(hz v hv).2) hd
 ·by_cases e:n=0
  ·have:=Vw e;omega
  ·omega
 ·by_cases e:n=0
  ·have:=Vw e;omega
  ·by_cases e1:n=1
   ·exact(WG e1 h).elim
   ·omega
 ·have:1<=c.stack.length:=by
   by_cases e:n=0
   ·have:=Vw e;omega
   ·omega
  exact(hz _ (ff jB)).1
def lA(p:af)(C:aI)(inp:UG)(M:MV)(c:MC)(k:Int):Prop:=
 (∃v q,ig v/\bc p C inp (M.aW c) (M.aW { c with at_:=k,stack:=c.stack++[v],aT:=q }))\/∃t:Int,(1<=t/\t<=9)/\bc p C inp (M.aW c) (M.je c 3 t)
section
variable {p:af}{C:aI}{inp:UG}{M:MV}
def y8{c:MC}{k:Nat}{x:ay}{v:aj}(h1:1<=M.calls.length)(h8:M.calls.length<=8)(hs:M.status=0)(hk:c.at_=k)(hl:bJ C.ins k [x])(WH:x.op≠1)(hok:(M.aW c).fS p C)(hv:ig v)
  (hi:(M.aW { c with at_:=(k:Int)+1 }).ins p C inp x=M.aW (MC.push { c with at_:=(k:Int)+1 } v)):lA p C inp M c (k+1):=
 .inl ⟨v,c.aT-1,hv,bc.ins h1 h8 hs hk hl.head.1 hl.head.2.1 WH hok (by rw[hi];exact bc.refl _)⟩
def lA.bind{c:MC}{k1 k2:Int}(hd:lA p C inp M c k1)(hn:∀v q,ig v->(∃w q',ig w/\bc p C inp (M.aW { c with at_:=k1,stack:=c.stack++[v],aT:=q }) (M.aW { c with at_:=k2,stack:=c.stack++[w],aT:=q' }))\/∃t:Int,(1<=t/\t<=9)/\bc p C inp (M.aW { c with at_:=k1,stack:=c.stack++[v],aT:=q }) (M.je c 3 t)):lA p C inp M c k2:=by
 rcases hd with⟨v,q,hv,g⟩|⟨t,ht,g⟩
 ·rcases hn v q hv with⟨w,q',hw,g'⟩|⟨t,ht,g'⟩
  ·exact .inl ⟨w,q',hw,g.trans g'⟩
  ·exact .inr ⟨t,ht,g.trans g'⟩
 ·exact .inr ⟨t,ht,g⟩
def FF{c d:MC}{k:Nat}{x:ay}{r:aj×Int}{q:Nat}(h1:1<=M.calls.length)(h8:M.calls.length<=8)(hs:M.status=0)(hl:bJ C.ins k [x])(WH:x.op≠1)(hd:d.at_=(k:Int))
  (hok:(M.aW d).fS p C) (hr:q9 r)
  (hi:(M.aW { d with at_:=(k:Int)+1 }).ins p C inp x=(M.aW { c with at_:=(k:Int)+1,aT:=q }).dZ r) :
  (∃w q',ig w/\bc p C inp (M.aW d) (M.aW { c with at_:=(k:Int)+1,stack:=c.stack++[w],aT:=q' }))\/∃t:Int,(1<=t/\t<=9)/\bc p C inp (M.aW d) (M.je c 3 t):=by
 have g:∀m',bc p C inp ((M.aW { c with at_:=(k:Int)+1,aT:=q }).dZ r) m'->bc p C inp (M.aW d) m':=fun m' hg=> bc.ins (c:=d) h1 h8 hs hd hl.head.1 hl.head.2.1 WH hok (by rw[hi];exact hg)
 by_cases e:r.2=0
 ·refine .inl ⟨r.1,q-1,hr.1,g _ ?_⟩;unfold MV.dZ;rw[if_neg (fun h=>h e),MV.fp h1];exact bc.refl _
 ·refine .inr ⟨r.2,by have:=hr.2;omega,g _ ?_⟩;unfold MV.dZ;rw[if_pos e,MV.eF h1];exact bc.refl _
def vF{l:List aj}{v:aj}(h:∀u∈l,ig u)(hv:ig v):∀u∈l++[v],ig u:=OF h hv
theorem yV(hs:fX p)(h1:1<=M.calls.length)(h8:M.calls.length<=8)(P':M.status=0)(hhc:gr M.heap<=40)(hhr:tK M.heap){j:Nat}(hj:j<p.aa.aw.length){slots:List aj}(VH:(slots.length:Int)=nth p.size j)(Zk:qX slots) :
  ∀(n:Nat) (a:Int) (k:Nat) (c:MC),0<=a->a.toNat<p.aa.nodes.length->jo p j a->cR (bX p.aa.nodes a)->a.toNat<n->c.slots=slots->c.at_=k->bJ C.ins k (bo p n a k)->(∀v∈c.stack,ig v)->c.stack.length+a.toNat<=900->
   lA p C inp M c (k+(bo p n a k).length)
 |0,a,k,c,h0,hl,hi,hk,hn,hc,Vm,hC,hz,hd=>by omega
 |n+1,a,k,c,h0,hl,hi,hk,hn,hc,Vm,hC,hz,hd=>by
  have sh:=(hs.ok.aa.shape a.toNat hl).1;have UY:cR (ao p a).kind:=hk;unfold cR at UY;have Xl:ju (ao p a).kind->0<=nth p.slots a.toNat/\nth p.slots a.toNat<c.slots.length:=fun h=>by have:=(hs.aw j hj).all a.toNat hi.1 (by have:=hi.2;omega) h;rw[hc];omega
  have ok0:∀(x:ay),bJ C.ins k [x]->x.op=2\/x.op=3\/x.op=4\/(x.op=5/\0<=x.a/\x.a<c.slots.length)->(M.aW c).fS p C:=fun x hx ho=> oC h1 h8 Vm hx.head.1 hx.head.2.1 hz jB jB 0 jB (fun _=>jB) (fun h=>jB) (fun h=>jB) (fun h=>jB)
  have okU:∀(k':Nat) (x:ay) (u:aj) (q:Nat),bJ C.ins k' [x]->ig u->x.op=8\/x.op=9\/x.op=10\/(x.op=11/\0<=x.a/\x.a<c.slots.length)\/x.op=18\/x.op=19->(M.aW { c with at_:=(k':Int),stack:=c.stack++[u],aT:=q }).fS p C:=fun k' x u q hx hu ho=> oC h1 h8 rfl hx.head.1 hx.head.2.1 (vF hz hu) jF jB 1 jE (fun h=>jB) (fun _=>jB) (fun h=>by show 0<=x.a/\x.a<c.slots.length;omega) (fun h=>jB)
  -- what is below it
  have sub:∀b∈(ao p a).l,cR (bX p.aa.nodes b)->∀(k':Nat) (c':MC),c'.slots=slots->c'.at_=k'->bJ C.ins k' (bo p n b k')->(∀v∈c'.stack,ig v)->c'.stack.length<=c.stack.length+1->lA p C inp M c' (k'+(bo p n b k').length):=fun b hb hbE k' c' g1 g2 g3 g4 g5=>by obtain⟨b1,b2,b3,b4⟩:=hi.aF hs hj hb;exact yV hs h1 h8 P' hhc hhr hj VH Zk n b k' c' b2 b4 b1 hbE jB g1 g2 g3 g4 jB
  have Vj:(ao p a).kind=1\/(ao p a).kind=2\/(ao p a).kind=3\/(ao p a).kind=4\/(ao p a).kind=5\/(ao p a).kind=6\/(ao p a).kind=7\/(ao p a).kind=8\/(ao p a).kind=9:=jB;have WE:=fun h=>(sh.one (h:(nth p.aa.nodes a.toNat).kind=5\/(nth p.aa.nodes a.toNat).kind=6\/(nth p.aa.nodes a.toNat).kind=7\/(nth p.aa.nodes a.toNat).kind=8\/(nth p.aa.nodes a.toNat).kind=14\/(nth p.aa.nodes a.toNat).kind=20))
  -- an operation on one value
  have un:∀(x:Int) (i:ay) (f:aj->aj×Int),(ao p a).l=[x]->cR (bX p.aa.nodes x)->bo p (n+1) a k=bo p n x k++[i]->i.op=8\/i.op=9\/i.op=10\/(i.op=11/\0<=i.a/\i.a<c.slots.length)->(∀v,ig v->q9 (f v))->
    (∀v q,(M.aW { c with at_:=((k+(bo p n x k).length:Nat):Int)+1,stack:=c.stack++[v],aT:=q }).ins p C inp i=(M.aW { c with at_:=((k+(bo p n x k).length:Nat):Int)+1,aT:=q+1 }).dZ (f v))->lA p C inp M c (k+(bo p (n+1) a k).length):=fun x i f u' Vb e Xc hf VL=>by
   rw[e]at hC ⊢;have d:=sub x (by rw[u'];simp) Vb k c hc Vm hC.last.1 hz jB;have Uz:=hC.app.2;rw[List.length_append,List.length_singleton,Int.natCast_add,show((k:Int)+(((bo p n x k).length:Int)+((1:Nat):Int)))=((k+(bo p n x k).length:Nat):Int)+1 by push_cast;omega];refine d.bind fun v q hv=>?_
   exact FF (d:={ c with at_:=((k:Int)+((bo p n x k).length:Int)),stack:=c.stack++[v],aT:=q }) h1 h8 P' Uz (fun h=>jB) (by push_cast;rfl) (by have:=okU _ i v q Uz hv jB;rw[Int.natCast_add]at this;exact this) (hf v hv) (VL v q)
  rcases Vj with e|e|e|e|e|e|e|e|e
  ·rw[l9]at hC ⊢;simp only[e,Int.reduceEq,↓reduceIte]at hC ⊢;exact y8 h1 h8 P' Vm hC (fun h=>by cases h) (ok0 _ hC (.inl rfl)) (ry (hs.ok.bD _ hl e)) (by rw[MV.qK,MV.fp h1];rfl)
  ·rw[l9]at hC ⊢;simp only[e,Int.reduceEq,↓reduceIte]at hC ⊢;exact y8 h1 h8 P' Vm hC (fun h=>by cases h) (ok0 _ hC (.inr (.inl rfl))) (tI _) (by rw[MV.pD,MV.fp h1])
  ·rw[l9]at hC ⊢;simp only[e,Int.reduceEq,↓reduceIte]at hC ⊢;exact y8 h1 h8 P' Vm hC (fun h=>by cases h) (ok0 _ hC (.inr (.inr (.inl rfl)))) (Kd (by have:=sh.text e;show(nth p.aa.nodes a.toNat).name.size<=40;omega)) (by rw[MV.pM,MV.fp h1];rfl)
  ·have hs4:=Xl (.inl e);rw[l9]at hC ⊢;simp only[e,Int.reduceEq,↓reduceIte]at hC ⊢;exact y8 h1 h8 P' Vm hC (fun h=>by cases h) (ok0 _ hC (.inr (.inr (.inr ⟨rfl,hs4⟩)))) (QN (l:=c.slots) (by rw[hc];exact Zk) _ _) (by rw[MV.pX,MV.fp h1,MV.bp h1])
  ·obtain⟨x,u',Vb⟩:=WE (.inl e);have u':(ao p a).l=[x]:=u';have VI:nth (ao p a).l 0=x:=by rw[u'];rfl
   have WZ:=Dl hhc hhr (fc c.slots (nth p.slots a.toNat) 4).n;refine un x (iI 11 (nth p.slots a.toNat)) (fun v=>if v.n<0\/((MV.bn M.heap (fc c.slots (nth p.slots a.toNat) 4).n).length:Int)<=v.n then(v0,2)else(vI (nth (MV.bn M.heap (fc c.slots (nth p.slots a.toNat) 4).n) v.n.toNat),0)) u' Vb (by rw[l9,VI];simp only[e,Int.reduceEq,↓reduceIte]) (.inr (.inr (.inr ⟨rfl,Xl (.inr (.inl e))⟩))) (fun v hv=>?_) fun v q=>?_
   ·exact ll (fun _=>rE jC) fun _=>mF (ry (WZ.2 _ jB))
   ·rw[MV.oN,MV.bp h1,MV.fi,MV.df h1,MV.fP,MV.ki];dsimp only;split<;>rfl
  ·obtain⟨x,u',Vb⟩:=WE (by have e:(nth p.aa.nodes a.toNat).kind=6:=e;omega);have u':(ao p a).l=[x]:=u';have VI:nth (ao p a).l 0=x:=by rw[u'];rfl
   refine un x (iI 10 0) (fun v=>(vI (if v.ty=4 then((MV.bn M.heap v.n).length:Int)else(v.s.size:Int)),0)) u' Vb (by rw[l9,VI];simp only[e,Int.reduceEq,↓reduceIte]) (.inr (.inr (.inl rfl))) (fun v hv=>mF (ry ?_)) fun v q=>?_
   ·have:=(Dl hhc hhr v.n).1;have:=hv.2;unfold bD;split<;>omega
   ·rw[MV.iE,MV.bp h1,MV.fi,MV.df h1,MV.fP,MV.ki];rfl
  ·obtain⟨x,u',Vb⟩:=WE (by have e:(nth p.aa.nodes a.toNat).kind=7:=e;omega);have u':(ao p a).l=[x]:=u';have VI:nth (ao p a).l 0=x:=by rw[u'];rfl
   exact un x (iI 8 0) (fun v=>(mG (⟨#[45]⟩:UI) v,0)) u' Vb (by rw[l9,VI];simp only[e,Int.reduceEq,↓reduceIte]) (.inl rfl) (fun v hv=>mF (GX _ _)) fun v q=>by rw[MV.rl,MV.bp h1,MV.fi,MV.df h1,MV.fP];rfl
  ·obtain⟨x,u',Vb⟩:=WE (by have e:(nth p.aa.nodes a.toNat).kind=8:=e;omega);have u':(ao p a).l=[x]:=u';have VI:nth (ao p a).l 0=x:=by rw[u'];rfl
   exact un x (iI 9 0) (fun v=>(mG (⟨#[33]⟩:UI) v,0)) u' Vb (by rw[l9,VI];simp only[e,Int.reduceEq,↓reduceIte]) (.inr (.inl rfl)) (fun v hv=>mF (GX _ _)) fun v q=>by rw[MV.rz,MV.bp h1,MV.fi,MV.df h1,MV.fP];rfl
  ·obtain⟨x,y,u',Vb,Yb⟩:=sh.two (.inl e);have u':(ao p a).l=[x,y]:=u';have VI:nth (ao p a).l 0=x:=by rw[u'];rfl
   have Yz:nth (ao p a).l 1=y:=by rw[u'];rfl
   rw[l9]at hC ⊢;simp only[e,VI,Yz,Int.reduceEq,↓reduceIte]at hC ⊢;by_cases WE:lh (ao p a).name=7
   ·rw[if_pos WE]at hC ⊢;have d:=sub x (by rw[u'];simp) Vb k c hc Vm hC.last.1.app.1 hz jB;have Z5:=hC.last.1.app.2;have Uz:=hC.app.2;rw[List.length_append,List.length_append,List.length_singleton,show((k:Int)+(((bo p n x k).length+(bo p n y (k+(bo p n x k).length)).length+1:Nat):Int))=((k+(bo p n x k++bo p n y (k+(bo p n x k).length)).length:Nat):Int)+1 by rw[List.length_append];push_cast;omega];refine d.bind fun v q hv=>?_
    have dy:=sub y (by rw[u'];simp) Yb (k+(bo p n x k).length) { c with at_:=((k:Int)+((bo p n x k).length:Int)),stack:=c.stack++[v],aT:=q } hc (by push_cast;rfl) (by rw[Int.natCast_add];exact Z5) (vF hz hv) jE;rw[Int.natCast_add]at dy;rcases dy with⟨w,q2,hw,g⟩|⟨t,ht,g⟩
    ·have ha5:((k:Int)+((bo p n x k).length:Int)+((bo p n y (k+(bo p n x k).length)).length:Int))=((k+(bo p n x k++bo p n y (k+(bo p n x k).length)).length:Nat):Int):=by rw[List.length_append];push_cast;omega
     rw[ha5]at g;rcases FF (p:=p) (C:=C) (inp:=inp) (M:=M) (c:=c) (d:={ c with at_:=((k+(bo p n x k++bo p n y (k+(bo p n x k).length)).length:Nat):Int),stack:=c.stack++[v]++[w],aT:=q2 }) (r:=qt (ao p a).name v w) (q:=q2+2) h1 h8 P' Uz (fun h=>by cases h) rfl
      (oC h1 h8 rfl Uz.head.1 Uz.head.2.1 (vF (vF hz hv) hw) jF ⟨by show(1:Int)<=7;decide,by show(7:Int)<=23;decide⟩ 2 jE (fun h=>by cases h) (fun h=>by cases h) (fun h=>by rcases h with h|h|h|h<;>cases h) (fun h=>by cases h)) (KU _ hv)
      (by rw[MV.rH,MV.bp h1,MV.fi,MV.fP c w (c.stack++[v]),MV.fi,MV.df h1,MV.ow])with⟨u,q3,hu,g'⟩|⟨t,ht,g'⟩
     ·exact .inl ⟨u,q3,hu,g.trans g'⟩
     ·exact .inr ⟨t,ht,g.trans g'⟩
    ·exact .inr ⟨t,ht,g⟩
   ·rw[if_neg WE]at hC ⊢;have hsg:lh (ao p a).name=18\/lh (ao p a).name=19:=by
     unfold lh at WE ⊢;split
     ·exact .inl rfl
     ·split
      ·exact .inr rfl
      ·rename_i h1 h2;rw[if_neg h1,if_neg h2]at WE;exact(WE rfl).elim
    have d:=sub x (by rw[u'];simp) Vb k c hc Vm hC.app.1.last.1 hz jB;have Uz:=hC.app.1.last;have haE:=hC.app.1.app.2;have Z5:=hC.app.2;generalize hX:(bo p n x k)=X at*;have eL:((k:Int)+(X.length:Int)+1)=((k+X.length+1:Nat):Int):=by push_cast;omega
    rw[eL]at Z5 Uz haE ⊢;have Z5:bJ C.ins (k+X.length+1) (bo p n y ((k+X.length+1:Nat):Int)):=by rw[List.length_append,List.length_singleton,<-Nat.add_assoc]at Z5;exact Z5
    have UT:((k:Int)+((X++[iI (lh (ao p a).name) (((k+X.length+1:Nat):Int)+(bo p n y ((k+X.length+1:Nat):Int)).length)]++bo p n y ((k+X.length+1:Nat):Int)).length:Int))=((k+X.length+1:Nat):Int)+(bo p n y ((k+X.length+1:Nat):Int)).length:=by simp only[List.length_append,List.length_cons,List.length_nil];push_cast;omega
    rw[UT];refine d.bind fun v q hv=>?_
    have hok:=okU (k+X.length) _ v q haE hv (by rcases hsg with h|h<;>rw[h]<;>simp[iI]);rw[Int.natCast_add]at hok;have go:∀m',bc p C inp ((M.aW { c with at_:=((k+X.length:Nat):Int)+1,stack:=c.stack++[v],aT:=q }).ins p C inp (iI (lh (ao p a).name) (((k+X.length+1:Nat):Int)+(bo p n y ((k+X.length+1:Nat):Int)).length))) m'->bc p C inp (M.aW { c with at_:=(k:Int)+X.length,stack:=c.stack++[v],aT:=q }) m':=fun m' hg=> bc.ins (c:={ c with at_:=(k:Int)+X.length,stack:=c.stack++[v],aT:=q }) (k:=k+X.length) h1 h8 P' (by push_cast;rfl) Uz.2.1 Uz.2.2 (by rcases hsg with h|h<;>rw[h]<;>(intro h;cases h)) hok hg
    have dy:=fun q2=>sub y (by rw[u'];simp) Yb (k+X.length+1) { c with at_:=((k+X.length+1:Nat):Int),aT:=q2 } hc rfl Z5 hz (by show c.stack.length<=_;omega)
    -- the other side is taken, or not
    have take:lA p C inp M { c with at_:=((k+X.length+1:Nat):Int),aT:=q+1 } (((k+X.length+1:Nat):Int)+(bo p n y ((k+X.length+1:Nat):Int)).length):=dy (q+1);have e1:M.aW (({ c with at_:=((k+X.length:Nat):Int)+1,stack:=c.stack++[v],aT:=q }:MC).cut 1)=M.aW { c with at_:=((k+X.length+1:Nat):Int),aT:=q+1 }:=by rw[MV.fP,show((k+X.length:Nat):Int)+1=((k+X.length+1:Nat):Int) by push_cast;rfl]
    have fin:(M.aW { c with at_:=((k+X.length:Nat):Int)+1,stack:=c.stack++[v],aT:=q }).ins p C inp (iI (lh (ao p a).name) (((k+X.length+1:Nat):Int)+(bo p n y ((k+X.length+1:Nat):Int)).length))=M.aW { c with at_:=((k+X.length+1:Nat):Int),aT:=q+1 }\/
      (M.aW { c with at_:=((k+X.length:Nat):Int)+1,stack:=c.stack++[v],aT:=q }).ins p C inp (iI (lh (ao p a).name) (((k+X.length+1:Nat):Int)+(bo p n y ((k+X.length+1:Nat):Int)).length))=M.aW { c with at_:=(((k+X.length+1:Nat):Int)+(bo p n y ((k+X.length+1:Nat):Int)).length),stack:=c.stack++[v],aT:=q }:=by
     rcases hsg with h|h
     ·rw[h,MV.ri,MV.bp h1,MV.df h1,e1,MV.dt];split
      ·exact .inl rfl
      ·exact .inr rfl
     ·rw[h,MV.tW,MV.bp h1,MV.df h1,e1,MV.dt];split
      ·exact .inr rfl
      ·exact .inl rfl
    rcases fin with fin|fin
    ·rw[fin]at go;rcases take with⟨w,q2,hw,g⟩|⟨t,ht,g⟩
     ·exact .inl ⟨w,q2,hw,go _ g⟩
     ·exact .inr ⟨t,ht,go _ g⟩
    ·rw[fin]at go;exact .inl ⟨v,q,hv,go _ (bc.refl _)⟩
end
inductive dU(p:af)(C:aI)(j:Nat):Nat->Prop
 |mark {k n:Nat} {a:Int} (h0:0<=a) (hn:a.toNat<n+1) (hl:a.toNat<p.aa.nodes.length) (hi:jo p j a) (hk:fC (bX p.aa.nodes a)) (hC:bJ C.ins k (gk p (n+1) a k)) (h:dU p C j (k+(gk p (n+1) a k).length)):dU p C j k
 |jump {k k':Nat} (hk:k<C.ins.length) (hx:nth C.ins k=iI 16 (k':Int)) (h:dU p C j k'):dU p C j k
 |fin {k:Nat} {r:Int} (hk:k<C.ins.length) (hx:nth C.ins k=iI 22 r):dU p C j k
structure lf(p:af)(C:aI)(j k n:Nat)(a:Int):Prop where
 h0:0<=a
 hn:a.toNat<n+1
 hl:a.toNat<p.aa.nodes.length
 hi:jo p j a
 hk:fC (bX p.aa.nodes a)
 hC:bJ C.ins k (gk p (n+1) a k)
 h:dU p C j (k+(gk p (n+1) a k).length)
def ui(p:af)(C:aI)(j:Nat)(k:Int):Prop:=∃k0 n a,k=((k0:Nat):Int)/\lf p C j k0 n a
structure l6(p:af)(c:MC):Prop where
 f0:0<=c.fn
 f1:c.fn<p.aa.aw.length
 sl:(c.slots.length:Int)=nth p.size c.fn.toNat
 rg:qX c.slots
def xX(c:MC)(x:ay):Prop:=(∃s,x=iI 6 s/\0<=s/\s<c.slots.length)\/x=iI 23 0
structure rq(p:af)(C:aI)(c:MC):Prop where
 stack:c.stack=[]
 mark:ui p C c.fn.toNat c.mark
 at_:∃k:Nat,c.at_=(k:Int)/\k<C.ins.length/\xX c (nth C.ins k)/\dU p C c.fn.toNat (k+1)
structure eZ(p:af)(C:aI)(M:MV):Prop where
 one:1<=M.calls.length
 dX:M.calls.length<=8
 st:M.status=0
 tr:0<=M.dn/\M.dn<=9
 low:∀k,k+1<M.calls.length->l6 p (nth M.calls k)/\rq p C (nth M.calls k)
 cells:gr M.heap<=40
 rg:tK M.heap
structure MI(p:af)(C:aI)(m:MV):Prop where
 dX:m.calls.length<=8
 low:∀k,k+1<m.calls.length->l6 p (nth m.calls k)/\rq p C (nth m.calls k)
 ah:m.status≠2->1<=m.calls.length/\l6 p m.ah/\m.ah.stack=[]/\ui p C m.ah.fn.toNat m.ah.at_
 wB:m.status=2->m.calls.length=0
 st:0<=m.status/\m.status<=3
 tr:0<=m.dn/\m.dn<=9
 cells:gr m.heap<=40
 rg:tK m.heap
def lz(p:af)(C:aI)(M m:MV):Prop:=m.dF C/\MI p C m/\m.time=M.time
section
variable {p:af}{C:aI}{inp:UG}
def QD(p:af)(n:Nat)(a k:Int):∃l,gk p (n+1) a k=iI 1 a::l:=⟨_,yt p n a k⟩
theorem lf.head{j k n:Nat}{a:Int}(h:lf p C j k n a):k<C.ins.length/\nth C.ins k=iI 1 a:=by obtain⟨l,e⟩:=QD p n a k;have hC:=h.hC;rw[e]at hC;exact⟨hC.head.1,hC.head.2.1⟩
theorem eZ.aW{M:MV}(h:eZ p C M)(c:MC):eZ p C (M.aW c):=
 ⟨by rw[MV.bM];exact h.one,by rw[MV.bM];exact h.dX,h.st,h.tr,fun k hk=>by rw[MV.bM]at hk;rw[show nth (M.aW c).calls k=nth M.calls k from(Go.Gd.dG _ _ _ _ (by have:=h.one;omega)).trans (jN)];exact h.low k hk,h.cells,h.rg⟩
variable{M:MV}
def eZ.mi(h:eZ p C M){c:MC}(hc:l6 p c)(P':c.stack=[])(hm:ui p C c.fn.toNat c.at_){s t:Int}(hs:s=0\/s=1\/s=3)(ht:0<=t/\t<=9):MI p C { M.aW c with status:=s,dn:=t }:=by
 have hu:=h.aW c;refine⟨hu.dX,hu.low,fun _=>?_,fun e=>?_,?_,ht,h.cells,h.rg⟩
 ·have ht:MV.ah { M.aW c with status:=s,dn:=t }=c:=MV.bp h.one c;rw[ht];exact⟨hu.one,hc,P',hm⟩
 ·have e:s=2:=e;omega
 ·show 0<=s/\s<=3;omega
def v8(h:eZ p C M){c:MC}(hc:l6 p c)(hm:ui p C c.fn.toNat c.mark){s t:Int}(hs:s=1\/s=3)(ht:0<=t/\t<=9):lz p C M (M.je c s t):=
 ⟨.inl (by show s≠0;omega),h.mi (c:=c.back) ⟨hc.f0,hc.f1,hc.sl,hc.rg⟩ rfl hm jB ht,rfl⟩
def Ot(c:MC):(M.aW c).pop=M.pop:=by show MV.mk ((M.calls.set (M.calls.length-1) c).take ((M.calls.set (M.calls.length-1) c).length-1)) _ _ _ _ _ _ _=_;rw[List.length_set,List.take_set_of_le jl];rfl
def Qy{α:Type}[Inhabited α](l:List α)(n k:Nat)(h:k<n):nth (l.take n) k=nth l k:=by unfold nth;rw[List.getD_eq_getElem?_getD,List.getElem?_take,if_pos h,List.getD_eq_getElem?_getD]
theorem eZ.pop{M:MV}(h:eZ p C M)(h2:2<=M.calls.length):eZ p C M.pop/\M.pop.calls.length=M.calls.length-1/\l6 p M.pop.ah/\rq p C M.pop.ah:=by
 have hl:M.pop.calls.length=M.calls.length-1:=by show(M.calls.take _).length=_;rw[List.length_take];omega
 have hn:∀k,k<M.calls.length-1->nth M.pop.calls k=nth M.calls k:=fun k hk=>Qy _ _ _ hk
 have ht:M.pop.ah=nth M.calls (M.calls.length-2):=by unfold MV.ah;rw[hl,hn _ jB];rfl
 have Uz:=h.low (M.calls.length-2) jB;have:=h.dX;rw[ht];exact⟨⟨jB,jB,h.st,h.tr,fun k hk=>by rw[hn k jB];exact h.low k jB,h.cells,h.rg⟩,hl,Uz⟩
def EG{N:Nat}(hM:eZ p C M)(hN:M.calls.length=N)
  (ih:∀(M:MV) (c:MC) (k:Nat),eZ p C M->M.calls.length=N->l6 p c->c.stack=[]->c.at_=(k:Int)->dU p C c.fn.toNat k->∃m1,bc p C inp (M.aW c) m1/\lz p C M m1)
  {c:MC} {v:aj} {k:Nat} (hc:l6 p c) (P':c.stack=[v]) (hv:ig v) (Vm:c.at_=(k:Int)) (hk:k<C.ins.length) (hx:xX c (nth C.ins k)) (hn:dU p C c.fn.toNat (k+1)):∃m1,bc p C inp (M.aW c) m1/\lz p C M m1:=by
 have h1:=hM.one;have ht:=MV.bp (M:=M) h1;have hz:∀u∈c.stack,ig u:=fun u hu=>by rw[P']at hu;rw[List.mem_singleton.1 hu];exact hv
 rcases hx with⟨s,hx,s0,s1⟩|hx
 ·obtain⟨m1,g,d⟩:=ih M { c with at_:=((k+1:Nat):Int),slots:=c.slots.set s.toNat v,stack:=[],aT:=c.aT+1 } (k+1) hM hN ⟨hc.f0,hc.f1,by show((c.slots.set _ _).length:Int)=_;rw[List.length_set];exact hc.sl,Jv hc.rg _ hv.1⟩ rfl rfl hn;refine⟨m1,bc.ins h1 hM.dX hM.st Vm hk hx (fun h=>by cases h) (oC h1 hM.dX Vm hk hx hz (by rw[P'];simp) ⟨by show(1:Int)<=6;decide,by show(6:Int)<=23;decide⟩ 1 (by rw[P'];simp) (fun h=>by cases h) (fun _ h=>by rcases h with h|h<;>cases h) (fun _=>⟨s0,s1⟩) (fun h=>by cases h)) ?_,d⟩;rw[MV.oh,ht,MV.dt];have e:({ MC.cut { c with at_:=(k:Int)+1 } 1 with slots:=(MC.slots { c with at_:=(k:Int)+1 }).set s.toNat (MC.last { c with at_:=(k:Int)+1 }) }:MC)={ c with at_:=((k+1:Nat):Int),slots:=c.slots.set s.toNat v,stack:=[],aT:=c.aT+1 }:=by
   unfold MC.cut MC.last;simp only[P'];rfl
  rw[e];exact g
 ·obtain⟨m1,g,d⟩:=ih M { c with at_:=((k+1:Nat):Int),stack:=[],aT:=c.aT+1 } (k+1) hM hN ⟨hc.f0,hc.f1,hc.sl,hc.rg⟩ rfl rfl hn;refine⟨m1,bc.ins h1 hM.dX hM.st Vm hk hx (fun h=>by cases h) (oC h1 hM.dX Vm hk hx hz (by rw[P'];simp) ⟨by show(1:Int)<=23;decide,by show(23:Int)<=23;decide⟩ 1 (by rw[P'];simp) (fun h=>by cases h) (fun _ h=>by rcases h with h|h<;>cases h) (fun h=>by rcases h with h|h|h|h<;>cases h) (fun h=>by cases h)) ?_,d⟩;rw[MV.qY,MV.df h1];have e:MC.cut { c with at_:=(k:Int)+1 } 1={ c with at_:=((k+1:Nat):Int),stack:=[],aT:=c.aT+1 }:=by
   unfold MC.cut;simp only[P'];rfl
  rw[e];exact g
def F5{N:Nat}(hM:eZ p C M)(hN:M.calls.length=N+1)
  (ih:∀(M:MV) (c:MC) (k:Nat),eZ p C M->M.calls.length=N->l6 p c->c.stack=[]->c.at_=(k:Int)->dU p C c.fn.toNat k->∃m1,bc p C inp (M.aW c) m1/\lz p C M m1) {v:aj} (hv:ig v) (c:MC):∃m1,bc p C inp ((M.aW c).ends v) m1/\lz p C M m1:=by
 unfold MV.ends;rw[Ot,MV.bM];by_cases h2:M.calls.length<=1
 ·rw[if_pos h2];have hl:M.pop.calls.length=0:=by show(M.calls.take _).length=_;rw[List.length_take];omega
  exact⟨_,bc.refl _,.inl (by show(2:Int)≠0;decide),⟨by show M.pop.calls.length<=8;omega,fun k hk=>by have hk:k+1<M.pop.calls.length:=hk;omega,fun e=>(e rfl).elim,fun _=>hl,⟨by show(0:Int)<=2;decide,by show(2:Int)<=3;decide⟩,hM.tr,hM.cells,hM.rg⟩,rfl⟩
 ·rw[if_neg h2];obtain⟨b,l,f,lo⟩:=hM.pop jB;obtain⟨k,k1,k2,k3,k4⟩:=lo.at_;have e:M.pop.push v=M.pop.aW { M.pop.ah with stack:=[v],aT:=M.pop.ah.aT-1 }:=by
   unfold MV.push MC.push;rw[lo.stack];rfl
  rw[e];exact EG b jB ih (c:={ M.pop.ah with stack:=[v],aT:=M.pop.ah.aT-1 }) ⟨f.f0,f.f1,f.sl,f.rg⟩ rfl hv k1 k2 k3 k4
theorem u5:∀(N:Nat) (M:MV) (c:MC) (k:Nat),eZ p C M->M.calls.length=N->l6 p c->c.stack=[]->c.at_=(k:Int)->dU p C c.fn.toNat k->∃m1,bc p C inp (M.aW c) m1/\lz p C M m1
 |0,M,c,k,hM,hN,_,_,_,_=>by have:=hM.one;omega
 |N+1,M,c,k,hM,hN,hc,P',Vm,hk=>by
  generalize hj:c.fn.toNat=j at hk;have h1:=hM.one;have ht:=MV.bp (M:=M) h1;induction hk generalizing c with
  |@mark k n a h0 hn hl hi hkd hC h _=>
   have hm:lf p C j k n a:=⟨h0,hn,hl,hi,hkd,hC,h⟩;refine⟨_,bc.refl _,.inr ?_,?_,rfl⟩
   ·unfold MV.bg;rw[ht,Vm,Int.toNat_natCast,hm.head.2];rfl
   ·have:=hM.mi hc P' (by rw[hj];exact⟨k,n,a,Vm,hm⟩) (.inl rfl) hM.tr;have e:({ M.aW c with status:=0,dn:=M.dn }:MV)=M.aW c:=by
     have:=hM.st;unfold MV.aW;rw[this]
    rwa [e]at this
  |@jump k k' hk hx h ih=> obtain⟨m1,g,d⟩:=ih { c with at_:=(k':Int) } ⟨hc.f0,hc.f1,hc.sl,hc.rg⟩ P' rfl hj;refine⟨m1,bc.ins h1 hM.dX hM.st Vm hk hx (fun h=>by cases h) (oC h1 hM.dX Vm hk hx (fun u hu=>by rw[P']at hu;cases hu) (by rw[P'];simp) ⟨by show(1:Int)<=16;decide,by show(16:Int)<=23;decide⟩ 0 (Nat.zero_le _) (fun _=>.inr (.inr (.inr (.inr (.inr (.inl rfl)))))) (fun h=>by cases h) (fun h=>by rcases h with h|h|h|h<;>cases h) (fun h=>by cases h)) ?_,d⟩;rw[MV.mw,ht,MV.dt];exact g
  |@fin k r hk hx=>
   have go:∀m',bc p C inp ((M.aW { c with at_:=(k:Int)+1 }).ends (vZ r)) m'->bc p C inp (M.aW c) m':=fun m' g=> bc.ins h1 hM.dX hM.st Vm hk hx (fun h=>by cases h) (oC h1 hM.dX Vm hk hx (fun u hu=>by rw[P']at hu;cases hu) (by rw[P'];simp) ⟨by show(1:Int)<=22;decide,by show(22:Int)<=23;decide⟩ 0 (Nat.zero_le _) (fun _=>.inr (.inr (.inr (.inr (.inr (.inr (.inr rfl))))))) (fun h=>by cases h) (fun h=>by rcases h with h|h|h|h<;>cases h) (fun h=>by cases h)) g
   obtain⟨m1,g,d⟩:=F5 (inp:=inp) hM hN (fun M c k a b=>u5 N M c k a b) (Gq r) { c with at_:=(k:Int)+1 };exact⟨m1,go _ g,d⟩
end
def uX(p:af)(C:aI):Prop:=∀j,j<p.aa.aw.length->∃k:Nat,nth C.entry j=(k:Int)/\dU p C j k
section
variable {p:af}{C:aI}{inp:UG}
theorem DL{M:MV}(hs:fX p)(hM:eZ p C M){j:Nat}(hj:j<p.aa.aw.length){n:Nat}(c:MC)(VH:(c.slots.length:Int)=nth p.size j)(Zk:qX c.slots) :
  ∀(L:UG) (VZ:List aj) (k q:Nat),(∀x∈L,0<=x/\x.toNat<p.aa.nodes.length/\jo p j x/\cR (bX p.aa.nodes x)/\x.toNat<n)->bJ C.ins k (bv (bo p n) k L [])->(∀v∈VZ,ig v)->VZ.length+L.length<=10->
   (∃vs q',vs.length=L.length/\(∀v∈vs,ig v)/\bc p C inp (M.aW { c with at_:=(k:Int),stack:=VZ,aT:=q }) (M.aW { c with at_:=((k+(bv (bo p n) k L []).length:Nat):Int),stack:=VZ++vs,aT:=q' }))\/∃t:Int,(1<=t/\t<=9)/\bc p C inp (M.aW { c with at_:=(k:Int),stack:=VZ,aT:=q }) (M.je c 3 t)
 |[],VZ,k,q,hL,hl,hz,hd=>.inl ⟨[],q,rfl,fun v hv=>by(cases hv),by rw[List.append_nil];exact bc.refl _⟩
 |x::L,VZ,k,q,hL,hl,hz,hd=>by
  obtain⟨x0,x1,x2,x3,x4⟩:=hL x jE;have hm:=hs.ok.aa.many;have e0:bv (bo p n) (k:Int) (x::L) []=bo p n x k++bv (bo p n) ((k+(bo p n x k).length:Nat):Int) L []:=by show bv (bo p n) k L ([]++bo p n x ((k:Int)+((0:Nat):Int)))=_;rw[vn,List.nil_append,show((k:Int)+((0:Nat):Int))=(k:Int) from jB,Int.natCast_add]
  rw[e0]at hl ⊢;rcases yV (inp:=inp) hs hM.one hM.dX hM.st hM.cells hM.rg hj VH Zk n x k { c with at_:=(k:Int),stack:=VZ,aT:=q } x0 x1 x2 x3 x4 rfl rfl hl.app.1 hz (by show VZ.length+x.toNat<=900;simp at hd;omega)with⟨v,q1,hv,g1⟩|⟨t,ht,g1⟩
  ·rcases DL hs hM hj c VH Zk L (VZ++[v]) (k+(bo p n x k).length) q1 (fun y hy=>hL y (by simp[hy])) hl.app.2 (vF hz hv) (by simp at hd ⊢;omega)with⟨vs,q',e,WX,g2⟩|⟨t,ht,g2⟩
   ·refine .inl ⟨v::vs,q',by simp[e],fun u hu=>?_,?_⟩
    ·rcases List.mem_cons.1 hu with rfl|hu
     ·exact hv
     ·exact WX u hu
    ·rw[Int.natCast_add]at g2;rw[List.length_append,<-Nat.add_assoc];rw[List.append_assoc]at g2;exact g1.trans g2
   ·rw[Int.natCast_add]at g2;exact .inr ⟨t,ht,g1.trans g2⟩
  ·exact .inr ⟨t,ht,g1⟩
def E8{M:MV}(hs:fX p)(hE:uX p C)(hCl:C.entry.length=p.aa.aw.length)(hM:eZ p C M){c:MC}(hc:l6 p c)(hm:ui p C c.fn.toNat c.mark)(P':c.stack=[]){n kc:Nat}{x:Int}(Vm:c.at_=(kc:Int))(h0:0<=x)(hl:x.toNat<p.aa.nodes.length)(hk:(ao p x).kind=21)(Vo:jo p c.fn.toNat x)(hn:x.toNat<n)
  (Zx:bJ C.ins kc (cF p n x kc)) (Wa:kc+(cF p n x kc).length<C.ins.length) (Wg:xX c (nth C.ins (kc+(cF p n x kc).length))) (Y5:dU p C c.fn.toNat (kc+(cF p n x kc).length+1)):∃m1,bc p C inp (M.aW c) m1/\lz p C M m1:=by
 have h1:=hM.one;have h8:=hM.dX;have f0:=hc.f0;have f1:=hc.f1;obtain⟨cal,VX⟩:=callee hs hl hk;have Zc:BP p x=(cal:Int):=VX.last;have YG:=hs.ok.aa.shape x.toNat hl;have haZ:=VX.Bi;have XY:=Zx.app.2.head;have Uo:(cF p n x kc).length=(bv (bo p n) kc (ao p x).l []).length+1:=by unfold cF;rw[List.length_append];rfl
 rw[Zc]at XY;have VT:=DL (inp:=inp) hs hM (j:=c.fn.toNat) jB (n:=n) c hc.sl hc.rg (ao p x).l [] kc c.aT (fun y hy=>by obtain⟨y1,y2,y3,y4⟩:=Vo.aF hs jB hy;exact⟨y2,y4,y1,YG.1.call hk y hy,jB⟩) Zx.app.1 (fun v hv=>by cases hv) jF
 have ec:({ c with at_:=(kc:Int),stack:=[],aT:=c.aT }:MC)=c:=by rw[<-Vm,<-P']
 rw[ec]at VT;generalize hke2:kc+(bv (bo p n) kc (ao p x).l []).length=ke at*;rcases VT with⟨A,q,Yd,hA,g⟩|⟨t,ht,g⟩
 rotate_left
 ·exact⟨_,g,v8 hM hc hm (.inr rfl) jB⟩
 rw[List.nil_append]at g;have haF:=hs.aw cal VX.lt;have Uu:=hs.ok.size;have p1:=haF.wl;have p2:=haF.hi;have p3:=VX.args;have p5:=VX.lt;have hok:(M.aW { c with at_:=((ke:Nat):Int),stack:=A,aT:=q }).fS p C:=oC h1 h8 rfl XY.1 XY.2.1 hA (by show A.length<=1000;omega) ⟨by show(1:Int)<=20;decide,by show(20:Int)<=23;decide⟩ 0 (Nat.zero_le _) (fun _=>.inr (.inr (.inr (.inr (.inr (.inr (.inl rfl))))))) (fun h=>by cases h) (fun h=>by rcases h with h|h|h|h<;>cases h) (fun _=>by
  refine⟨?_,?_,?_,?_,?_,?_,?_,?_,?_⟩
  ·show(0:Int)<=((ao p x).l.length:Int);omega
  ·show((ao p x).l.length:Int)<=(A.length:Int);omega
  ·show((ao p x).l.length:Int)<=3;omega
  ·show(0:Int)<=(cal:Int);omega
  ·show(cal:Int)<(C.entry.length:Int);omega
  ·show(cal:Int)<(p.size.length:Int);omega
  ·show 0<=nth p.size ((cal:Int)).toNat;rw[Int.toNat_natCast];omega
  ·show nth p.size ((cal:Int)).toNat<=24;rw[Int.toNat_natCast];omega
  ·show((ao p x).l.length:Int)<=nth p.size ((cal:Int)).toNat;rw[Int.toNat_natCast];omega)
 have VL:∀m',bc p C inp ((M.aW { c with at_:=(ke:Int)+1,stack:=A,aT:=q }).ins p C inp ⟨20,(cal:Int),((ao p x).l.length:Int),sE⟩) m'->bc p C inp (M.aW c) m':=fun m' hg=> g.trans (bc.ins (c:={ c with at_:=(ke:Int),stack:=A,aT:=q }) h1 h8 hM.st rfl XY.1 XY.2.1 (fun h=>by cases h) hok hg)
 have Wm:(M.aW { c with at_:=(ke:Int)+1,stack:=A,aT:=q }).cut ((ao p x).l.length:Int).toNat=M.aW { c with at_:=(ke:Int)+1,stack:=[],aT:=q+(ao p x).l.length }:=by rw[MV.df h1,Int.toNat_natCast];unfold MC.cut;show M.aW ⟨_,_,_,_,A.take (A.length-(ao p x).l.length),_⟩=_;rw[Yd,Nat.sub_self];rfl
 rw[MV.pW,Wm,MV.bM]at VL;by_cases h88:8<=M.calls.length
 ·rw[if_pos h88,MV.eF h1]at VL;exact⟨_,VL _ (bc.refl _),v8 hM hc hm (.inr rfl) ⟨jC,jC⟩⟩
 rw[if_neg h88,MV.bp h1]at VL;have Yw:A.drop (A.length-((ao p x).l.length:Int).toNat)=A:=by rw[Int.toNat_natCast,Yd,Nat.sub_self,List.drop_zero]
 have ha6:(MC.stack { c with at_:=(ke:Int)+1,stack:=A,aT:=q }).drop ((MC.stack { c with at_:=(ke:Int)+1,stack:=A,aT:=q }).length-((ao p x).l.length:Int).toNat)=A:=Yw;rw[ha6]at VL;obtain⟨ek,e1,e2⟩:=hE cal VX.lt;generalize VM:({ c with at_:=(ke:Int)+1,stack:=[],aT:=q+(ao p x).l.length }:MC)=c' at*;have ZX:l6 p c'/\rq p C c':=by subst VM;refine⟨⟨hc.f0,hc.f1,hc.sl,hc.rg⟩,rfl,hm,ke+1,by push_cast;rfl,?_⟩;have e:kc+(cF p n x kc).length=ke+1:=jB;rw[e]at Wa Wg Y5;exact⟨Wa,Wg,Y5⟩
 generalize hd:MV.iH p C (cal:Int) A=d;have hnt:nth p.size ((cal:Int)).toNat=nth p.size cal:=by rw[Int.toNat_natCast]
 have hdF:l6 p d:=by
  subst hd;refine⟨by show(0:Int)<=cal;omega,by show(cal:Int)<_;omega,?_,?_⟩
  ·show((A++List.replicate _ v0).length:Int)=nth p.size ((cal:Int)).toNat;rw[List.length_append,List.length_replicate,hnt];omega
  ·intro v hv;rcases List.mem_append.1 (show v∈A++List.replicate _ v0 from hv)with hv|hv
   ·exact(hA v hv).1
   ·rw[(List.mem_replicate.1 hv).2];exact rP
 have Uz:((M.aW c').cQ p C (cal:Int) A).calls.length=M.calls.length+1:=by show((M.aW c').calls++[_]).length=_;rw[List.length_append,MV.bM];rfl
 have hnk:∀k,k<M.calls.length->nth ((M.aW c').cQ p C (cal:Int) A).calls k=nth (M.aW c').calls k:=fun k hk=>by show nth ((M.aW c').calls++[_]) k=_;unfold nth;rw[List.getD_eq_getElem?_getD,List.getElem?_append_left (by rw[MV.bM];exact hk),List.getD_eq_getElem?_getD]
 have ha7:((M.aW c').cQ p C (cal:Int) A).ah=d:=by
  unfold MV.ah;rw[Uz];show nth ((M.aW c').calls++[MV.iH p C (cal:Int) A]) (M.calls.length+1-1)=d;have:M.calls.length+1-1=(M.aW c').calls.length:=by rw[MV.bM];omega
  rw[this,qc,hd]
 have hB:eZ p C ((M.aW c').cQ p C (cal:Int) A):=by
  refine⟨jB,jB,hM.st,hM.tr,fun k hk=>?_,hM.cells,hM.rg⟩;rw[hnk k jB];by_cases e:k=M.calls.length-1
  ·have:nth (M.aW c').calls k=c':=by rw[e];exact(Go.Gd.dG _ _ _ _ jB).trans (if_pos rfl)
   rw[this];exact ZX
  ·have:nth (M.aW c').calls k=nth M.calls k:=(Go.Gd.dG _ _ _ _ jB).trans (jN);rw[this];exact hM.low k jB
 obtain⟨m1,g1,d1⟩:=u5 (inp:=inp) _ _ d ek hB rfl hdF (by subst hd;rfl) (by subst hd;show nth C.entry ((cal:Int)).toNat=_;rw[Int.toNat_natCast];exact e1) (by subst hd;show dU p C ((cal:Int)).toNat ek;rw[Int.toNat_natCast];exact e2);refine⟨m1,VL _ ?_,d1⟩;have:=MV.qH ((M.aW c').cQ p C (cal:Int) A) jB;rw[ha7]at this;rw[<-this];exact g1
theorem BR{j n:Nat}:∀(L:UG) (k:Nat),(∀x∈L,0<=x/\x.toNat<n/\x.toNat<p.aa.nodes.length/\jo p j x/\fC (bX p.aa.nodes x))->bJ C.ins k (bv (gk p n) k L [])->dU p C j (k+(bv (gk p n) k L []).length)->dU p C j k
 |[],k,hL,hl,hc=>hc
 |x::L,k,hL,hl,hc=>by
  obtain⟨x0,x1,x2,x3,x4⟩:=hL x jE;obtain⟨m,rfl⟩:∃m,n=m+1:=⟨n-1,jB⟩;have e0:bv (gk p (m+1)) (k:Int) (x::L) []=gk p (m+1) x k++bv (gk p (m+1)) ((k+(gk p (m+1) x k).length:Nat):Int) L []:=by show bv (gk p (m+1)) k L ([]++gk p (m+1) x ((k:Int)+((0:Nat):Int)))=_;rw[vn,List.nil_append,show((k:Int)+((0:Nat):Int))=(k:Int) from jB,Int.natCast_add]
  rw[e0]at hl hc;rw[List.length_append,<-Nat.add_assoc]at hc;exact .mark x0 x1 x2 x3 x4 hl.app.1 (BR L _ (fun y hy=>hL y (by simp[hy])) hl.app.2 hc)
end
section
variable {p:af}{C:aI}{inp:UG}
def MU{l:UG}(h:∀x∈l,bD x)(k:Nat):bD (nth l k):=by
 rcases Fm l k with e|e
 ·exact h _ e
 ·rw[e];exact rP
def SO{h:UF}(hr:tK h)(i k:Nat){v:Int}(hv:bD v):tK (h.set i ((nth h i).set k v)):=fun l hl x hx=>by
 rcases List.mem_or_eq_of_mem_set hl with hl|rfl
 ·exact hr l hl x hx
 ·rcases List.mem_or_eq_of_mem_set hx with hx|rfl
  ·rcases Fm h i with e|e
   ·exact hr _ e x hx
   ·rw[e]at hx;cases hx
  ·exact hv
def Q6{M:MV}(hs:fX p)(hE:uX p C)(hCl:C.entry.length=p.aa.aw.length)(hi:∀x∈inp,bD x)(hM:eZ p C M){c:MC}(hc:l6 p c){k n:Nat}{a:Int}(hm:lf p C c.fn.toNat k n a)(Yp:c.mark=(k:Int))(P':c.stack=[])(Vm:c.at_=(k:Int)+1):∃m1,bc p C inp (M.aW c) m1/\lz p C M m1:=by
 have h1:=hM.one;have h8:=hM.dX;have f0:=hc.f0;have f1:=hc.f1;have hj:c.fn.toNat<p.aa.aw.length:=jB;have hmA:ui p C c.fn.toNat c.mark:=⟨k,n,a,Yp,hm⟩;have hl:=hm.hl;have sh:=(hs.ok.aa.shape a.toNat hl).1;have US:=hs.ok.aa.many;have UY:fC (ao p a).kind:=hm.hk;unfold fC at UY;have Xl:ju (ao p a).kind->0<=nth p.slots a.toNat/\nth p.slots a.toNat<c.slots.length:=fun h=>by have:=(hs.aw _ hj).all a.toNat hm.hi.1 (by have:=hm.hi.2;omega) h;rw[hc.sl];exact this
 have hC:=hm.hC;have UT:=hm.h;have e0:=yt p n a k;have ek:(k:Int)+1=((k+1:Nat):Int):=by push_cast;rfl
 rw[ek]at e0 Vm;have aF:∀x∈(ao p a).l,0<=x/\x.toNat<n/\x.toNat<p.aa.nodes.length/\jo p c.fn.toNat x:=fun x hx=>by obtain⟨b1,b2,b3,b4⟩:=hm.hi.aF hs hj hx;have:=hm.hn;exact⟨b2,jB,b4,b1⟩
 have ex:∀(M':MV) (d:MC) (kd:Nat),eZ p C M'->l6 p d->d.fn=c.fn->d.slots=c.slots->d.at_=(kd:Int)->(∀v∈d.stack,ig v)->d.stack.length<=2->∀x∈(ao p a).l,cR (bX p.aa.nodes x)->bJ C.ins kd (bo p n x kd)->lA p C inp M' d (kd+(bo p n x kd).length):=fun M' d kd Ze hd d1 d2 d3 d4 d5 x hx Vb hCx=>by obtain⟨b1,b2,b3,b4⟩:=aF x hx;exact yV hs Ze.one Ze.dX Ze.st Ze.cells Ze.rg hj (slots:=c.slots) hc.sl hc.rg n x kd d b1 b3 b4 Vb b2 d2 d3 hCx d4 jB
 have fr:∀(kd q:Nat) (st:List aj),l6 p { c with at_:=(kd:Int),stack:=st,aT:=q }:=fun kd q st=>⟨hc.f0,hc.f1,hc.sl,hc.rg⟩
 have stop:∀(kd q:Nat) (st:List aj) (s t:Int),s=1\/s=3->0<=t/\t<=9->lz p C M (M.je { c with at_:=(kd:Int),stack:=st,aT:=q } s t):=fun kd q st s t h h'=>v8 hM (fr kd q st) hmA h h'
 have cont:∀(M':MV) (kd q:Nat),eZ p C M'->dU p C c.fn.toNat kd->∃m1,bc p C inp (M'.aW { c with at_:=(kd:Int),stack:=[],aT:=q }) m1/\lz p C M' m1:=fun M' kd q Ze h=>u5 _ M' _ kd Ze rfl (fr kd q []) rfl rfl h
 have finr:∀(M':MV) (kd q:Nat) (v:aj),eZ p C M'->ig v->kd<C.ins.length->xX c (nth C.ins kd)->dU p C c.fn.toNat (kd+1)->∃m1,bc p C inp (M'.aW { c with at_:=(kd:Int),stack:=[v],aT:=q }) m1/\lz p C M' m1:=fun M' kd q v Ze hv h2 h3 h4=> EG Ze rfl (fun M c k a b=>u5 _ M c k a b) (c:={ c with at_:=(kd:Int),stack:=[v],aT:=q }) (fr kd q [v]) rfl hv rfl h2 h3 h4
 -- an instruction on one value
 have go1:∀{kd q:Nat} {i:ay} {v:aj} {m':MV},bJ C.ins kd [i]->ig v->i.op=13\/i.op=15\/i.op=17\/i.op=21->bc p C inp ((M.aW { c with at_:=(kd:Int)+1,stack:=[v],aT:=q }).ins p C inp i) m'->bc p C inp (M.aW { c with at_:=(kd:Int),stack:=[v],aT:=q }) m':=fun{kd q i v m'} hl hv ho g=> bc.ins (c:={ c with at_:=(kd:Int),stack:=[v],aT:=q }) h1 h8 hM.st rfl hl.head.1 hl.head.2.1 jB (oC h1 h8 rfl hl.head.1 hl.head.2.1 (fun u hu=>by rw[List.mem_singleton.1 hu];exact hv) jE jB 1 jE (fun h=>by cases h) (fun _=>jB) (fun h=>jB) (fun h=>jB)) g
 have last1:∀(kd:Int) (q:Nat) (v:aj),MC.last { c with at_:=kd,stack:=[v],aT:=q }=v:=fun _ _ _=>rfl
 have cut1:∀(kd:Int) (q:Nat) (v:aj),MC.cut { c with at_:=kd,stack:=[v],aT:=q } 1={ c with at_:=kd,stack:=[],aT:=q+1 }:=fun _ _ _=>rfl
 have nat1:∀kd:Nat,(kd:Int)+1=((kd+1:Nat):Int):=fun kd=>by push_cast;rfl
 have self:c={ c with at_:=((k+1:Nat):Int),stack:=[],aT:=c.aT }:=by rw[<-Vm,<-P']
 -- an expression at the beginning, and what is behind it
 have first:∀x∈(ao p a).l,cR (bX p.aa.nodes x)->bJ C.ins (k+1) (bo p n x ((k+1:Nat):Int))->(∀v q,ig v->∃m1,bc p C inp (M.aW { c with at_:=((k+1+(bo p n x ((k+1:Nat):Int)).length:Nat):Int),stack:=[v],aT:=q }) m1/\lz p C M m1)->∃m1,bc p C inp (M.aW c) m1/\lz p C M m1:=fun x hx Vb hCx h=>by
  rcases ex M c (k+1) hM hc rfl rfl Vm (fun v hv=>by rw[P']at hv;cases hv) (by rw[P'];simp) x hx Vb hCx with⟨v,q,hv,g⟩|⟨t,ht,g⟩
  ·obtain⟨m1,g1,d⟩:=h v q hv;rw[P',List.nil_append]at g;rw[Int.natCast_add (k+1)]at g1;exact⟨m1,g.trans g1,d⟩
  ·exact⟨_,g,v8 hM hc hmA (.inr rfl) jB⟩
 -- a block below it
 have blk:∀b∈(ao p a).l,bX p.aa.nodes b=18->∀kb:Nat,bJ C.ins kb (bv (gk p n) kb (ao p b).l [])->dU p C c.fn.toNat (kb+(bv (gk p n) kb (ao p b).l []).length)->dU p C c.fn.toNat kb:=fun b hb XF kb hl h=>by obtain⟨b1,b2,b3,b4⟩:=aF b hb;refine BR _ kb (fun x hx=>?_) hl h;obtain⟨x1,x2,x3,x4⟩:=b4.aF hs hj hx;exact⟨x2,jB,x4,x1,(hs.ok.aa.shape b.toNat b3).1.block XF x hx⟩
 -- one way, or the other
 have branch:∀(kx q kt:Nat) (v:aj),bJ C.ins kx [iI 17 (kt:Int)]->ig v->dU p C c.fn.toNat kt->dU p C c.fn.toNat (kx+1)->∃m1,bc p C inp (M.aW { c with at_:=(kx:Int),stack:=[v],aT:=q }) m1/\lz p C M m1:=fun kx q kt v hl hv ht hf=>by
  have go:∀m',_->bc p C inp (M.aW { c with at_:=(kx:Int),stack:=[v],aT:=q }) m':=fun m'=>go1 (m':=m') hl hv (.inr (.inr (.inl rfl)))
  rw[MV.oq,MV.bp h1,last1,MV.df h1,cut1,MV.dt]at go;by_cases h:v.n=0
  ·rw[if_pos h]at go;obtain⟨m1,g,d⟩:=cont M kt (q+1) hM ht;exact⟨m1,go _ g,d⟩
  ·rw[if_neg h]at go;obtain⟨m1,g,d⟩:=cont M (kx+1) (q+1) hM hf;exact⟨m1,go _ g,d⟩
 have Vj:((ao p a).kind=10\/(ao p a).kind=11)\/(ao p a).kind=12\/(ao p a).kind=13\/(ao p a).kind=14\/(ao p a).kind=15\/(ao p a).kind=16\/(ao p a).kind=17:=jB;rcases Vj with e|e|e|e|e|e|e
 ·-- let, set
  obtain⟨x,u',YX⟩:=sh.right e;have u':(ao p a).l=[x]:=u';have VI:nth (ao p a).l 0=x:=by rw[u'];rfl
  have Xb:x∈(ao p a).l:=by rw[u'];simp
  rw[if_pos e,VI]at e0;rw[e0]at hC UT;have hC:=hC.head.2.2;have VH:=Xl (by unfold ju;omega);obtain⟨b1,b2,b3,b4⟩:=aF x Xb;have hF:∀i,i=iI 6 (nth p.slots a.toNat)->xX c i:=fun i h=>.inl ⟨_,h,VH⟩
  have Uv:=hC.last;rw[List.length_cons,List.length_append,List.length_singleton]at UT;rw[uk]at Uv UT;by_cases k19:(ao p x).kind=19
  ·rw[if_pos k19]at Uv UT;have hx:=Uv.1.head;have Uz:=Uv.2;rw[List.length_singleton]at Uz UT;have go:∀m',bc p C inp ((M.aW { c with at_:=((k+1:Nat):Int)+1 }).ins p C inp (iI 14 0)) m'->bc p C inp (M.aW c) m':=fun m' g=>
    bc.ins h1 h8 hM.st Vm hx.1 hx.2.1 (fun h=>by cases h) (oC h1 h8 Vm hx.1 hx.2.1 (fun v hv=>by rw[P']at hv;cases hv) (by rw[P'];simp) ⟨by show(1:Int)<=14;decide,by show(14:Int)<=23;decide⟩ 0 (Nat.zero_le _) (fun _=>.inr (.inr (.inr (.inr (.inl rfl))))) (fun h=>by cases h) (fun h=>by rcases h with h|h|h|h<;>cases h) (fun h=>by cases h)) g
   rw[MV.oc]at go;by_cases hw:(inp.length:Int)<=M.in_
   ·have hw':(inp.length:Int)<=(M.aW { c with at_:=((k+1:Nat):Int)+1 }).in_:=hw;rw[if_pos hw',MV.eF h1]at go;exact⟨_,go _ (bc.refl _),v8 hM (c:={ c with at_:=((k+1:Nat):Int)+1 }) ⟨hc.f0,hc.f1,hc.sl,hc.rg⟩ hmA (.inl rfl) ⟨Int.le_refl _,jC⟩⟩
   ·have hw':¬(inp.length:Int)<=(M.aW { c with at_:=((k+1:Nat):Int)+1 }).in_:=hw;rw[if_neg hw',MV.fp h1]at go;obtain⟨m1,g,d⟩:=finr { M with in_:=M.in_+1 } (k+1+1) (c.aT-1) (vI (nth inp M.in_.toNat)) ⟨hM.one,hM.dX,hM.st,hM.tr,hM.low,hM.cells,hM.rg⟩ (ry (MU hi _)) Uz.1 (hF _ Uz.2) UT;refine⟨m1,go _ ?_,d⟩;have e:MC.push { c with at_:=((k+1:Nat):Int)+1 } (vI (nth inp M.in_.toNat))={ c with at_:=((k+1+1:Nat):Int),stack:=[vI (nth inp M.in_.toNat)],aT:=c.aT-1 }:=by
     unfold MC.push;simp only[P'];rfl
    show bc p C inp { M.aW (MC.push { c with at_:=((k+1:Nat):Int)+1 } (vI (nth inp M.in_.toNat)))with in_:=M.in_+1 } m1;rw[e];exact g
  rw[if_neg k19]at Uv UT;by_cases k20:(ao p x).kind=20
  ·rw[if_pos k20]at Uv UT;obtain⟨y,hly,Yb⟩:=(hs.ok.aa.shape x.toNat b3).1.one (.inr (.inr (.inr (.inr (.inr k20)))));have hly:(ao p x).l=[y]:=hly;have Yz:nth (ao p x).l 0=y:=by rw[hly];rfl
   rw[Yz]at Uv UT;obtain⟨y1,y2,y3,y4⟩:=b4.aF hs hj (b:=y) (by rw[hly];simp);have Zf:=Uv.1.last;rw[List.length_append,List.length_singleton]at Uv UT;rcases yV (inp:=inp) hs h1 h8 hM.st hM.cells hM.rg hj (slots:=c.slots) hc.sl hc.rg n y (k+1) c y2 y4 y1 Yb jB rfl Vm Zf.1 (fun v hv=>by rw[P']at hv;cases hv) (by rw[P'];show 0+y.toNat<=900;omega)with⟨v,q,hv,g⟩|⟨t,ht,g⟩
   rotate_left
   ·exact⟨_,g,v8 hM hc hmA (.inr rfl) jB⟩
   rw[P',List.nil_append,<-Int.natCast_add]at g;generalize hX:bo p n y ((k+1:Nat):Int)=X at*;have go:∀m',bc p C inp ((M.aW { c with at_:=((k+1+X.length:Nat):Int)+1,stack:=[v],aT:=q }).ins p C inp (iI 13 0)) m'->bc p C inp (M.aW c) m':=fun m' g'=>g.trans (go1 ⟨_,by rw[List.drop_eq_getElem_cons Zf.2.1,<-fO Zf.2.1,Zf.2.2];rfl⟩ hv (.inl rfl) g')
   rw[MV.qM,MV.bp h1,last1,MV.df h1,cut1,MV.eF h1,MV.eF h1,MV.fp h1,nat1]at go;by_cases hq:v.n<0\/16<v.n
   ·rw[if_pos hq]at go;exact⟨_,go _ (bc.refl _),stop _ _ _ _ _ (.inr rfl) jC⟩
   rw[if_neg hq]at go;by_cases hq2:40<gr M.heap+v.n+1
   ·have Z6:40<gr (M.aW { c with at_:=((k+1+X.length+1:Nat):Int),stack:=[v],aT:=q }).heap+v.n+1:=hq2;rw[if_pos Z6]at go;exact⟨_,go _ (bc.refl _),stop _ _ _ _ _ (.inr rfl) jC⟩
   have Z6:¬40<gr (M.aW { c with at_:=((k+1+X.length+1:Nat):Int),stack:=[v],aT:=q }).heap+v.n+1:=hq2;rw[if_neg Z6]at go;have Vy:gr (M.heap++[List.replicate v.n.toNat 0])<=40:=by rw[Hd,List.length_replicate];omega
   have hhl:=Uc M.heap;obtain⟨m1,g',d⟩:=finr { M with heap:=M.heap++[List.replicate v.n.toNat 0] } (k+1+(X.length+1)) (q+1-1) ⟨4,M.heap.length+1,sE⟩ ⟨hM.one,hM.dX,hM.st,hM.tr,hM.low,Vy,fun l hl x hx=>by
    rcases List.mem_append.1 hl with hl|hl
    ·exact hM.rg l hl x hx
    ·rw[List.mem_singleton.1 hl]at hx;rw[(List.mem_replicate.1 hx).2];exact rP⟩ ⟨by show bD ((M.heap.length:Int)+1);have:=hM.cells;unfold bD;omega,by show sE.size<=40;decide⟩ Uv.2.1 (hF _ Uv.2.2) (by rw[show k+1+(X.length+1)+1=k+(X.length+1+1+1) from jB];exact UT)
   exact⟨m1,go _ g',d⟩
  rw[if_neg k20]at Uv UT;by_cases k21:(ao p x).kind=21
  ·rw[if_pos k21]at Uv UT;exact E8 hs hE hCl hM hc hmA P' Vm b1 b3 k21 b4 b2 Uv.1 Uv.2.1 (hF _ Uv.2.2) (by rw[show k+1+(cF p n x ((k+1:Nat):Int)).length+1=k+((cF p n x ((k+1:Nat):Int)).length+1+1) from jB];exact UT)
  rw[if_neg k21]at Uv UT;have Vb:cR (bX p.aa.nodes x):=by
   rcases YX with h|h|h|h
   ·exact h
   ·exact(k19 h).elim
   ·exact(k20 h).elim
   ·exact(k21 h).elim
  exact first x Xb Vb Uv.1 fun v q hv=>finr M _ q v hM hv Uv.2.1 (hF _ Uv.2.2) (by rw[show k+1+(bo p n x ((k+1:Nat):Int)).length+1=k+((bo p n x ((k+1:Nat):Int)).length+1+1) from jB];exact UT)
 ·-- put
  obtain⟨x,y,u',Vb,Yb⟩:=sh.two (.inr e);have u':(ao p a).l=[x,y]:=u';have VI:nth (ao p a).l 0=x:=by rw[u'];rfl
  have Yz:nth (ao p a).l 1=y:=by rw[u'];rfl
  rw[jN,if_pos e,VI,Yz]at e0;rw[e0]at hC UT;have hC:=hC.head.2.2;have VH:=Xl (by unfold ju;omega);have hxC:=hC.last.1.app.1;have hyC:=hC.last.1.app.2;have Uv:=hC.last.2;simp only[List.length_cons,List.length_append,List.length_nil]at Uv UT;refine first x (by rw[u'];simp) Vb hxC fun v q hv=>?_
  generalize hX:bo p n x ((k+1:Nat):Int)=X at*;rw[<-Int.natCast_add]at hyC Uv UT;rcases ex M { c with at_:=((k+1+X.length:Nat):Int),stack:=[v],aT:=q } (k+1+X.length) hM (fr _ _ _) rfl rfl rfl (fun u hu=>by rw[List.mem_singleton.1 hu];exact hv) jE y (by rw[u'];simp) Yb hyC with⟨w,q2,hw,g⟩|⟨t,ht,g⟩
  rotate_left
  ·exact⟨_,g,stop _ _ _ _ _ (.inr rfl) jB⟩
  rw[<-Int.natCast_add]at g;generalize hY:bo p n y ((k+1+X.length:Nat):Int)=Y at*;rw[<-Nat.add_assoc]at Uv;have go:∀m',bc p C inp ((M.aW { c with at_:=((k+1+X.length+Y.length:Nat):Int)+1,stack:=[v]++[w],aT:=q2 }).ins p C inp (iI 12 (nth p.slots a.toNat))) m'->bc p C inp (M.aW { c with at_:=((k+1+X.length:Nat):Int),stack:=[v],aT:=q }) m':=fun m' g'=>g.trans
   (bc.ins (c:={ c with at_:=((k+1+X.length+Y.length:Nat):Int),stack:=[v]++[w],aT:=q2 }) h1 h8 hM.st rfl Uv.1 Uv.2 (fun h=>by cases h) (oC h1 h8 rfl Uv.1 Uv.2 (vF (fun u hu=>by rw[List.mem_singleton.1 hu];exact hv) hw) jE ⟨by show(1:Int)<=12;decide,by show(12:Int)<=23;decide⟩ 2 jE (fun h=>by cases h) (fun h=>by cases h) (fun _=>VH) (fun h=>by cases h)) g')
  have c2:MC.cut { c with at_:=((k+1+X.length+Y.length:Nat):Int)+1,stack:=[v]++[w],aT:=q2 } 2={ c with at_:=((k+1+X.length+Y.length+1:Nat):Int),stack:=[],aT:=q2+2 }:=rfl;have l1:MC.last (MC.cut { c with at_:=((k+1+X.length+Y.length:Nat):Int)+1,stack:=[v]++[w],aT:=q2 } 1)=v:=rfl;have l2:MC.last { c with at_:=((k+1+X.length+Y.length:Nat):Int)+1,stack:=[v]++[w],aT:=q2 }=w:=rfl;rw[MV.rZ,MV.bp h1,l1,l2,MV.df h1,c2,MV.eF h1,MV.ki]at go;have WZ:=Dl hM.cells hM.rg (fc c.slots (nth p.slots a.toNat) 4).n;by_cases hb:v.n<0\/((MV.bn M.heap (fc c.slots (nth p.slots a.toNat) 4).n).length:Int)<=v.n
  ·have Vv:v.n<0\/((MV.bn M.heap (fc (MC.slots { c with at_:=((k+1+X.length+Y.length:Nat):Int)+1,stack:=[v]++[w],aT:=q2 }) (nth p.slots a.toNat) 4).n).length:Int)<=v.n:=hb;rw[if_pos Vv]at go;exact⟨_,go _ (bc.refl _),stop _ _ _ _ _ (.inr rfl) jC⟩
  ·have Vv:¬(v.n<0\/((MV.bn M.heap (fc (MC.slots { c with at_:=((k+1+X.length+Y.length:Nat):Int)+1,stack:=[v]++[w],aT:=q2 }) (nth p.slots a.toNat) 4).n).length:Int)<=v.n):=hb;rw[if_neg Vv]at go;generalize hg:(fc c.slots (nth p.slots a.toNat) 4).n=g4 at*;have Vy:gr (M.heap.set (g4-1).toNat ((nth M.heap (g4-1).toNat).set v.n.toNat w.n))<=40:=by
    by_cases O':(g4-1).toNat<M.heap.length
    ·rw[DV _ _ _ O' (by rw[List.length_set])];exact hM.cells
    ·rw[List.set_eq_of_length_le jB];exact hM.cells
   obtain⟨m1,g',d⟩:=cont { M with heap:=M.heap.set (g4-1).toNat ((nth M.heap (g4-1).toNat).set v.n.toNat w.n) } (k+1+X.length+Y.length+1) (q2+2) ⟨hM.one,hM.dX,hM.st,hM.tr,hM.low,Vy,SO hM.rg _ _ hw.1⟩ (by rw[show k+1+X.length+Y.length+1=k+(X.length+Y.length+(0+1)+1) from jB];exact UT);exact⟨m1,go _ g',d⟩
 ·-- do
  obtain⟨x,u',ha8⟩:=sh.tx e;have u':(ao p a).l=[x]:=u';have VI:nth (ao p a).l 0=x:=by rw[u'];rfl
  rw[jN,jN,if_pos e,VI]at e0;rw[e0]at hC UT;have hC:=hC.head.2.2.last;obtain⟨b1,b2,b3,b4⟩:=aF x (by rw[u'];simp);rw[List.length_cons,List.length_append,List.length_singleton]at UT;exact E8 hs hE hCl hM hc hmA P' Vm b1 b3 ha8 b4 b2 hC.1 hC.2.1 (.inr hC.2.2) (by rw[show k+1+(cF p n x ((k+1:Nat):Int)).length+1=k+((cF p n x ((k+1:Nat):Int)).length+1+1) from jB];exact UT)
 ·-- print
  obtain⟨x,u',Vb⟩:=sh.one (.inr (.inr (.inr (.inr (.inl e)))));have u':(ao p a).l=[x]:=u';have VI:nth (ao p a).l 0=x:=by rw[u'];rfl
  rw[jN,jN,jN,if_pos e,VI]at e0;rw[e0]at hC UT;have hC:=hC.head.2.2;rw[List.length_cons,List.length_append,List.length_singleton]at UT;refine first x (by rw[u'];simp) Vb hC.last.1 fun v q hv=>?_
  have Uz:=hC.app.2;generalize hX:bo p n x ((k+1:Nat):Int)=X at*;have go:∀m',_->bc p C inp (M.aW { c with at_:=((k+1+X.length:Nat):Int),stack:=[v],aT:=q }) m':=fun m'=>go1 (m':=m') Uz hv (.inr (.inl rfl))
  rw[MV.oP,MV.bp h1,last1,MV.df h1,cut1,MV.eF h1,nat1]at go;by_cases ho:24<=M.bC.length
  ·have WM:24<=(M.aW { c with at_:=((k+1+X.length+1:Nat):Int),stack:=[v],aT:=q }).bC.length:=ho;rw[if_pos WM]at go;exact⟨_,go _ (bc.refl _),stop _ _ _ _ _ (.inr rfl) jC⟩
  ·have WM:¬24<=(M.aW { c with at_:=((k+1+X.length+1:Nat):Int),stack:=[v],aT:=q }).bC.length:=ho;rw[if_neg WM]at go;obtain⟨m1,g,d⟩:=cont { M with bC:=M.bC++[mH v] } (k+1+X.length+1) (q+1) ⟨hM.one,hM.dX,hM.st,hM.tr,hM.low,hM.cells,hM.rg⟩ (by rw[show k+1+X.length+1=k+(X.length+1+1) from jB];exact UT);exact⟨m1,go _ g,d⟩
 ·-- if
  obtain⟨x,b,Vb,XF,Z7⟩:=sh.lE e;rw[jN,jN,jN,jN,jN]at e0;rcases Z7 with u'|⟨d,u',Y3⟩
  ·have u':(ao p a).l=[x,b]:=u';have VI:nth (ao p a).l 0=x:=by rw[u'];rfl
   have hb0:nth (ao p a).l 1=b:=by rw[u'];rfl
   rw[JB e (by rw[u'];show(2:Nat)≠3;decide),VI,hb0]at e0;rw[e0]at hC UT;have hC:=hC.head.2.2;refine first x (by rw[u'];simp) Vb hC.app.1.last.1 fun v q hv=>?_
   have Uz:=hC.app.1.app.2;have hB:=hC.app.2;generalize hX:bo p n x ((k+1:Nat):Int)=X at*;simp only[List.length_append,List.length_cons,List.length_nil]at hB UT;rw[<-Int.natCast_add,nat1]at Uz hB UT;generalize Xq:bv (gk p n) ((k+1+X.length+1:Nat):Int) (ao p b).l []=B at*;rw[<-Int.natCast_add]at Uz;have c1:dU p C c.fn.toNat (k+1+X.length+1+B.length):=by rw[show k+1+X.length+1+B.length=k+(X.length+(0+1)+B.length+1) from jB];exact UT
   exact branch _ _ _ _ Uz hv c1 (blk b (by rw[u'];simp) XF _ (by rw[Xq];exact hB) (by rw[Xq];exact c1))
  ·have u':(ao p a).l=[x,b,d]:=u';have VI:nth (ao p a).l 0=x:=by rw[u'];rfl
   have hb0:nth (ao p a).l 1=b:=by rw[u'];rfl
   have hd0:nth (ao p a).l 2=d:=by rw[u'];rfl
   rw[J7 e (by rw[u'];rfl),VI,hb0,hd0]at e0;rw[e0]at hC UT;have hC:=hC.head.2.2;refine first x (by rw[u'];simp) Vb hC.app.1.app.1.last.1 fun v q hv=>?_
   have Uz:=hC.app.1.app.1.app.2;have hB:=hC.app.1.app.2.last;have hD:=hC.app.2;generalize hX:bo p n x ((k+1:Nat):Int)=X at*;simp only[List.length_append,List.length_cons,List.length_nil]at hB hD UT;rw[<-Int.natCast_add,nat1]at Uz hB hD UT;generalize Xq:bv (gk p n) ((k+1+X.length+1:Nat):Int) (ao p b).l []=B at*;have e2:(((k+1+X.length+1:Nat):Int)+(B.length:Int)+1)=((k+1+X.length+1+B.length+1:Nat):Int):=by push_cast;omega
   rw[e2]at hB hD UT;generalize hDl:bv (gk p n) ((k+1+X.length+1+B.length+1:Nat):Int) (ao p d).l []=D at*;have c1:dU p C c.fn.toNat (k+1+X.length+1+B.length+1+D.length):=by rw[show k+1+X.length+1+B.length+1+D.length=k+(X.length+(0+1)+(B.length+(0+1))+D.length+1) from jB];exact UT
   rw[show((k+1+X.length+1:Nat):Int)+((B.length:Int)+1)=((k+1+X.length+1+B.length+1:Nat):Int) by push_cast;omega]at Uz;rw[<-Int.natCast_add]at hB;have cD:=blk d (by rw[u'];simp) Y3 (k+1+X.length+1+B.length+1) (by rw[hDl];rw[show k+1+(X.length+(0+1)+(B.length+(0+1)))=k+1+X.length+1+B.length+1 from jB]at hD;exact hD) (by rw[hDl];exact c1);have cJ:dU p C c.fn.toNat (k+1+X.length+1+B.length):=.jump (k':=k+1+X.length+1+B.length+1+D.length) (by have:=hB.2.1;omega) (by have:=hB.2.2;rw[show k+1+(X.length+(0+1))+B.length=k+1+X.length+1+B.length from jB]at this;exact this) c1;exact branch _ _ _ _ Uz hv cD (blk b (by rw[u'];simp) XF _ (by rw[Xq];exact hB.1) (by rw[Xq];exact cJ))
 ·-- while
  obtain⟨x,b,u',Vb,XF⟩:=sh.eG e;rw[jN,jN,jN,jN,jN]at e0;have u':(ao p a).l=[x,b]:=u';have VI:nth (ao p a).l 0=x:=by rw[u'];rfl
  have hb0:nth (ao p a).l 1=b:=by rw[u'];rfl
  rw[Hi e,VI,hb0]at e0;have cK:dU p C c.fn.toNat k:=.mark hm.h0 hm.hn hm.hl hm.hi hm.hk hm.hC hm.h;rw[e0]at hC UT;have hC:=hC.head.2.2;refine first x (by rw[u'];simp) Vb hC.app.1.last.1 fun v q hv=>?_
  have Uz:=hC.app.1.app.2;have hB:=hC.app.2.last;generalize hX:bo p n x ((k+1:Nat):Int)=X at*;simp only[List.length_append,List.length_cons,List.length_nil]at hB UT;rw[<-Int.natCast_add,nat1]at Uz hB UT;generalize Xq:bv (gk p n) ((k+1+X.length+1:Nat):Int) (ao p b).l []=B at*;rw[show((k+1+X.length+1:Nat):Int)+((B.length:Int)+1)=((k+1+X.length+1+B.length+1:Nat):Int) by push_cast;omega]at Uz;have c1:dU p C c.fn.toNat (k+1+X.length+1+B.length+1):=by rw[show k+1+X.length+1+B.length+1=k+(X.length+(0+1)+(B.length+(0+1))+1) from jB];exact UT
  have cJ:dU p C c.fn.toNat (k+1+X.length+1+B.length):=.jump (k':=k) (by have:=hB.2.1;omega) (by have:=hB.2.2;rw[show k+1+(X.length+(0+1))+B.length=k+1+X.length+1+B.length from jB]at this;rw[this];congr 1;push_cast;omega) cK;exact branch _ _ _ _ Uz hv c1 (blk b (by rw[u'];simp) XF _ (by rw[Xq];exact hB.1) (by rw[Xq];exact cJ))
 ·-- return
  rw[jN,jN,jN,jN,if_pos e]at e0;by_cases Wj:(ao p a).l.length=0
  ·rw[if_pos Wj]at e0;rw[e0]at hC;have hx:=hC.head.2.2.head;rw[self];exact cont M (k+1) c.aT hM (.fin hx.1 hx.2.1)
  ·rw[if_neg Wj]at e0;rcases sh.ret e with h|⟨x,u',Vb⟩
   ·have h:(ao p a).l=[]:=h;rw[h]at Wj;exact(Wj rfl).elim
   have u':(ao p a).l=[x]:=u';have VI:nth (ao p a).l 0=x:=by rw[u'];rfl
   rw[VI]at e0;rw[e0]at hC;have hC:=hC.head.2.2;refine first x (by rw[u'];simp) Vb hC.last.1 fun v q hv=>?_
   have Uz:=hC.app.2;generalize hX:bo p n x ((k+1:Nat):Int)=X at*;have go:∀m',_->bc p C inp (M.aW { c with at_:=((k+1+X.length:Nat):Int),stack:=[v],aT:=q }) m':=fun m'=>go1 (m':=m') Uz hv (.inr (.inr (.inr rfl)))
   rw[MV.rn,MV.bp h1,last1,MV.df h1,cut1]at go;obtain⟨N,hN⟩:∃N,M.calls.length=N+1:=⟨M.calls.length-1,jB⟩;obtain⟨m1,g,d⟩:=F5 (inp:=inp) hM hN (fun M c k a b=>u5 N M c k a b) hv { c with at_:=((k+1+X.length:Nat):Int)+1,stack:=[],aT:=q+1 };exact⟨m1,go _ g,d⟩
end
section
variable {p:af}
def xu(hs:fX p):uX p (bz p):=fun j hj=>by
 obtain⟨k,h1,h2⟩:=(rX hs).at_ j hj;have V2:=h2.app.2.head;refine⟨k,h1,BR _ k (fun x hx=>?_) h2.app.1 (.fin V2.1 V2.2.1)⟩;have hN:=o8 hs.ok.aa hj;have hb:=hs.ok.aa.body _ (ff hj);have Uq:=(hs.aw j hj).chain.le;have I':(nth p.aa.aw j).body.toNat<p.aa.nodes.length:=by have:=hN.1;have:=hN.2;omega
 have hi:jo p j (nth p.aa.aw j).body:=⟨Uq,Nat.le_refl _⟩;obtain⟨x1,x2,x3,x4⟩:=hi.aF hs hj (b:=x) hx;exact⟨x2,by unfold mO;omega,x4,x1,(hs.ok.aa.shape _ I').1.block hb x hx⟩
def _root_.Go.Gd.MV.halt(m:MV):Prop:=m.status=2\/m.status=3
theorem MI.fA{C:aI}{m:MV}(h:MI p C m):MI p C m.fA:=⟨h.dX,h.low,h.ah,h.wB,h.st,h.tr,h.cells,h.rg⟩
variable{inp:UG}
def Qm{C:aI}(hs:fX p)(hE:uX p C)(hCl:C.entry.length=p.aa.aw.length)(hi:∀x∈inp,bD x){m:MV}(h:MI p C m)(P':¬m.halt):∃m1,bc p C inp m.eo m1/\lz p C m m1:=by obtain⟨h1,hc,V4,k,n,a,hk,hm⟩:=h.ah (fun e=>P' (.inl e));have hM:eZ p C { m with status:=0 }:=⟨h1,h.dX,rfl,h.tr,h.low,h.cells,h.rg⟩;exact Q6 hs hE hCl hi hM (c:={ m.ah with mark:=m.ah.at_,at_:=m.ah.at_+1 }) ⟨hc.f0,hc.f1,hc.sl,hc.rg⟩ hm hk V4 (by show m.ah.at_+1=_;rw[hk])
def AO{C:aI}(hs:fX p)(hE:uX p C)(inp:UG):∃m1,bc p C inp (l4 p C) m1/\lz p C (l4 p C) m1:=by
 obtain⟨j,hj,WR,_,haG⟩:=AL hs;obtain⟨ek,e1,e2⟩:=hE j hj;have hf:=hs.aw j hj;have p1:=hf.wl;have hM:eZ p C (l4 p C):=⟨by show 1<=1;decide,by show 1<=8;decide,rfl,by show(0:Int)<=0/\(0:Int)<=9;decide,fun k hk=>by have hk:k+1<1:=hk;omega,by show gr []<=40;decide,fun l hl=>by cases hl⟩
 have VO:(MV.iH p C (ii p) []).fn.toNat=j:=by show(ii p).toNat=j;rw[WR,Int.toNat_natCast]
 have Uu:nth p.size (ii p).toNat=nth p.size j:=by rw[WR,Int.toNat_natCast]
 obtain⟨m1,g,d⟩:=u5 (inp:=inp) 1 (l4 p C) (MV.iH p C (ii p) []) ek hM rfl ⟨by show 0<=ii p;omega,by show ii p<_;omega,by
  show(([]++List.replicate _ v0:List aj).length:Int)=nth p.size (ii p).toNat;rw[List.nil_append,List.length_replicate,Uu];simp only[List.length_nil];omega,fun v hv=>by
  have hv:v∈([]++List.replicate _ v0:List aj):=hv;rw[List.nil_append]at hv;rw[(List.mem_replicate.1 hv).2];exact rP⟩ rfl (by show nth C.entry (ii p).toNat=_;rw[WR,Int.toNat_natCast];exact e1) (by rw[VO];exact e2)
 exact⟨m1,g,d⟩
structure bF(p:af)(C:aI)(F:List Int->MV->MV):Prop where
 step:∀inp:List Int,(∀x∈inp,bD x)->∀m,MI p C m->¬m.halt->∃m1,bc p C inp m.eo m1/\lz p C m m1/\F inp m=m1.fA
 still:∀inp m,m.halt->F inp m=m
def Gj(hs:fX p):∃F,bF p (bz p) F:=by
 classical
 refine⟨fun inp m=>if h:¬m.halt/\∃m1,bc p (bz p) inp m.eo m1/\lz p (bz p) m m1 then(Classical.choose h.2).fA else m,fun inp hi m hm P'=>?_,fun inp m h=>by rw[dif_neg (fun h'=>h'.1 h)]⟩;have h:¬m.halt/\∃m1,bc p (bz p) inp m.eo m1/\lz p (bz p) m m1:=⟨P',Qm hs (xu hs) (rX hs).len hi hm P'⟩;have hc:=Classical.choose_spec h.2;exact⟨_,hc.1,hc.2,by rw[dif_pos h]⟩
def bF.mi{C:aI}{F:UG->MV->MV}(hF:bF p C F)(hi:∀x∈inp,bD x){m:MV}(h:MI p C m):MI p C (F inp m):=by
 by_cases e:m.halt
 ·rw[hF.still inp m e];exact h
 ·obtain⟨m1,_,d,e⟩:=hF.step inp hi m h e;rw[e];exact d.2.1.fA
theorem bF.time{C:aI}{F:UG->MV->MV}(hF:bF p C F){inp:UG}(hi:∀x∈inp,bD x){m:MV}(h:MI p C m):(F inp m).time=m.time\/((F inp m).time=m.time+1/\(F inp m).status≠1/\¬m.halt):=by
 by_cases e:m.halt
 ·exact .inl (by rw[hF.still inp m e])
 ·obtain⟨m1,_,d,e'⟩:=hF.step inp hi m h e;rw[e'];unfold MV.fA;dsimp only;split
  ·exact .inl d.2.2
  ·rename_i Vu;exact .inr ⟨by rw[d.2.2],Vu,e⟩
end
section
variable {p:af}{C:aI}{inp:UG}
def J4(m:MV)(v:aj):(m.ends v).in_=m.in_:=by unfold MV.ends;split<;>rfl
def IY(m:MV)(r:aj×Int):(m.dZ r).in_=m.in_:=by unfold MV.dZ;split<;>rfl
def Ge{c:Prop}[Decidable c]{a b:MV}{k:Int}(h:a.in_=k)(h':b.in_=k):(if c then a else b).in_=k:=by
 by_cases e:c
 ·rw[if_pos e];exact h
 ·rw[if_neg e];exact h'
def S6(m:MV)(x:ay):(m.ins p C inp x).in_=m.in_\/(m.ins p C inp x).in_=m.in_+1:=by
 by_cases h:x.op=14
 ·rw[MV.gT _ _ _ _ _ h];split
  ·exact .inl rfl
  ·exact .inr rfl
 ·left
  unfold MV.ins;simp only[h,↓reduceIte];repeat' (first|rfl|exact J4 _ _|exact IY _ _|refine Ge ?_ ?_)
def Mt{m b:MV}{k:Nat}(hb:dY p C inp k m b)(ha:m.dF C):m=b:=by cases hb with|refl=>rfl|step h0 h1=>exact(ha.elim (fun h=>h h0) h1).elim
def DR{n:Nat}{m a:MV}(h:dY p C inp n m a):∀{k b},dY p C inp k m b->a.dF C->b.dF C->a=b:=by
 induction h with|refl m=>
  intro k b hb ha _;exact Mt hb ha|@step n m m' h0 h1 hok hg ih=>
  intro k b hb ha Vv;cases hb with|refl=>exact(Vv.elim (fun h=>h h0) h1).elim|step _ _ _ hg'=>exact ih hg' ha Vv
def rF(m:MV)(k:Nat)(v:aj):MV:=m.aW { m.ah with slots:=m.ah.slots.set k v }
def E1{m:MV}(h:MI p C m)(hs:¬m.halt)(k:Nat){v:aj}(hv:bD v.n):MI p C (rF m k v):=by
 obtain⟨h1,hf,P',hm⟩:=h.ah (fun e=>hs (.inl e));have ht:(rF m k v).ah={ m.ah with slots:=m.ah.slots.set k v }:=MV.bp h1 _;have hl:(rF m k v).calls.length=m.calls.length:=MV.bM _ _;refine⟨by rw[hl];exact h.dX,fun j hj=>?_,fun _=>?_,fun e=>(hs (.inl e)).elim,h.st,h.tr,h.cells,h.rg⟩
 ·rw[hl]at hj;rw[show nth (rF m k v).calls j=nth m.calls j from(Go.Gd.dG _ _ _ _ jB).trans (jN)];exact h.low j hj
 ·rw[hl,ht];exact⟨h1,⟨hf.f0,hf.f1,by show((m.ah.slots.set k v).length:Int)=_;rw[List.length_set];exact hf.sl,Jv hf.rg _ hv⟩,P',hm⟩
end
end Go.Proofs.YtijdhbokcdpklaaGreatDoor
namespace Go.Proofs.YtijdhbokcdpklaaGreatDoor
open Go Go.Gd Tryz Go.Gd.MV
section
variable {p:af}{C:aI}{m:MV}{N:NM}{e:UD}
def M7(hR:bL p C m N e)(hs:¬(m.status=2\/m.status=3))(h1:1<=m.calls.length)(k:Nat)(hk:k<m.ah.slots.length)(hl:m.ah.slots.length<=1000)(v:aj):cW prog 232 [mP N,rI k,.agg (bV v)] e (rB true) (bj e (hn 1 N.ah.c) (.aG 42 3 ((m.ah.slots.set k v).map bV)))/\bL p C (rF m k v) N (bj e (hn 1 N.ah.c) (.aG 42 3 ((m.ah.slots.set k v).map bV))):=by
 have ht:=tX hR h1;have hT:=hR.ah h1;have Ul:=hR.ok.low;have Vs:=hR.si h1 (m.ah.slots.set k v) (List.length_set ..);have I':=hR.len;refine⟨⟨?_,hR.ok,Vs.ok,fun i hi=>?_,?_⟩,Vs⟩;rotate_left
 ·rw[bP];split
  ·simp
  ·exact hi
 ·simp only[aY,AV.all,ga hR.root,Bool.and_self,Bool.and_true,bV]
 have k2:=Vs.ok;have s2:¬m.status=2:=fun h=>hs (.inl h)
 have s3:¬m.status=3:=fun h=>hs (.inr h)
 have VH:=hT.eT;have XA:(k:Int)<(m.ah.slots.length:Int):=jB;have UW:¬(k:Int)<0:=jB;have U8:¬(m.ah.slots.length:Int)<=(k:Int):=jB;generalize hE:bj e (hn 1 N.ah.c) (.aG 42 3 ((m.ah.slots.set k v).map bV))=E at k2 ⊢;clear Vs;refine aM (L:=ids e) func232 ntmps232 ?_ (hL:=rfl);generalize hB:ids e=B;refine eW ?_
 (have W:=jA Ul (jA hR.root (jA hT.var (jA VH (jA s2 (jA s3 (jA XA (jA hk (jA UW (U8)))))))));repeat' (first|refine av fun K hK=>?_|refine au ?_|(with_reducible refine gR 3 ?_);refine dC 3 ([],[34],[]) [] (bf 0 9) mixed ?_|(refine hK _ _ ?_;clear hK K)|(refine ar ?_ ?_<;>intro hc<;>try exact jz)|refine aV 9 ?_|refine mS ht ?_|refine cT ht ?_|(refine bY ?_ ?_<;>intro hc<;>try exact jz)|refine aq ?_|exact jI|(clear hK K)))
 subst hE;refine eD (tl:=[(9,.var 42 (bV v))]) hB hR.ok k2 (fun i=>?_) (dp jC dK) [.tmp 6];rw[List.map_set];rfl
end
section
variable {p:af}{C:aI}{m:MV}{N:NM}{e:UD}(X:UH)
def Pm(hR:bL p C m N e)(h1:1<=m.calls.length)(x:ay)(hx:¬(x.op=20\/x.op=21\/x.op=22)):cW prog 134 [mP N,cP N,.agg (dq x)] e (rB false) e:=by
 have Ul:=hR.ok.low;refine⟨?_,hR.ok,hR.ok,fun _ h=>h,ik hR h1 rfl⟩;refine aM (L:=ids e) func134 ntmps134 ?_ (hL:=rfl);generalize hB:ids e=B;refine eW ?_
 (have W:=Ul;repeat' (first|refine av fun K hK=>?_|refine au ?_|(refine hK _ _ ?_;clear hK K)|(refine ar ?_ ?_<;>intro hc<;>try exact jz)|refine aV 9 ?_|refine aq ?_|exact jI|(clear hK K)))
 exact eD hB hR.ok hR.ok (fun _=>rfl) (dp jC dK) [.tmp 6]
def OH(h1:1<=m.calls.length)(b:Nat)(hd:∀k,k<m.calls.length->(nth m.calls k).stack.length<=1000):∀k,k<(m.cut b).calls.length->(nth (m.cut b).calls k).stack.length<=1000:=fun k hk=>by
 have hl:(m.cut b).calls.length=m.calls.length:=MV.bM _ _;have e1:nth (m.cut b).calls k=if k=m.calls.length-1 then m.ah.cut b else nth m.calls k:=Go.Gd.dG _ _ _ _ jB
 rw[e1];split
 ·show(m.ah.stack.take _).length<=_;have:m.ah.stack.length<=1000:=hd (m.calls.length-1) jB;rw[List.length_take];omega
 ·exact hd k jB
def yu(x:aj):k8 (bV x)=true:=rfl
def Su(hR:bL p C m N e)(inp:UG)(x:ay)(hk:pC p C m x)(hx:x.op=20\/x.op=21\/x.op=22):kW prog 134 [mP N,cP N,.agg (dq x)] e X (rB true) (fun N' l=>bL p C (m.ins p C inp x) N' l/\N'.k=N.k):=by
 have h1:=hk.calls;have Ul:=hR.ok.low;have hT:=hR.ah h1;have hl:=hR.len;by_cases h22:x.op=22
 ·have ei:m.ins p C inp x=m.ends (vZ x.a):=IF _ _ _ _ _ h22;rw[ei];obtain⟨N',l,Us,hU,hp⟩:=Hy X hR h1 (vZ x.a) hk.deep;refine⟨N',l,Us,hU,⟨?_,hR.ok,hp.e2,hU.aX,ik hR h1 rfl⟩⟩;refine aM (L:=ids e) func134 ntmps134 ?_ (hL:=rfl);generalize hB:ids e=B;refine eW ?_
  (have W:=Ul;repeat' (first|refine av fun K hK=>?_|refine au ?_|(refine hK _ _ ?_;clear hK K)|(refine ar ?_ ?_<;>intro hc<;>try exact jz)|refine aV 9 ?_|refine cp (Dq _) ?_|refine cT hp ?_|refine aq ?_|exact jI|(clear hK K)))
  exact eD hB hR.ok hp.e2 (fun _=>rfl) (dp jC dK) [.tmp 6]
 by_cases h21:x.op=21
 ·have ei:m.ins p C inp x=(m.cut 1).ends m.ah.last:=F0 _ _ _ _ _ h21;rw[ei];obtain⟨N1,l1,Us,U9,VR⟩:=FX X hR h1 (hk.one jB);have Zv:1<=(m.cut 1).calls.length:=by rw[show(m.cut 1).calls.length=m.calls.length from MV.bM _ _];exact h1
  obtain⟨N',l,Vt,hU,hp⟩:=Hy X Us.1 Zv m.ah.last (OH h1 1 hk.deep);rw[show mP N1=mP N by unfold mP;rw[Us.2.1]]at hp;have U6:=Us.1.ok.low;refine⟨N',l,⟨Vt.1,Vt.2.trans Us.2.1⟩,U9.trans hU,⟨?_,hR.ok,hp.e2,(U9.trans hU).aX,ik hR h1 rfl⟩⟩;refine aM (L:=ids e) func134 ntmps134 ?_ (hL:=rfl);generalize hB:ids e=B;refine eW ?_
  (have W:=jA Ul U6;repeat' (first|refine av fun K hK=>?_|refine au ?_|(refine hK _ _ ?_;clear hK K)|(refine ar ?_ ?_<;>intro hc<;>try exact jz)|refine aV 9 ?_|refine cT VR ?_|refine cT hp ?_|refine aq ?_|exact jI|(clear hK K)))
  exact eD hB hR.ok hp.e2 (fun _=>rfl) (dp jC dK) [.tmp 6]
 have h20:x.op=20:=jB;obtain⟨c1,c2,c3⟩:=hk.call h20;obtain⟨b,hb⟩:∃b:Nat,x.b=b:=⟨x.b.toNat,jB⟩;have Y4:x.b.toNat=b:=jB;rw[Y4]at c3;have WA:b<=m.ah.stack.length:=jB;have hdp:=hk.ah;have VE:=hR.Cd h1 b WA;have U9:Up X e (bj e (hn 0 N.ah.c) (.var 174 (MV.cE (m.ah.cut b) ⟨N.ah.c,N.ah.v,m.ah.stack.drop (m.ah.stack.length-b)++N.ah.jk⟩))):=Up.put _ (.inl (by rw[hT.var];simp));have eC:MV.cE (m.ah.cut b) ⟨N.ah.c,N.ah.v,m.ah.stack.drop (m.ah.stack.length-b)++N.ah.jk⟩=[.rs (hn 2 N.ah.v) (m.ah.stack.length+N.ah.jk.length) 3 (m.ah.stack.length-b),.raw (.int .i64 m.ah.fn),.raw (.int .i64 m.ah.at_),.raw (.int .i64 m.ah.mark),.rs (hn 1 N.ah.c) m.ah.slots.length 3 m.ah.slots.length]:=by
  have e1:(m.ah.cut b).stack.length=m.ah.stack.length-b:=by show(m.ah.stack.take _).length=_;rw[List.length_take];omega
  unfold MV.cE;rw[e1,List.length_append,List.length_drop,show m.ah.stack.length-b+(m.ah.stack.length-(m.ah.stack.length-b)+N.ah.jk.length)=m.ah.stack.length+N.ah.jk.length from jB];rfl
 rw[eC]at VE U9;have Uo:=Ho (m.ah.stack.drop (m.ah.stack.length-b)) (by rw[List.length_drop];omega) 10;have W8:(m.cut b).calls.length=m.calls.length:=MV.bM _ _;have U6:=VE.ok.low;by_cases h8:8<=m.calls.length
 ·have ei:m.ins p C inp x=(m.cut b).stops 3 3:=by rw[BV _ _ _ _ _ h20,if_pos h8,Y4]
  rw[ei];obtain⟨N',l,Vt,hU,hp⟩:=xZ X VE jB 3 3;refine⟨N',l,⟨Vt.1,Vt.2.1⟩,U9.trans hU,⟨?_,hR.ok,hp.e2,(U9.trans hU).aX,ik hR h1 rfl⟩⟩;clear eC U9 hU;refine aM (L:=ids e) func134 ntmps134 ?_ (hL:=rfl);generalize hB:ids e=B;refine eW ?_
  (have W:=jA Ul (jA hR.root (jA hT.var (hb)));repeat' (first|refine av fun K hK=>?_|refine au ?_|(with_reducible refine gR 4 ?_);refine dE 4 (bf 0 10) mixed ?_|(refine hK _ _ ?_;clear hK K)|(refine ar ?_ ?_<;>intro hc<;>try exact jz)|refine aV 9 ?_|refine CE 10 yu Uo (by show aA (tie _ _) _=_;rw[kg,Ul _ jC];rfl) (HM m.ah.stack N.ah.jk (by show aA (tie _ _) _=_;rw[kg,hT.cI];rfl) rfl jB jC) ?_|refine cT hp ?_|refine aq ?_|exact jI|(clear hK K)))
  exact eD hB hR.ok hp.e2 (fun _=>rfl) (dp jC dK) [.tmp 6]
 ·have ei:m.ins p C inp x=(m.cut b).cQ p C x.a (m.ah.stack.drop (m.ah.stack.length-b)):=by rw[BV _ _ _ _ _ h20,if_neg h8,Y4]
  rw[ei];obtain⟨f0,f1,f2,s0,s1,s2,b1,h8'⟩:=c3 jB;obtain⟨N',l,Vt,hU,hp⟩:=DW X VE x.a (m.ah.stack.drop (m.ah.stack.length-b)) ⟨f0,f1,f2,s0,s1,s2,b1,by rw[W8];exact h8'⟩;refine⟨N',l,⟨Vt.1,Vt.2⟩,U9.trans hU,⟨?_,hR.ok,hp.e2,(U9.trans hU).aX,ik hR h1 rfl⟩⟩;clear eC U9 hU;refine aM (L:=ids e) func134 ntmps134 ?_ (hL:=rfl);generalize hB:ids e=B;refine eW ?_
  (have W:=jA Ul (jA hR.root (jA hT.var (hb)));repeat' (first|refine av fun K hK=>?_|refine au ?_|(with_reducible refine gR 4 ?_);refine dE 4 (bf 0 10) mixed ?_|(refine hK _ _ ?_;clear hK K)|(refine ar ?_ ?_<;>intro hc<;>try exact jz)|refine aV 9 ?_|refine CE 10 yu Uo (by show aA (tie _ _) _=_;rw[kg,Ul _ jC];rfl) (HM m.ah.stack N.ah.jk (by show aA (tie _ _) _=_;rw[kg,hT.cI];rfl) rfl jB jC) ?_|refine cT hp ?_|refine aq ?_|exact jI|(clear hK K)))
  exact eD hB hR.ok hp.e2 (fun _=>rfl) (dp jC dK) [.tmp 6]
end
def O0{p:af}{C:aI}{m:MV}{n:Nat}(h:Bd n m)(hn:n<=1000)(hok:m.fS p C)(hC:C.entry.length<=1000)(hP:p.size.length<=1000):pC p C (m.aW (m.ah.jump (m.ah.at_+1))) (m.bg C):=by
 have h1:=hok.calls;have ht:(m.aW (m.ah.jump (m.ah.at_+1))).ah=m.ah.jump (m.ah.at_+1):=MV.bp h1 _;have hl:(m.aW (m.ah.jump (m.ah.at_+1))).calls.length=m.calls.length:=MV.bM _ _;have P':(m.ah.jump (m.ah.at_+1)).stack=m.ah.stack:=rfl;have VH:(m.ah.jump (m.ah.at_+1)).slots=m.ah.slots:=rfl;have Xg:(m.ah.jump (m.ah.at_+1)).last=m.ah.last:=rfl;refine⟨by rw[hl];exact h1,by rw[hl];exact hok.nb,?_,?_,?_,fun h20=>?_,?_,?_,fun k hk=>?_,?_,h.heap,h.outs,h.nQ,by have:=h.oF;show m.in_<=1000;omega⟩
 ·rw[ht,P'];exact hok.one
 ·rw[ht,P'];exact hok.two
 ·rw[ht,VH];exact hok.slot
 ·obtain⟨c1,c2,c3,c4,c5,c6,c7,c8,c9⟩:=hok.call h20;rw[ht,P'];refine⟨c1,c2,fun h8=>⟨c4,c5,c6,c7,c8,?_,⟨hC,hP⟩,hok.nb |> (by rw[hl];exact·)⟩⟩;rw[List.length_drop];omega
 ·rw[ht,Xg];exact hok.word
 ·rw[ht,P'];exact hok.j6
 ·rw[hl]at hk;have e:nth (m.aW (m.ah.jump (m.ah.at_+1))).calls k=if k=m.calls.length-1 then m.ah.jump (m.ah.at_+1)else nth m.calls k:=Go.Gd.dG _ _ _ _ jB
  rw[e];split
  ·exact hok.deep
  ·exact h.deep k jB
 ·rw[ht,VH];exact h.ah h1
def SH{h:UF}{a i:Int}(hi:¬(i<0\/((MV.bn h a).length:Int)<=i)):(a-1).toNat<h.length/\i.toNat<(nth h (a-1).toNat).length:=by
 unfold MV.bn at hi;by_cases e:a<1\/(h.length:Int)<a
 ·rw[if_pos e]at hi;simp only[List.length_nil]at hi;omega
 ·rw[if_neg e]at hi;omega
def NG{p:af}{C:aI}{m:MV}{inp:UG}{x:ay}(h:Bd inp.length m)(hk:pC p C m x):Bd inp.length (m.ins p C inp x):=by
 have h1:=hk.calls;have Wm:∀k,(m.cut k).calls.length=m.calls.length:=fun k=>MV.bM _ _
 have hc:∀k,Bd inp.length (m.cut k):=fun k=>h.cut h1 k
 have U1:∀k,1<=(m.cut k).calls.length:=fun k=>by rw[Wm];exact h1
 by_cases a:x.op=2
 ·rw[OB _ _ _ _ _ a];exact h.push h1 _
 by_cases a:x.op=3
 ·rw[Sg _ _ _ _ _ a];exact h.push h1 _
 by_cases a:x.op=4
 ·rw[R6 _ _ _ _ _ a];exact h.push h1 _
 by_cases a:x.op=5
 ·rw[S5 _ _ _ _ _ a];exact h.push h1 _
 by_cases a:x.op=6
 ·rw[Ff _ _ _ _ _ a];refine h.aW ?_;show(m.ah.slots.set _ _).length<=24;rw[List.length_set];exact hk.slots
 by_cases a:x.op=7
 ·rw[It _ _ _ _ _ a];exact(hc 2).dZ (U1 2) _
 by_cases a:x.op=8
 ·rw[H9 _ _ _ _ _ a];exact(hc 1).push (U1 1) _
 by_cases a:x.op=9
 ·rw[IW _ _ _ _ _ a];exact(hc 1).push (U1 1) _
 by_cases a:x.op=10
 ·rw[Ea _ _ _ _ _ a];exact(hc 1).push (U1 1) _
 by_cases a:x.op=11
 ·rw[Ha _ _ _ _ _ a];split
  ·exact(hc 1).stops (U1 1) _ _
  ·exact(hc 1).push (U1 1) _
 by_cases a:x.op=12
 ·rw[HG _ _ _ _ _ a];split
  ·exact(hc 2).stops (U1 2) _ _
  ·rename_i hi;refine(hc 2).nI ?_;obtain⟨q1,q2⟩:=SH hi;rw[DV _ _ _ q1 (by rw[List.length_set])];exact h.heap
 by_cases a:x.op=13
 ·rw[Ga _ _ _ _ _ a];split
  ·exact(hc 1).stops (U1 1) _ _
  ·split
   ·exact(hc 1).stops (U1 1) _ _
   ·refine((hc 1).push (U1 1) _).nI ?_;rw[Hd,List.length_replicate];omega
 by_cases a:x.op=14
 ·rw[gT _ _ _ _ _ a];split
  ·exact h.stops h1 _ _
  ·have:=h.push h1 (vI (nth inp m.in_.toNat));have h0:=h.nQ;exact⟨this.deep,this.slots,this.heap,this.outs,by show 0<=m.in_+1;omega,by show m.in_+1<=_;omega⟩
 by_cases a:x.op=15
 ·rw[Hx _ _ _ _ _ a];split
  ·exact h.stops h1 _ _
  ·have:=hc 1;exact⟨this.deep,this.slots,this.heap,by show(m.bC++[_]).length<=24;rw[List.length_append,List.length_singleton];omega,this.nQ,this.oF⟩
 by_cases a:x.op=16
 ·rw[RB _ _ _ _ _ a];exact h.aW hk.slots
 by_cases a:x.op=17
 ·rw[Tv _ _ _ _ _ a];split
  ·exact h.aW hk.slots
  ·exact hc 1
 by_cases a:x.op=18\/x.op=19
 ·rw[Mp _ _ _ _ _ a];split
  ·exact h.aW hk.slots
  ·exact hc 1
 by_cases a:x.op=20
 ·rw[BV _ _ _ _ _ a];split
  ·exact(hc _).stops (U1 _) _ _
  ·rename_i h8;obtain⟨c1,c2,c3⟩:=hk.call a;have c3:=c3 jB;refine(hc _).cQ (U1 _) ?_ c3.s1 c3.s2;rw[show(m.cut x.b.toNat).ah=m.ah.cut x.b.toNat from MV.bp h1 _];show(m.ah.stack.take _).length<=1000;have:=hk.ah;rw[List.length_take];omega
 by_cases a:x.op=21
 ·rw[F0 _ _ _ _ _ a];exact(hc 1).ends _
 by_cases a:x.op=22
 ·rw[IF _ _ _ _ _ a];exact h.ends _
 by_cases a:x.op=23
 ·rw[E6 _ _ _ _ _ a];exact hc 1
 ·rw[Qu _ _ _ _ _ jB];exact h
section
variable {p:af}{C:aI}{m:MV}{N:NM}{e:UD}(X:UH)
def L7(hR:bL p C m N e)(inp:UG)(x:ay)(hk:pC p C m x)(Vw:inp.length<=1000)(hx:x.op=14\/x.op=15):kW prog 135 [mP N,cP N,.agg (dq x),aP eI 1 inp] e X (.aQ []) (To p C (m.ins p C inp x) N):=by
 have h1:=hk.calls;have Ul:=hR.ok.low;have hdp:=hk.ah;have nQ:=hk.nQ;have oF:=hk.oF;have hou:=hk.outs;by_cases h14:x.op=14
 ·rw[gT _ _ _ _ _ h14];by_cases hw:(inp.length:Int)<=m.in_
  ·rw[if_pos hw];obtain⟨N',l,hT,hU,hp⟩:=xZ X hR h1 1 0;refine⟨N',l,hT,hU,⟨?_,hR.ok,hp.e2,hU.aX,ik hR h1 rfl⟩⟩;refine aM (L:=ids e) func135 ntmps135 ?_ (hL:=rfl);generalize hB:ids e=B;refine eW ?_
   (have W:=jA Ul (hR.root);repeat' (first|refine av fun K hK=>?_|refine au ?_|(refine hK _ _ ?_;clear hK K)|(refine ar ?_ ?_<;>intro hc<;>try exact jz)|refine aV 9 ?_|refine cT hp ?_|refine aq ?_|exact jI|(clear hK K)))
   exact eD hB hR.ok hp.e2 (fun _=>rfl) (dp jC dK) []
  ·rw[if_neg hw];obtain⟨N1,l1,Us,U9,VR⟩:=sV X hR h1 (vI (nth inp m.in_.toNat)) hdp;have Vs:=Us.1.mB (m':={ m.push (vI (nth inp m.in_.toNat))with in_:=m.in_+1 }) rfl rfl rfl;have U6:=Us.1.ok.low;have WO:=Us.1.root;rw[Us.2.1]at WO;have Vo:(m.push (vI (nth inp m.in_.toNat))).in_=m.in_:=rfl;have Vz:Up X l1 (bj l1 (hn 3 N1.k) (.var 166 (mE p C { m.push (vI (nth inp m.in_.toNat))with in_:=m.in_+1 } N1))):=Up.put _ (.inl (by rw[Us.2.1,WO];simp));refine⟨N1,_,⟨Vs,Us.2.1,Us.2.2⟩,U9.trans Vz,⟨?_,hR.ok,Vs.ok,(U9.trans Vz).aX,ik hR h1 rfl⟩⟩;have k2:=Vs.ok;clear Vs U9 Vz;generalize hE:bj l1 (hn 3 N1.k) (.var 166 (mE p C { m.push (vI (nth inp m.in_.toNat))with in_:=m.in_+1 } N1))=E at k2 ⊢;refine aM (L:=ids e) func135 ntmps135 ?_ (hL:=rfl);generalize hB:ids e=B;refine eW ?_
   (have W:=jA Ul (jA U6 (jA hR.root (jA WO (jA Us.2.1 (Vo)))));repeat' (first|refine av fun K hK=>?_|refine au ?_|(with_reducible refine gR 4 ?_);refine dE 4 (bf 0 12) mixed ?_|(refine hK _ _ ?_;clear hK K)|(refine ar ?_ ?_<;>intro hc<;>try exact jz)|refine aV 9 ?_|refine cp (ux _) ?_|refine cT VR ?_|refine aq ?_|exact jI|(clear hK K)))
   subst hE;refine eD (tl:=[(9,.var 176 (dq x))]) hB hR.ok k2 (fun i=>?_) (dp jC dK) [];have:=Us.2.1;unfold mE;rw[this];rfl
 have h15:x.op=15:=jB;rw[Hx _ _ _ _ _ h15];by_cases ho:24<=m.bC.length
 ·rw[if_pos ho];obtain⟨N',l,hT,hU,hp⟩:=xZ X hR h1 3 5;refine⟨N',l,hT,hU,⟨?_,hR.ok,hp.e2,hU.aX,ik hR h1 rfl⟩⟩;refine aM (L:=ids e) func135 ntmps135 ?_ (hL:=rfl);generalize hB:ids e=B;refine eW ?_
  (have W:=jA Ul (hR.root);repeat' (first|refine av fun K hK=>?_|refine au ?_|(refine hK _ _ ?_;clear hK K)|(refine ar ?_ ?_<;>intro hc<;>try exact jz)|refine aV 9 ?_|refine cT hp ?_|refine aq ?_|exact jI|(clear hK K)))
  exact eD hB hR.ok hp.e2 (fun _=>rfl) (dp jC dK) []
 ·rw[if_neg ho];have Wh:=hk.one jB;obtain⟨N1,l1,⟨Us,YV⟩,U9,VR,WH⟩:=wz X hR h1 Wh;have Vs:=Us.1.Cq (m':={ m.cut 1 with bC:=m.bC++[mH m.ah.last] }) rfl rfl;have U6:=Us.1.ok.low;have WO:=Us.1.root;have ho1:=Us.1.outs;rw[Us.2.1]at WO ho1;have Vz:Up X l1 (bj (bj l1 (hn 8 N1.k) (.aG 9 1 ((m.bC++[mH m.ah.last]).map eS))) (hn 3 N1.k) (.var 166 (mE p C { m.cut 1 with bC:=m.bC++[mH m.ah.last] } N1))):=by
   refine(Up.put _ (.inl ?_)).trans (Up.put _ (.inl ?_))
   ·rw[Us.2.1,ho1];simp
   ·rw[bP,if_neg (dj jB jB jB),Us.2.1,WO];simp
  have hwd:=R7 m.ah.last (hk.word h15);refine⟨N1,_,⟨Vs,Us.2.1,Us.2.2⟩,U9.trans Vz,⟨?_,hR.ok,Vs.ok,(U9.trans Vz).aX,ik hR h1 rfl⟩⟩;have k2:=Vs.ok;clear Vs U9 Vz;have ho1:aA l1 (hn 8 N.k)=some (.aG 9 1 (m.bC.map eS)):=ho1;show ab _ _ _ _ fun r l'=>r=_/\l'=bj (bj l1 (hn 8 N1.k) (.aG 9 1 ((m.bC++[mH m.ah.last]).map eS))) (hn 3 N1.k) (.var 166 (mE p C { m.cut 1 with bC:=m.bC++[mH m.ah.last] } N1))
  have k2:fQ 0 (bj (bj l1 (hn 8 N1.k) (.aG 9 1 ((m.bC++[mH m.ah.last]).map eS))) (hn 3 N1.k) (.var 166 (mE p C { m.cut 1 with bC:=m.bC++[mH m.ah.last] } N1))):=k2;generalize hE:bj (bj l1 (hn 8 N1.k) (.aG 9 1 ((m.bC++[mH m.ah.last]).map eS))) (hn 3 N1.k) (.var 166 (mE p C { m.cut 1 with bC:=m.bC++[mH m.ah.last] } N1))=E at k2 ⊢;refine aM (L:=ids e) func135 ntmps135 ?_ (hL:=rfl);generalize hB:ids e=B;refine eW ?_
  (have W:=jA Ul (jA U6 (jA hR.root (jA WO (jA ho1 (Us.2.1)))));repeat' (first|refine av fun K hK=>?_|refine au ?_|(with_reducible refine gR 9 ?_);refine qA 9 [hn 2 N.ah.v,hn 16 N.ah.c] [73] [72,1000000] [] (bf 0 15) mixed ?_|(refine hK _ _ ?_;clear hK K)|(refine ar ?_ ?_<;>intro hc<;>try exact jz)|refine aV 9 ?_|refine nN VR (WH _ _) ?_|refine cq (hwd) ?_|refine aq ?_|exact jI|(clear hK K)))
  subst hE;refine eD (tl:=[(9,.var 176 (dq x))]) hB hR.ok k2 (fun i=>?_) (dp jC dK) [];have:=Us.2.1;have e1:(m.bC++[mH m.ah.last]).length=m.bC.length+1:=jE;unfold mE;dsimp only;rw[this,List.map_append,e1];rfl
end
section
variable {p:af}{C:aI}(X:UH)
inductive sY(inp:List Int)(N:NM)(x:ay)(e l:List (Nat×Row)):Prop
 |a (h:cW prog 130 [mP N,cP N,.agg (dq x)] e (rB true) l)
 |b (h1:cW prog 130 [mP N,cP N,.agg (dq x)] e (rB false) e) (h:cW prog 131 [mP N,cP N,.agg (dq x)] e (rB true) l)
 |c (h1:cW prog 130 [mP N,cP N,.agg (dq x)] e (rB false) e) (h2:cW prog 131 [mP N,cP N,.agg (dq x)] e (rB false) e) (h:cW prog 132 [mP N,cP N,.agg (dq x)] e (rB true) l)
 |d (h1:cW prog 130 [mP N,cP N,.agg (dq x)] e (rB false) e) (h2:cW prog 131 [mP N,cP N,.agg (dq x)] e (rB false) e) (h3:cW prog 132 [mP N,cP N,.agg (dq x)] e (rB false) e) (h:cW prog 133 [mP N,cP N,.agg (dq x)] e (rB true) l)
 |e (h1:cW prog 130 [mP N,cP N,.agg (dq x)] e (rB false) e) (h2:cW prog 131 [mP N,cP N,.agg (dq x)] e (rB false) e) (h3:cW prog 132 [mP N,cP N,.agg (dq x)] e (rB false) e) (h4:cW prog 133 [mP N,cP N,.agg (dq x)] e (rB false) e) (h:cW prog 134 [mP N,cP N,.agg (dq x)] e (rB true) l)
 |f (h1:cW prog 130 [mP N,cP N,.agg (dq x)] e (rB false) e) (h2:cW prog 131 [mP N,cP N,.agg (dq x)] e (rB false) e) (h3:cW prog 132 [mP N,cP N,.agg (dq x)] e (rB false) e) (h4:cW prog 133 [mP N,cP N,.agg (dq x)] e (rB false) e) (h5:cW prog 134 [mP N,cP N,.agg (dq x)] e (rB false) e) (h:cW prog 135 [mP N,cP N,.agg (dq x),aP eI 1 inp] e (.aQ []) l)
variable{m:MV}
def LX{N:NM}{e:UD}(hR:bL p C m N e)(inp:UG)(Vw:inp.length<=1000)(x:ay)(hk:pC p C m x)(hx:2<=x.op/\x.op<=23):∃N' l,(bL p C (m.ins p C inp x) N' l/\N'.k=N.k)/\Up X e l/\sY inp N x e l:=by
 have h1:=hk.calls;by_cases a:x.op=2\/x.op=3\/x.op=4\/x.op=5
 ·obtain⟨N',l,hT,hU,hp⟩:=T1 X hR inp x hk a;exact⟨N',l,⟨hT.1,hT.2.1⟩,hU,.a hp⟩
 have n1:=Sy hR h1 x a;by_cases b:x.op=7\/x.op=8\/x.op=9\/x.op=10
 ·obtain⟨N',l,hT,hU,hp⟩:=Ks X hR inp x hk b;exact⟨N',l,⟨hT.1,hT.2.1⟩,hU,.b n1 hp⟩
 have n2:=T0 hR h1 x b;by_cases c:x.op=6\/x.op=23\/x.op=11\/x.op=12\/x.op=13
 ·obtain⟨N',l,hT,hU,hp⟩:=Tb X hR inp x hk c;exact⟨N',l,⟨hT.1,hT.2.1⟩,hU,.c n1 n2 hp⟩
 have n3:=QA hR h1 x c;by_cases d:x.op=16\/x.op=17\/x.op=18\/x.op=19
 ·obtain⟨N',l,hT,hU,hp⟩:=PN X hR inp x hk d;exact⟨N',l,⟨hT.1,hT.2.1⟩,hU,.d n1 n2 n3 hp⟩
 have n4:=MX hR h1 x d;by_cases g:x.op=20\/x.op=21\/x.op=22
 ·obtain⟨N',l,hT,hU,hp⟩:=Su X hR inp x hk g;exact⟨N',l,hT,hU,.e n1 n2 n3 n4 hp⟩
 have n5:=Pm hR h1 x g;obtain⟨N',l,hT,hU,hp⟩:=L7 X hR inp x hk Vw jB;exact⟨N',l,⟨hT.1,hT.2.1⟩,hU,.f n1 n2 n3 n4 n5 hp⟩
structure MS where
 m:MV
 N:NM
 e:List (Nat×Row)
structure Round(p:af)(C:aI)(inp:List Int)(X:List Nat)(a b:MS):Prop where
 rep:bL p C a.m a.N a.e
 st:a.m.status=0
 op:(a.m.bg C).op≠1
 calls:1<=a.m.calls.length
 a0:0<=a.m.ah.at_
 a1:a.m.ah.at_<C.ins.length
 up:Up X a.e b.e
 k:b.N.k=a.N.k
 does:sY inp a.N (a.m.bg C) (bj a.e (hn 0 a.N.ah.c) (.var 174 (MV.cE (a.m.ah.jump (a.m.ah.at_+1)) a.N.ah))) b.e
 ok:fQ 0 b.e
variable{inp:UG}
def Tf{N:NM}{e:UD}(hR:bL p C m N e)(hb:Bd inp.length m)(Vw:inp.length<=1000)(hC:C.entry.length<=1000)(hP:p.size.length<=1000)(h0:m.status=0)(h1:(m.bg C).op≠1)(hok:m.fS p C):∃N' e',Round p C inp X ⟨m,N,e⟩ ⟨m.one p C inp,N',e'⟩/\bL p C (m.one p C inp) N' e'/\Bd inp.length (m.one p C inp):=by have Uo:=hok.calls;have hx:=O0 hb Vw hok hC hP;have hT:=hR.ah Uo;have VE:=hR.j5 Uo (c':=m.ah.jump (m.ah.at_+1)) rfl rfl;have U9:Up X e (bj e (hn 0 N.ah.c) (.var 174 (MV.cE (m.ah.jump (m.ah.at_+1)) N.ah))):=Up.put _ (.inl (by rw[hT.var];simp));obtain⟨N',l,Vt,Vz,hd⟩:=LX X VE inp Vw (m.bg C) hx (by have:=hok.op;omega);have Wh:Bd inp.length (m.aW (m.ah.jump (m.ah.at_+1))):=hb.aW (hb.ah Uo);exact⟨N',l,⟨hR,h0,h1,Uo,hok.a0,hok.a1,U9.trans Vz,Vt.2,hd,Vt.1.ok⟩,Vt.1,NG Wh hx⟩
def Ky(Vw:inp.length<=1000)(hC:C.entry.length<=1000)(hP:p.size.length<=1000){n:Nat}{m':MV}(hg:dY p C inp n m m'):∀{N:NM} {e:UD},bL p C m N e->Bd inp.length m->∃f:Nat->MS,f 0=⟨m,N,e⟩/\(∀i,i<n->Round p C inp X (f i) (f (i+1)))/\(f n).m=m'/\bL p C m' (f n).N (f n).e/\Bd inp.length m':=by
 induction hg with
 |refl m=>intro N e hR hb;exact⟨fun _=>⟨m,N,e⟩,rfl,fun i hi=>jB,rfl,hR,hb⟩
 |@step n m m' h0 h1 hok _ ih=>
  intro N e hR hb;obtain⟨N1,e1,hr,VE,Wh⟩:=Tf X hR hb Vw hC hP h0 h1 hok;obtain⟨f,f0,f1,f2,f3,f4⟩:=ih VE Wh;refine⟨fun i=>match i with|0=>⟨m,N,e⟩|i+1=>f i,rfl,fun i hi=>?_,f2,f3,f4⟩;match i with
  |0=>show Round p C inp X ⟨m,N,e⟩ (f 0);rw[f0];exact hr
  |i+1=>exact f1 i jB
def GH{m':MV}{N:NM}{e:UD}(hR:bL p C m N e)(hb:Bd inp.length m)(Vw:inp.length<=1000)(hC:C.entry.length<=1000)(hP:p.size.length<=1000)(hI:C.ins.length<=1000000)(hg:bc p C inp m m')(P':m'.dF C)(Vm:m'.status=0->1<=m'.calls.length/\0<=m'.ah.at_/\m'.ah.at_<C.ins.length) :
  kW prog 113 [mP N,aP eI 1 inp] e X (.aQ []) (fun N' l=>bL p C m' N' l/\N'.k=N.k/\Bd inp.length m'):=by
 obtain⟨n,hg⟩:=hg;obtain⟨f,f0,f1,f2,f3,f4⟩:=Ky X Vw hC hP hg hR hb;have hk:∀i,i<=n->(f i).N.k=N.k/\Up X e (f i).e/\fQ 0 (f i).e:=fun i=>by
  induction i with
  |zero=>intro _;rw[f0];exact⟨rfl,Up.refl _ _,hR.ok⟩
  |succ i ih=> intro hi;obtain⟨a,b,c⟩:=ih jB;have:=f1 i jB;exact⟨this.k.trans a,b.trans this.up,this.ok⟩
 obtain⟨k1,k2,k3⟩:=hk n jl;refine⟨(f n).N,(f n).e,⟨f3,k1,f4⟩,k2,⟨?_,hR.ok,k3,k2.aX,qh hR rfl⟩⟩;refine aM (L:=ids e) func113 ntmps113 ?_ (hL:=rfl);generalize hB:ids e=B;refine eW ?_
 (repeat' (first|(with_reducible refine gR 5 ?_);refine sS [43,50,57,64] ?_|refine av fun K hK=>?_|refine au ?_|(with_reducible refine gR 2 ?_);refine dE 2 (bf 0 13) mixed ?_|(refine hK _ _ ?_;clear hK K)|(refine ar ?_ ?_<;>intro hc<;>try exact jz)|refine aq ?_|exact jI|(clear hK K)))
 refine eN (S:=Nat) [(4,68)] (fun i=>i<=n) (fun i=>[]) (fun i=>⟨B,tie (f i).e []⟩) (fun i=>n-i) 0 jB (eR (by rw[f0]) cH) ?_;rintro i hi Kr Ut;by_cases O':i<n
 ·have hr:=f1 i O';have XA:=hk i hi;obtain⟨q1,q2,q3⟩:=hk (i+1) O';obtain⟨r1,r2,r3,r4,r5,r6,r7,r8,r9,r10⟩:=hr;generalize Vv:f (i+1)=b at*;generalize f i=a at*;obtain⟨am,aN,ae⟩:=a;obtain⟨bm,bN,be⟩:=b;simp only at*;have eM:mP aN=mP N:=by unfold mP;rw[XA.1]
  have ht:=tX r1 r4;rw[eM]at ht;have hT:=r1.ah r4;have Ul:=r1.ok.low;have Wo:=r1.root;rw[XA.1]at Wo;have ha9:=r10.low;have V':∀i,i<1000->aA (bj ae (hn 0 aN.ah.c) (.var 174 (MV.cE (am.ah.jump (am.ah.at_+1)) aN.ah))) i=none:=fun i hi=>by rw[bP,if_neg (by have:=iA 0 aN.ah.c;omega)];exact Ul i hi
  have hx:nth C.ins am.ah.at_.toNat=am.bg C:=rfl;have hxo:=r3;generalize am.bg C=x at*
  (refine S ?_;try exact jI)
  rcases r9 with h|⟨h1,h⟩|⟨h1,h2,h⟩|⟨h1,h2,h3,h⟩|⟨h1,h2,h3,h4,h⟩|⟨h1,h2,h3,h4,h5,h⟩
  all_goals
   simp only[eM]at*
   (have W:=jA Ul (jA V' (jA ha9 (jA Wo (jA hT.var (jA r2 (hx))))));repeat' (first|(with_reducible refine gR 5 ?_);refine sS [43,50,57,64] ?_|refine av fun K hK=>?_|refine au ?_|(with_reducible refine gR 2 ?_);refine dE 2 (bf 0 13) mixed ?_|(refine hK _ _ ?_;clear hK K)|(refine ar ?_ ?_<;>intro hc<;>try exact jz)|refine cL 9 ?_|refine cT ht ?_|refine cT h ?_|refine cT h1 ?_|refine cT h2 ?_|refine cT h3 ?_|refine cT h4 ?_|refine cT h5 ?_|refine aq ?_|exact jI|(clear hK K)))
  all_goals exact Ut _ _ (T4 hB hR.ok r10 (dp jC dK) (i+1) jB (by show n-(i+1)<n-i;omega) (by show _=Hp.mk B (tie (f (i+1)).e []);rw[Vv]) jL)
 ·have Vo:i=n:=jB;subst Vo;have ht0:(f i).m=m':=f2;generalize f i=a at*;obtain⟨am,aN,ae⟩:=a;simp only at*;subst ht0;have eM:mP aN=mP N:=by unfold mP;rw[k1]
  have Ul:=f3.ok.low;have Wo:=f3.root;rw[k1]at Wo;by_cases h0:am.status=0
  ·obtain⟨r4,r5,r6⟩:=Vm h0;have WE:(am.bg C).op=1:=by
    rcases P' with h|h
    ·exact(h h0).elim
    ·exact h
   have ht:=tX f3 r4;rw[eM]at ht;have hT:=f3.ah r4;have hx:nth C.ins am.ah.at_.toNat=am.bg C:=rfl;generalize am.bg C=x at*;refine S ?_
   (have W:=jA Ul (jA Wo (jA hT.var (jA h0 (hx))));repeat' (first|(with_reducible refine gR 5 ?_);refine sS [43,50,57,64] ?_|refine av fun K hK=>?_|refine au ?_|(with_reducible refine gR 2 ?_);refine dE 2 (bf 0 13) mixed ?_|(refine hK _ _ ?_;clear hK K)|(refine ar ?_ ?_<;>intro hc<;>try exact jz)|refine cL 9 ?_|refine cT ht ?_|refine aq ?_|exact jI|(clear hK K)))
   exact eD hB hR.ok f3.ok (fun _=>rfl) (dp jC dK) []
  ·(refine S ?_;try exact jI)
   (have W:=jA Ul Wo;repeat' (first|(with_reducible refine gR 5 ?_);refine sS [43,50,57,64] ?_|refine av fun K hK=>?_|refine au ?_|(with_reducible refine gR 2 ?_);refine dE 2 (bf 0 13) mixed ?_|(refine hK _ _ ?_;clear hK K)|(refine ar ?_ ?_<;>intro hc<;>try exact jz)|refine aq ?_|exact jI|(clear hK K)))
   exact eD hB hR.ok f3.ok (tl:=[]) (fun _=>rfl) dK []
end
attribute [local go_sem] Ro
section
variable {p:af}{C:aI}(X:UH)
def Rn{m:MV}{N:NM}{e:UD}(hR:bL p C m N e)(inp:UG)(hs:m.status=2\/m.status=3):cW prog 228 [mP N,aP eI 1 inp] e (.aQ []) e:=by
 have Ul:=hR.ok.low;refine⟨?_,hR.ok,hR.ok,fun _ h=>h,qh hR rfl⟩;rcases hs with h|h
 all_goals
  refine aM (L:=ids e) func228 ntmps228 ?_ (hL:=rfl);generalize hB:ids e=B;refine eW ?_
  (have W:=jA Ul (jA hR.root (h));repeat' (first|refine av fun K hK=>?_|refine au ?_|(refine hK _ _ ?_;clear hK K)|(refine ar ?_ ?_<;>intro hc<;>try exact jz)|refine aq ?_|exact jI|(clear hK K)))
  exact eD hB hR.ok hR.ok (tl:=[]) (fun _=>rfl) dK []
def Ud{inp:UG}{m m1:MV}{N:NM}{e:UD}(hR:bL p C m N e)(h1:1<=m.calls.length)(hb:Bd inp.length m)(Vw:inp.length<=1000)(hC:C.entry.length<=1000)(hP:p.size.length<=1000)(hI:C.ins.length<=1000000)(P':¬(m.status=2\/m.status=3))(Vm:0<=m.ah.at_/\m.ah.at_<=1000000)(Xn:0<=m.time/\m.time<=1000000)
  (hg:bc p C inp m.eo m1) (Yo:m1.dF C) (hbe:m1.status=0->1<=m1.calls.length/\0<=m1.ah.at_/\m1.ah.at_<C.ins.length) (XU:-1<=m1.time/\m1.time<=1000000) :
  kW prog 228 [mP N,aP eI 1 inp] e X (.aQ []) (fun N' l=>bL p C m1.fA N' l/\N'.k=N.k/\Bd inp.length m1.fA):=by
 have Ul:=hR.ok.low;have hT:=hR.ah h1;have Yc:=hR.mB (m':={ m with status:=0 }) rfl rfl rfl;have ht:=tX Yc h1;have VE:=Pj hR h1;have Wh:Bd inp.length m.eo:=(hb.aW (c:={ m.ah with mark:=m.ah.at_,at_:=m.ah.at_+1 }) (hb.ah h1)).status 0 m.dn;have U9:Up X e (bj (bj e (hn 3 N.k) (.var 166 (mE p C { m with status:=0 } N))) (hn 0 N.ah.c) (.var 174 (MV.cE { m.ah with mark:=m.ah.at_,at_:=m.ah.at_+1 } N.ah))):=by
  refine(Up.put _ (.inl ?_)).trans (Up.put _ (.inl ?_))
  ·rw[hR.root];simp
  ·rw[bP,if_neg (dj jB jB jB),hT.var];simp
 obtain⟨N1,l1,⟨Vs,Uy,WA⟩,Vz,hp⟩:=GH X VE Wh Vw hC hP hI hg Yo hbe;have U6:=Vs.ok.low;have X6:=Vs.root;rw[Uy]at X6;by_cases hw:m1.status=1
 ·have et:m1.fA=m1:=by unfold MV.fA;rw[if_pos hw]
  rw[et];refine⟨N1,l1,⟨Vs,Uy,WA⟩,U9.trans Vz,⟨?_,hR.ok,Vs.ok,(U9.trans Vz).aX,qh hR rfl⟩⟩;clear U9 Vz Yc VE;refine aM (L:=ids e) func228 ntmps228 ?_ (hL:=rfl);generalize hB:ids e=B;refine eW ?_
  (have W:=jA Ul (jA U6 (jA hR.root (jA hT.var (X6))));repeat' (first|refine av fun K hK=>?_|refine au ?_|(refine hK _ _ ?_;clear hK K)|(refine ar ?_ ?_<;>intro hc<;>try exact jz)|refine cT ht ?_|refine cT hp ?_|refine aq ?_|exact jI|(clear hK K)))
  exact eD hB hR.ok Vs.ok (tl:=[]) (fun _=>rfl) dK []
 ·have et:m1.fA={ m1 with time:=m1.time+1 }:=by unfold MV.fA;rw[if_neg hw]
  rw[et];have Zd:=Vs.mB (m':={ m1 with time:=m1.time+1 }) rfl rfl rfl;have hU3:Up X l1 (bj l1 (hn 3 N1.k) (.var 166 (mE p C { m1 with time:=m1.time+1 } N1))):=Up.put _ (.inl (by rw[Vs.root];simp));refine⟨N1,_,⟨Zd,Uy,⟨WA.deep,WA.slots,WA.heap,WA.outs,WA.nQ,WA.oF⟩⟩,U9.trans (Vz.trans hU3),⟨?_,hR.ok,Zd.ok,(U9.trans (Vz.trans hU3)).aX,qh hR rfl⟩⟩;have k2:=Zd.ok;clear U9 Vz hU3 Yc VE Zd;generalize hE:bj l1 (hn 3 N1.k) (.var 166 (mE p C { m1 with time:=m1.time+1 } N1))=E at k2 ⊢;refine aM (L:=ids e) func228 ntmps228 ?_ (hL:=rfl);generalize hB:ids e=B;refine eW ?_
  (have W:=jA Ul (jA U6 (jA hR.root (jA hT.var (X6))));repeat' (first|refine av fun K hK=>?_|refine au ?_|(refine hK _ _ ?_;clear hK K)|(refine ar ?_ ?_<;>intro hc<;>try exact jz)|refine cT ht ?_|refine cT hp ?_|refine aq ?_|exact jI|(clear hK K)))
  subst hE;refine eD hB hR.ok k2 (tl:=[]) (fun i=>?_) dK [];unfold mE;rw[Uy];rfl
end
end Go.Proofs.YtijdhbokcdpklaaGreatDoor
namespace Go.Proofs.YtijdhbokcdpklaaGreatDoor
open Go Go.Gd Tryz
def Ti(x:Int):k8 (eI x)=true:=rfl
def LA(x:UI):k8 (eS x)=true:=rfl
def Pg(i:Nat):ab prog 110 [] [] (fun r l=>r=.pt i 0 0 0/\l=[(i,.var 196 [.raw (.slice none 0 0),.raw (.slice none 0 0)])]):=by
 refine aM func110 ntmps110 ?_;refine S ?_
 (repeat' (first|refine av fun K hK=>?_|refine au ?_|(refine hK _ _ ?_;clear hK K)|(refine ar ?_ ?_<;>intro hc<;>try exact jz)|refine aV i ?_|refine aq ?_|exact jI|(clear hK K)))
 (refine bW [.tmp 0] ?_ ?_<;>(try simp only[go_sem]))
def Oa(h:UF)(hl:h.length<=1000)(hf:h.flatten.length<=1000):ab prog 89 [.pt 2 0 0 0] (gM h) (fun r l=>r=aP tD 1 h/\l=gM h):=by
 refine aM func89 ntmps89 ?_;refine S ?_
 (repeat' (first|refine av fun K hK=>?_|refine au ?_|(refine hK _ _ ?_;clear hK K)|(refine ar ?_ ?_<;>intro hc<;>try exact jz)|refine aq ?_|exact jI|(clear hK K)))
 refine jw (dV.nil 5 3 28 (sz:=1) rfl jC (Or.inl rfl)) ?_
 (refine S ?_;try exact jI)
 have Ux:=hK;clear hK;refine eN (S:=Nat) [(3,2),(10,12)] (fun k=>k<=h.length) (fun k=>[(3,.rs 5 k 1 k),(10,rI k)])
  (fun k=>⟨[2,3,4],gM h++[(5,.aG 28 1 ((h.take k).map tD))]⟩) (fun k=>h.length-k) 0 jB (eR rfl cH) ?_
 rintro k hk Kr Ut;by_cases O':k<h.length
 ·have U1:=xC h k ((k:Int)+1) rfl hl hf O';have Uq:=xD h (k+1);have hof:=wh O';have Uo:=zT (nth h k) jB 6;have etk:h.take (k+1)=h.take k++[nth h k]:=by rw[List.take_succ,List.getElem?_eq_getElem O',fO O'];rfl
  refine S ?_
  (repeat' (first|refine av fun K hK=>?_|refine au ?_|(refine hK _ _ ?_;clear hK K)|(refine ar ?_ ?_<;>intro hc<;>try exact jz)|refine cm (U1) ?_|refine CE 6 Ti Uo rfl (fun w vs hw hv=>by have:=Qt (enc:=eI) h.flatten rfl rfl jB jC w vs hw hv;rw[Ps O']at this;exact this) ?_|refine aq ?_|exact jI|(clear hK K)))
  refine Ut _ _ (eQ (k+1) jB (by show h.length-(k+1)<h.length-k;omega) (by rw[etk,List.map_append];rfl) cH)
 ·have Wa:k=h.length:=jB;subst Wa;refine S ?_
  (repeat' (first|refine av fun K hK=>?_|refine au ?_|(refine hK _ _ ?_;clear hK K)|(refine ar ?_ ?_<;>intro hc<;>try exact jz)|refine Ux _ _ ?_|refine aq ?_|exact jI|(clear hK K)))
  refine fF [.tmp 2] ?_;exact cY.row (enc:=tD) h rfl rfl rfl
end Go.Proofs.YtijdhbokcdpklaaGreatDoor
namespace Go.Proofs.YtijdhbokcdpklaaGreatDoor
open Go Go.Gd Tryz Go.Gd.MV
section
variable {p:af}{C:aI}(X:UH)
def Ql{m:MV}{N:NM}{e:UD}(hR:bL p C m N e)(hl:m.heap.length<=1000)(hf:m.heap.flatten.length<=1000):cW prog 89 [.pt (hn 5 N.k) 0 0 0] e (aP tD 1 m.heap) e:=
 hR.k7 rfl rfl (Oa m.heap hl hf)
def Q9{m:MV}{N:NM}{e:UD}(hR:bL p C m N e){k:Nat}(hk:k<m.calls.length):(List.map (fun j=>[AV.pt (hn 0 j) 0 0 0]) (List.map NC.c N.cs)++List.map (fun j=>[AV.pt (hn 0 j) 0 0 0]) N.cj).getD k []=[.pt (hn 0 (nth N.cs k).c) 0 0 0]:=by have hl:=hR.len;rw[<-List.map_append];rw[List.getD_eq_getElem?_getD,List.getElem?_map,List.getElem?_append_left (by rw[List.length_map];omega),List.getElem?_map,List.getElem?_eq_getElem jB,fO jB];rfl
structure uA(C:aI)(m:MV):Prop where
 calls:m.calls.length<=8
 sel:∀k,k<m.calls.length->0<=m.fN k/\m.fN k<C.ins.length
 slots:∀k,k<m.calls.length->(nth m.calls k).slots.length<=24
 heap:gr m.heap<=40
 outs:m.bC.length<=24
 ins:C.ins.length<=1000000
def xz{m:MV}{N:NM}{e:UD}(hR:bL p C m N e)(hk:uA C m):cW prog 63 [mP N] e (.agg (lp (m.dJ C))) e:=by
 obtain⟨s1,s2,s3,s4,s5,s6⟩:=hk;rw[xc]at s4;have Ul:=hR.ok.low;have hl:=hR.len;have Zm:=Ql hR jB jB;have XV:=Si m.bC jB 8;refine⟨?_,hR.ok,hR.ok,fun _ h=>h,qh hR rfl⟩;refine aM (L:=ids e) func63 ntmps63 ?_ (hL:=rfl);generalize hB:ids e=B;refine eW ?_
 (have W:=jA Ul (hR.root);repeat' (first|refine av fun K hK=>?_|refine au ?_|(with_reducible refine gR 1 ?_);refine dC 1 ([],[],[11,20]) [27] [0,1,2,3,5,6,7,8,9,10,11,12,14,15,16,17,18,19,20,21,22,23,24,25,4,13,26,27,28] mixed ?_|(refine hK _ _ ?_;clear hK K)|(refine ar ?_ ?_<;>intro hc<;>try exact jz)|refine cL 9 ?_|refine cL 10 ?_|refine nN Zm (fun _ _ _=>.inl rfl) ?_|refine Rl 8 LA XV (by show aA (tie _ _) _=_;rw[kg,Ul _ jC];rfl) (Cv m.bC (by show aA (tie _ _) _=_;rw[kg,hR.outs];rfl) rfl) ?_|refine aq ?_|exact jI|(clear hK K)))
 refine jw (dV.gl 11 10 0 179 3 (by show aA (tie _ _) _=_;rw[kg,Ul _ jC];rfl) jC (by show aA (tie _ _) _=_;rw[kg,Ul _ jC];rfl) rfl) ?_
 (have W:=jA Ul Ul;refine S ?_;clear W;try exact jI)
 have Ux:=hK;clear hK;refine eN (S:=Nat) [(4,3),(39,46)] (fun i=>i<=m.calls.length) (fun i=>[(39,rI i)])
  (fun i=>⟨B,tie e [(9,.var 114 [.raw (.slice none 0 0),.raw (.slice none 0 0),.raw (.int .i64 0),.raw (.slice none 0 0),.raw (.int .i64 0),.raw (.int .i64 0),.raw (.int .i64 0)]),
   (10,.var 114 [.rs 11 i 3 i,aP tD 1 m.heap,.raw (.int .i64 m.in_),aP eS 1 m.bC,.raw (.int .i64 m.status),.raw (.int .i64 m.dn),.raw (.int .i64 m.time)]),(11,.aG 179 3 (((List.range i).map (m.spot C)).map qQ))]⟩)
  (fun i=>m.calls.length-i) 0 jB (eR rfl cH) ?_
 rintro i hi Kr Ut;by_cases O':i<m.calls.length
 ·have VX:=hR.call i O';have WD:=Q9 hR O';have VH:=s3 i O';obtain⟨a1,a2⟩:=s2 i O';have Yf:=Ho (nth m.calls i).slots jB 8;have hrg:List.range (i+1)=List.range i++[i]:=List.range_succ;have hlr:((List.range i).map (m.spot C)).length=i:=jE;have key:∀a:Int,m.fN i=a->nth C.ins a.toNat=nth C.ins (m.fN i).toNat:=fun a ha=>by rw[ha]
  unfold MV.fN at a1 a2;by_cases Xg:(i:Int)=(m.calls.length:Int)-1
  ·have Wb:m.fN i=(nth m.calls i).at_:=by unfold MV.fN;rw[if_pos Xg]
   rw[if_pos Xg]at a1 a2;refine S ?_
   (have W:=jA Ul (jA hR.root (jA hR.row (jA WD (jA VX.var (hl)))));repeat' (first|refine av fun K hK=>?_|refine au ?_|(with_reducible refine gR 8 ?_);refine dC 8 ([],[79],[]) [] (bf 0 25) mixed ?_|(refine hK _ _ ?_;clear hK K)|(refine ar ?_ ?_<;>intro hc<;>try exact jz)|refine FN 8 yu Yf (by show aA (tie _ _) _=_;rw[kg,Ul _ jC];rfl) (Cv (nth m.calls i).slots (by show aA (tie _ _) _=_;rw[kg,VX.eT];rfl) rfl) ?_|refine aq ?_|exact jI|(clear hK K)))
   refine Ut _ _ (eQ (i+1) jB (by show m.calls.length-(i+1)<m.calls.length-i;omega) ?_ cH);rw[hrg,List.map_append,List.map_append,List.map_singleton,List.map_singleton];unfold MV.spot;rw[Wb];rfl
  ·have Wb:m.fN i=(nth m.calls i).mark:=by unfold MV.fN;rw[if_neg Xg]
   rw[if_neg Xg]at a1 a2;refine S ?_
   (have W:=jA Ul (jA hR.root (jA hR.row (jA WD (jA VX.var (hl)))));repeat' (first|refine av fun K hK=>?_|refine au ?_|(with_reducible refine gR 8 ?_);refine dC 8 ([],[79],[]) [] (bf 0 25) mixed ?_|(refine hK _ _ ?_;clear hK K)|(refine ar ?_ ?_<;>intro hc<;>try exact jz)|refine FN 8 yu Yf (by show aA (tie _ _) _=_;rw[kg,Ul _ jC];rfl) (Cv (nth m.calls i).slots (by show aA (tie _ _) _=_;rw[kg,VX.eT];rfl) rfl) ?_|refine aq ?_|exact jI|(clear hK K)))
   refine Ut _ _ (eQ (i+1) jB (by show m.calls.length-(i+1)<m.calls.length-i;omega) ?_ cH);rw[hrg,List.map_append,List.map_append,List.map_singleton,List.map_singleton];unfold MV.spot;rw[Wb];rfl
 ·have Vo:i=m.calls.length:=jB;subst Vo;refine S ?_
  (have W:=jA Ul hl;repeat' (first|refine av fun K hK=>?_|refine au ?_|(refine hK _ _ ?_;clear hK K)|(refine ar ?_ ?_<;>intro hc<;>try exact jz)|refine Ux _ _ ?_|refine aq ?_|exact jI|(clear hK K)))
  have h9:=Ul 9 jC;have Zv:=Ul 11 jC;refine SY hB hR.ok hR.ok rfl (dp jC (dp jC (dp jC dK))) [.cell 2 114] ?_ (ho:=by simp(disch:=first|omega|assumption|fail) only[go_sem,↓reduceIte,h9];rfl) (hok:=by simp(disch:=first|omega|assumption|fail) only[go_sem,↓reduceIte,h9];first|done|decide|(repeat' (first|exact trivial|decide|(simp;done)|refine jA ?_ ?_)));have hlr:((List.range m.calls.length).map (m.spot C)).length=m.calls.length:=jE;exact bt.agg (ds:=lp (m.dJ C)) (jA (cY.row (enc:=qQ) ((List.range m.calls.length).map (m.spot C)) rfl (by show aA (tie _ _) _=_;rw[kg,Zv];rfl) hlr.symm) (jA (.same _ rfl) (jA (.same _ rfl) (jA (.same _ rfl) (jA (.same _ rfl) (jA (.same _ rfl) (jA (.same _ rfl) trivial)))))))
end
def Rk{p:af}(h:fX p):aC prog 112 [.agg (cn p)] (rI (ii p))/\pw p (bz p) MV.mz (ii p) []:=by obtain⟨j,hj,WR,US,haG⟩:=AL h;have hfs:=h.ok.aa.aw;have hC:=rX h;have Uu:=h.ok.size;have Uo:=hC.len;rw[WR];refine⟨Oy j jB hj US fun i hi e=>(h.names.one i j hi hj (by rw[e,US])).elim,?_⟩;have hfj:=h.aw j hj;have hp:=hfj.wl;have hh:=hfj.hi;have ej:((j:Int)).toNat=j:=Int.toNat_natCast j;have h0:ii p=(j:Int):=WR;exact⟨jB,jB,jB,by rw[ej];omega,by rw[ej];omega,by rw[ej];show(0:Int)<=_;omega,⟨jB,jB⟩,jC⟩
def T3{p:af}(hp:fw p)(X:UH){m1:MV}(hg:bc p (bz p) [] (l4 p (bz p)) m1)(P':m1.dF (bz p))(Vm:m1.status=0->1<=m1.calls.length/\0<=m1.ah.at_/\m1.ah.at_<(bz p).ins.length) :
  ∃N l,bL p (bz p) m1 N l/\(∀i,aA l i≠none->i ∉ X)/\Bd 0 m1/\ab prog 87 [.agg (cn p)] [] (fun r l'=>r=mP N/\l'=l):=by
 obtain⟨hmn,hbo⟩:=Rk hp.ok;have Yd:=Ld hp;have hC:=rX hp.ok;have hfs:=hp.ok.ok.aa.aw;have Uo:=hC.len;have Uu:=hp.ok.ok.size;have Wi:=hC.o0;generalize bz p=C at*;have hk:=fun a=>Dy X a 0
 generalize rR X+0=k at hk;have Yc:=TD p C k;obtain⟨N1,l1,⟨VE,U8⟩,U9,VR⟩:=DW X Yc (ii p) [] hbo;have e1:MV.mz.cQ p C (ii p) []=l4 p C:=rfl;rw[e1]at VE;have Wh:Bd 0 (l4 p C):=by
  refine⟨fun k hk=>?_,fun k hk=>?_,(by show gr []<=40;decide),(by show 0<=24;omega),(by show(0:Int)<=0;omega),(by show(0:Int)<=0;omega)⟩
  ·have:k+1<1:=hk;omega
  ·have:k<1:=hk;have:k=0:=jB;subst this;show(([]:List aj)++List.replicate _ v0).length<=24;have h1:=hbo.s1;simp only[List.nil_append,List.length_replicate,List.length_nil];omega
 obtain⟨N2,l2,⟨Vs,Uy,WA⟩,Vz,Ya⟩:=GH (inp:=[]) X VE Wh jC jB jB Wi hg P' Vm;have eM:mP N1=mP ⟨k,[],[]⟩:=by unfold mP;rw[U8]
 have eM2:mP N2=mP ⟨k,[],[]⟩:=by unfold mP;rw[Uy,U8]
 rw[eM]at Ya;rw[show aP bV 3 []=(.sl false 3 [] (bV default):AV) from rfl]at VR;have VR:=VR.args (args:=[mP ⟨k,[],[]⟩,rI (ii p),.raw (.slice none 0 0)]) (fun w vs hw hv=>wL hv (fun _ h=>h) fun us hu=>wL hu (fun _ h=>h) fun us hu=>wL hu (I6 3 _) (fun _ h=>h)) (qh Yc rfl);have Ya:=Ya.args (args:=[mP ⟨k,[],[]⟩,.raw (.slice none 0 0)]) (fun w vs hw hv=>wL hv (fun _ h=>h) fun us hu=>wL hu (I6 1 _) (fun _ h=>h)) (by have:=qh (N:=N1) VE (l:=[.raw (.slice none 0 0)]) rfl;rw[eM]at this;exact this);refine⟨N2,l2,Vs,fun i hi=>?_,WA,?_⟩
 ·rcases(U9.trans Vz).new i hi with h|h
  ·have hm:=(lJ _ _).2 h;rw[B4]at hm;simp only[List.mem_cons,List.not_mem_nil,or_false]at hm;rcases hm with rfl|rfl|rfl|rfl|rfl|rfl<;>exact hk _
  ·exact h
 ·rw[eM2];have hhn:=Pg (hn 5 k);have eC:wR C=[aP dq 4 C.ins,aP eI 1 C.entry]:=rfl;rw[eC]at Yd;rw[Bo]at Yd hmn ⊢;refine aM func87 ntmps87 ?_;have haH:=Yc.ok.low;have U6:=VE.ok.low;have V':=Vs.ok.low
  (have W:=jA haH (jA U6 (V'));repeat' (first|(with_reducible refine gR 2 ?_);refine jw (P8 p C k _) ?_|refine av fun K hK=>?_|refine au ?_|(with_reducible refine gR 1 ?_);refine dC 1 ([],[6],[7]) [] (bf 0 7) mixed ?_|(refine hK _ _ ?_;clear hK K)|(refine ar ?_ ?_<;>intro hc<;>try exact jz)|refine aV 9 ?_|refine aV (hn 3 k) ?_|refine cq (Yd) ?_|refine cN hhn ?_|refine cp (hmn) ?_|refine cT VR ?_|refine cT Ya ?_|refine aq ?_|exact jI|(clear hK K)))
  exact eD (e:=[]) rfl ⟨fun _ _ _=>rfl,List.nodup_nil,fun i r h=>by cases h⟩ Vs.ok (fun _=>rfl) (dp jC dK) [.tmp 2]
end Go.Proofs.YtijdhbokcdpklaaGreatDoor
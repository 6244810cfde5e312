/- Lemmas. No conditions. -/
import Derived.Test.YtjpcgmjaipfgdaaGreatDoorRpA
import Derived.Test.YtjpcgmjaipfgdaaGreatDoorCmG
set_option linter.all false
set_option maxHeartbeats 4000000
set_option maxRecDepth 10000
namespace Go.Gd
open Go
structure NC where
 c:Nat
 v:Nat
 jk:List aj
 deriving Inhabited
structure NM where
 k:Nat
 cs:List NC
 cj:List Nat
namespace MV
def cE(c:MC)(n:NC):TB:=[.rs (hn 2 n.v) (c.stack.length+n.jk.length) 3 c.stack.length,.raw (.int .i64 c.fn),.raw (.int .i64 c.at_),.raw (.int .i64 c.mark),.rs (hn 1 n.c) c.slots.length 3 c.slots.length]
def mE(p:af)(C:aH)(m:MV)(N:NM):TB:=kg p++[aM dj 4 C.ins,aM eI 1 C.entry,.rs (hn 4 N.k) (N.cs.length+N.cj.length) 1 N.cs.length,.pt (hn 5 N.k) 0 0 0,.rs (hn 8 N.k) m.bz.length 1 m.bz.length,.raw (.int .i64 m.in_),.raw (.int .i64 m.status),.raw (.int .i64 m.cY),.raw (.int .i64 m.time)]
structure iM(c:MC)(n:NC)(e:List (Nat×Row)):Prop where
 var:aA e (hn 0 n.c)=some (.var 217 (cE c n))
 cF:aA e (hn 2 n.v)=some (.aF 54 3 ((c.stack++n.jk).map bS))
 eN:aA e (hn 1 n.c)=some (.aF 54 3 (c.slots.map bS))
 bd:c.stack.length+n.jk.length<=2000
structure bH(p:af)(C:aH)(m:MV)(N:NM)(e:List (Nat×Row)):Prop where
 ok:fO 0 e
 root:aA e (hn 3 N.k)=some (.var 205 (mE p C m N))
 row:aA e (hn 4 N.k)=some (.aF 213 1 ((N.cs.map NC.c++N.cj).map fun j=>[.pt (hn 0 j) 0 0 0]))
 hp:aA e (hn 5 N.k)=some (.var 269 [.rs (hn 6 N.k) m.heap.flatten.length 1 m.heap.flatten.length,.rs (hn 7 N.k) m.heap.length 1 m.heap.length])
 cells:aA e (hn 6 N.k)=some (.aF 3 1 (m.heap.flatten.map eI))
 ends:aA e (hn 7 N.k)=some (.aF 3 1 ((lu m.heap).map eI))
 outs:aA e (hn 8 N.k)=some (.aF 9 1 (m.bz.map eS))
 len:N.cs.length=m.calls.length
 call:∀k,k<m.calls.length->iM (nth m.calls k) (nth N.cs k) e
 nc:(N.cs.map NC.c).Nodup
 nv:(N.cs.map NC.v).Nodup
 bd:N.cs.length+N.cj.length<=1000
end MV
def NM.ah(N:NM):NC:=nth N.cs (N.cs.length-1)
def NM.ba(N:NM)(n:NC):NM:={ N with cs:=N.cs.set (N.cs.length-1) n }
attribute [go_sem] MV.cE MV.mE
variable{α:Type}
def uZ{β:Type}[Inhabited α][Inhabited β](f:α->β)(l:List α)(k:Nat)(h:k<l.length):nth (l.map f) k=f (nth l k):=by rw[fJ (by simpa using h),fJ h];simp
def Dj[Inhabited α]{l:List α}(h:l.Nodup){i j:Nat}(hi:i<l.length)(hj:j<l.length)(e:nth l i=nth l j):i=j:=by rw[fJ hi,fJ hj]at e;exact(List.getElem_inj h).1 e
def JT[Inhabited α]{l:List α}(h:l.Nodup){i:Nat}(hi:i<l.length){v:α}(hv:∀j,j<l.length->j≠i->nth l j≠v):(l.set i v).Nodup:=by
 unfold List.Nodup;rw[List.pairwise_iff_getElem];intro a b ha hb ZL e;rw[List.length_set]at ha hb;rw[List.getElem_set,List.getElem_set]at e;split at e<;>split at e
 ·omega
 ·rename_i h1 h2;exact hv b hb jB (by rw[fJ hb];exact e.symm)
 ·rename_i h1 h2;exact hv a jB jB (by rw[fJ jB];exact e)
 ·have:=(List.getElem_inj h).1 e;omega
namespace MV
variable {p:af}{C:aH}{m:MV}{N:NM}{e:TA}
theorem bH.ah(h:bH p C m N e)(h1:1<=m.calls.length):iM m.ah N.ah e:=by have:=h.call (m.calls.length-1) jB;unfold NM.ah MV.ah;rw[h.len];exact this
def bH.ne{k j:Nat}(h:bH p C m N e)(hk:k<N.cs.length)(hj:j<N.cs.length)(hkj:k≠j):(nth N.cs k).c≠(nth N.cs j).c/\(nth N.cs k).v≠(nth N.cs j).v:=by
 constructor
 ·intro e';exact hkj (Dj h.nc (by simpa using hk) (by simpa using hj) (by rw[uZ _ _ _ hk,uZ _ _ _ hj];exact e'))
 ·intro e';exact hkj (Dj h.nv (by simpa using hk) (by simpa using hj) (by rw[uZ _ _ _ hk,uZ _ _ _ hj];exact e'))
theorem bH.ba(hR:bH p C m N e)(h1:1<=m.calls.length){c':MC}{n':NC}{e':TA}(hnc:n'.c=N.ah.c)(ok:fO 0 e')(hc:iM c' n' e')(hv:n'.v=N.ah.v\/aA e (hn 2 n'.v)=none)
  (hs:∀j,aA e j≠none->j≠hn 0 N.ah.c->j≠hn 1 N.ah.c->j≠hn 2 N.ah.v->aA e' j=aA e j):bH p C (m.ba c') (N.ba n') e':=by
 have hl:=hR.len;have kind:∀(a k:Nat) (r:Row),2<a->a<32->aA e (hn a k)=some r->aA e' (hn a k)=some r:=fun a k r h2 Vf h=>by rw[hs _ (by rw[h];simp) (dh Vf jB jB) (dh Vf jB jB) (dh Vf jB jB)];exact h
 have cs:(N.ba n').cs.map NC.c=N.cs.map NC.c:=by show(N.cs.set _ n').map NC.c=_;rw[List.map_set,hnc];unfold NM.ah;rw[<-uZ NC.c N.cs _ jB,fJ (by rw[List.length_map];omega),List.set_getElem_self]
 have ln:(N.ba n').cs.length=N.cs.length:=by show(N.cs.set _ n').length=_;simp
 have nu:∀k,nth (N.ba n').cs k=if k=N.cs.length-1 then n' else nth N.cs k:=fun k=>Go.Gd.dv _ _ _ _ jB
 have mu:∀k,nth (m.ba c').calls k=if k=m.calls.length-1 then c' else nth m.calls k:=fun k=>Go.Gd.dv _ _ _ _ jB
 have ml:(m.ba c').calls.length=m.calls.length:=by show(m.calls.set _ c').length=_;simp
 refine⟨ok,?_,?_,kind 5 _ _ jB jB hR.hp,kind 6 _ _ jB jB hR.cells,kind 7 _ _ jB jB hR.ends,kind 8 _ _ jB jB hR.outs,by rw[ln,ml];exact hl,fun k hk=>?_,by rw[cs];exact hR.nc,?_,by rw[ln];exact hR.bd⟩
 ·rw[show mE p C (m.ba c') (N.ba n')=mE p C m N by unfold mE;rw[ln];rfl];exact kind 3 _ _ jB jB hR.root
 ·rw[cs];exact kind 4 _ _ jB jB hR.row
 ·rw[ml]at hk;rw[nu,mu,hl];by_cases ek:k=m.calls.length-1
  ·rw[if_pos ek,if_pos ek];exact hc
  ·rw[if_neg ek,if_neg ek];have UJ:=hR.call k hk;obtain⟨n1,n2⟩:=hR.ne (k:=k) (j:=N.cs.length-1) jB jB jB;have n1:(nth N.cs k).c≠N.ah.c:=n1;have n2:(nth N.cs k).v≠N.ah.v:=n2;exact⟨by rw[hs _ (by rw[UJ.var];simp) (fun e=>n1 (wb jB jB e).2) (dh jB jB jB) (dh jB jB jB)];exact UJ.var,
    by rw[hs _ (by rw[UJ.cF];simp) (dh jB jB jB) (dh jB jB jB) (fun e=>n2 (wb jB jB e).2)];exact UJ.cF,
    by rw[hs _ (by rw[UJ.eN];simp) (dh jB jB jB) (fun e=>n1 (wb jB jB e).2) (dh jB jB jB)];exact UJ.eN,UJ.bd⟩
 ·show((N.cs.set _ n').map NC.v).Nodup;rw[List.map_set];refine JT hR.nv (by rw[List.length_map];omega) fun j hj VU e'=>?_
  rw[List.length_map]at hj;rw[uZ _ _ _ hj]at e';rcases hv with hv|hv
  ·rw[hv]at e';exact(hR.ne hj jB VU).2 e'
  ·have UJ:=(hR.call j jB).cF;rw[e',hv]at UJ;cases UJ
def bH.l5(hR:bH p C m N e){m':MV}(h1:m'.calls=m.calls)(h2:m'.heap=m.heap)(h3:m'.bz=m.bz):bH p C m' N (bg e (hn 3 N.k) (.var 205 (mE p C m' N))):=by
 have kind:∀(a k:Nat) (r:Row),a≠3->a<32->aA e (hn a k)=some r->aA (bg e (hn 3 N.k) (.var 205 (mE p C m' N))) (hn a k)=some r:=fun a k r h3 Vf h=>by rw[bF,if_neg (dh Vf jB h3)];exact h
 refine⟨hR.ok.put (.inr (ix _ _)) ?_,by rw[bF,if_pos rfl],kind _ _ _ jB jB hR.row,?_,?_,?_,?_,by rw[h1];exact hR.len,fun k hk=>?_,hR.nc,hR.nv,hR.bd⟩
 ·have c4:=fV hR.row;have c5:=fV hR.hp;have c8:=fV hR.outs;have up:aW (fun j=>decide (j=hn 3 N.k) || (ids e).contains j) (kg p)=true:=fT (q:=dU) (fun _ h=>by cases h) _ rfl;unfold mE;simp only[Row.cells];rw[sn,up];simp only[aW,AV.all,c4,c5,c8,Bool.or_true,Bool.and_self,aM]
 ·rw[h2];exact kind _ _ _ jB jB hR.hp
 ·rw[h2];exact kind _ _ _ jB jB hR.cells
 ·rw[h2];exact kind _ _ _ jB jB hR.ends
 ·rw[h3];exact kind _ _ _ jB jB hR.outs
 ·rw[h1]at hk ⊢;have hc:=hR.call k hk;exact⟨kind _ _ _ jB jB hc.var,kind _ _ _ jB jB hc.cF,kind _ _ _ jB jB hc.eN,hc.bd⟩
end MV
def kE(fn at_ mark:Int)(vs jk slots:List aj):TA:=[(6,.var 217 [.rs 7 (vs.length+jk.length) 3 vs.length,.raw (.int .i64 fn),.raw (.int .i64 at_),.raw (.int .i64 mark),.rs 8 slots.length 3 slots.length]),(7,.aF 54 3 ((vs++jk).map bS)),(8,.aF 54 3 (slots.map bS))]
attribute [go_sem] kE
mutual
theorem u5{f:Nat->Nat}:∀a:AV,a.all dU=true->a.bT f=a
 |.raw _,_=>by simp only[AV.bT]
 |.any,_=>by simp only[AV.bT]
 |.agg cs,h=>by simp only[AV.all]at h;simp only[AV.bT,sZ cs h]
 |.aP cs,h=>by simp only[AV.all]at h;simp only[AV.bT,sZ cs h]
 |.sl _ _ _ _,_=>by simp only[AV.bT]
 |.ip _,_=>by simp only[AV.bT]
 |.gd _ v,h=>by simp only[AV.all]at h;simp only[AV.bT,u5 v h]
 |.dP _ cs,h=>by simp only[AV.all]at h;simp only[AV.bT,sZ cs h]
 |.pt _ _ _ _,h=>by simp only[AV.all]at h;cases h
 |.rs _ _ _ _,h=>by simp only[AV.all]at h;cases h
 |.rc _ _ _ _,h=>by simp only[AV.all]at h;cases h
 |.rv _ _ _ _ _,h=>by simp only[AV.all]at h;cases h
 |.mr _,h=>by simp only[AV.all]at h;cases h
 |.bd _ fs,h=>by simp only[AV.all]at h;simp only[AV.bT,sZ fs h]
 |.iG _ v,h=>by simp only[AV.all]at h;simp only[AV.bT,u5 v h]
 |.mv _ v,h=>by simp only[AV.all]at h;simp only[AV.bT,u5 v h]
theorem sZ{f:Nat->Nat}:∀l:TB,aW dU l=true->fc f l=l
 |[],_=>rfl
 |a::l,h=>by simp only[aW,Bool.and_eq_true]at h;simp only[fc,u5 a h.1,sZ l h.2]
end
variable{α:Type}{sz:Nat}
def vz{f:Nat->Nat}{enc:α->TB}[he:bC enc sz](l:List α):(l.map enc).map (fc f)=l.map enc:=by rw[List.map_map];exact List.map_congr_left fun x _=>sZ _ (he.free x)
def oU(x y z a b c:Nat)(i:Nat):Nat:=if i=x then a else if i=y then b else if i=z then c else i+(a+b+c+1)
def wV(x y z a b c:Nat)(j:Nat):Nat:=if j=a then x else if j=b then y else if j=c then z else j-(a+b+c+1)
def FN{x y z a b c:Nat}(h1:a≠b)(h2:a≠c)(h3:b≠c)(i:Nat):wV x y z a b c (oU x y z a b c i)=i:=by
 unfold oU;split
 ·rename_i e;unfold wV;rw[if_pos rfl];exact e.symm
 ·split
  ·rename_i e;unfold wV;rw[if_neg (fun e=>h1 e.symm),if_pos rfl];exact e.symm
  ·split
   ·rename_i e;unfold wV;rw[if_neg (fun e=>h2 e.symm),if_neg (fun e=>h3 e.symm),if_pos rfl];exact e.symm
   ·unfold wV;rw[jN,jN,jN];omega
mutual
theorem zf{f:Nat->Nat}{q q':TK}(h:∀i,q i=true->q' (f i)=true):∀a:AV,a.all q=true->(a.bT f).all q'=true
 |.raw _,_=>by simp only[AV.bT,AV.all]
 |.any,_=>by simp only[AV.bT,AV.all]
 |.agg cs,k=>by simp only[AV.all]at k;simp only[AV.bT,AV.all];exact uS h cs k
 |.aP cs,k=>by simp only[AV.all]at k;simp only[AV.bT,AV.all];exact uS h cs k
 |.sl _ _ _ _,_=>by simp only[AV.bT,AV.all]
 |.ip _,_=>by simp only[AV.bT,AV.all]
 |.gd _ v,k=>by simp only[AV.all]at k;simp only[AV.bT,AV.all];exact zf h v k
 |.dP _ cs,k=>by simp only[AV.all]at k;simp only[AV.bT,AV.all];exact uS h cs k
 |.pt i _ _ _,k=>by simp only[AV.all]at k;simp only[AV.bT,AV.all];exact h i k
 |.rs i _ _ _,k=>by simp only[AV.all]at k;simp only[AV.bT,AV.all];exact h i k
 |.rc i _ _ _,k=>by simp only[AV.all]at k;simp only[AV.bT,AV.all];exact h i k
 |.rv i _ _ _ _,k=>by simp only[AV.all]at k;simp only[AV.bT,AV.all];exact h i k
 |.mr i,k=>by simp only[AV.all]at k;simp only[AV.bT,AV.all];exact h i k
 |.bd _ fs,k=>by simp only[AV.all]at k;simp only[AV.bT,AV.all];exact uS h fs k
 |.iG _ v,k=>by simp only[AV.all]at k;simp only[AV.bT,AV.all];exact zf h v k
 |.mv _ v,k=>by simp only[AV.all]at k;simp only[AV.bT,AV.all];exact zf h v k
theorem uS{f:Nat->Nat}{q q':TK}(h:∀i,q i=true->q' (f i)=true):∀l:TB,aW q l=true->aW q' (fc f l)=true
 |[],_=>rfl
 |a::l,k=>by simp only[aW,Bool.and_eq_true]at k;simp only[fc,aW,Bool.and_eq_true];exact⟨zf h a k.1,uS h l k.2⟩
end
variable{P:TL}{f:FuncId}
def ab.at{args:TB}{s s' e:TA}{r0:AV}{ρ g:Nat->Nat}(hg:∀i,g (ρ i)=i)(hc:ab P f args s fun r l=>r=r0/\l=s')(hs:∀i r,aA s i=some r->aA e (ρ i)=some (r.bT ρ))(ha:aW (fun i=>(ids s).contains i) args=true)
  (Tc:∀i r,aA s i=some r->aW (fun i=>(ids s).contains i) r.cells=true) (hn:(ids s').Nodup) (WG:∀i∈ids s',i∈ids s):ab P f (fc ρ args) e fun r l=>r=r0.bT ρ/\l=gu e (kV ρ s'):=by
 have mem:∀i,(ids s).contains i=true->(ids (kV ρ s)).contains (ρ i)=true:=fun i hi=>by rw[zu,List.contains_iff_mem];exact List.mem_map_of_mem (List.contains_iff_mem.1 hi)
 have up:∀l:TB,aW (fun i=>(ids s).contains i) l=true->aW (fun i=>(ids (kV ρ s)).contains i) (fc ρ l)=true:=fun l h=>uS mem l h
 have:=ab.more (e:=e) (ab.bT hg hc) (fun i r hi=>?_) (up _ ha) (fun i r hi=>?_) (fun r l hR=>?_)
 ·refine this.mono fun r l ⟨l0,⟨r1,l1,e1,e2,e3,e4⟩,e5⟩=>?_
  rw[e1,e3,e5,e2,e4];exact⟨rfl,rfl⟩
 ·obtain⟨j,r0,rfl,rfl,h3⟩:=wW hg hi;exact hs j r0 h3
 ·obtain⟨j,r0,rfl,rfl,h3⟩:=wW hg hi;rw[Row.gK];exact up _ (Tc j r0 h3)
 ·obtain⟨r1,l1,e1,e2,e3,e4⟩:=hR;subst e2 e4;refine⟨?_,fun i hi=>.inl ?_⟩
  ·rw[zu];exact hn.map _ (fun a b h1 h2=>h1 (by rw[<-hg a,<-hg b,h2]))
  ·obtain⟨r,hr⟩:=Option.ne_none_iff_exists'.1 hi;obtain⟨j,r0,rfl,rfl,h3⟩:=wW hg hr;obtain⟨x,hx⟩:=Option.ne_none_iff_exists'.1 ((lA _ _).1 (WG j ((lA _ _).2 (by rw[h3];simp))));rw[yg hg,hx];simp
def kJ(P:TL)(f:FuncId)(args:TB)(e:TA)(X:TE)(r0:AV)(Q:NM->List TN->Prop):Prop:=∃N' l,Q N' l/\Up X e l/\cV P f args e r0 l
namespace MV
variable {p:af}{C:aH}{m:MV}{N:NM}{e:TA}{P:TL}{f:FuncId}{rest:TB}{r0:AV}{X:TE}
def kL(N:NM)(c':MC)(jk':List aj)(e:TA):TA:=bg (bg (bg e (hn 0 N.ah.c) (.var 217 (cE c' ⟨N.ah.c,N.ah.v,jk'⟩))) (hn 2 N.ah.v) (.aF 54 3 ((c'.stack++jk').map bS))) (hn 1 N.ah.c) (.aF 54 3 (c'.slots.map bS))
def bH.mS(hR:bH p C m N e)(h1:1<=m.calls.length){c':MC}{jk':List aj}(hb:c'.stack.length+jk'.length<=2000)(Tr:aW dU rest=true)(hr:r0.all dU=true)
  (hc:ab P f (.pt 6 0 0 0::rest) (kE m.ah.fn m.ah.at_ m.ah.mark m.ah.stack N.ah.jk m.ah.slots) fun r l=>r=r0/\l=kE c'.fn c'.at_ c'.mark c'.stack jk' c'.slots) :
  (bH p C (m.ba c') (N.ba ⟨N.ah.c,N.ah.v,jk'⟩) (kL N c' jk' e)/\(N.ba ⟨N.ah.c,N.ah.v,jk'⟩).ah.c=N.ah.c)/\Up X e (kL N c' jk' e)/\cV P f (.pt (hn 0 N.ah.c) 0 0 0::rest) e r0 (kL N c' jk' e):=by
 have ht:=hR.ah h1;unfold kL;have a1:hn 0 N.ah.c≠hn 2 N.ah.v:=dh jB jB jB;have a2:hn 0 N.ah.c≠hn 1 N.ah.c:=dh jB jB jB;have a3:hn 2 N.ah.v≠hn 1 N.ah.c:=dh jB jB jB;have q6:oU 6 7 8 (hn 0 N.ah.c) (hn 2 N.ah.v) (hn 1 N.ah.c) 6=hn 0 N.ah.c:=rfl;have q7:oU 6 7 8 (hn 0 N.ah.c) (hn 2 N.ah.v) (hn 1 N.ah.c) 7=hn 2 N.ah.v:=rfl;have q8:oU 6 7 8 (hn 0 N.ah.c) (hn 2 N.ah.v) (hn 1 N.ah.c) 8=hn 1 N.ah.c:=rfl;have ea:fc (oU 6 7 8 (hn 0 N.ah.c) (hn 2 N.ah.v) (hn 1 N.ah.c)) (.pt 6 0 0 0::rest)=.pt (hn 0 N.ah.c) 0 0 0::rest:=by simp only[fc,AV.bT,q6,sZ _ Tr]
 have el:gu e (kV (oU 6 7 8 (hn 0 N.ah.c) (hn 2 N.ah.v) (hn 1 N.ah.c)) (kE c'.fn c'.at_ c'.mark c'.stack jk' c'.slots))=bg (bg (bg e (hn 0 N.ah.c) (.var 217 (cE c' ⟨N.ah.c,N.ah.v,jk'⟩))) (hn 2 N.ah.v) (.aF 54 3 ((c'.stack++jk').map bS))) (hn 1 N.ah.c) (.aF 54 3 (c'.slots.map bS)):=by simp only[kE,kV,List.map_cons,List.map_nil,gu,q6,q7,q8,Row.bT,fc,AV.bT,vz (enc:=bS) (sz:=3),cE]
 have i0:=fV ht.var;have i1:=fV ht.eN;have i2:=fV ht.cF;have no:∀l:List aj,aW dU ((l.map bS).flatten)=true:=fun l=>oQ (nt (enc:=bS) (sz:=3) _)
 have hl:=hR.len;have Xy:bH p C (m.ba c') (N.ba ⟨N.ah.c,N.ah.v,jk'⟩) (bg (bg (bg e (hn 0 N.ah.c) (.var 217 (cE c' ⟨N.ah.c,N.ah.v,jk'⟩))) (hn 2 N.ah.v) (.aF 54 3 ((c'.stack++jk').map bS))) (hn 1 N.ah.c) (.aF 54 3 (c'.slots.map bS))):=by
  refine hR.ba h1 rfl ?_ ⟨?_,?_,?_,hb⟩ (.inl rfl) fun j hj n0 n1 n2=>?_
  ·refine((hR.ok.put (.inr (ix _ _)) ?_).put (.inr (ix _ _)) ?_).put (.inr (ix _ _)) ?_
   ·simp only[Row.cells,cE,aW,AV.all,i1,i2,Bool.or_true,Bool.and_self]
   ·exact fT (fun _ h=>by cases h) _ (no _)
   ·exact fT (fun _ h=>by cases h) _ (no _)
  ·rw[bF,if_neg a2,bF,if_neg a1,bF,if_pos rfl]
  ·rw[bF,if_neg a3,bF,if_pos rfl]
  ·rw[bF,if_pos rfl]
  ·rw[bF,if_neg n1,bF,if_neg n2,bF,if_neg n0]
 have ZQ:Up X e (bg (bg (bg e (hn 0 N.ah.c) (.var 217 (cE c' ⟨N.ah.c,N.ah.v,jk'⟩))) (hn 2 N.ah.v) (.aF 54 3 ((c'.stack++jk').map bS))) (hn 1 N.ah.c) (.aF 54 3 (c'.slots.map bS))):=by
  refine((Up.put _ (.inl ?_)).trans (Up.put _ (.inl ?_))).trans (Up.put _ (.inl ?_))
  ·rw[ht.var];simp
  ·rw[bF,if_neg (fun e=>a1 e.symm),ht.cF];simp
  ·rw[bF,if_neg (fun e=>a3 e.symm),bF,if_neg (fun e=>a2 e.symm),ht.eN];simp
 refine⟨⟨Xy,?_⟩,ZQ,⟨?_,hR.ok,Xy.ok,ZQ.aU,?_⟩⟩
 ·show(nth (N.cs.set _ _) ((N.cs.set _ _).length-1)).c=_;rw[List.length_set,Go.Gd.dv _ _ _ _ jB,if_pos rfl]
 ·rw[<-ea,<-el];refine(ab.at (e:=e) (FN a1 a2 a3) hc (fun i r h=>?_) ?_ (fun i r h=>?_) ?_ (fun i h=>h)).mono fun r l ⟨e1,e2⟩=>⟨by rw[e1,u5 _ hr],e2⟩
  ·simp only[kE,aA]at h;split at h
   ·rename_i ei;subst ei;cases h;rw[q6,ht.var];simp only[cE,Row.bT,fc,AV.bT,q7,q8]
   ·split at h
    ·rename_i ei;subst ei;cases h;rw[q7,ht.cF];simp only[Row.bT,vz (enc:=bS) (sz:=3)]
    ·split at h
     ·rename_i ei;subst ei;cases h;rw[q8,ht.eN];simp only[Row.bT,vz (enc:=bS) (sz:=3)]
     ·cases h
  ·simp only[aW,Bool.and_eq_true];exact⟨rfl,fT (fun _ h=>by cases h) _ Tr⟩
  ·simp only[kE,aA]at h;split at h
   ·cases h;rfl
   ·split at h
    ·cases h;exact fT (q:=dU) (fun _ h=>by cases h) _ (no _)
    ·split at h
     ·cases h;exact fT (q:=dU) (fun _ h=>by cases h) _ (no _)
     ·cases h
  ·show([6,7,8]:TE).Nodup;decide
 ·simp only[aW,Bool.and_eq_true];exact⟨i0,fT (fun _ h=>by cases h) _ Tr⟩
def bH.cB(hR:bH p C m N e)(h1:1<=m.calls.length){c':MC}{jk':List aj}(hb:c'.stack.length+jk'.length<=2000)(Tr:aW dU rest=true)(hr:r0.all dU=true)
  (hc:ab P f (.pt 6 0 0 0::rest) (kE m.ah.fn m.ah.at_ m.ah.mark m.ah.stack N.ah.jk m.ah.slots) fun r l=>r=r0/\l=kE c'.fn c'.at_ c'.mark c'.stack jk' c'.slots) :
  kJ P f (.pt (hn 0 N.ah.c) 0 0 0::rest) e X r0 fun N' l=>bH p C (m.ba c') N' l/\N'.k=N.k/\N'.ah.c=N.ah.c:=by
 obtain⟨h2,h3,h4⟩:=hR.mS (X:=X) h1 hb Tr hr hc;exact⟨_,_,⟨h2.1,rfl,h2.2⟩,h3,h4⟩
def bH.rR(hR:bH p C m N e)(h1:1<=m.calls.length)(Tr:aW dU rest=true)(hr:r0.all dU=true)
  (hc:ab P f (.pt 6 0 0 0::rest) (kE m.ah.fn m.ah.at_ m.ah.mark m.ah.stack N.ah.jk m.ah.slots) fun r l=>r=r0/\l=kE m.ah.fn m.ah.at_ m.ah.mark m.ah.stack N.ah.jk m.ah.slots):cV P f (.pt (hn 0 N.ah.c) 0 0 0::rest) e r0 e:=by
 have ht:=hR.ah h1;obtain⟨h2,h3,h4⟩:=hR.mS (X:=[]) (c':=m.ah) (jk':=N.ah.jk) h1 ht.bd Tr hr hc;have el:kL N m.ah N.ah.jk e=e:=by unfold kL;have e0:(⟨N.ah.c,N.ah.v,N.ah.jk⟩:NC)=N.ah:=rfl;rw[e0,uo ht.var,uo ht.cF,uo ht.eN]
 rw[el]at h4;exact h4
variable{h':TC}
def bH.nI(hR:bH p C m N e){e':TA}(ok:fO 0 e')(h1:aA e' (hn 5 N.k)=some (.var 269 [.rs (hn 6 N.k) h'.flatten.length 1 h'.flatten.length,.rs (hn 7 N.k) h'.length 1 h'.length]))
  (h2:aA e' (hn 6 N.k)=some (.aF 3 1 (h'.flatten.map eI))) (h3:aA e' (hn 7 N.k)=some (.aF 3 1 ((lu h').map eI))) (hs:∀j,j≠hn 5 N.k->j≠hn 6 N.k->j≠hn 7 N.k->aA e' j=aA e j):bH p C { m with heap:=h' } N e':=by
 have kind:∀(a k:Nat) (r:Row),a≠5->a≠6->a≠7->a<32->aA e (hn a k)=some r->aA e' (hn a k)=some r:=fun a k r h5 h6 h7 Vf h=>by rw[hs _ (dh Vf jB h5) (dh Vf jB h6) (dh Vf jB h7)];exact h
 exact⟨ok,kind _ _ _ jB jB jB jB hR.root,kind _ _ _ jB jB jB jB hR.row,h1,h2,h3,kind _ _ _ jB jB jB jB hR.outs,hR.len,fun k hk=> ⟨kind _ _ _ jB jB jB jB (hR.call k hk).var,kind _ _ _ jB jB jB jB (hR.call k hk).cF,kind _ _ _ jB jB jB jB (hR.call k hk).eN,(hR.call k hk).bd⟩,hR.nc,hR.nv,hR.bd⟩
def hL(N:NM)(h':TC)(e:TA):TA:=bg (bg (bg e (hn 5 N.k) (.var 269 [.rs (hn 6 N.k) h'.flatten.length 1 h'.flatten.length,.rs (hn 7 N.k) h'.length 1 h'.length])) (hn 6 N.k) (.aF 3 1 (h'.flatten.map eI))) (hn 7 N.k) (.aF 3 1 ((lu h').map eI))
def bH.pA(hR:bH p C m N e)(Tr:aW dU rest=true)(hr:r0.all dU=true)(hc:ab P f (.pt 2 0 0 0::rest) (gL m.heap) fun r l=>r=r0/\l=gL h') :
  bH p C { m with heap:=h' } N (hL N h' e)/\Up X e (hL N h' e)/\cV P f (.pt (hn 5 N.k) 0 0 0::rest) e r0 (hL N h' e):=by
 unfold hL;have a1:hn 5 N.k≠hn 6 N.k:=dh jB jB jB;have a2:hn 5 N.k≠hn 7 N.k:=dh jB jB jB;have a3:hn 6 N.k≠hn 7 N.k:=dh jB jB jB;have q6:oU 2 3 4 (hn 5 N.k) (hn 6 N.k) (hn 7 N.k) 2=hn 5 N.k:=rfl;have q7:oU 2 3 4 (hn 5 N.k) (hn 6 N.k) (hn 7 N.k) 3=hn 6 N.k:=rfl;have q8:oU 2 3 4 (hn 5 N.k) (hn 6 N.k) (hn 7 N.k) 4=hn 7 N.k:=rfl;have ea:fc (oU 2 3 4 (hn 5 N.k) (hn 6 N.k) (hn 7 N.k)) (.pt 2 0 0 0::rest)=.pt (hn 5 N.k) 0 0 0::rest:=by simp only[fc,AV.bT,q6,sZ _ Tr]
 have el:gu e (kV (oU 2 3 4 (hn 5 N.k) (hn 6 N.k) (hn 7 N.k)) (gL h'))=bg (bg (bg e (hn 5 N.k) (.var 269 [.rs (hn 6 N.k) h'.flatten.length 1 h'.flatten.length,.rs (hn 7 N.k) h'.length 1 h'.length])) (hn 6 N.k) (.aF 3 1 (h'.flatten.map eI))) (hn 7 N.k) (.aF 3 1 ((lu h').map eI)):=by simp only[gL,kV,List.map_cons,List.map_nil,gu,q6,q7,q8,Row.bT,fc,AV.bT,vz (enc:=eI) (sz:=1)]
 have i0:=fV hR.hp;have i1:=fV hR.cells;have i2:=fV hR.ends;have no:∀l:TD,aW dU ((l.map eI).flatten)=true:=fun l=>oQ (nt (enc:=eI) (sz:=1) _)
 have Xy:bH p C { m with heap:=h' } N (bg (bg (bg e (hn 5 N.k) (.var 269 [.rs (hn 6 N.k) h'.flatten.length 1 h'.flatten.length,.rs (hn 7 N.k) h'.length 1 h'.length])) (hn 6 N.k) (.aF 3 1 (h'.flatten.map eI))) (hn 7 N.k) (.aF 3 1 ((lu h').map eI))):=by
  refine hR.nI ?_ ?_ ?_ ?_ fun j n0 n1 n2=>?_
  ·refine((hR.ok.put (.inr (ix _ _)) ?_).put (.inr (ix _ _)) ?_).put (.inr (ix _ _)) ?_
   ·simp only[Row.cells,aW,AV.all,i1,i2,Bool.or_true,Bool.and_self]
   ·exact fT (fun _ h=>by cases h) _ (no _)
   ·exact fT (fun _ h=>by cases h) _ (no _)
  ·rw[bF,if_neg a2,bF,if_neg a1,bF,if_pos rfl]
  ·rw[bF,if_neg a3,bF,if_pos rfl]
  ·rw[bF,if_pos rfl]
  ·rw[bF,if_neg n2,bF,if_neg n1,bF,if_neg n0]
 have ZQ:Up X e (bg (bg (bg e (hn 5 N.k) (.var 269 [.rs (hn 6 N.k) h'.flatten.length 1 h'.flatten.length,.rs (hn 7 N.k) h'.length 1 h'.length])) (hn 6 N.k) (.aF 3 1 (h'.flatten.map eI))) (hn 7 N.k) (.aF 3 1 ((lu h').map eI))):=by
  refine((Up.put _ (.inl ?_)).trans (Up.put _ (.inl ?_))).trans (Up.put _ (.inl ?_))
  ·rw[hR.hp];simp
  ·rw[bF,if_neg (fun e=>a1 e.symm),hR.cells];simp
  ·rw[bF,if_neg (fun e=>a3 e.symm),bF,if_neg (fun e=>a2 e.symm),hR.ends];simp
 refine⟨Xy,ZQ,⟨?_,hR.ok,Xy.ok,ZQ.aU,?_⟩⟩
 ·rw[<-ea,<-el];refine(ab.at (e:=e) (FN a1 a2 a3) hc (fun i r h=>?_) ?_ (fun i r h=>?_) ?_ (fun i h=>h)).mono fun r l ⟨e1,e2⟩=>⟨by rw[e1,u5 _ hr],e2⟩
  ·simp only[gL,aA]at h;split at h
   ·rename_i ei;subst ei;cases h;rw[q6,hR.hp];simp only[Row.bT,fc,AV.bT,q7,q8]
   ·split at h
    ·rename_i ei;subst ei;cases h;rw[q7,hR.cells];simp only[Row.bT,vz (enc:=eI) (sz:=1)]
    ·split at h
     ·rename_i ei;subst ei;cases h;rw[q8,hR.ends];simp only[Row.bT,vz (enc:=eI) (sz:=1)]
     ·cases h
  ·simp only[aW,Bool.and_eq_true];exact⟨rfl,fT (fun _ h=>by cases h) _ Tr⟩
  ·simp only[gL,aA]at h;split at h
   ·cases h;rfl
   ·split at h
    ·cases h;exact fT (q:=dU) (fun _ h=>by cases h) _ (no _)
    ·split at h
     ·cases h;exact fT (q:=dU) (fun _ h=>by cases h) _ (no _)
     ·cases h
  ·show([2,3,4]:TE).Nodup;decide
 ·simp only[aW,Bool.and_eq_true];exact⟨i0,fT (fun _ h=>by cases h) _ Tr⟩
def bH.sG(hR:bH p C m N e)(Tr:aW dU rest=true)(hr:r0.all dU=true)(hc:ab P f (.pt 2 0 0 0::rest) (gL m.heap) fun r l=>r=r0/\l=gL h') :
  kJ P f (.pt (hn 5 N.k) 0 0 0::rest) e X r0 fun N' l=>bH p C { m with heap:=h' } N' l/\N'.k=N.k/\N'.ah.c=N.ah.c:=by
 obtain⟨h2,h3,h4⟩:=hR.pA (X:=X) Tr hr hc;exact⟨_,_,⟨h2,rfl,rfl⟩,h3,h4⟩
def bH.la(hR:bH p C m N e)(Tr:aW dU rest=true)(hr:r0.all dU=true)(hc:ab P f (.pt 2 0 0 0::rest) (gL m.heap) fun r l=>r=r0/\l=gL m.heap):cV P f (.pt (hn 5 N.k) 0 0 0::rest) e r0 e:=by
 obtain⟨h2,h3,h4⟩:=hR.pA (X:=[]) (h':=m.heap) Tr hr hc;have el:hL N m.heap e=e:=by unfold hL;rw[uo hR.hp,uo hR.cells,uo hR.ends]
 rw[el]at h4;exact h4
end MV
variable{H:Hp}{t:TG}
def iw.gg{r:AV}(i j k:Nat)(e:TG)(sz:Nat){cs:TB}(hi:H.get i=none)(h0:0<sz)(hj:H.get j=some (.var t cs))(hk:cs[k]?=some (.raw (.slice none 0 0))):iw r H r ((H.put i (.aF e sz [])).put j (.var t (cs.set k (.rs i 0 sz 0)))):=fun w v h1 h2=>by
 obtain⟨a,b⟩:=wD h1 hi e h0;have Zo:j≠i:=fun e=>by subst e;rw[hi]at hj;cases hj
 obtain⟨a',b'⟩:=zZ (cs':=cs.set k (.rs i 0 sz 0)) a (j:=j) (t:=t) (cs:=cs) (by rw[Hp.bj,if_neg Zo];exact hj) jE fun n x x' v hx TW hv=>by
  rw[List.getElem?_set]at TW;by_cases hn:k=n
  ·subst hn;rw[if_pos rfl]at TW;split at TW
   ·cases TW;rw[hk]at hx;cases hx;cases hv;exact .iA _ _ _ _ (NW.cw _ _ _ _)
   ·cases TW
  ·rw[if_neg hn,hx]at TW;cases TW;exact hv
 exact⟨w.name i 0 .nil,rfl,a',h2.ext b,(b.trans b').ph⟩
abbrev mP(N:NM):AV:=.pt (hn 3 N.k) 0 0 0
abbrev cP(N:NM):AV:=.pt (hn 0 N.ah.c) 0 0 0
def To(p:af)(C:aH)(m':MV)(N:NM)(N':NM)(l:TA):Prop:=MV.bH p C m' N' l/\N'.k=N.k/\N'.ah.c=N.ah.c
def NM.pop(N:NM):NM:={ N with cs:=N.cs.take (N.cs.length-1),cj:=N.ah.c::N.cj }
def NM.nJ(N:NM)(j:Nat):NM:={ N with cs:=N.cs++[⟨j,j,[]⟩],cj:=N.cj.drop 1 }
namespace MV
variable {p:af}{C:aH}{m:MV}{N:NM}{e:TA}
def bH.gA(hR:bH p C m N e){e':TA}(h:∀j,j∈ids e->j∈ids e')(m':MV)(N':NM)(hk:N'.k=N.k):aW (fun j=>(ids e').contains j) (mE p C m' N')=true:=by have c4:=List.contains_iff_mem.2 (h _ (List.contains_iff_mem.1 (fV hR.row)));have c5:=List.contains_iff_mem.2 (h _ (List.contains_iff_mem.1 (fV hR.hp)));have c8:=List.contains_iff_mem.2 (h _ (List.contains_iff_mem.1 (fV hR.outs)));have up:aW (fun j=>(ids e').contains j) (kg p)=true:=fT (q:=dU) (fun _ h=>by cases h) _ rfl;unfold mE;rw[sn,up,hk];simp only[aW,AV.all,c4,c5,c8,Bool.and_self,aM]
def S3(h1:1<=N.cs.length):N.pop.cs.map NC.c++N.pop.cj=N.cs.map NC.c++N.cj:=by
 show(N.cs.take (N.cs.length-1)).map NC.c++(N.ah.c::N.cj)=_;have e1:N.cs.take (N.cs.length-1)++[N.ah]=N.cs:=by unfold NM.ah;rw[fJ jB,List.take_append_getElem,show N.cs.length-1+1=N.cs.length from jB,List.take_length]
 have:(N.cs.take (N.cs.length-1)).map NC.c++(N.ah.c::N.cj)=((N.cs.take (N.cs.length-1)++[N.ah]).map NC.c)++N.cj:=jE;rw[this,e1]
def bH.wL(hR:bH p C m N e)(h1:1<=m.calls.length){m':MV}(hc:m'.calls=m.calls.take (m.calls.length-1))(h2:m'.heap=m.heap)(h3:m'.bz=m.bz):bH p C m' N.pop (bg e (hn 3 N.k) (.var 205 (mE p C m' N.pop))):=by
 have hl:=hR.len;have kind:∀(a k:Nat) (r:Row),a≠3->a<32->aA e (hn a k)=some r->aA (bg e (hn 3 N.k) (.var 205 (mE p C m' N.pop))) (hn a k)=some r:=fun a k r h3 Vf h=>by rw[bF,if_neg (dh Vf jB h3)];exact h
 have lt:(N.cs.take (N.cs.length-1)).length=N.cs.length-1:=by rw[List.length_take];omega
 have ml:m'.calls.length=m.calls.length-1:=by rw[hc,List.length_take];omega
 refine⟨hR.ok.put (.inr (ix _ _)) ?_,by show aA _ (hn 3 N.k)=_;rw[bF,if_pos rfl],?_,?_,?_,?_,?_,by rw[ml,<-hl];exact lt,fun k hk=>?_,?_,?_,?_⟩
 ·exact fT (fun j hj=>by rw[Bool.or_eq_true];exact .inr hj) _ (hR.gA (fun _ h=>h) m' N.pop rfl)
 ·rw[S3 jB];exact kind _ _ _ jB jB hR.row
 ·rw[h2];exact kind _ _ _ jB jB hR.hp
 ·rw[h2];exact kind _ _ _ jB jB hR.cells
 ·rw[h2];exact kind _ _ _ jB jB hR.ends
 ·rw[h3];exact kind _ _ _ jB jB hR.outs
 ·rw[ml]at hk;have UJ:=hR.call k jB;have e1:nth m'.calls k=nth m.calls k:=by
   rw[hc];unfold nth;rw[List.getD_eq_getElem?_getD,List.getElem?_take,if_pos hk,List.getD_eq_getElem?_getD]
  have e2:nth N.pop.cs k=nth N.cs k:=by show nth (N.cs.take _) k=_;unfold nth;rw[List.getD_eq_getElem?_getD,List.getElem?_take,jP,List.getD_eq_getElem?_getD]
  rw[e1,e2];exact⟨kind _ _ _ jB jB UJ.var,kind _ _ _ jB jB UJ.cF,kind _ _ _ jB jB UJ.eN,UJ.bd⟩
 ·show((N.cs.take _).map NC.c).Nodup;rw[List.map_take];exact(List.take_sublist _ _).nodup hR.nc
 ·show((N.cs.take _).map NC.v).Nodup;rw[List.map_take];exact(List.take_sublist _ _).nodup hR.nv
 ·show(N.cs.take _).length+(N.ah.c::N.cj).length<=1000;have:=hR.bd;rw[lt,List.length_cons];omega
def nF(p:af)(C:aH)(m':MV)(N:NM)(c':MC)(j:Nat)(e:TA):TA:=
 bg (bg (bg (bg (bg e (hn 1 j) (.aF 54 3 (c'.slots.map bS))) (hn 2 j) (.aF 54 3 (c'.stack.map bS))) (hn 0 j) (.var 217 (cE c' ⟨j,j,[]⟩))) (hn 4 N.k) (.aF 213 1 (((N.nJ j).cs.map NC.c++(N.nJ j).cj).map fun j=>[.pt (hn 0 j) 0 0 0]))) (hn 3 N.k) (.var 205 (mE p C m' (N.nJ j)))
def bH.CN(hR:bH p C m N e)(h8:m.calls.length<=100){m':MV}{c':MC}{j:Nat}(hc:m'.calls=m.calls++[c'])(h2:m'.heap=m.heap)(h3:m'.bz=m.bz)(j0:aA e (hn 0 j)=none)(j1:aA e (hn 1 j)=none)(j2:aA e (hn 2 j)=none)(hb:c'.stack.length<=2000) :
  bH p C m' (N.nJ j) (nF p C m' N c' j e):=by
 have hl:=hR.len;have no:∀l:List aj,aW dU ((l.map bS).flatten)=true:=fun l=>oQ (nt (enc:=bS) (sz:=3) _)
 have kind:∀(a k:Nat) (r:Row),a<32->(hn a k≠hn 1 j)->(hn a k≠hn 2 j)->(hn a k≠hn 0 j)->a≠4->a≠3->aA e (hn a k)=some r->aA (nF p C m' N c' j e) (hn a k)=some r:=fun a k r Vf n1 n2 n0 h4 h3 h=>by unfold nF;rw[bF,if_neg (dh Vf jB h3),bF,if_neg (dh Vf jB h4),bF,if_neg n0,bF,if_neg n2,bF,if_neg n1];exact h
 have oS:∀(a k:Nat) (r:Row),a<32->4<a->aA e (hn a k)=some r->aA (nF p C m' N c' j e) (hn a k)=some r:=fun a k r Vf h4 h=>kind a k r Vf (dh Vf jB jB) (dh Vf jB jB) (dh Vf jB jB) jB jB h
 have ml:m'.calls.length=m.calls.length+1:=by rw[hc];simp
 have nl:(N.nJ j).cs.length=N.cs.length+1:=by show(N.cs++[_]).length=_;simp
 refine⟨?_,by show aA _ (hn 3 N.k)=_;unfold nF;rw[bF,if_pos rfl],by show aA _ (hn 4 N.k)=_;unfold nF;rw[bF,if_neg (dh jB jB jB),bF,if_pos rfl],by rw[h2];exact oS 5 _ _ jB jB hR.hp,by rw[h2];exact oS 6 _ _ jB jB hR.cells,by rw[h2];exact oS 7 _ _ jB jB hR.ends,by rw[h3];exact oS 8 _ _ jB jB hR.outs,by rw[nl,ml,hl],fun k hk=>?_,?_,?_,?_⟩
 ·unfold nF;have k1:=((hR.ok.put (i:=hn 1 j) (r:=.aF 54 3 (c'.slots.map bS)) (.inr (ix _ _)) (fT (fun _ h=>by cases h) _ (no _))).put (i:=hn 2 j) (r:=.aF 54 3 (c'.stack.map bS)) (.inr (ix _ _)) (fT (fun _ h=>by cases h) _ (no _)));have m1:∀x,x∈ids e->x∈ids (bg (bg e (hn 1 j) (.aF 54 3 (c'.slots.map bS))) (hn 2 j) (.aF 54 3 (c'.stack.map bS))):=fun x hx=>(oE _ _ _ _).2 (.inr ((oE _ _ _ _).2 (.inr hx)))
  have i1:hn 1 j∈ids (bg (bg e (hn 1 j) (.aF 54 3 (c'.slots.map bS))) (hn 2 j) (.aF 54 3 (c'.stack.map bS))):=(oE _ _ _ _).2 (.inr ((oE _ _ _ _).2 (.inl rfl)));have i2:hn 2 j∈ids (bg (bg e (hn 1 j) (.aF 54 3 (c'.slots.map bS))) (hn 2 j) (.aF 54 3 (c'.stack.map bS))):=(oE _ _ _ _).2 (.inl rfl);generalize bg (bg e (hn 1 j) (.aF 54 3 (c'.slots.map bS))) (hn 2 j) (.aF 54 3 (c'.stack.map bS))=e1 at k1 m1 i1 i2;rw[<-List.contains_iff_mem]at i1 i2;have k2:=k1.put (i:=hn 0 j) (r:=.var 217 (cE c' ⟨j,j,[]⟩)) (.inr (ix _ _)) (by simp only[Row.cells,cE,aW,AV.all,i1,i2,Bool.or_true,Bool.and_self]);have m2:∀x,x∈ids e->x∈ids (bg e1 (hn 0 j) (.var 217 (cE c' ⟨j,j,[]⟩))):=fun x hx=>(oE _ _ _ _).2 (.inr (m1 x hx))
  have i0:hn 0 j∈ids (bg e1 (hn 0 j) (.var 217 (cE c' ⟨j,j,[]⟩))):=(oE _ _ _ _).2 (.inl rfl);generalize bg e1 (hn 0 j) (.var 217 (cE c' ⟨j,j,[]⟩))=e2 at k2 m2 i0;have hold:∀x∈N.cs.map NC.c++N.cj,hn 0 x∈ids e:=fun x hx=>by have:=C3 (hR.ok.closed _ _ hR.row) [.pt (hn 0 x) 0 0 0] (List.mem_map.2 ⟨x,hx,rfl⟩);simp only[aW,AV.all,Bool.and_true]at this;exact List.contains_iff_mem.1 this
  have WC:∀x∈(N.nJ j).cs.map NC.c++(N.nJ j).cj,hn 0 x∈ids e2:=fun x hx=>by
   have hx:x∈(N.cs++[(⟨j,j,[]⟩:NC)]).map NC.c++N.cj.drop 1:=hx;rw[List.map_append]at hx;simp only[List.mem_append,List.map_cons,List.map_nil,List.mem_singleton]at hx;rcases hx with(hx|rfl)|hx
   ·exact m2 _ (hold x (List.mem_append_left _ hx))
   ·exact i0
   ·exact m2 _ (hold x (List.mem_append_right _ (List.mem_of_mem_drop hx)))
  have k3:=k2.put (i:=hn 4 N.k) (r:=.aF 213 1 (((N.nJ j).cs.map NC.c++(N.nJ j).cj).map fun j=>[.pt (hn 0 j) 0 0 0])) (.inr (ix _ _)) (oQ fun y hy=>by obtain⟨x,hx,rfl⟩:=List.mem_map.1 hy;have:=List.contains_iff_mem.2 (WC x hx);simp only[aW,AV.all,this,Bool.or_true,Bool.and_self])
  refine k3.put (.inr (ix _ _)) ?_;exact fT (fun j hj=>by rw[Bool.or_eq_true];exact .inr hj) _ (hR.gA (fun x hx=>(oE _ _ _ _).2 (.inr (m2 x hx))) m' (N.nJ j) rfl)
 ·rw[ml]at hk;by_cases Tl:k<m.calls.length
  ·have UJ:=hR.call k Tl;have e1:nth m'.calls k=nth m.calls k:=by rw[hc,pJ Tl]
   have e2:nth (N.nJ j).cs k=nth N.cs k:=by show nth (N.cs++_) k=_;rw[pJ jB]
   have q0:hn 0 (nth N.cs k).c≠hn 0 j:=fun e'=>by rw[<-e',UJ.var]at j0;cases j0
   have q1:hn 1 (nth N.cs k).c≠hn 1 j:=fun e'=>by rw[<-e',UJ.eN]at j1;cases j1
   have q2:hn 2 (nth N.cs k).v≠hn 2 j:=fun e'=>by rw[<-e',UJ.cF]at j2;cases j2
   rw[e1,e2];exact⟨kind _ _ _ jB (dh jB jB jB) (dh jB jB jB) q0 jB jB UJ.var,kind _ _ _ jB (dh jB jB jB) q2 (dh jB jB jB) jB jB UJ.cF,kind _ _ _ jB q1 (dh jB jB jB) (dh jB jB jB) jB jB UJ.eN,UJ.bd⟩
  ·have ek:k=m.calls.length:=jB;subst ek;have e1:nth m'.calls m.calls.length=c':=by rw[hc,qh]
   have e2:nth (N.nJ j).cs m.calls.length=⟨j,j,[]⟩:=by show nth (N.cs++[_]) _=_;rw[<-hl,qh]
   rw[e1,e2];refine⟨?_,?_,?_,by show c'.stack.length+0<=2000;omega⟩
   ·unfold nF;rw[bF,if_neg (dh jB jB jB),bF,if_neg (dh jB jB jB),bF,if_pos rfl]
   ·unfold nF;rw[bF,if_neg (dh jB jB jB),bF,if_neg (dh jB jB jB),bF,if_neg (dh jB jB jB),bF,if_pos rfl,List.append_nil]
   ·unfold nF;rw[bF,if_neg (dh jB jB jB),bF,if_neg (dh jB jB jB),bF,if_neg (dh jB jB jB),bF,if_neg (dh jB jB jB),bF,if_pos rfl]
 ·show((N.cs++[(⟨j,j,[]⟩:NC)]).map NC.c).Nodup;rw[List.map_append,List.nodup_append];refine⟨hR.nc,jE,fun a ha b hb e'=>?_⟩;have hb:b=j:=by simpa using hb
  obtain⟨x,hx,rfl⟩:=List.mem_map.1 ha;obtain⟨k,hk,rfl⟩:=List.getElem_of_mem hx;have:=(hR.call k jB).var;rw[fJ jB,e',hb,j0]at this;cases this
 ·show((N.cs++[(⟨j,j,[]⟩:NC)]).map NC.v).Nodup;rw[List.map_append,List.nodup_append];refine⟨hR.nv,jE,fun a ha b hb e'=>?_⟩;have hb:b=j:=by simpa using hb
  obtain⟨x,hx,rfl⟩:=List.mem_map.1 ha;obtain⟨k,hk,rfl⟩:=List.getElem_of_mem hx;have:=(hR.call k jB).cF;rw[fJ jB,e',hb,j2]at this;cases this
 ·show(N.cs++[_]).length+(N.cj.drop 1).length<=1000;have:=hR.bd;rw[List.length_append,List.length_drop,List.length_singleton];omega
end MV
namespace MV
variable {p:af}{C:aH}{m:MV}{N:NM}{e:TA}
def DC(h:1<=N.cs.length):N.ba N.ah=N:=by unfold NM.ba NM.ah;rw[fJ jB,List.set_getElem_self]
def bH.jS(hR:bH p C m N e)(h1:1<=m.calls.length){c':MC}(hs:c'.stack=m.ah.stack)(hl:c'.slots=m.ah.slots):bH p C (m.ba c') N (bg e (hn 0 N.ah.c) (.var 217 (MV.cE c' N.ah))):=by
 have ht:=hR.ah h1;have I':=hR.len;have h:=hR.ba (e':=bg e (hn 0 N.ah.c) (.var 217 (MV.cE c' N.ah))) h1 (c':=c') (n':=N.ah) rfl ?_ ⟨?_,?_,?_,by rw[hs];exact ht.bd⟩ (.inl rfl) fun j hj n0 n1 n2=>by rw[bF,if_neg n0]
 ·rw[DC jB]at h;exact h
 ·refine hR.ok.put (.inr (ix _ _)) ?_;have i1:=fV ht.eN;have i2:=fV ht.cF;simp only[Row.cells,MV.cE,aW,AV.all,i1,i2,Bool.or_true,Bool.and_self]
 ·rw[bF,if_pos rfl]
 ·rw[bF,if_neg (dh jB jB jB),hs];exact ht.cF
 ·rw[bF,if_neg (dh jB jB jB),hl];exact ht.eN
end MV
namespace MV
structure Bd(n:Nat)(m:MV):Prop where
 deep:∀k,k+1<m.calls.length->(nth m.calls k).stack.length<=1000
 slots:∀k,k<m.calls.length->(nth m.calls k).slots.length<=24
 heap:gi m.heap<=40
 outs:m.bz.length<=24
 nB:0<=m.in_
 oA:m.in_<=n
variable {n:Nat}{m:MV}
theorem Bd.ah(h:Bd n m)(h1:1<=m.calls.length):m.ah.slots.length<=24:=h.slots (m.calls.length-1) jB
theorem Bd.ba(h:Bd n m){c:MC}(hc:c.slots.length<=24):Bd n (m.ba c):=by
 have hl:(m.ba c).calls.length=m.calls.length:=bG _ _;have e:∀k,k<m.calls.length->nth (m.ba c).calls k=if k=m.calls.length-1 then c else nth m.calls k:=fun k hk=>Go.Gd.dv _ _ _ _ jB
 refine⟨fun k hk=>?_,fun k hk=>?_,h.heap,h.outs,h.nB,h.oA⟩
 ·rw[hl]at hk;rw[e k jB,jN];exact h.deep k hk
 ·rw[hl]at hk;rw[e k hk];split
  ·exact hc
  ·exact h.slots k hk
theorem Bd.status(h:Bd n m)(s t:Int):Bd n { m with status:=s,cY:=t }:=⟨h.deep,h.slots,h.heap,h.outs,h.nB,h.oA⟩
theorem Bd.push(h:Bd n m)(h1:1<=m.calls.length)(v:aj):Bd n (m.push v):=h.ba (h.ah h1)
theorem Bd.cut(h:Bd n m)(h1:1<=m.calls.length)(k:Nat):Bd n (m.cut k):=h.ba (h.ah h1)
theorem Bd.stops(h:Bd n m)(h1:1<=m.calls.length)(s t:Int):Bd n (m.stops s t):=(h.ba (c:=m.ah.back) (h.ah h1)).status s t
theorem Bd.dS(h:Bd n m)(h1:1<=m.calls.length)(r:aj×Int):Bd n (m.dS r):=by
 unfold MV.dS;split
 ·exact h.stops h1 _ _
 ·exact h.push h1 _
def gI{α:Type}[Inhabited α]{l:List α}{n k:Nat}(h:k<n):nth (l.take n) k=nth l k:=by unfold nth;rw[List.getD_eq_getElem?_getD,List.getElem?_take,if_pos h,List.getD_eq_getElem?_getD]
theorem Bd.pop(h:Bd n m):Bd n m.pop:=by
 have hl:m.pop.calls.length=m.calls.length-1:=by show(m.calls.take _).length=_;rw[List.length_take];omega
 have e:∀k,k<m.calls.length-1->nth m.pop.calls k=nth m.calls k:=fun k hk=>gI hk
 refine⟨fun k hk=>?_,fun k hk=>?_,h.heap,h.outs,h.nB,h.oA⟩
 ·rw[hl]at hk;rw[e k jB];exact h.deep k jB
 ·rw[hl]at hk;rw[e k hk];exact h.slots k jB
theorem Bd.ends(h:Bd n m)(v:aj):Bd n (m.ends v):=by
 unfold MV.ends;split
 ·exact h.pop.status 2 m.pop.cY
 ·rename_i h2;refine h.pop.push ?_ v;show 1<=(m.calls.take _).length;rw[List.length_take];omega
theorem Bd.cM{p:af}{C:aH}(h:Bd n m)(h1:1<=m.calls.length)(hd:m.ah.stack.length<=1000){fn:Int}{args:List aj}(s1:nth p.size fn.toNat<=24)(s2:(args.length:Int)<=nth p.size fn.toNat):Bd n (m.cM p C fn args):=by
 have hl:(m.cM p C fn args).calls.length=m.calls.length+1:=by show(m.calls++[_]).length=_;simp
 have e:∀k,k<m.calls.length->nth (m.cM p C fn args).calls k=nth m.calls k:=fun k hk=>pJ hk
 refine⟨fun k hk=>?_,fun k hk=>?_,h.heap,h.outs,h.nB,h.oA⟩
 ·rw[hl]at hk;rw[e k jB];by_cases Tl:k=m.calls.length-1
  ·subst Tl;exact hd
  ·exact h.deep k jB
 ·rw[hl]at hk;by_cases Tl:k<m.calls.length
  ·rw[e k Tl];exact h.slots k Tl
  ·have:k=m.calls.length:=jB;subst this;have:nth (m.cM p C fn args).calls m.calls.length=iE p C fn args:=qh _ _;rw[this];show(args++List.replicate _ v0).length<=24;rw[List.length_append,List.length_replicate];omega
def Bd.nI(h:Bd n m){h':TC}(hc:gi h'<=40):Bd n { m with heap:=h' }:=⟨h.deep,h.slots,hc,h.outs,h.nB,h.oA⟩
end MV
namespace MV
variable (m:MV)(p:af)(C:aH)(inp:TD)(x:ax)
def OY(h:x.op=2):m.ins p C inp x=m.push (vI x.a):=by unfold MV.ins;dsimp only;rw[if_pos h]
def S0(h:x.op=3):m.ins p C inp x=m.push (vB (decide (x.a=1))):=by unfold MV.ins;dsimp only;rw[jN,if_pos h]
def Q6(h:x.op=4):m.ins p C inp x=m.push (vT x.s):=by unfold MV.ins;dsimp only;rw[jN,jN,if_pos h]
def KV(h:x.op=5):m.ins p C inp x=m.push (eR m.ah.slots x.a x.b):=by unfold MV.ins;dsimp only;rw[jN,jN,jN,if_pos h]
def HF(h:x.op=6):m.ins p C inp x=m.ba { m.ah.cut 1 with slots:=m.ah.slots.set x.a.toNat m.ah.last }:=by unfold MV.ins;dsimp only;rw[jN,jN,jN,jN,if_pos h]
def Ej(h:x.op=7):m.ins p C inp x=(m.cut 2).dS (pV x.s (m.ah.cut 1).last m.ah.last):=by unfold MV.ins;dsimp only;rw[jN,jN,jN,jN,jN,if_pos h]
def IF(h:x.op=8):m.ins p C inp x=(m.cut 1).push (mL (⟨#[45]⟩:TF) m.ah.last):=by unfold MV.ins;dsimp only;rw[jN,jN,jN,jN,jN,jN,if_pos h]
def IK(h:x.op=9):m.ins p C inp x=(m.cut 1).push (mL (⟨#[33]⟩:TF) m.ah.last):=by unfold MV.ins;dsimp only;rw[jN,jN,jN,jN,jN,jN,jN,if_pos h]
def Ha(h:x.op=10):m.ins p C inp x=(m.cut 1).push (vI (if m.ah.last.ty=4 then((bk m.heap m.ah.last.n).length:Int)else(m.ah.last.s.size:Int))):=by unfold MV.ins;dsimp only;rw[jN,jN,jN,jN,jN,jN,jN,jN,if_pos h]
def FM(h:x.op=11):m.ins p C inp x=if m.ah.last.n<0\/((bk m.heap (eR m.ah.slots x.a 4).n).length:Int)<=m.ah.last.n then(m.cut 1).stops 3 2 else(m.cut 1).push (vI (nth (bk m.heap (eR m.ah.slots x.a 4).n) m.ah.last.n.toNat)):=by unfold MV.ins;dsimp only;rw[jN,jN,jN,jN,jN,jN,jN,jN,jN,if_pos h]
def I6(h:x.op=12):m.ins p C inp x=if(m.ah.cut 1).last.n<0\/((bk m.heap (eR m.ah.slots x.a 4).n).length:Int)<=(m.ah.cut 1).last.n then(m.cut 2).stops 3 2 else{ m.cut 2 with heap:=m.heap.set ((eR m.ah.slots x.a 4).n-1).toNat ((nth m.heap ((eR m.ah.slots x.a 4).n-1).toNat).set (m.ah.cut 1).last.n.toNat m.ah.last.n) }:=by unfold MV.ins;dsimp only;rw[jN,jN,jN,jN,jN,jN,jN,jN,jN,jN,if_pos h]
def Ic(h:x.op=13):m.ins p C inp x=if m.ah.last.n<0\/16<m.ah.last.n then(m.cut 1).stops 3 7 else if 40<gi m.heap+m.ah.last.n+1 then(m.cut 1).stops 3 4 else{ (m.cut 1).push ⟨4,m.heap.length+1,sE⟩with heap:=m.heap++[List.replicate m.ah.last.n.toNat 0] }:=by unfold MV.ins;dsimp only;rw[jN,jN,jN,jN,jN,jN,jN,jN,jN,jN,jN,if_pos h]
def jt(h:x.op=14):m.ins p C inp x=if(inp.length:Int)<=m.in_ then m.stops 1 0 else{ m.push (vI (nth inp m.in_.toNat))with in_:=m.in_+1 }:=by unfold MV.ins;dsimp only;rw[jN,jN,jN,jN,jN,jN,jN,jN,jN,jN,jN,jN,if_pos h]
def Dl(h:x.op=15):m.ins p C inp x=if 24<=m.bz.length then m.stops 3 5 else{ m.cut 1 with bz:=m.bz++[mC m.ah.last] }:=by unfold MV.ins;dsimp only;rw[jN,jN,jN,jN,jN,jN,jN,jN,jN,jN,jN,jN,jN,if_pos h]
def M4(h:x.op=16):m.ins p C inp x=m.ba (m.ah.jump x.a):=by unfold MV.ins;dsimp only;rw[jN,jN,jN,jN,jN,jN,jN,jN,jN,jN,jN,jN,jN,jN,if_pos h]
def Sr(h:x.op=17):m.ins p C inp x=if m.ah.last.n=0 then m.ba ((m.ah.cut 1).jump x.a)else m.cut 1:=by unfold MV.ins;dsimp only;rw[jN,jN,jN,jN,jN,jN,jN,jN,jN,jN,jN,jN,jN,jN,jN,if_pos h]
def Nh(h:x.op=18\/x.op=19):m.ins p C inp x=if(m.ah.last.n=1<->x.op=19)then m.ba (m.ah.jump x.a)else m.cut 1:=by unfold MV.ins;dsimp only;rw[jN,jN,jN,jN,jN,jN,jN,jN,jN,jN,jN,jN,jN,jN,jN,jN,if_pos h]
def BS(h:x.op=20):m.ins p C inp x=if 8<=m.calls.length then(m.cut x.b.toNat).stops 3 3 else(m.cut x.b.toNat).cM p C x.a (m.ah.stack.drop (m.ah.stack.length-x.b.toNat)):=by unfold MV.ins;dsimp only;rw[jN,jN,jN,jN,jN,jN,jN,jN,jN,jN,jN,jN,jN,jN,jN,jN,jN,if_pos h]
def He(h:x.op=21):m.ins p C inp x=(m.cut 1).ends m.ah.last:=by unfold MV.ins;dsimp only;rw[jN,jN,jN,jN,jN,jN,jN,jN,jN,jN,jN,jN,jN,jN,jN,jN,jN,jN,if_pos h]
def I7(h:x.op=22):m.ins p C inp x=m.ends (vZ x.a):=by unfold MV.ins;dsimp only;rw[jN,jN,jN,jN,jN,jN,jN,jN,jN,jN,jN,jN,jN,jN,jN,jN,jN,jN,jN,if_pos h]
def Ew(h:x.op=23):m.ins p C inp x=m.cut 1:=by unfold MV.ins;dsimp only;rw[jN,jN,jN,jN,jN,jN,jN,jN,jN,jN,jN,jN,jN,jN,jN,jN,jN,jN,jN,jN,if_pos h]
def LU(h:x.op<2\/23<x.op):m.ins p C inp x=m:=by unfold MV.ins;dsimp only;rw[jN,jN,jN,jN,jN,jN,jN,jN,jN,jN,jN,jN,jN,jN,jN,jN,jN,jN,jN,jN,jN]
end MV
namespace MV
variable {p:af}{C:aH}{m:MV}{N:NM}{e:TA}
def bH.sx(hR:bH p C m N e)(h1:1<=m.calls.length)(l:List aj)(hl:l.length=m.ah.slots.length):bH p C (m.ba { m.ah with slots:=l }) N (bg e (hn 1 N.ah.c) (.aF 54 3 (l.map bS))):=by
 have ht:=hR.ah h1;have I':=hR.len;have h:=hR.ba (e':=bg e (hn 1 N.ah.c) (.aF 54 3 (l.map bS))) h1 (c':={ m.ah with slots:=l }) (n':=N.ah) rfl ?_ ⟨?_,?_,?_,ht.bd⟩ (.inl rfl) fun j hj n0 n1 n2=>by rw[bF,if_neg n1]
 ·rw[DC jB]at h;exact h
 ·exact hR.ok.put (.inr (ix _ _)) (fT (q:=dU) (fun _ h=>by cases h) _ (oQ (nt (enc:=bS) (sz:=3) _)))
 ·rw[bF,if_neg (dh jB jB jB),ht.var];unfold MV.cE;rw[<-hl]
 ·rw[bF,if_neg (dh jB jB jB)];exact ht.cF
 ·rw[bF,if_pos rfl]
end MV
theorem iw.nil{r:AV}{H:Hp}(i:Nat)(e:TG){sz:Nat}(hi:H.get i=none)(h0:0<sz)(hs:r=.raw (.slice none 0 0)):iw r H (.rs i 0 sz 0) (H.put i (.aF e sz [])):=fun w v h1 h2=>by
 obtain⟨w',e,a,b,c⟩:=dO.nil (F:=[r]) i 0 e hi h0 (.inl (by rw[hs];rfl)) w #[v] h1 ⟨rfl,fun k a x ha hx=>by
  match k with
  |0=>cases ha;cases hx;exact h2
  |k+1=>simp at ha⟩
 exact⟨w',e,a,b.2 0 _ v rfl rfl,c⟩
variable{F:TB}
def wc{fn:Func}{out:TB}{e:Exit}(i:Nat)(t:TG)(sz:Nat)(h0:0<sz)(rs:List ResultVar)(haq:ku out=.raw (.slice none 0 0))(ho:ju P ⟨[],[]⟩ F rs=some out)(hok:kF P ⟨[],[]⟩ F rs)(VI:fn.results.toList=rs:=by rfl)(he:e=.normal\/e=.ret:=by first|exact Or.inr rfl|exact Or.inl rfl|fail) :
  lM P fn (fun r l=>r=.rs i 0 sz 0/\l=[(i,.aF t sz [])]) e F ⟨[],[]⟩:=by
 subst VI;exact uL he ho hok _ _ (iw.nil i t rfl h0 haq) ⟨rfl,rfl⟩
variable{args':TB}{q:Prop}
def Cu{args:TB}{K:S8}[Inhabited α]{enc:α->TB}[he:bC enc sz]{xs:List α}(i:Nat)(Ux:∀x,lg (enc x)=true)
  (hc:ab P f args' [] fun r l=>r=.rs i xs.length sz xs.length/\l=[(i,.aF t sz (xs.map enc))]) (hi:H.get i=none) (hv:∀w vs,aI w H->bq w args vs->bq (w.cR fun _=>true) args' vs) (k:q) (h0:aT P f=true:=by exact du) (e:K (aM enc sz xs) H=q:=by exact fj):ff P (.raw (.func (.func f) #[] #[])) args H K:=
 nG h0 (B1 Ux hi hc hv (e ▸ k))
def GD{w w':NW}{a b:AV}{vs:TI}(h:bq w [a] vs)(ZL:∀v,aw w a v->aw w' b v):bq w' [b] vs:=⟨h.1,fun i x v hx hv=>by
 match i with
 |0=>cases hx;exact ZL v (h.2 0 a v rfl hv)
 |i+1=>simp at hx⟩
variable{i n:Nat}
def IP{m o:Nat}[Inhabited α]{enc:α->TB}[he:bC enc sz](l more:List α)(hi:H.get i=some (.aF t sz ((l++more).map enc)))(hm:m=l.length+more.length)(hn:o+n=l.length)(h0:0<sz):∀w vs,aI w H->bq w [.rv i m sz o n] vs->bq (w.cR fun _=>true) [aM enc sz (l.drop o)] vs:=fun w vs hw hv=>
 GD hv fun v h=>by
  have:=EL (d:=enc default) hw hi (by rw[List.length_map,List.length_append];exact hm) jB h0 (nt (enc:=enc) (sz:=sz) _) h;have e:(((l++more).map enc).drop o).take n=(l.drop o).map enc:=by rw[<-List.map_drop,<-List.map_take,List.drop_append_of_le_length jB,List.take_append_of_le_length (by rw[List.length_drop];omega),List.take_of_length_le (by rw[List.length_drop];omega)]
  rw[e]at this;exact this
namespace MV
variable {p:af}{C:aH}{m:MV}{N:NM}{e:TA}
def bH.B8(hR:bH p C m N e)(h1:1<=m.calls.length)(b:Nat)(hb:b<=m.ah.stack.length):bH p C (m.cut b) (N.ba ⟨N.ah.c,N.ah.v,m.ah.stack.drop (m.ah.stack.length-b)++N.ah.jk⟩) (bg e (hn 0 N.ah.c) (.var 217 (MV.cE (m.ah.cut b) ⟨N.ah.c,N.ah.v,m.ah.stack.drop (m.ah.stack.length-b)++N.ah.jk⟩))):=by
 have ht:=hR.ah h1;have ZO:=ht.bd;refine hR.ba h1 (c':=m.ah.cut b) rfl ?_ ⟨?_,?_,?_,?_⟩ (.inl rfl) fun j hj n0 n1 n2=>by rw[bF,if_neg n0]
 ·refine hR.ok.put (.inr (ix _ _)) ?_;have i1:=fV ht.eN;have i2:=fV ht.cF;simp only[Row.cells,MV.cE,aW,AV.all,i1,i2,Bool.or_true,Bool.and_self]
 ·rw[bF,if_pos rfl]
 ·rw[bF,if_neg (dh jB jB jB)];show _=some (Row.aF _ 3 ((m.ah.stack.take (m.ah.stack.length-b)++(m.ah.stack.drop (m.ah.stack.length-b)++N.ah.jk)).map bS));rw[<-List.append_assoc,List.take_append_drop];exact ht.cF
 ·rw[bF,if_neg (dh jB jB jB)];exact ht.eN
 ·show(m.ah.stack.take (m.ah.stack.length-b)).length+(m.ah.stack.drop (m.ah.stack.length-b)++N.ah.jk).length<=2000;rw[List.length_take,List.length_append,List.length_drop];omega
end MV
namespace MV
variable {p:af}{C:aH}{m:MV}{N:NM}{e:TA}
def bH.BG(hR:bH p C m N e){m':MV}(h1:m'.calls=m.calls)(h2:m'.heap=m.heap):bH p C m' N (bg (bg e (hn 8 N.k) (.aF 9 1 (m'.bz.map eS))) (hn 3 N.k) (.var 205 (mE p C m' N))):=by
 have kind:∀(a k:Nat) (r:Row),a≠3->a≠8->a<32->aA e (hn a k)=some r->aA (bg (bg e (hn 8 N.k) (.aF 9 1 (m'.bz.map eS))) (hn 3 N.k) (.var 205 (mE p C m' N))) (hn a k)=some r:=fun a k r h3 h8 Vf h=>by rw[bF,if_neg (dh Vf jB h3),bF,if_neg (dh Vf jB h8)];exact h
 refine⟨?_,by rw[bF,if_pos rfl],kind _ _ _ jB jB jB hR.row,?_,?_,?_,?_,by rw[h1];exact hR.len,fun k hk=>?_,hR.nc,hR.nv,hR.bd⟩
 ·refine(hR.ok.put (.inr (ix _ _)) (fT (q:=dU) (fun _ h=>by cases h) _ (oQ (nt (enc:=eS) (sz:=1) _)))).put (.inr (ix _ _)) ?_;exact fT (fun j hj=>by rw[Bool.or_eq_true];exact .inr hj) _ (hR.gA (fun _ h=>(oE _ _ _ _).2 (.inr h)) m' N rfl)
 ·rw[h2];exact kind _ _ _ jB jB jB hR.hp
 ·rw[h2];exact kind _ _ _ jB jB jB hR.cells
 ·rw[h2];exact kind _ _ _ jB jB jB hR.ends
 ·rw[bF,if_neg (dh jB jB jB),bF,if_pos rfl]
 ·rw[h1]at hk ⊢;have hc:=hR.call k hk;exact⟨kind _ _ _ jB jB jB hc.var,kind _ _ _ jB jB jB hc.cF,kind _ _ _ jB jB jB hc.eN,hc.bd⟩
end MV
theorem cV.args{P:TL}{f:FuncId}{args args':TB}{e l:TA}{r0:AV}(h:cV P f args' e r0 l)(hv:∀w vs,aI w (entry e)->bq w args vs->bq w args' vs)(ha:aW (fun i=>(ids e).contains i) args=true):cV P f args e r0 l:=⟨h.c.args hv,h.e1,h.e2,h.aU,ha⟩
theorem Is:∀(l:TA) (i:Nat) (r r':Row),bg (bg l i r) i r'=bg l i r'
 |[],i,r,r'=>by simp[bg]
 |(j,s)::l,i,r,r'=>by
  show bg (if i=j then(i,r)::l else(j,s)::bg l i r) i r'=(if i=j then(i,r')::l else(j,s)::bg l i r');by_cases e:i=j
  ·subst e;rw[if_pos rfl,if_pos rfl];simp[bg]
  ·rw[if_neg e,if_neg e];show(if i=j then _ else(j,s)::bg (bg l i r) i r')=_;rw[if_neg e,Is l i r r']
def K9(l:TA)(a k:Nat)(r r':Row):bg (bg l (hn a k) r) (hn a k) r'=bg l (hn a k) r':=Is _ _ _ _
namespace MV
variable {p:af}{C:aH}{m:MV}{N:NM}{e:TA}
def JY(hR:bH p C m N e)(h1:1<=m.calls.length):bH p C m.dW N (bg (bg e (hn 3 N.k) (.var 205 (mE p C { m with status:=0 } N))) (hn 0 N.ah.c) (.var 217 (MV.cE { m.ah with mark:=m.ah.at_,at_:=m.ah.at_+1 } N.ah))):=
 (hR.l5 (m':={ m with status:=0 }) rfl rfl rfl).jS h1 (c':={ m.ah with mark:=m.ah.at_,at_:=m.ah.at_+1 }) rfl rfl
end MV
def Mn{m o:Nat}[Inhabited α]{enc:α->TB}[he:bC enc sz](l:List α)(hi:H.get i=some (.aF t sz (l.map enc)))(hm:m=l.length)(hn:o+n<=l.length)(h0:0<sz):∀w vs,aI w H->bq w [.rv i m sz o n] vs->bq (w.cR fun _=>true) [aM enc sz ((l.drop o).take n)] vs:=fun w vs hw hv=>
 GD hv fun v h=>by have:=EL (d:=enc default) hw hi (by rw[List.length_map];exact hm) jB h0 (nt (enc:=enc) (sz:=sz) _) h;rw[<-List.map_drop,<-List.map_take]at this;exact this
def K8{h:TC}{k:Nat}(hk:k<h.length):(h.flatten.drop (kj h k)).take (nth h k).length=nth h k:=by
 have e:h.flatten=(h.take k).flatten++(nth h k++(h.drop (k+1)).flatten):=by rw[fJ hk,<-List.flatten_cons,List.getElem_cons_drop,<-List.flatten_append,List.take_append_drop]
 rw[e];unfold kj;rw[List.drop_left,List.take_left]
def PF{fn:Func}{B:TE}{L:TA}{out:TB}{ex:Exit}{r0:AV}{e l tl:TA}(hB:ids e=B)(k1:fO 0 e)(k2:fO 0 l)(hp:L=tie l tl)(hl:nM 0 tl)(rs:List ResultVar)(hv:cW (fK 0) ⟨B,tie l tl⟩ (ku out) r0)
  (VI:fn.results.toList=rs:=by rfl) (he:ex=.normal\/ex=.ret:=by first|exact Or.inr rfl|exact Or.inl rfl|fail) (ho:ju P ⟨B,L⟩ F rs=some out:=by first|rfl|(simp(disch:=first|omega|fail) only[go_sem,↓reduceIte,Nat.reduceEqDiff,Nat.reduceLeDiff,Nat.reduceSub,Nat.reduceAdd];rfl)) (hok:kF P ⟨B,L⟩ F rs:=by first|exact jI|(simp(disch:=first|omega|fail) only[go_sem,↓reduceIte,Nat.reduceEqDiff,Nat.reduceLeDiff,Nat.reduceSub,Nat.reduceAdd])):lM P fn (fun r l'=>r=r0/\l'=l) ex F ⟨B,L⟩:=by
 subst VI hp;obtain⟨h1,h2,h3⟩:=k1.free k2 hB hl;have:=iw.free (r:=ku out) (r':=r0) (H:=⟨B,l++tl⟩) (Go.Gd.fK 0) h1 h2 hv;rw[show(Hp.mk B (l++tl)).l=l++tl from rfl,h3]at this;exact uL he ho hok r0 ⟨B,l⟩ this ⟨rfl,rfl⟩
def Fm{args:TB}{R:AV->Prop}[Inhabited α]{enc:α->TB}[he:bC enc sz]{xs:List α}(i:Nat)(Ux:∀x,lg (enc x)=true)
  (hc:ab P f args' [] fun r l=>r=.rs i xs.length sz xs.length/\l=[(i,.aF t sz (xs.map enc))]) (hi:H.get i=none) (hv:∀w vs,aI w H->bq w args vs->bq (w.cR fun _=>true) args' vs) (k:q) (h0:aT P f=true:=by exact du) (e:R (aM enc sz xs)=q:=by exact fj):∃r,(ff P (.raw (.func (.func f) #[] #[])) args H fun r' H'=>r'=r/\H'=H)/\R r:=
 ⟨_,nG h0 (B1 (K:=fun r' H'=>r'=aM enc sz xs/\H'=H) Ux hi hc hv ⟨rfl,rfl⟩),e ▸ k⟩
def Ps{A:AS}{args:TB}{g:S8}{d:im fun r H'=>eo A H H'/\g r H'}[Inhabited α]{enc:α->TB}[he:bC enc sz]{xs:List α}(i:Nat)(Ux:∀x,lg (enc x)=true)
  (hc:ab P f args' [] fun r l=>r=.rs i xs.length sz xs.length/\l=[(i,.aF t sz (xs.map enc))]) (hi:H.get i=none) (hv:∀w vs,aI w H->bq w args vs->bq (w.cR fun _=>true) args' vs) (k:q) (h0:aT P f=true:=by exact du) (e:g (aM enc sz xs) H=q:=by exact fj):ff P (.raw (.func (.func f) #[] #[])) args H (AP (fun r H'=>eo A H H'/\g r H') d):=
 nG h0 (B1 (K:=AP (fun r H'=>eo A H H'/\g r H') d) Ux hi hc hv ⟨eo.refl _ _,e ▸ k⟩)
def Ca[Inhabited α]{enc:α->TB}[he:bC enc sz](l:List α)(hi:H.get i=some (.aF t sz (l.map enc)))(hn:n=l.length):∀w vs,aI w H->bq w [.rs i n sz n] vs->bq (w.cR fun _=>true) [aM enc sz l] vs:=
 Sw ⟨cW.row (dd:=enc default) l rfl hi hn,trivial⟩
namespace MV
def fN(m:MV)(k:Nat):Int:=if(k:Int)=(m.calls.length:Int)-1 then(nth m.calls k).at_ else(nth m.calls k).mark
def spot(C:aH)(m:MV)(k:Nat):mm:=⟨(nth m.calls k).fn,(nth C.ins (m.fN k).toNat).a,(nth m.calls k).slots⟩
def dD(C:aH)(m:MV):kZ:=⟨(List.range m.calls.length).map (m.spot C),m.heap,m.in_,m.bz,m.status,m.cY,m.time⟩
end MV
def MV.mh:MV:=⟨[],0,[],0,[],0,0,0⟩
def wF(p:af)(C:aH)(k:Nat):TA:=
 [(hn 5 k,.var 269 [.rs (hn 6 k) 0 1 0,.rs (hn 7 k) 0 1 0]),(hn 3 k,.var 205 (MV.mE p C MV.mh ⟨k,[],[]⟩)),(hn 4 k,.aF 213 1 []),(hn 8 k,.aF 9 1 []),(hn 6 k,.aF 3 1 []),(hn 7 k,.aF 3 1 [])]
def yd(p:af)(C:aH)(k i:Nat):aA (wF p C k) i=if i=hn 5 k then some (.var 269 [.rs (hn 6 k) 0 1 0,.rs (hn 7 k) 0 1 0])else if i=hn 3 k then some (.var 205 (MV.mE p C MV.mh ⟨k,[],[]⟩))else if i=hn 4 k then some (.aF 213 1 [])else if i=hn 8 k then some (.aF 9 1 [])else if i=hn 6 k then some (.aF 3 1 [])else if i=hn 7 k then some (.aF 3 1 [])else none:=rfl
def By(p:af)(C:aH)(k:Nat):ids (wF p C k)=[hn 5 k,hn 3 k,hn 4 k,hn 8 k,hn 6 k,hn 7 k]:=rfl
def Ju(p:af)(C:aH)(k:Nat):MV.bH p C MV.mh ⟨k,[],[]⟩ (wF p C k):=by
 have nd:∀a b:Nat,a<32->b<32->a≠b->hn a k≠hn b k:=fun a b ha hb h=>dh ha hb h
 have ok:fO 0 (wF p C k):=by
  refine⟨fun i _ hi=>?_,?_,fun i r hi=>?_⟩
  ·rw[yd];have g:=fun a=>ix a k
   rw[if_neg (by have:=g 5;omega),if_neg (by have:=g 3;omega),if_neg (by have:=g 4;omega),if_neg (by have:=g 8;omega),if_neg (by have:=g 6;omega),if_neg (by have:=g 7;omega)]
  ·rw[By];simp[hn]
  ·rw[By];rw[yd]at hi;have up:aW (fun j=>[hn 5 k,hn 3 k,hn 4 k,hn 8 k,hn 6 k,hn 7 k].contains j) (kg p)=true:=fT (q:=dU) (fun _ h=>by cases h) _ rfl;split at hi
   ·cases hi;simp[Row.cells,aW,AV.all]
   ·split at hi
    ·cases hi;show aW _ (MV.mE _ _ _ _)=true;unfold MV.mE;rw[sn,up];simp[aW,AV.all,aM]
    ·split at hi
     ·cases hi;rfl
     ·split at hi
      ·cases hi;rfl
      ·split at hi
       ·cases hi;rfl
       ·split at hi
        ·cases hi;rfl
        ·cases hi
 refine⟨ok,?_,?_,?_,?_,?_,?_,rfl,(fun k hk=>by cases hk),List.nodup_nil,List.nodup_nil,by show 0+0<=1000;omega⟩;all_goals rw[yd]
 ·rw[if_neg (nd 3 5 jB jB jB),if_pos rfl]
 ·rw[if_neg (nd 4 5 jB jB jB),if_neg (nd 4 3 jB jB jB),if_pos rfl];rfl
 ·rw[if_pos rfl];rfl
 ·rw[if_neg (nd 6 5 jB jB jB),if_neg (nd 6 3 jB jB jB),if_neg (nd 6 4 jB jB jB),if_neg (nd 6 8 jB jB jB),if_pos rfl];rfl
 ·rw[if_neg (nd 7 5 jB jB jB),if_neg (nd 7 3 jB jB jB),if_neg (nd 7 4 jB jB jB),if_neg (nd 7 8 jB jB jB),if_neg (nd 7 6 jB jB jB),if_pos rfl];rfl
 ·rw[if_neg (nd 8 5 jB jB jB),if_neg (nd 8 3 jB jB jB),if_neg (nd 8 4 jB jB jB),if_pos rfl];rfl
def QE(p:af)(C:aH)(k:Nat)(r9:Row):dO F ⟨[],[(9,r9),(hn 5 k,.var 269 [.raw (.slice none 0 0),.raw (.slice none 0 0)]),(hn 3 k,.var 205 (kg p++[aM dj 4 C.ins,aM eI 1 C.entry,.raw (.slice none 0 0),.pt (hn 5 k) 0 0 0,.raw (.slice none 0 0),.raw (.int .i64 0),.raw (.int .i64 0),.raw (.int .i64 0),.raw (.int .i64 0)]))]⟩ F ⟨[],tie (wF p C k) [(9,r9)]⟩:=by
 have n9:∀a,hn a k≠9:=fun a e=>by have:=ix a k;omega
 have nd:∀a b:Nat,a<32->b<32->a≠b->hn a k≠hn b k:=fun a b ha hb h=>dh ha hb h
 have s1:=dO.gg (F:=F) (H:=⟨[],[(9,r9),(hn 5 k,.var 269 [.raw (.slice none 0 0),.raw (.slice none 0 0)]),(hn 3 k,.var 205 (kg p++[aM dj 4 C.ins,aM eI 1 C.entry,.raw (.slice none 0 0),.pt (hn 5 k) 0 0 0,.raw (.slice none 0 0),.raw (.int .i64 0),.raw (.int .i64 0),.raw (.int .i64 0),.raw (.int .i64 0)]))]⟩) (hn 4 k) (hn 3 k) 8 213 1 (t:=205) (cs:=kg p++[aM dj 4 C.ins,aM eI 1 C.entry,.raw (.slice none 0 0),.pt (hn 5 k) 0 0 0,.raw (.slice none 0 0),.raw (.int .i64 0),.raw (.int .i64 0),.raw (.int .i64 0),.raw (.int .i64 0)])
  (by show aA _ _=_;simp only[aA,if_neg (n9 4),if_neg (nd 4 5 jB jB jB),if_neg (nd 4 3 jB jB jB)]) jC (by show aA _ _=_;simp only[aA,if_neg (n9 3),if_neg (nd 3 5 jB jB jB),if_pos]) rfl
 have s2:=dO.gg (F:=F) (H:=(((⟨[],[(9,r9),(hn 5 k,.var 269 [.raw (.slice none 0 0),.raw (.slice none 0 0)]),(hn 3 k,.var 205 (kg p++[aM dj 4 C.ins,aM eI 1 C.entry,.raw (.slice none 0 0),.pt (hn 5 k) 0 0 0,.raw (.slice none 0 0),.raw (.int .i64 0),.raw (.int .i64 0),.raw (.int .i64 0),.raw (.int .i64 0)]))]⟩:Hp).put (hn 4 k) (.aF 213 1 [])).put (hn 3 k) (.var 205 (kg p++[aM dj 4 C.ins,aM eI 1 C.entry,.rs (hn 4 k) 0 1 0,.pt (hn 5 k) 0 0 0,.raw (.slice none 0 0),.raw (.int .i64 0),.raw (.int .i64 0),.raw (.int .i64 0),.raw (.int .i64 0)])))) (hn 8 k) (hn 3 k) 10 9 1 (t:=205) (cs:=kg p++[aM dj 4 C.ins,aM eI 1 C.entry,.rs (hn 4 k) 0 1 0,.pt (hn 5 k) 0 0 0,.raw (.slice none 0 0),.raw (.int .i64 0),.raw (.int .i64 0),.raw (.int .i64 0),.raw (.int .i64 0)])
  (by rw[Hp.bj,if_neg (nd 8 3 jB jB jB),Hp.bj,if_neg (nd 8 4 jB jB jB)];show aA _ _=_;simp only[aA,if_neg (n9 8),if_neg (nd 8 5 jB jB jB),if_neg (nd 8 3 jB jB jB)]) jC (by rw[Hp.bj,if_pos rfl]) rfl
 have s3:=dO.gg (F:=F) (H:=((((((⟨[],[(9,r9),(hn 5 k,.var 269 [.raw (.slice none 0 0),.raw (.slice none 0 0)]),(hn 3 k,.var 205 (kg p++[aM dj 4 C.ins,aM eI 1 C.entry,.raw (.slice none 0 0),.pt (hn 5 k) 0 0 0,.raw (.slice none 0 0),.raw (.int .i64 0),.raw (.int .i64 0),.raw (.int .i64 0),.raw (.int .i64 0)]))]⟩:Hp).put (hn 4 k) (.aF 213 1 [])).put (hn 3 k) (.var 205 (kg p++[aM dj 4 C.ins,aM eI 1 C.entry,.rs (hn 4 k) 0 1 0,.pt (hn 5 k) 0 0 0,.raw (.slice none 0 0),.raw (.int .i64 0),.raw (.int .i64 0),.raw (.int .i64 0),.raw (.int .i64 0)])))).put (hn 8 k) (.aF 9 1 [])).put (hn 3 k) (.var 205 (kg p++[aM dj 4 C.ins,aM eI 1 C.entry,.rs (hn 4 k) 0 1 0,.pt (hn 5 k) 0 0 0,.rs (hn 8 k) 0 1 0,.raw (.int .i64 0),.raw (.int .i64 0),.raw (.int .i64 0),.raw (.int .i64 0)]))))
  (hn 6 k) (hn 5 k) 0 3 1 (t:=269) (cs:=[.raw (.slice none 0 0),.raw (.slice none 0 0)])
  (by rw[Hp.bj,if_neg (nd 6 3 jB jB jB),Hp.bj,if_neg (nd 6 8 jB jB jB),Hp.bj,if_neg (nd 6 3 jB jB jB),Hp.bj,if_neg (nd 6 4 jB jB jB)];show aA _ _=_;simp only[aA,if_neg (n9 6),if_neg (nd 6 5 jB jB jB),if_neg (nd 6 3 jB jB jB)]) jC
  (by rw[Hp.bj,if_neg (nd 5 3 jB jB jB),Hp.bj,if_neg (nd 5 8 jB jB jB),Hp.bj,if_neg (nd 5 3 jB jB jB),Hp.bj,if_neg (nd 5 4 jB jB jB)];show aA _ _=_;simp only[aA,if_neg (n9 5),if_pos]) rfl
 refine s1.trans (s2.trans (s3.trans ?_));refine dO.trans (dO.gg (hn 7 k) (hn 5 k) 1 3 1 (t:=269) (cs:=[.rs (hn 6 k) 0 1 0,.raw (.slice none 0 0)]) ?_ jC ?_ rfl) (dO.perm _ fun i=>?_)
 ·simp only[Hp.bj,if_neg (nd 7 5 jB jB jB),if_neg (nd 7 6 jB jB jB),if_neg (nd 7 3 jB jB jB),if_neg (nd 7 8 jB jB jB),if_neg (nd 7 4 jB jB jB)];show aA _ _=_;simp only[aA,if_neg (n9 7),if_neg (nd 7 5 jB jB jB),if_neg (nd 7 3 jB jB jB)]
 ·rw[Hp.bj,if_pos rfl];rfl
 ·simp only[Hp.put,bF,j9,yd];by_cases a5:i=hn 5 k
  ·simp only[if_pos a5];rfl
  simp only[if_neg a5];by_cases a7:i=hn 7 k
  ·subst a7;simp(disch:=omega) only[go_sem,↓reduceIte]
  simp only[if_neg a7];by_cases a6:i=hn 6 k
  ·subst a6;simp(disch:=omega) only[go_sem,↓reduceIte]
  simp only[if_neg a6];by_cases a3:i=hn 3 k
  ·simp only[if_pos a3];rfl
  simp only[if_neg a3];by_cases a8:i=hn 8 k
  ·subst a8;simp(disch:=omega) only[go_sem,↓reduceIte]
  simp only[if_neg a8];by_cases a4:i=hn 4 k
  ·subst a4;simp(disch:=omega) only[go_sem,↓reduceIte]
  simp only[if_neg a4,aA,if_neg a5,if_neg a3,Option.none_or]
end Go.Gd
namespace Go.Proofs.YtjpcgmjaipfgdaaGreatDoor
open Go Go.Gd Tryz
def Pz(fn at_ mark:Int)(vs jk slots:List aj)(v:aj)(hL:¬(100000<vs.length+jk.length)):ab prog 203 [.pt 6 0 0 0,rV v] (kE fn at_ mark vs jk slots) (fun r l=>r=.aP []/\l=kE fn at_ mark (vs++[v]) (jk.drop 1) slots):=by
 refine aL func203 ntmps203 ?_;refine S ?_
 (repeat' (first|refine aq fun K hK=>?_|refine au ?_|(with_reducible refine gR 1 ?_);refine dE 1 (bc 0 11) mixed ?_|(refine hK _ _ ?_;clear hK K)|(refine ap ?_ ?_<;>intro hc<;>try exact jz)|refine aV 9 ?_|refine rA vs jk [v] ?_|refine ar ?_|exact jI|(clear hK K)))
 (refine aZ [] ?_;try simp only[go_sem])
def G6(fn at_ mark:Int)(vs jk slots:List aj)(h1:1<=vs.length)(hL:¬(100000<vs.length+jk.length)):ab prog 217 [.pt 6 0 0 0] (kE fn at_ mark vs jk slots) (fun r l=>r=rV (nth vs (vs.length-1))/\l=kE fn at_ mark vs jk slots):=by
 refine aL func217 ntmps217 ?_;refine S ?_
 (repeat' (first|refine aq fun K hK=>?_|refine au ?_|(with_reducible refine gR 1 ?_);refine dE 1 (bc 0 13) mixed ?_|(refine hK _ _ ?_;clear hK K)|(refine ap ?_ ?_<;>intro hc<;>try exact jz)|refine al 9 ?_|refine ar ?_|exact jI|(clear hK K)))
 (refine aZ [.cell 2 54] ?_;try simp only[go_sem])
def Hv(fn at_ mark:Int)(vs jk slots:List aj)(v:aj)(hL:¬(100000<vs.length+1+jk.length)):ab prog 208 [.pt 6 0 0 0] (kE fn at_ mark (vs++[v]) jk slots) (fun r l=>r=rV v/\l=kE fn at_ mark vs (v::jk) slots):=by
 have VV:=G6 fn at_ mark (vs++[v]) jk slots jE (by rw[List.length_append,List.length_singleton];omega);rw[show nth (vs++[v]) ((vs++[v]).length-1)=v by simp[nth]]at VV;have e:(vs++[v])++jk=vs++(v::jk):=jE;have e2:((vs++[v]).length:Int)-1=vs.length:=jE;have e3:(vs++[v]).length=vs.length+1:=jE;have e4:vs.length+(v::jk).length=vs.length+1+jk.length:=by simp only[List.length_cons];omega
 unfold kE at VV ⊢;rw[e,e3]at VV ⊢;rw[e4];refine aL func208 ntmps208 ?_;refine S ?_
 (repeat' (first|refine aq fun K hK=>?_|refine au ?_|(with_reducible refine gR 2 ?_);refine dE 2 (bc 0 15) mixed ?_|(refine hK _ _ ?_;clear hK K)|(refine ap ?_ ?_<;>intro hc<;>try exact jz)|refine al 9 ?_|refine al 10 ?_|refine cm (VV) ?_|refine ar ?_|exact jI|(clear hK K)))
 refine aZ [.cell 2 54] rfl (h2:=?_);simp[fz,mA]
def RY(fn at_ mark:Int)(vs jk slots:List aj)(k t:Int)(hk:0<=k/\k<slots.length)(hL:¬(100000<slots.length)):ab prog 207 [.pt 6 0 0 0,rI k,rI t] (kE fn at_ mark vs jk slots) (fun r l=>r=rV (eR slots k t)/\l=kE fn at_ mark vs jk slots):=by
 refine aL func207 ntmps207 ?_;refine S ?_
 (repeat' (first|refine aq fun K hK=>?_|refine au ?_|(refine hK _ _ ?_;clear hK K)|(refine ap ?_ ?_<;>intro hc<;>try exact jz)|refine al 9 ?_|refine al 10 ?_|refine cp (AU _) ?_|(first|refine cg (uI _) ?_|refine tF (uI _) ?_)|refine ar ?_|exact jI|(clear hK K)))
 all_goals(refine aZ [.cell 6 54] ?_;try simp only[go_sem])
 all_goals(unfold eR;(repeat' split)<;>first|rfl|omega|(exfalso;simp_all;done)|(simp_all;done)|skip)
end Go.Proofs.YtjpcgmjaipfgdaaGreatDoor
namespace Go.Proofs.YtjpcgmjaipfgdaaGreatDoor
open Go Go.Gd Tryz Go.Gd.MV
section
variable {p:af}{C:aH}{m:MV}{N:NM}{e:TA}(X:TE)
def tc(hR:bH p C m N e)(h1:1<=m.calls.length)(v:aj)(hb:m.ah.stack.length<=1000):kJ prog 203 [cP N,rV v] e X (.aP []) (To p C (m.push v) N):=by have Vl:=(hR.ah h1).bd;exact hR.cB h1 (c':=m.ah.push v) (jk':=N.ah.jk.drop 1) (by show(m.ah.stack++[v]).length+_<=_;rw[List.length_append,List.length_drop,List.length_singleton];omega) rfl rfl (Pz _ _ _ _ _ _ v jB)
def GR(hR:bH p C m N e)(h1:1<=m.calls.length)(hb:1<=m.ah.stack.length):kJ prog 208 [cP N] e X (rV m.ah.last) (To p C (m.cut 1) N):=by
 have Vl:=(hR.ah h1).bd;have e1:m.ah.stack.take (m.ah.stack.length-1)++[m.ah.last]=m.ah.stack:=by unfold MC.last;rw[fJ jB,List.take_append_getElem,show m.ah.stack.length-1+1=m.ah.stack.length from jB,List.take_length]
 have O':(m.ah.stack.take (m.ah.stack.length-1)).length=m.ah.stack.length-1:=by rw[List.length_take];omega
 have hc:=Hv m.ah.fn m.ah.at_ m.ah.mark (m.ah.stack.take (m.ah.stack.length-1)) N.ah.jk m.ah.slots m.ah.last (by rw[O'];omega);rw[e1]at hc;have hb3:(m.ah.cut 1).stack.length+(m.ah.last::N.ah.jk).length<=2000:=by show(m.ah.stack.take (m.ah.stack.length-1)).length+_<=_;rw[O',List.length_cons];omega
 exact hR.cB h1 (c':=m.ah.cut 1) hb3 rfl rfl hc
def Nk(hR:bH p C m N e)(h1:1<=m.calls.length)(hb:1<=m.ah.stack.length):cV prog 217 [cP N] e (rV m.ah.last) e:=by have Vl:=(hR.ah h1).bd;exact hR.rR h1 rfl rfl (G6 _ _ _ _ _ _ hb jB)
def A6(hR:bH p C m N e)(h1:1<=m.calls.length)(k t:Int)(hk:0<=k/\k<m.ah.slots.length)(hb:m.ah.slots.length<=1000):cV prog 207 [cP N,rI k,rI t] e (rV (eR m.ah.slots k t)) e:=
 hR.rR h1 rfl rfl (RY _ _ _ _ _ _ k t hk jB)
def J5(hR:bH p C m N e)(a i:Int)(hl:m.heap.length<=1000)(hf:m.heap.flatten.length<=1000):cV prog 213 [.pt (hn 5 N.k) 0 0 0,rI a,rI i] e (.aP [rI (if i<0\/((MV.bk m.heap a).length:Int)<=i then 0 else nth (MV.bk m.heap a) i.toNat),rI (if i<0\/((MV.bk m.heap a).length:Int)<=i then 2 else 0)]) e:=
 hR.la rfl rfl (Lj m.heap a i hl hf)
def QK(hR:bH p C m N e)(a:Int)(hl:m.heap.length<=1000)(hf:m.heap.flatten.length<=1000):cV prog 212 [.pt (hn 5 N.k) 0 0 0,rI a] e (rI (MV.bk m.heap a).length) e:=
 hR.la rfl rfl (P2 m.heap a hl hf)
def J7(hR:bH p C m N e)(a i n:Int)(hl:m.heap.length<=1000)(hf:m.heap.flatten.length<=1000)(hi:¬(i<0\/((MV.bk m.heap a).length:Int)<=i)):kJ prog 214 [.pt (hn 5 N.k) 0 0 0,rI a,rI i,rI n] e X (rI 0) (To p C { m with heap:=m.heap.set (a-1).toNat ((nth m.heap (a-1).toNat).set i.toNat n) } N):=
 hR.sG rfl rfl (Mu m.heap a i n hl hf hi)
def PK(hR:bH p C m N e)(a i n:Int)(hl:m.heap.length<=1000)(hf:m.heap.flatten.length<=1000)(hi:i<0\/((MV.bk m.heap a).length:Int)<=i):cV prog 214 [.pt (hn 5 N.k) 0 0 0,rI a,rI i,rI n] e (rI 2) e:=
 hR.la rfl rfl (RF m.heap a i n hl hf hi)
def LA(hR:bH p C m N e)(n:Int)(h0:0<=n/\n<=16)(hc:gi m.heap+n+1<=40)(W0:gi m.heap=m.heap.length+m.heap.flatten.length):kJ prog 216 [.pt (hn 5 N.k) 0 0 0,rI n] e X (.aP [rI (m.heap.length+1:Nat),rI 0]) (To p C { m with heap:=m.heap++[List.replicate n.toNat 0] } N):=by obtain⟨k,rfl⟩:∃k:Nat,n=k:=⟨n.toNat,jB⟩;rw[Int.toNat_natCast];exact hR.sG rfl rfl (N8 m.heap k jB jB)
def Jp(hR:bH p C m N e)(n:Int)(h0:n<0\/16<n)(hl:m.heap.length<=40)(hf:m.heap.flatten.length<=40):cV prog 216 [.pt (hn 5 N.k) 0 0 0,rI n] e (.aP [rI 0,rI 7]) e:=
 hR.la rfl rfl (PT m.heap n h0 hl hf)
def Qk(hR:bH p C m N e)(n:Int)(h0:0<=n/\n<=16)(hc:40<(m.heap.length:Int)+m.heap.flatten.length+n+1)(hl:m.heap.length<=40)(hf:m.heap.flatten.length<=40):cV prog 216 [.pt (hn 5 N.k) 0 0 0,rI n] e (.aP [rI 0,rI 4]) e:=
 hR.la rfl rfl (MR m.heap n h0 hc hl hf)
def LI(hR:bH p C m N e)(h1:1<=m.calls.length):(List.map (fun j=>[AV.pt (hn 0 j) 0 0 0]) (List.map NC.c N.cs)++List.map (fun j=>[AV.pt (hn 0 j) 0 0 0]) N.cj).getD (N.cs.length-1) []=[cP N]:=by have hl:=hR.len;rw[<-List.map_append];rw[List.getD_eq_getElem?_getD,List.getElem?_map,List.getElem?_append_left (by rw[List.length_map];omega),List.getElem?_map,List.getElem?_eq_getElem jB];unfold cP NM.ah;rw[fJ jB];rfl
def ua(hR:bH p C m N e)(h1:1<=m.calls.length):cV prog 163 [mP N] e (cP N) e:=by
 have Ta:=hR.ok.low;have hl:=hR.len;have hb:=hR.bd;have hg:=LI hR h1;refine⟨?_,hR.ok,hR.ok,fun _ h=>h,by simp only[aW,AV.all,fV hR.root,Bool.and_self]⟩;refine aL (L:=ids e) func163 ntmps163 ?_ (hL:=rfl);generalize hB:ids e=B;refine eO ?_
 (have W:=jA Ta (jA hR.root (jA hR.row (hg)));repeat' (first|refine aq fun K hK=>?_|refine au ?_|(with_reducible refine gR 1 ?_);refine dE 1 (bc 0 13) mixed ?_|(refine hK _ _ ?_;clear hK K)|(refine ap ?_ ?_<;>intro hc<;>try exact jz)|refine ar ?_|exact jI|(clear hK K)))
 exact dZ hB hR.ok hR.ok (tl:=[]) (fun _=>rfl) dz [.tmp 2]
def DU{N:NM}{n:NC}(h:1<=N.cs.length):(N.ba n).ah=n:=by show nth (N.cs.set _ n) ((N.cs.set _ n).length-1)=n;rw[List.length_set,Go.Gd.dv _ _ _ _ jB,if_pos rfl]
def xr(hR:bH p C m N e)(h1:1<=m.calls.length)(s t:Int):kJ prog 215 [mP N,rI s,rI t] e X (.aP []) (To p C (m.stops s t) N):=by
 have ht:=ua hR h1;have hT:=hR.ah h1;have Ta:=hR.ok.low;have hl:=hR.len;have WW:bH p C { m with status:=s,cY:=t } N (bg e (hn 3 N.k) (.var 205 (mE p C { m with status:=s,cY:=t } N))):=hR.l5 rfl rfl rfl;have Uf:=yb e X 2 0;have hnX:=zq e X 2 0;generalize qA (ids e++X)+0=k at Uf hnX;have Wu:aA (bg e (hn 3 N.k) (.var 205 (mE p C { m with status:=s,cY:=t } N))) (hn 2 k)=none:=by rw[bF,if_neg (dh jB jB jB)];exact Uf
 have i1:=fV hT.eN;have Un:bH p C (m.stops s t) (N.ba ⟨N.ah.c,k,[]⟩) (bg (bg (bg e (hn 3 N.k) (.var 205 (mE p C { m with status:=s,cY:=t } N))) (hn 2 k) (.aF 54 3 [])) (hn 0 N.ah.c) (.var 217 (MV.cE m.ah.back ⟨N.ah.c,k,[]⟩))):=by
  refine WW.ba (c':=m.ah.back) (n':=⟨N.ah.c,k,[]⟩) h1 rfl ?_ ⟨?_,?_,?_,by show 0+0<=2000;omega⟩ (.inr Wu) fun j hj n0 n1 n2=>?_
  ·refine(WW.ok.put (.inr (ix _ _)) rfl).put (.inr (ix _ _)) ?_;have j1:=fV (WW.ah h1).eN;have q1:=(oE (bg e (hn 3 N.k) (.var 205 (mE p C { m with status:=s,cY:=t } N))) (hn 2 k) (hn 2 k) (.aF 54 3 [])).2 (.inl rfl);have q2:=(oE (bg e (hn 3 N.k) (.var 205 (mE p C { m with status:=s,cY:=t } N))) (hn 2 k) (hn 1 N.ah.c) (.aF 54 3 [])).2 (.inr (List.contains_iff_mem.1 j1));rw[<-List.contains_iff_mem]at q1 q2;simp only[Row.cells,MV.cE,aW,AV.all,q1,q2,Bool.or_true,Bool.and_self]
  ·rw[bF,if_pos rfl]
  ·rw[bF,if_neg (dh jB jB jB),bF,if_pos rfl];rfl
  ·rw[bF,if_neg (dh jB jB jB),bF,if_neg (dh jB jB jB)];exact(WW.ah h1).eN
  ·rw[bF,if_neg n0,bF,if_neg (fun e'=>by subst e';exact hj Wu)]
 have hU:Up X e (bg (bg (bg e (hn 3 N.k) (.var 205 (mE p C { m with status:=s,cY:=t } N))) (hn 2 k) (.aF 54 3 [])) (hn 0 N.ah.c) (.var 217 (MV.cE m.ah.back ⟨N.ah.c,k,[]⟩))):=by
  refine((Up.put _ (.inl ?_)).trans (Up.put _ (.inr hnX))).trans (Up.put _ (.inl ?_))
  ·rw[hR.root];simp
  ·rw[bF,if_neg (dh jB jB jB),bF,if_neg (dh jB jB jB),hT.var];simp
 refine⟨_,_,⟨Un,rfl,by rw[DU jB]⟩,hU,⟨?_,hR.ok,Un.ok,hU.aU,by simp only[aW,AV.all,fV hR.root,Bool.and_self]⟩⟩;have k2:=Un.ok;clear Un hU;generalize hE:bg (bg (bg e (hn 3 N.k) (.var 205 (mE p C { m with status:=s,cY:=t } N))) (hn 2 k) (.aF 54 3 [])) (hn 0 N.ah.c) (.var 217 (MV.cE m.ah.back ⟨N.ah.c,k,[]⟩))=E at k2 ⊢;refine aL (L:=ids e) func215 ntmps215 ?_ (hL:=rfl);generalize hB:ids e=B;refine eO ?_
 (have W:=jA Ta (jA hR.root (hT.var));repeat' (first|refine aq fun K hK=>?_|refine au ?_|(refine hK _ _ ?_;clear hK K)|(refine ap ?_ ?_<;>intro hc<;>try exact jz)|refine cT ht ?_|refine ar ?_|exact jI|(clear hK K)))
 refine E7 hB hR.ok k2 (iw.gg (t:=217) (cs:=[.raw (.slice none 0 0),rI m.ah.fn,rI m.ah.mark,rI m.ah.mark,.rs (hn 1 N.ah.c) m.ah.slots.length 3 m.ah.slots.length]) (hn 2 k) (hn 0 N.ah.c) 0 54 3 ?_ jC ?_ rfl) (tl:=[]) (fun i=>?_) dz []
 ·show aA (tie _ []) _=_;simp(disch:=first|omega|assumption|fail) only[go_sem,↓reduceIte,Uf]
 ·show aA (tie _ []) _=_;simp(disch:=first|omega|assumption|fail) only[go_sem,↓reduceIte,hT.var]
 ·subst hE;simp only[Hp.put,j9,bF,aA,Option.or_none];by_cases a:i=hn 0 N.ah.c
  ·rw[if_pos a,if_pos a];rfl
  ·simp only[if_neg a];by_cases b:i=hn 2 k
   ·simp only[if_pos b]
   ·simp only[if_neg b];by_cases c:i=hn 3 N.k
    ·simp only[if_pos c];rfl
    ·simp only[if_neg c]
def xv(hR:bH p C m N e)(h1:1<=m.calls.length)(r:aj×Int)(hb:m.ah.stack.length<=1000):kJ prog 209 [mP N,rV r.1,rI r.2] e X (.aP []) (To p C (m.dS r) N):=by
 have ht:=ua hR h1;have Ta:=hR.ok.low;have ha:∀v t:AV,v.all dU=true->t.all dU=true->aW (fun i=>(ids e).contains i) [mP N,v,t]=true:=fun v t h h'=>by simp only[aW,AV.all,fV hR.root,Bool.true_and,Bool.and_true];exact Bool.and_eq_true _ _ ▸ ⟨pY (fun _ h=>by cases h) _ h,pY (fun _ h=>by cases h) _ h'⟩
 unfold MV.dS;by_cases h0:r.2≠0
 ·rw[if_pos h0];obtain⟨N',l,hT,hU,hp⟩:=xr X hR h1 3 r.2;refine⟨N',l,hT,hU,⟨?_,hR.ok,hp.e2,hU.aU,ha _ _ rfl rfl⟩⟩;refine aL (L:=ids e) func209 ntmps209 ?_ (hL:=rfl);generalize hB:ids e=B;refine eO ?_
  (have W:=Ta;repeat' (first|refine aq fun K hK=>?_|refine au ?_|(refine hK _ _ ?_;clear hK K)|(refine ap ?_ ?_<;>intro hc<;>try exact jz)|refine aV 9 ?_|refine cT hp ?_|refine ar ?_|exact jI|(clear hK K)))
  exact dZ hB hR.ok hp.e2 (fun _=>rfl) (dm jC dz) []
 ·rw[if_neg h0];have h0:r.2=0:=jB;obtain⟨N',l,hT,hU,hp⟩:=tc X hR h1 r.1 hb;refine⟨N',l,hT,hU,⟨?_,hR.ok,hp.e2,hU.aU,ha _ _ rfl rfl⟩⟩;refine aL (L:=ids e) func209 ntmps209 ?_ (hL:=rfl);generalize hB:ids e=B;refine eO ?_
  (have W:=jA Ta h0;repeat' (first|refine aq fun K hK=>?_|refine au ?_|(with_reducible refine gR 3 ?_);refine dC 3 ([],[12],[]) [] (bc 0 6) mixed ?_|(refine hK _ _ ?_;clear hK K)|(refine ap ?_ ?_<;>intro hc<;>try exact jz)|refine aV 9 ?_|refine mq ht ?_|refine cT hp ?_|refine ar ?_|exact jI|(clear hK K)))
  exact dZ hB hR.ok hp.e2 (fun _=>rfl) (dm jC dz) []
end
section
variable {p:af}{C:aH}{m:MV}{N:NM}{e:TA}(X:TE)
def ql(hR:bH p C m N e){l:TB}(h:aW dU l=true):aW (fun i=>(ids e).contains i) (mP N::l)=true:=by simp only[aW,AV.all,fV hR.root,Bool.true_and];exact fT (fun _ h=>by cases h) _ h
def GB(hR:bH p C m N e)(h1:1<=m.calls.length)(v:aj)(hb:∀k,k<m.calls.length->(nth m.calls k).stack.length<=1000):kJ prog 218 [mP N,rV v] e X (.aP []) (fun N' l=>bH p C (m.ends v) N' l/\N'.k=N.k):=by
 have Ta:=hR.ok.low;have hl:=hR.len;have ZO:=hR.bd;unfold MV.ends;by_cases h2:m.calls.length<=1
 ·rw[if_pos h2];have Un:bH p C { m.pop with status:=2 } N.pop (bg e (hn 3 N.k) (.var 205 (mE p C { m.pop with status:=2 } N.pop))):=hR.wL h1 rfl rfl rfl;have hU:Up X e (bg e (hn 3 N.k) (.var 205 (mE p C { m.pop with status:=2 } N.pop))):=Up.put _ (.inl (by rw[hR.root];simp));refine⟨_,_,⟨Un,rfl⟩,hU,⟨?_,hR.ok,Un.ok,hU.aU,ql hR rfl⟩⟩;have k2:=Un.ok;clear Un hU;generalize hE:bg e (hn 3 N.k) (.var 205 (mE p C { m.pop with status:=2 } N.pop))=E at k2 ⊢;refine aL (L:=ids e) func218 ntmps218 ?_ (hL:=rfl);generalize hB:ids e=B;refine eO ?_
  (have W:=jA Ta (hR.root);repeat' (first|refine aq fun K hK=>?_|refine au ?_|(with_reducible refine gR 1 ?_);refine dE 1 (bc 0 15) mixed ?_|(refine hK _ _ ?_;clear hK K)|(refine ap ?_ ?_<;>intro hc<;>try exact jz)|refine aV 9 ?_|refine ar ?_|exact jI|(clear hK K)))
  refine dZ (tl:=[(9,.var 54 (bS v))]) hB hR.ok k2 (fun i=>?_) (dm jC dz) [];subst hE;have e1:N.cs.length=1:=jB;simp only[j9,bF];by_cases a:i=hn 3 N.k
  ·simp only[if_pos a,Option.some_or];unfold mE NM.pop;simp[MV.pop,kg,e1,Nat.add_comm]
  ·simp only[if_neg a]
 ·rw[if_neg h2];have Un:bH p C m.pop N.pop (bg e (hn 3 N.k) (.var 205 (mE p C m.pop N.pop))):=hR.wL h1 rfl rfl rfl;have eE:bg e (hn 3 N.k) (.var 205 (mE p C m.pop N.pop))=bg e (hn 3 N.k) (.var 205 (kg p++[aM dj 4 C.ins,aM eI 1 C.entry,.rs (hn 4 N.k) (N.cs.length+N.cj.length) 1 (N.cs.length-1),.pt (hn 5 N.k) 0 0 0,.rs (hn 8 N.k) m.bz.length 1 m.bz.length,.raw (.int .i64 m.in_),.raw (.int .i64 m.status),.raw (.int .i64 m.cY),.raw (.int .i64 m.time)])):=by
   unfold mE NM.pop;have:N.cs.length-1+(N.cj.length+1)=N.cs.length+N.cj.length:=jB;simp[MV.pop,this]
  rw[eE]at Un;have hU:Up X e (bg e (hn 3 N.k) (.var 205 (kg p++[aM dj 4 C.ins,aM eI 1 C.entry,.rs (hn 4 N.k) (N.cs.length+N.cj.length) 1 (N.cs.length-1),.pt (hn 5 N.k) 0 0 0,.rs (hn 8 N.k) m.bz.length 1 m.bz.length,.raw (.int .i64 m.in_),.raw (.int .i64 m.status),.raw (.int .i64 m.cY),.raw (.int .i64 m.time)]))):=Up.put _ (.inl (by rw[hR.root];simp));have p1:1<=m.pop.calls.length:=by show 1<=(m.calls.take _).length;rw[List.length_take];omega
  have ht:=ua Un p1;have ZR:m.pop.ah.stack.length<=1000:=by have:m.pop.ah=nth m.calls (m.calls.length-1-1):=MV.qF jB;rw[this];exact hb _ jB
  obtain⟨N',l,hT,Ui,hp⟩:=tc X Un p1 v ZR;refine⟨N',l,⟨hT.1,hT.2.1⟩,hU.trans Ui,⟨?_,hR.ok,hp.e2,(hU.trans Ui).aU,ql hR rfl⟩⟩;clear hU Ui eE;refine aL (L:=ids e) func218 ntmps218 ?_ (hL:=rfl);generalize hB:ids e=B;refine eO ?_
  (have W:=jA Ta (hR.root);repeat' (first|refine aq fun K hK=>?_|refine au ?_|(with_reducible refine gR 1 ?_);refine dE 1 (bc 0 15) mixed ?_|(with_reducible refine gR 4 ?_);refine dC 4 ([],[28],[]) [] (bc 0 6) mixed ?_|(refine hK _ _ ?_;clear hK K)|(refine ap ?_ ?_<;>intro hc<;>try exact jz)|refine aV 9 ?_|refine mq ht ?_|refine cT hp ?_|refine ar ?_|exact jI|(clear hK K)))
  exact dZ hB hR.ok hp.e2 (fun _=>rfl) (dm jC dz) []
structure pO(p:af)(C:aH)(m:MV)(fn:Int)(args:List aj):Prop where
 f0:0<=fn
 f1:fn<C.entry.length
 f2:fn<p.size.length
 s0:0<=nth p.size fn.toNat
 s1:nth p.size fn.toNat<=24
 s2:(args.length:Int)<=nth p.size fn.toNat
 oS:C.entry.length<=1000/\p.size.length<=1000
 calls:m.calls.length<=8
def HK(hR:bH p C m N e)(fn:Int)(args:List aj)(hk:pO p C m fn args):kJ prog 112 [mP N,rI fn,aM bS 3 args] e X (.aP []) (fun N' l=>bH p C (m.cM p C fn args) N' l/\N'.k=N.k):=by
 have Ta:=hR.ok.low;have hl:=hR.len;have ZO:=hR.bd;obtain⟨f0,f1,f2,s0,s1,s2,⟨b1,b2⟩,h8⟩:=hk;have n0:=yb e X 0 0;have n1:=yb e X 1 0;have n2:=yb e X 2 0;have x0:=zq e X 0 0;have x1:=zq e X 1 0;have x2:=zq e X 2 0;generalize qA (ids e++X)+0=k at n0 n1 n2 x0 x1 x2;have Un:=hR.CN (m':=m.cM p C fn args) (c':=iE p C fn args) (j:=k) jB rfl rfl rfl n0 n1 n2 (by show 0<=2000;omega);have hU:Up X e (nF p C (m.cM p C fn args) N (iE p C fn args) k e):=by
  unfold nF;refine((((Up.put _ (.inr x1)).trans (Up.put _ (.inr x2))).trans (Up.put _ (.inr x0))).trans (Up.put _ (.inl ?_))).trans (Up.put _ (.inl ?_))
  ·rw[bF,if_neg (dh jB jB jB),bF,if_neg (dh jB jB jB),bF,if_neg (dh jB jB jB),hR.row];simp
  ·rw[bF,if_neg (dh jB jB jB),bF,if_neg (dh jB jB jB),bF,if_neg (dh jB jB jB),bF,if_neg (dh jB jB jB),hR.root];simp
 obtain⟨n,XK⟩:∃n:Nat,nth p.size fn.toNat=(n:Int):=⟨(nth p.size fn.toNat).toNat,jB⟩;refine⟨_,_,⟨Un,rfl⟩,hU,⟨?_,hR.ok,Un.ok,hU.aU,ql hR rfl⟩⟩;have k2:=Un.ok;clear Un hU;generalize hE:nF p C (m.cM p C fn args) N (iE p C fn args) k e=E at k2 ⊢;have han:args.length<=n:=jB;refine aL (L:=ids e) func112 ntmps112 ?_ (hL:=rfl);generalize hB:ids e=B;refine eO ?_
 (have W:=jA Ta (jA hR.root (jA hR.row (jA XK (jA n0 (n1)))));repeat' (first|refine aq fun K hK=>?_|refine au ?_|(with_reducible refine gR 0 ?_);refine dC 0 ([],[],[32]) [] (bc 0 29) mixed ?_|(refine hK _ _ ?_;clear hK K)|(refine ap ?_ ?_<;>intro hc<;>try exact jz)|refine aV (hn 0 k) ?_|refine S6 (n:=n) (hn 1 k) ?_|refine Nj ?_ (hd:=by(show aA (tie _ _) _=_;rw[j9,n1,Option.none_or];exact if_pos rfl))|refine ve 10 ?_|refine rA (enc:=fun j=>[.pt (hn 0 j) 0 0 0]) (N.cs.map NC.c) N.cj [k] ?_ (hm:=by rw[List.length_map]) (hn:=by rw[List.length_map])|refine ar ?_|exact jI|(clear hK K)))
 refine E7 (tl:=[(10,.aF 213 1 [[.pt (hn 0 k) 0 0 0]])]) hB hR.ok k2 (iw.gg (t:=217) (cs:=[.raw (.slice none 0 0),rI fn,rI (nth C.entry fn.toNat),rI (nth C.entry fn.toNat),.rs (hn 1 k) n 3 n]) (hn 2 k) (hn 0 k) 0 54 3 ?_ jC ?_ rfl) (fun i=>?_) (dm jC dz) []
 ·show aA (tie _ _) _=_;simp(disch:=first|omega|assumption|fail) only[go_sem,↓reduceIte,n2]
 ·show aA (tie _ _) _=_;simp(disch:=first|omega|assumption|fail) only[go_sem,↓reduceIte,n0]
 ·subst hE;have en:((nth p.size fn.toNat)-(args.length:Int)).toNat=n-args.length:=jB;have es:(iE p C fn args).slots.map bS=dr (List.replicate n (bS v0)) 0 (args.map bS):=by
   show(args++List.replicate _ v0).map bS=_;unfold dr;rw[en,List.map_append,List.map_replicate];simp
  have el:(iE p C fn args).slots.length=n:=by show(args++List.replicate _ v0).length=n;rw[en,List.length_append,List.length_replicate];omega
  have q4:hn 4 N.k≠hn 3 N.k:=dh jB jB jB;simp only[nF,Hp.put,j9,bF,es];by_cases a:i=hn 3 N.k
  ·subst a;simp(disch:=first|omega|assumption|fail) only[go_sem,↓reduceIte,NM.nJ,List.length_append,List.length_drop,List.length_singleton,MV.cM]
  simp only[if_neg a];by_cases b:i=hn 4 N.k
  ·subst b;simp(disch:=first|omega|assumption|fail) only[go_sem,↓reduceIte,NM.nJ,List.map_append,List.append_assoc]
  simp only[if_neg b];by_cases c:i=hn 0 k
  ·subst c;simp(disch:=first|omega|assumption|fail) only[go_sem,↓reduceIte,el];rfl
  simp only[if_neg c];by_cases d:i=hn 2 k
  ·subst d;simp(disch:=first|omega|assumption|fail) only[go_sem,↓reduceIte];rfl
  simp only[if_neg d];by_cases f:i=hn 1 k
  ·subst f;simp(disch:=first|omega|assumption|fail) only[go_sem,↓reduceIte,n1];rfl
  simp only[if_neg f,aA,if_neg c]
end
structure pF(p:af)(C:aH)(m:MV)(x:ax):Prop where
 calls:1<=m.calls.length
 nb:m.calls.length<=8
 one:x.op=6\/x.op=8\/x.op=9\/x.op=10\/x.op=11\/x.op=13\/x.op=15\/x.op=17\/x.op=18\/x.op=19\/x.op=21\/x.op=23->1<=m.ah.stack.length
 two:x.op=7\/x.op=12->2<=m.ah.stack.length
 slot:x.op=5\/x.op=6\/x.op=11\/x.op=12->0<=x.a/\x.a<m.ah.slots.length
 call:x.op=20->0<=x.b/\x.b<=m.ah.stack.length/\(m.calls.length<8->pO p C m x.a (m.ah.stack.drop (m.ah.stack.length-x.b.toNat)))
 word:x.op=15->cn m.ah.last.n
 jX:∀v∈m.ah.stack,v.s.size<=40
 deep:∀k,k<m.calls.length->(nth m.calls k).stack.length<=1000
 slots:m.ah.slots.length<=24
 heap:gi m.heap<=40
 outs:m.bz.length<=24
 nB:0<=m.in_
 oA:m.in_<=1000
theorem pF.ah{p:af}{C:aH}{m:MV}{x:ax}(h:pF p C m x):m.ah.stack.length<=1000:=h.deep (m.calls.length-1) (by have:=h.calls;omega)
section
variable {p:af}{C:aH}{m:MV}{N:NM}{e:TA}(X:TE)
def gZ(hR:bH p C m N e)(h1:1<=m.calls.length){l:TB}(h:aW dU l=true):aW (fun i=>(ids e).contains i) (mP N::cP N::l)=true:=by simp only[aW,AV.all,fV hR.root,fV (hR.ah h1).var,Bool.true_and];exact fT (fun _ h=>by cases h) _ h
def Nl(hR:bH p C m N e)(h1:1<=m.calls.length)(x:ax)(hx:¬(x.op=2\/x.op=3\/x.op=4\/x.op=5)):cV prog 164 [mP N,cP N,.agg (dj x)] e (rB false) e:=by
 have Ta:=hR.ok.low;refine⟨?_,hR.ok,hR.ok,fun _ h=>h,gZ hR h1 rfl⟩;refine aL (L:=ids e) func164 ntmps164 ?_ (hL:=rfl);generalize hB:ids e=B;refine eO ?_
 (have W:=Ta;repeat' (first|refine aq fun K hK=>?_|refine au ?_|(with_reducible refine gR 4 ?_);refine dE 4 (bc 0 7) mixed ?_|(with_reducible refine gR 6 ?_);refine dE 6 (bc 0 8) mixed ?_|(with_reducible refine gR 8 ?_);refine dE 8 (bc 0 7) mixed ?_|(with_reducible refine gR 10 ?_);refine dE 10 (bc 0 10) mixed ?_|(refine hK _ _ ?_;clear hK K)|(refine ap ?_ ?_<;>intro hc<;>try exact jz)|refine aV 9 ?_|refine ar ?_|exact jI|(clear hK K)))
 exact dZ hB hR.ok hR.ok (fun _=>rfl) (dm jC dz) [.tmp 6]
def NX(hR:bH p C m N e)(inp:TD)(x:ax)(hk:pF p C m x)(hx:x.op=2\/x.op=3\/x.op=4\/x.op=5):kJ prog 164 [mP N,cP N,.agg (dj x)] e X (rB true) (To p C (m.ins p C inp x) N):=by
 have h1:=hk.calls;have Ta:=hR.ok.low;have h5:x.op=5->cV prog 207 [cP N,rI x.a,rI x.b] e (rV (eR m.ah.slots x.a x.b)) e:=fun h=>A6 hR h1 x.a x.b (hk.slot (.inl h)) (by have:=hk.slots;omega)
 have key:∀v:aj,((x.op=2/\v=vI x.a)\/(x.op=3/\v=vB (decide (x.a=1)))\/(x.op=4/\v=vT x.s)\/(x.op=5/\v=eR m.ah.slots x.a x.b))->kJ prog 164 [mP N,cP N,.agg (dj x)] e X (rB true) (To p C (m.push v) N):=fun v hv=>by
  obtain⟨N',l,hT,hU,hp⟩:=tc X hR h1 v hk.ah;refine⟨N',l,hT,hU,⟨?_,hR.ok,hp.e2,hU.aU,gZ hR h1 rfl⟩⟩;refine aL (L:=ids e) func164 ntmps164 ?_ (hL:=rfl);generalize hB:ids e=B;refine eO ?_;rcases hv with⟨h,rfl⟩|⟨h,rfl⟩|⟨h,rfl⟩|⟨h,rfl⟩
  all_goals
   (have W:=Ta;repeat' (first|refine aq fun K hK=>?_|refine au ?_|(with_reducible refine gR 4 ?_);refine dE 4 (bc 0 7) mixed ?_|(with_reducible refine gR 6 ?_);refine dE 6 (bc 0 8) mixed ?_|(with_reducible refine gR 8 ?_);refine dE 8 (bc 0 7) mixed ?_|(with_reducible refine gR 10 ?_);refine dC 10 ([],[47],[]) [] (bc 0 10) mixed ?_|(refine hK _ _ ?_;clear hK K)|(refine ap ?_ ?_<;>intro hc<;>try exact jz)|refine aV 9 ?_|refine cp (tT _) ?_|refine cp (xA _) ?_|refine cp (ID _) ?_|refine mq (h5 h) ?_|refine cT hp ?_|refine ar ?_|exact jI|(clear hK K)))
  all_goals exact dZ hB hR.ok hp.e2 (fun _=>rfl) (dm jC dz) [.tmp 6]
 unfold MV.ins;rcases hx with h|h|h|h
 ·have:=key (vI x.a) (.inl ⟨h,rfl⟩);simpa[h]using this
 ·have:=key (vB (decide (x.a=1))) (.inr (.inl ⟨h,rfl⟩));simpa[h]using this
 ·have:=key (vT x.s) (.inr (.inr (.inl ⟨h,rfl⟩)));simpa[h]using this
 ·have:=key (eR m.ah.slots x.a x.b) (.inr (.inr (.inr ⟨h,rfl⟩)));simpa[h]using this
end
section
variable {p:af}{C:aH}{m:MV}{N:NM}{e:TA}(X:TE)
def KO(hR:bH p C m N e)(h1:1<=m.calls.length)(x:ax)(hx:¬(x.op=16\/x.op=17\/x.op=18\/x.op=19)):cV prog 167 [mP N,cP N,.agg (dj x)] e (rB false) e:=by
 have Ta:=hR.ok.low;refine⟨?_,hR.ok,hR.ok,fun _ h=>h,gZ hR h1 rfl⟩;refine aL (L:=ids e) func167 ntmps167 ?_ (hL:=rfl);generalize hB:ids e=B;refine eO ?_
 (have W:=Ta;repeat' (first|refine aq fun K hK=>?_|refine au ?_|(with_reducible refine gR 10 ?_);refine dQ 10 mixed ?_|(refine hK _ _ ?_;clear hK K)|(refine ap ?_ ?_<;>intro hc<;>try exact jz)|refine aV 9 ?_|refine ar ?_|exact jI|(clear hK K)))
 exact dZ hB hR.ok hR.ok (fun _=>rfl) (dm jC dz) [.tmp 6]
def MD(hR:bH p C m N e)(inp:TD)(x:ax)(hk:pF p C m x)(hx:x.op=16\/x.op=17\/x.op=18\/x.op=19):kJ prog 167 [mP N,cP N,.agg (dj x)] e X (rB true) (To p C (m.ins p C inp x) N):=by
 have h1:=hk.calls;have Ta:=hR.ok.low;have hT:=hR.ah h1;by_cases Vf:x.op=16
 ·have ei:m.ins p C inp x=m.ba (m.ah.jump x.a):=by unfold MV.ins;simp[Vf]
  rw[ei];have Un:=hR.jS h1 (c':=m.ah.jump x.a) rfl rfl;have hU:Up X e (bg e (hn 0 N.ah.c) (.var 217 (MV.cE (m.ah.jump x.a) N.ah))):=Up.put _ (.inl (by rw[hT.var];simp));refine⟨_,_,⟨Un,rfl,rfl⟩,hU,⟨?_,hR.ok,Un.ok,hU.aU,gZ hR h1 rfl⟩⟩;have k2:=Un.ok;clear Un hU;generalize hE:bg e (hn 0 N.ah.c) (.var 217 (MV.cE (m.ah.jump x.a) N.ah))=E at k2 ⊢;refine aL (L:=ids e) func167 ntmps167 ?_ (hL:=rfl);generalize hB:ids e=B;refine eO ?_
  (have W:=jA Ta (hT.var);repeat' (first|refine aq fun K hK=>?_|refine au ?_|(with_reducible refine gR 10 ?_);refine dQ 10 mixed ?_|(refine hK _ _ ?_;clear hK K)|(refine ap ?_ ?_<;>intro hc<;>try exact jz)|refine aV 9 ?_|refine ar ?_|exact jI|(clear hK K)))
  subst hE;exact dZ hB hR.ok k2 (fun _=>rfl) (dm jC dz) [.tmp 6]
 have Vu:=hk.one jB;obtain⟨N1,l1,Tf,TV,UE⟩:=GR X hR h1 Vu;have Ym:1<=(m.cut 1).calls.length:=by rw[show(m.cut 1).calls.length=m.calls.length from MV.bG _ _];exact h1
 have TT:=Tf.1.ok.low;have XL:=(Tf.1.ah Ym).var;rw[Tf.2.2]at XL;have Ud:=Tf.1.jS Ym (c':=(m.cut 1).ah.jump x.a) rfl rfl;have Ui:Up X l1 (bg l1 (hn 0 N1.ah.c) (.var 217 (MV.cE ((m.cut 1).ah.jump x.a) N1.ah))):=Up.put _ (.inl (by rw[Tf.2.2,XL];simp));by_cases h17:x.op=17
 ·by_cases hz:m.ah.last.n=0
  ·have ei:m.ins p C inp x=(m.cut 1).ba ((m.cut 1).ah.jump x.a):=by
    unfold MV.ins;simp only[h17,hz];unfold MV.cut;rw[MV.dp,MV.bp h1];rfl
   rw[ei];refine⟨_,_,⟨Ud,Tf.2.1,Tf.2.2⟩,TV.trans Ui,⟨?_,hR.ok,Ud.ok,(TV.trans Ui).aU,gZ hR h1 rfl⟩⟩;have k2:=Ud.ok;clear Ud TV Ui;generalize hE:bg l1 (hn 0 N1.ah.c) (.var 217 (MV.cE ((m.cut 1).ah.jump x.a) N1.ah))=E at k2 ⊢;refine aL (L:=ids e) func167 ntmps167 ?_ (hL:=rfl);generalize hB:ids e=B;refine eO ?_
   (have W:=jA Ta (jA TT (jA XL (hz)));repeat' (first|refine aq fun K hK=>?_|refine au ?_|(with_reducible refine gR 10 ?_);refine dQ 10 mixed ?_|(refine hK _ _ ?_;clear hK K)|(refine ap ?_ ?_<;>intro hc<;>try exact jz)|refine aV 9 ?_|refine cT UE ?_|refine ar ?_|exact jI|(clear hK K)))
   subst hE;refine dZ (tl:=[(9,.var 219 (dj x))]) hB hR.ok k2 (fun i=>?_) (dm jC dz) [.tmp 6];have:=Tf.2.2;unfold MV.cE;rw[this];rfl
  ·have ei:m.ins p C inp x=m.cut 1:=by unfold MV.ins;simp only[h17];simp[hz]
   rw[ei];refine⟨_,_,Tf,TV,⟨?_,hR.ok,UE.e2,TV.aU,gZ hR h1 rfl⟩⟩;refine aL (L:=ids e) func167 ntmps167 ?_ (hL:=rfl);generalize hB:ids e=B;refine eO ?_
   (have W:=jA Ta TT;repeat' (first|refine aq fun K hK=>?_|refine au ?_|(with_reducible refine gR 10 ?_);refine dQ 10 mixed ?_|(refine hK _ _ ?_;clear hK K)|(refine ap ?_ ?_<;>intro hc<;>try exact jz)|refine aV 9 ?_|refine cT UE ?_|refine ar ?_|exact jI|(clear hK K)))
   exact dZ hB hR.ok UE.e2 (fun _=>rfl) (dm jC dz) [.tmp 6]
 have VV:=Nk hR h1 Vu;have h2:x.op=18\/x.op=19:=jB;have WL:m.ins p C inp x=if(m.ah.last.n=1<->x.op=19)then m.ba (m.ah.jump x.a)else m.cut 1:=by unfold MV.ins;rcases h2 with h|h<;>simp only[h]<;>rfl
 by_cases hj:(m.ah.last.n=1<->x.op=19)
 ·have ei:m.ins p C inp x=m.ba (m.ah.jump x.a):=by rw[WL,if_pos hj]
  rw[ei];have X3:=hR.jS h1 (c':=m.ah.jump x.a) rfl rfl;have hU:Up X e (bg e (hn 0 N.ah.c) (.var 217 (MV.cE (m.ah.jump x.a) N.ah))):=Up.put _ (.inl (by rw[hT.var];simp));refine⟨_,_,⟨X3,rfl,rfl⟩,hU,⟨?_,hR.ok,X3.ok,hU.aU,gZ hR h1 rfl⟩⟩;have k2:=X3.ok;clear X3 hU Ud Ui TV;generalize hE:bg e (hn 0 N.ah.c) (.var 217 (MV.cE (m.ah.jump x.a) N.ah))=E at k2 ⊢;have hj':(decide (m.ah.last.n=1) == decide (x.op=19))=true:=by by_cases a:m.ah.last.n=1<;>by_cases b:x.op=19<;>simp[a,b]at hj ⊢
  refine aL (L:=ids e) func167 ntmps167 ?_ (hL:=rfl);generalize hB:ids e=B;refine eO ?_;rcases h2 with h|h
  all_goals
   (have W:=jA Ta (jA hT.var (hj'));repeat' (first|refine aq fun K hK=>?_|refine au ?_|(with_reducible refine gR 10 ?_);refine dC 10 ([],[35],[]) [] (bc 0 10) mixed ?_|(refine hK _ _ ?_;clear hK K)|(refine ap ?_ ?_<;>intro hc<;>try exact jz)|refine aV 9 ?_|refine mq VV ?_|refine ar ?_|exact jI|(clear hK K)))
  all_goals
   subst hE;exact dZ hB hR.ok k2 (fun _=>rfl) (dm jC dz) [.tmp 6]
 ·have ei:m.ins p C inp x=m.cut 1:=by rw[WL,if_neg hj]
  rw[ei];refine⟨_,_,Tf,TV,⟨?_,hR.ok,UE.e2,TV.aU,gZ hR h1 rfl⟩⟩;have hj':(decide (m.ah.last.n=1) == decide (x.op=19))=false:=by by_cases a:m.ah.last.n=1<;>by_cases b:x.op=19<;>simp[a,b]at hj ⊢
  refine aL (L:=ids e) func167 ntmps167 ?_ (hL:=rfl);generalize hB:ids e=B;refine eO ?_;rcases h2 with h|h
  all_goals
   (have W:=jA Ta (hj');repeat' (first|refine aq fun K hK=>?_|refine au ?_|(with_reducible refine gR 10 ?_);refine dC 10 ([],[35],[]) [] (bc 0 10) mixed ?_|(refine hK _ _ ?_;clear hK K)|(refine ap ?_ ?_<;>intro hc<;>try exact jz)|refine aV 9 ?_|refine mq VV ?_|refine cT UE ?_|refine ar ?_|exact jI|(clear hK K)))
  all_goals exact dZ hB hR.ok UE.e2 (fun _=>rfl) (dm jC dz) [.tmp 6]
end
end Go.Proofs.YtjpcgmjaipfgdaaGreatDoor
namespace Go.Proofs.YtjpcgmjaipfgdaaGreatDoor
open Go Go.Gd Tryz
theorem Hd:∀h:TC,h.foldl lD (0:Int)=(h.flatten.length:Int)
 |[]=>rfl
 |x::h=>by show h.foldl lD (lD 0 x)=_;rw[mR,Hd h,List.flatten_cons,List.length_append];show(0:Int)+(x.length:Int)+_=_;omega
def wG(h:TC):gi h=h.length+h.flatten.length:=by unfold gi;rw[mR,Hd]
end Go.Proofs.YtjpcgmjaipfgdaaGreatDoor
namespace Go.Proofs.YtjpcgmjaipfgdaaGreatDoor
open Go Go.Gd Tryz Go.Gd.MV
section
variable {p:af}{C:aH}{m:MV}{N:NM}{e:TA}(X:TE)
def ww(hR:bH p C m N e)(h1:1<=m.calls.length)(hb:1<=m.ah.stack.length):∃N' l,(To p C (m.cut 1) N N' l/\N'.ah.v=N.ah.v)/\Up X e l/\cV prog 208 [cP N] e (rV m.ah.last) l/\∀C D,CJ ([hn 2 N.ah.v,hn 16 N.ah.c],C,D) e l:=by
 have ht:=hR.ah h1;have Vl:=ht.bd;have hl:=hR.len;have e1:m.ah.stack.take (m.ah.stack.length-1)++[m.ah.last]=m.ah.stack:=by unfold MC.last;rw[fJ jB,List.take_append_getElem,show m.ah.stack.length-1+1=m.ah.stack.length from jB,List.take_length]
 have O':(m.ah.stack.take (m.ah.stack.length-1)).length=m.ah.stack.length-1:=by rw[List.length_take];omega
 have hc:=Hv m.ah.fn m.ah.at_ m.ah.mark (m.ah.stack.take (m.ah.stack.length-1)) N.ah.jk m.ah.slots m.ah.last (by rw[O'];omega);rw[e1]at hc;have hb3:(m.ah.cut 1).stack.length+(m.ah.last::N.ah.jk).length<=2000:=by show(m.ah.stack.take (m.ah.stack.length-1)).length+_<=_;rw[O',List.length_cons];omega
 obtain⟨⟨h2,h3⟩,h4,h5⟩:=hR.mS (X:=X) h1 (c':=m.ah.cut 1) hb3 rfl rfl hc;refine⟨_,_,⟨⟨h2,rfl,h3⟩,by rw[DU jB]⟩,h4,h5,fun C D j hj hje=>?_⟩;have VU:j≠hn 2 N.ah.v:=fun e'=>by subst e';simp at hj
 unfold kL;by_cases h0:j=hn 0 N.ah.c
 ·right
  subst h0;refine⟨by rw[N7];simp,217,_,.rs (hn 2 N.ah.v) ((m.ah.cut 1).stack.length+(m.ah.last::N.ah.jk).length) 3 (m.ah.cut 1).stack.length,_,ht.var,?_⟩;rw[bF,if_neg (dh jB jB jB),bF,if_neg (dh jB jB jB),bF,if_pos rfl];rfl
 ·left
  rw[bF];by_cases XO:j=hn 1 N.ah.c
  ·rw[if_pos XO];subst XO;rw[ht.eN];rfl
  ·rw[if_neg XO,bF,if_neg VU,bF,if_neg h0]
def Qt(hR:bH p C m N e)(h1:1<=m.calls.length)(x:ax)(hx:¬(x.op=7\/x.op=8\/x.op=9\/x.op=10)):cV prog 165 [mP N,cP N,.agg (dj x)] e (rB false) e:=by
 have Ta:=hR.ok.low;refine⟨?_,hR.ok,hR.ok,fun _ h=>h,gZ hR h1 rfl⟩;refine aL (L:=ids e) func165 ntmps165 ?_ (hL:=rfl);generalize hB:ids e=B;refine eO ?_
 (have W:=Ta;repeat' (first|refine aq fun K hK=>?_|refine au ?_|(refine hK _ _ ?_;clear hK K)|(refine ap ?_ ?_<;>intro hc<;>try exact jz)|refine aV 9 ?_|refine ar ?_|exact jI|(clear hK K)))
 exact dZ hB hR.ok hR.ok (fun _=>rfl) (dm jC dz) [.tmp 6]
def Fs(h1:1<=m.calls.length)(a b:Nat)(ZL:a+b<=m.ah.stack.length):(m.cut a).cut b=m.cut (a+b):=by
 unfold MV.cut;rw[MV.dp,MV.bp h1];congr 1
 unfold MC.cut;simp only[List.length_take];rw[Nat.min_eq_left jB,List.take_take,Nat.min_eq_left jB];congr 1
 ·congr 1;omega
 ·omega
def D2(hb:1<=m.ah.stack.length):m.ah.last∈m.ah.stack:=by unfold MC.last;rw[fJ jB];exact List.getElem_mem _
def LR(hb:2<=m.ah.stack.length):(m.ah.cut 1).last∈m.ah.stack:=by unfold MC.last MC.cut;simp only[List.length_take];rw[Nat.min_eq_left jB,Go.Gd.MV.gI jB,fJ jB];exact List.getElem_mem _
def SX(hR:bH p C m N e)(inp:TD)(x:ax)(hk:pF p C m x)(hx:x.op=7\/x.op=8\/x.op=9\/x.op=10):kJ prog 165 [mP N,cP N,.agg (dj x)] e X (rB true) (To p C (m.ins p C inp x) N):=by
 have h1:=hk.calls;have Ta:=hR.ok.low;have hdp:=hk.ah;have UN:1<=m.ah.stack.length:=by
  by_cases h7:x.op=7
  ·have:=hk.two (.inl h7);omega
  ·exact hk.one jB
 obtain⟨N1,l1,⟨Tf,XL⟩,TV,UE,Vt⟩:=ww X hR h1 UN;have TP:(m.cut 1).calls.length=m.calls.length:=MV.bG _ _;have WA:(m.cut 1).ah=m.ah.cut 1:=MV.bp h1 _;have Xb:(m.cut 1).ah.stack.length=m.ah.stack.length-1:=by rw[WA];show(m.ah.stack.take _).length=_;rw[List.length_take];omega
 have TT:=Tf.1.ok.low;have eN1:cP N1=cP N:=by unfold cP;rw[Tf.2.2]
 have eM1:mP N1=mP N:=by unfold mP;rw[Tf.2.1]
 by_cases h7:x.op=7
 ·have h2:=hk.two (.inl h7);rw[Ej _ _ _ _ _ h7];obtain⟨N2,l2,⟨Ue,Xk⟩,Ui,WU,YR⟩:=ww X Tf.1 jB jB;rw[eN1,WA]at WU;rw[XL,Tf.2.2]at YR;have ecc:(m.cut 1).cut 1=m.cut 2:=Fs h1 1 1 jB;rw[ecc]at Ue;have UT:=Ue.1.ok.low;have hc2:(m.cut 2).calls.length=m.calls.length:=MV.bG _ _;have hs2:(m.cut 2).ah.stack.length<=1000:=by rw[show(m.cut 2).ah=m.ah.cut 2 from MV.bp h1 _];show(m.ah.stack.take _).length<=_;rw[List.length_take];omega
  obtain⟨N',l,hT,hU,hp⟩:=xv X Ue.1 jB (pV x.s (m.ah.cut 1).last m.ah.last) hs2;rw[show mP N2=mP N by unfold mP;rw[Ue.2.1,Tf.2.1]]at hp;have har:=hk.jX _ (D2 UN);have hsz2:=hk.jX _ (LR h2);have hbn:=L8 x.s (m.ah.cut 1).last m.ah.last jB jB;refine⟨N',l,⟨hT.1,hT.2.1.trans (Ue.2.1.trans Tf.2.1),hT.2.2.trans (Ue.2.2.trans Tf.2.2)⟩,TV.trans (Ui.trans hU),⟨?_,hR.ok,hp.e2,(TV.trans (Ui.trans hU)).aU,gZ hR h1 rfl⟩⟩;refine aL (L:=ids e) func165 ntmps165 ?_ (hL:=rfl);generalize hB:ids e=B;refine eO ?_
  (have W:=jA Ta (jA TT (UT));repeat' (first|refine aq fun K hK=>?_|refine au ?_|(with_reducible refine gR 5 ?_);refine pX 5 [hn 2 N.ah.v,hn 16 N.ah.c] [] [24] [] [0,1,2,3,4,5,7,6,8,9,10,11] mixed ?_|(refine hK _ _ ?_;clear hK K)|(refine ap ?_ ?_<;>intro hc<;>try exact jz)|refine aV 9 ?_|refine bY 10 ?_|refine cT UE ?_|refine nS WU (YR _ _) ?_|refine cp (hbn) ?_|refine cT hp ?_|refine ar ?_|exact jI|(clear hK K)))
  exact dZ hB hR.ok hp.e2 (fun _=>rfl) (dm jC (dm jC dz)) [.tmp 6]
 by_cases h10:x.op=10
 ·rw[Ha _ _ _ _ _ h10];have har:=hk.jX _ (D2 UN);have W0:=hk.heap;rw[wG]at W0;have Ts:=QK Tf.1 m.ah.last.n (by show m.heap.length<=1000;omega) (by show m.heap.flatten.length<=1000;omega);have Za:=Tf.1.root;rw[Tf.2.1]at Za Ts;by_cases VX:m.ah.last.ty=4
  ·rw[if_pos VX];obtain⟨N',l,hT,hU,hp⟩:=tc X Tf.1 jB (vI (bk m.heap m.ah.last.n).length) jB;rw[eN1]at hp;refine⟨N',l,⟨hT.1,hT.2.1.trans Tf.2.1,hT.2.2.trans Tf.2.2⟩,TV.trans hU,⟨?_,hR.ok,hp.e2,(TV.trans hU).aU,gZ hR h1 rfl⟩⟩;refine aL (L:=ids e) func165 ntmps165 ?_ (hL:=rfl);generalize hB:ids e=B;refine eO ?_
   (have W:=jA Ta (jA TT (jA Za (Tf.2.1)));repeat' (first|refine aq fun K hK=>?_|refine au ?_|(with_reducible refine gR 14 ?_);refine dC 14 ([],[70],[]) [] (bc 0 8) mixed ?_|(with_reducible refine gR 15 ?_);refine dE 15 (bc 0 6) mixed ?_|(refine hK _ _ ?_;clear hK K)|(refine ap ?_ ?_<;>intro hc<;>try exact jz)|refine aV 9 ?_|refine bY 10 ?_|refine mq Ts ?_|refine cT UE ?_|refine cp (tT _) ?_|refine cT hp ?_|refine ar ?_|exact jI|(clear hK K)))
   exact dZ hB hR.ok hp.e2 (fun _=>rfl) (dm jC (dm jC dz)) [.tmp 6]
  ·rw[if_neg VX];obtain⟨N',l,hT,hU,hp⟩:=tc X Tf.1 jB (vI m.ah.last.s.size) jB;rw[eN1]at hp;refine⟨N',l,⟨hT.1,hT.2.1.trans Tf.2.1,hT.2.2.trans Tf.2.2⟩,TV.trans hU,⟨?_,hR.ok,hp.e2,(TV.trans hU).aU,gZ hR h1 rfl⟩⟩;refine aL (L:=ids e) func165 ntmps165 ?_ (hL:=rfl);generalize hB:ids e=B;refine eO ?_
   (have W:=jA Ta TT;repeat' (first|refine aq fun K hK=>?_|refine au ?_|(with_reducible refine gR 15 ?_);refine dE 15 (bc 0 6) mixed ?_|(refine hK _ _ ?_;clear hK K)|(refine ap ?_ ?_<;>intro hc<;>try exact jz)|refine aV 9 ?_|refine bY 10 ?_|refine cT UE ?_|refine cp (tT _) ?_|refine cT hp ?_|refine ar ?_|exact jI|(clear hK K)))
   exact dZ hB hR.ok hp.e2 (fun _=>rfl) (dm jC (dm jC dz)) [.tmp 6]
 have key:∀g:TF,((x.op=8/\g=(⟨#[45]⟩:TF))\/(x.op=9/\g=(⟨#[33]⟩:TF)))->kJ prog 165 [mP N,cP N,.agg (dj x)] e X (rB true) (To p C ((m.cut 1).push (mL g m.ah.last)) N):=fun g hg=>by
  obtain⟨N',l,hT,hU,hp⟩:=tc X Tf.1 jB (mL g m.ah.last) jB;rw[eN1]at hp;refine⟨N',l,⟨hT.1,hT.2.1.trans Tf.2.1,hT.2.2.trans Tf.2.2⟩,TV.trans hU,⟨?_,hR.ok,hp.e2,(TV.trans hU).aU,gZ hR h1 rfl⟩⟩;refine aL (L:=ids e) func165 ntmps165 ?_ (hL:=rfl);generalize hB:ids e=B;refine eO ?_;rcases hg with⟨h,rfl⟩|⟨h,rfl⟩
  all_goals
   (have W:=jA Ta TT;repeat' (first|refine aq fun K hK=>?_|refine au ?_|(with_reducible refine gR 7 ?_);refine dE 7 (bc 0 9) mixed ?_|(with_reducible refine gR 9 ?_);refine dE 9 (bc 0 9) mixed ?_|(refine hK _ _ ?_;clear hK K)|(refine ap ?_ ?_<;>intro hc<;>try exact jz)|refine aV 9 ?_|refine cT UE ?_|refine cp (Mo _ _) ?_|refine cT hp ?_|refine ar ?_|exact jI|(clear hK K)))
  all_goals exact dZ hB hR.ok hp.e2 (fun _=>rfl) (dm jC dz) [.tmp 6]
 by_cases h8:x.op=8
 ·rw[IF _ _ _ _ _ h8];exact key _ (.inl ⟨h8,rfl⟩)
 ·have h9:x.op=9:=jB;rw[IK _ _ _ _ _ h9];exact key _ (.inr ⟨h9,rfl⟩)
end
section
variable {p:af}{C:aH}{m:MV}{N:NM}{e:TA}(X:TE)
def KQ(hR:bH p C m N e)(h1:1<=m.calls.length)(x:ax)(hx:¬(x.op=6\/x.op=23\/x.op=11\/x.op=12\/x.op=13)):cV prog 166 [mP N,cP N,.agg (dj x)] e (rB false) e:=by
 have Ta:=hR.ok.low;refine⟨?_,hR.ok,hR.ok,fun _ h=>h,gZ hR h1 rfl⟩;refine aL (L:=ids e) func166 ntmps166 ?_ (hL:=rfl);generalize hB:ids e=B;refine eO ?_
 (have W:=Ta;repeat' (first|refine aq fun K hK=>?_|refine au ?_|(refine hK _ _ ?_;clear hK K)|(refine ap ?_ ?_<;>intro hc<;>try exact jz)|refine aV 9 ?_|refine ar ?_|exact jI|(clear hK K)))
 exact dZ hB hR.ok hR.ok (fun _=>rfl) (dm jC dz) [.tmp 6]
def PB(hR:bH p C m N e)(inp:TD)(x:ax)(hk:pF p C m x)(hx:x.op=6\/x.op=23\/x.op=11\/x.op=12\/x.op=13):kJ prog 166 [mP N,cP N,.agg (dj x)] e X (rB true) (To p C (m.ins p C inp x) N):=by
 have h1:=hk.calls;have Ta:=hR.ok.low;have hdp:=hk.ah;have hT:=hR.ah h1;have UN:1<=m.ah.stack.length:=by
  by_cases Yj:x.op=12
  ·have:=hk.two (.inr Yj);omega
  ·exact hk.one jB
 obtain⟨N1,l1,⟨Tf,XL⟩,TV,UE,Vt⟩:=ww X hR h1 UN;have TP:(m.cut 1).calls.length=m.calls.length:=MV.bG _ _;have WA:(m.cut 1).ah=m.ah.cut 1:=MV.bp h1 _;have Xb:(m.cut 1).ah.stack.length=m.ah.stack.length-1:=by rw[WA];show(m.ah.stack.take _).length=_;rw[List.length_take];omega
 have TT:=Tf.1.ok.low;have eN1:cP N1=cP N:=by unfold cP;rw[Tf.2.2]
 have eM1:mP N1=mP N:=by unfold mP;rw[Tf.2.1]
 have W0:=hk.heap;rw[wG]at W0;have Za:=Tf.1.root;rw[Tf.2.1]at Za;by_cases h23:x.op=23
 ·rw[Ew _ _ _ _ _ h23];refine⟨N1,l1,Tf,TV,⟨?_,hR.ok,UE.e2,TV.aU,gZ hR h1 rfl⟩⟩;refine aL (L:=ids e) func166 ntmps166 ?_ (hL:=rfl);generalize hB:ids e=B;refine eO ?_
  (have W:=jA Ta TT;repeat' (first|refine aq fun K hK=>?_|refine au ?_|(refine hK _ _ ?_;clear hK K)|(refine ap ?_ ?_<;>intro hc<;>try exact jz)|refine aV 9 ?_|refine cT UE ?_|refine ar ?_|exact jI|(clear hK K)))
  exact dZ hB hR.ok UE.e2 (fun _=>rfl) (dm jC dz) [.tmp 6]
 by_cases h6:x.op=6
 ·rw[HF _ _ _ _ _ h6];have Uq:=hk.slot jB;have hss:=hk.slots;have Ud:=Tf.1.sx jB (m.ah.slots.set x.a.toNat m.ah.last) (by rw[List.length_set,WA];rfl);have em:(m.cut 1).ba { (m.cut 1).ah with slots:=m.ah.slots.set x.a.toNat m.ah.last }=m.ba { m.ah.cut 1 with slots:=m.ah.slots.set x.a.toNat m.ah.last }:=by
   rw[WA];unfold MV.cut;rw[MV.dp]
  rw[em]at Ud;have Xz:=(Tf.1.ah jB).eN;rw[Tf.2.2,WA]at Xz;have Xz:aA l1 (hn 1 N.ah.c)=some (.aF 54 3 (m.ah.slots.map bS)):=Xz;rw[Tf.2.2]at Ud;have Ui:Up X l1 (bg l1 (hn 1 N.ah.c) (.aF 54 3 ((m.ah.slots.set x.a.toNat m.ah.last).map bS))):=Up.put _ (.inl (by rw[Xz];simp));refine⟨N1,_,⟨Ud,Tf.2.1,Tf.2.2⟩,TV.trans Ui,⟨?_,hR.ok,Ud.ok,(TV.trans Ui).aU,gZ hR h1 rfl⟩⟩;have k2:=Ud.ok;clear Ud Ui TV em;generalize hE:bg l1 (hn 1 N.ah.c) (.aF 54 3 ((m.ah.slots.set x.a.toNat m.ah.last).map bS))=E at k2 ⊢;refine aL (L:=ids e) func166 ntmps166 ?_ (hL:=rfl);generalize hB:ids e=B;refine eO ?_
  (have W:=jA Ta (jA TT (jA hT.var (Xz)));repeat' (first|refine aq fun K hK=>?_|refine au ?_|(with_reducible refine gR 4 ?_);refine pX 4 [hn 2 N.ah.v,hn 16 N.ah.c] [] [26,1000000] [] (bc 0 12) mixed ?_|(refine hK _ _ ?_;clear hK K)|(refine ap ?_ ?_<;>intro hc<;>try exact jz)|refine aV 9 ?_|refine nS UE (Vt _ _) ?_|refine ar ?_|exact jI|(clear hK K)))
  subst hE;refine dZ (tl:=[(9,.var 219 (dj x))]) hB hR.ok k2 (fun i=>?_) (dm jC dz) [.tmp 6];rw[List.map_set];rfl
 by_cases Ym:x.op=11
 ·rw[FM _ _ _ _ _ Ym];have Uq:=hk.slot jB;have Vj:=A6 hR h1 x.a 4 Uq (by have:=hk.slots;omega);have V4:=J5 Tf.1 (eR m.ah.slots x.a 4).n m.ah.last.n (by show m.heap.length<=1000;omega) (by show m.heap.flatten.length<=1000;omega);rw[Tf.2.1]at V4;have V4:cV prog 213 [.pt (hn 5 N.k) 0 0 0,rI (eR m.ah.slots x.a 4).n,rI m.ah.last.n] l1 (.aP [rI (if m.ah.last.n<0\/((bk m.heap (eR m.ah.slots x.a 4).n).length:Int)<=m.ah.last.n then 0 else nth (bk m.heap (eR m.ah.slots x.a 4).n) m.ah.last.n.toNat),rI (if m.ah.last.n<0\/((bk m.heap (eR m.ah.slots x.a 4).n).length:Int)<=m.ah.last.n then 2 else 0)]) l1:=V4;have eg:(if m.ah.last.n<0\/((bk m.heap (eR m.ah.slots x.a 4).n).length:Int)<=m.ah.last.n then(m.cut 1).stops 3 2 else(m.cut 1).push (vI (nth (bk m.heap (eR m.ah.slots x.a 4).n) m.ah.last.n.toNat)))=(m.cut 1).dS (vI (if m.ah.last.n<0\/((bk m.heap (eR m.ah.slots x.a 4).n).length:Int)<=m.ah.last.n then 0 else nth (bk m.heap (eR m.ah.slots x.a 4).n) m.ah.last.n.toNat),if m.ah.last.n<0\/((bk m.heap (eR m.ah.slots x.a 4).n).length:Int)<=m.ah.last.n then 2 else 0):=by
   unfold MV.dS;split
   ·rename_i h;simp only[if_pos h];rfl
   ·rename_i h;simp only[if_neg h];rfl
  rw[eg];generalize (if m.ah.last.n<0\/((bk m.heap (eR m.ah.slots x.a 4).n).length:Int)<=m.ah.last.n then(0:Int)else nth (bk m.heap (eR m.ah.slots x.a 4).n) m.ah.last.n.toNat)=gn at V4 ⊢;generalize (if m.ah.last.n<0\/((bk m.heap (eR m.ah.slots x.a 4).n).length:Int)<=m.ah.last.n then(2:Int)else 0)=gt at V4 ⊢;obtain⟨N',l,Ue,hU,hp⟩:=xv X Tf.1 jB (vI gn,gt) jB;rw[eM1]at hp;refine⟨N',l,⟨Ue.1,Ue.2.1.trans Tf.2.1,Ue.2.2.trans Tf.2.2⟩,TV.trans hU,⟨?_,hR.ok,hp.e2,(TV.trans hU).aU,gZ hR h1 rfl⟩⟩;refine aL (L:=ids e) func166 ntmps166 ?_ (hL:=rfl);generalize hB:ids e=B;refine eO ?_
  (have W:=jA Ta (jA TT (hR.root));repeat' (first|refine aq fun K hK=>?_|refine au ?_|(with_reducible refine gR 8 ?_);refine pX 8 [hn 2 N.ah.v,hn 16 N.ah.c] [44,51] [49] [] (bc 0 20) mixed ?_|(refine hK _ _ ?_;clear hK K)|(refine ap ?_ ?_<;>intro hc<;>try exact jz)|refine aV 9 ?_|refine mq Vj ?_|refine nS UE (Vt _ _) ?_|refine mq V4 ?_|refine cp (tT _) ?_|refine cT hp ?_|refine ar ?_|exact jI|(clear hK K)))
  exact dZ hB hR.ok hp.e2 (fun _=>rfl) (dm jC dz) [.tmp 6]
 by_cases h13:x.op=13
 ·rw[Ic _ _ _ _ _ h13];by_cases c1:m.ah.last.n<0\/16<m.ah.last.n
  ·rw[if_pos c1];have Xc:=Jp Tf.1 m.ah.last.n c1 (by show m.heap.length<=40;omega) (by show m.heap.flatten.length<=40;omega);rw[Tf.2.1]at Xc;obtain⟨N',l,Ue,hU,hp⟩:=xv X Tf.1 jB (⟨4,0,sE⟩,7) jB;rw[eM1]at hp;refine⟨N',l,⟨Ue.1,Ue.2.1.trans Tf.2.1,Ue.2.2.trans Tf.2.2⟩,TV.trans hU,⟨?_,hR.ok,hp.e2,(TV.trans hU).aU,gZ hR h1 rfl⟩⟩;refine aL (L:=ids e) func166 ntmps166 ?_ (hL:=rfl);generalize hB:ids e=B;refine eO ?_
   (have W:=jA Ta (jA TT (hR.root));repeat' (first|refine aq fun K hK=>?_|refine au ?_|(with_reducible refine gR 16 ?_);refine pX 16 [hn 2 N.ah.v,hn 16 N.ah.c] [] [97] [] (bc 0 15) mixed ?_|(refine hK _ _ ?_;clear hK K)|(refine ap ?_ ?_<;>intro hc<;>try exact jz)|refine aV 9 ?_|refine nS UE (Vt _ _) ?_|refine cT Xc ?_|refine cT hp ?_|refine ar ?_|exact jI|(clear hK K)))
   exact dZ hB hR.ok hp.e2 (fun _=>rfl) (dm jC dz) [.tmp 6]
  rw[if_neg c1];by_cases c2:40<gi m.heap+m.ah.last.n+1
  ·rw[if_pos c2];have Xc:=Qk Tf.1 m.ah.last.n jB (by show 40<(m.heap.length:Int)+m.heap.flatten.length+m.ah.last.n+1;rw[wG]at c2;omega) (by show m.heap.length<=40;omega) (by show m.heap.flatten.length<=40;omega);rw[Tf.2.1]at Xc;obtain⟨N',l,Ue,hU,hp⟩:=xv X Tf.1 jB (⟨4,0,sE⟩,4) jB;rw[eM1]at hp;refine⟨N',l,⟨Ue.1,Ue.2.1.trans Tf.2.1,Ue.2.2.trans Tf.2.2⟩,TV.trans hU,⟨?_,hR.ok,hp.e2,(TV.trans hU).aU,gZ hR h1 rfl⟩⟩;refine aL (L:=ids e) func166 ntmps166 ?_ (hL:=rfl);generalize hB:ids e=B;refine eO ?_
   (have W:=jA Ta (jA TT (hR.root));repeat' (first|refine aq fun K hK=>?_|refine au ?_|(with_reducible refine gR 16 ?_);refine pX 16 [hn 2 N.ah.v,hn 16 N.ah.c] [] [97] [] (bc 0 15) mixed ?_|(refine hK _ _ ?_;clear hK K)|(refine ap ?_ ?_<;>intro hc<;>try exact jz)|refine aV 9 ?_|refine nS UE (Vt _ _) ?_|refine cT Xc ?_|refine cT hp ?_|refine ar ?_|exact jI|(clear hK K)))
   exact dZ hB hR.ok hp.e2 (fun _=>rfl) (dm jC dz) [.tmp 6]
  rw[if_neg c2];obtain⟨N2,l2,Ue,Ui,Xc⟩:=LA X Tf.1 m.ah.last.n jB (by show gi m.heap+_+1<=40;omega) (wG _);rw[Tf.2.1]at Xc;have Xc:cV prog 216 [.pt (hn 5 N.k) 0 0 0,rI m.ah.last.n] l1 (.aP [rI (m.heap.length+1:Nat),rI 0]) l2:=Xc;obtain⟨N',l,Yn,hU3,hp⟩:=tc X Ue.1 (by show 1<=(m.cut 1).calls.length;omega) ⟨4,m.heap.length+1,sE⟩ (by show(m.cut 1).ah.stack.length<=1000;omega);obtain⟨N'',l',hT4,hU4,hp4⟩:=xv X Ue.1 (by show 1<=(m.cut 1).calls.length;omega) (⟨4,m.heap.length+1,sE⟩,0) (by show(m.cut 1).ah.stack.length<=1000;omega);rw[show mP N2=mP N by unfold mP;rw[Ue.2.1,Tf.2.1]]at hp4;have UT:=Ue.1.ok.low;refine⟨N'',l',⟨hT4.1,hT4.2.1.trans (Ue.2.1.trans Tf.2.1),hT4.2.2.trans (Ue.2.2.trans Tf.2.2)⟩,TV.trans (Ui.trans hU4),⟨?_,hR.ok,hp4.e2,(TV.trans (Ui.trans hU4)).aU,gZ hR h1 rfl⟩⟩;refine aL (L:=ids e) func166 ntmps166 ?_ (hL:=rfl);generalize hB:ids e=B;refine eO ?_
  (have W:=jA Ta (jA TT (jA UT (hR.root)));repeat' (first|refine aq fun K hK=>?_|refine au ?_|(with_reducible refine gR 16 ?_);refine pX 16 [hn 2 N.ah.v,hn 16 N.ah.c] [] [97] [] (bc 0 15) mixed ?_|(refine hK _ _ ?_;clear hK K)|(refine ap ?_ ?_<;>intro hc<;>try exact jz)|refine aV 9 ?_|refine nS UE (Vt _ _) ?_|refine cT Xc ?_|refine cT hp4 ?_|refine ar ?_|exact jI|(clear hK K)))
  exact dZ hB hR.ok hp4.e2 (fun _=>rfl) (dm jC dz) [.tmp 6]
 have Yj:x.op=12:=jB;rw[I6 _ _ _ _ _ Yj];have h2:=hk.two (.inr Yj);have Uq:=hk.slot jB;have Vj:=A6 Tf.1 jB x.a 4 (by rw[WA];exact Uq) (by rw[WA];have:=hk.slots;show m.ah.slots.length<=1000;omega);rw[eN1,WA]at Vj;have Vj:cV prog 207 [cP N,rI x.a,rI 4] l1 (rV (eR m.ah.slots x.a 4)) l1:=Vj;obtain⟨N2,l2,⟨Ue,Xk⟩,Ui,WU,YR⟩:=ww X Tf.1 jB jB;rw[eN1,WA]at WU;rw[XL,Tf.2.2]at YR;have ecc:(m.cut 1).cut 1=m.cut 2:=Fs h1 1 1 jB;rw[ecc]at Ue;have UT:=Ue.1.ok.low;have hc2:(m.cut 2).calls.length=m.calls.length:=MV.bG _ _;have ek:N2.k=N.k:=Ue.2.1.trans Tf.2.1;by_cases hi:(m.ah.cut 1).last.n<0\/((bk m.heap (eR m.ah.slots x.a 4).n).length:Int)<=(m.ah.cut 1).last.n
 ·rw[if_pos hi];have Xa:=PK Ue.1 (eR m.ah.slots x.a 4).n (m.ah.cut 1).last.n m.ah.last.n (by show m.heap.length<=1000;omega) (by show m.heap.flatten.length<=1000;omega) hi;rw[ek]at Xa;obtain⟨N',l,Yn,hU,hp⟩:=xr X Ue.1 jB 3 2;rw[show mP N2=mP N by unfold mP;rw[ek]]at hp;refine⟨N',l,⟨Yn.1,Yn.2.1.trans ek,Yn.2.2.trans (Ue.2.2.trans Tf.2.2)⟩,TV.trans (Ui.trans hU),⟨?_,hR.ok,hp.e2,(TV.trans (Ui.trans hU)).aU,gZ hR h1 rfl⟩⟩;refine aL (L:=ids e) func166 ntmps166 ?_ (hL:=rfl);generalize hB:ids e=B;refine eO ?_
  (have W:=jA Ta (jA TT (jA UT (jA Za (Tf.2.1))));repeat' (first|refine aq fun K hK=>?_|refine au ?_|(with_reducible refine gR 12 ?_);refine pX 12 [hn 2 N.ah.v,hn 16 N.ah.c] [73] [78] [] [0,1,2,3,4,5,6,7,8,9,10,11,14,12,13,15,16] mixed ?_|(refine hK _ _ ?_;clear hK K)|(refine ap ?_ ?_<;>intro hc<;>try exact jz)|refine aV 9 ?_|refine cT UE ?_|refine mq Vj ?_|refine nS WU (YR _ _) ?_|refine cT Xa ?_|refine cT hp ?_|refine ar ?_|exact jI|(clear hK K)))
  exact dZ hB hR.ok hp.e2 (fun _=>rfl) (dm jC dz) [.tmp 6]
 ·rw[if_neg hi];obtain⟨N',l,Yn,hU,hp⟩:=J7 X Ue.1 (eR m.ah.slots x.a 4).n (m.ah.cut 1).last.n m.ah.last.n (by show m.heap.length<=1000;omega) (by show m.heap.flatten.length<=1000;omega) hi;rw[ek]at hp;refine⟨N',l,⟨Yn.1,Yn.2.1.trans ek,Yn.2.2.trans (Ue.2.2.trans Tf.2.2)⟩,TV.trans (Ui.trans hU),⟨?_,hR.ok,hp.e2,(TV.trans (Ui.trans hU)).aU,gZ hR h1 rfl⟩⟩;refine aL (L:=ids e) func166 ntmps166 ?_ (hL:=rfl);generalize hB:ids e=B;refine eO ?_
  (have W:=jA Ta (jA TT (jA UT (jA Za (Tf.2.1))));repeat' (first|refine aq fun K hK=>?_|refine au ?_|(with_reducible refine gR 12 ?_);refine pX 12 [hn 2 N.ah.v,hn 16 N.ah.c] [73] [78] [] [0,1,2,3,4,5,6,7,8,9,10,11,14,12,13,15,16] mixed ?_|(refine hK _ _ ?_;clear hK K)|(refine ap ?_ ?_<;>intro hc<;>try exact jz)|refine aV 9 ?_|refine cT UE ?_|refine mq Vj ?_|refine nS WU (YR _ _) ?_|refine cT hp ?_|refine ar ?_|exact jI|(clear hK K)))
  exact dZ hB hR.ok hp.e2 (fun _=>rfl) (dm jC dz) [.tmp 6]
end
end Go.Proofs.YtjpcgmjaipfgdaaGreatDoor
namespace Go.Proofs.YtjpcgmjaipfgdaaGreatDoor
open Go Go.Gd Tryz
def Ml(l:List TF)(hl:l.length<=1000)(i:Nat):ab prog 119 [aM eS 1 l] [] (fun r l'=>r=.rs i l.length 1 l.length/\l'=[(i,.aF 9 1 (l.map eS))]):=by
 refine aL func119 ntmps119 ?_
 (repeat' (first|refine aq fun K hK=>?_|refine au ?_|(refine hK _ _ ?_;clear hK K)|(refine ap ?_ ?_<;>intro hc<;>try exact jz)|(with_reducible refine fun(b:Bool) hb=>?_)|refine ve i ?_|refine ar ?_|exact jI|(clear hK K)))
 ·have T5:l=[]:=by simpa using hb hc
  subst T5;exact wc i 9 1 jC [.tmp 2] rfl rfl trivial
 ·(refine bW [.tmp 2] ?_ ?_<;>(try simp only[go_sem]))
def HE(l:List (aj))(hl:l.length<=1000)(i:Nat):ab prog 120 [aM bS 3 l] [] (fun r l'=>r=.rs i l.length 3 l.length/\l'=[(i,.aF 54 3 (l.map bS))]):=by
 refine aL func120 ntmps120 ?_
 (repeat' (first|refine aq fun K hK=>?_|refine au ?_|(refine hK _ _ ?_;clear hK K)|(refine ap ?_ ?_<;>intro hc<;>try exact jz)|(with_reducible refine fun(b:Bool) hb=>?_)|refine ve i ?_|refine ar ?_|exact jI|(clear hK K)))
 ·have T5:l=[]:=by simpa using hb hc
  subst T5;exact wc i 54 3 jC [.tmp 2] rfl rfl trivial
 ·(refine bW [.tmp 2] ?_ ?_<;>(try simp only[go_sem]))
def xV(l:List (Int))(hl:l.length<=1000)(i:Nat):ab prog 55 [aM eI 1 l] [] (fun r l'=>r=.rs i l.length 1 l.length/\l'=[(i,.aF 3 1 (l.map eI))]):=by
 refine aL func55 ntmps55 ?_
 (repeat' (first|refine aq fun K hK=>?_|refine au ?_|(refine hK _ _ ?_;clear hK K)|(refine ap ?_ ?_<;>intro hc<;>try exact jz)|(with_reducible refine fun(b:Bool) hb=>?_)|refine ve i ?_|refine ar ?_|exact jI|(clear hK K)))
 ·have T5:l=[]:=by simpa using hb hc
  subst T5;exact wc i 3 1 jC [.tmp 2] rfl rfl trivial
 ·(refine bW [.tmp 2] ?_ ?_<;>(try simp only[go_sem]))
def gV(v:aj):Prop:=cn v.n/\v.s.size<=40
def qz{n:Int}(h:cn n):gV (vI n):=⟨h,by show sE.size<=40;decide⟩
def um(b:Bool):gV (vB b):=⟨Da b,by show sE.size<=40;decide⟩
def D9(t:Int):gV (vZ t):=⟨qZ,by show sE.size<=40;decide⟩
def I4{s:TF}(h:s.size<=40):gV (vT s):=⟨qZ,h⟩
def NR{l:List aj}(h:rK l)(k t:Int):gV (eR l k t):=⟨PD h k t,by
 unfold eR;split
 ·show sE.size<=40;decide
 split
 ·rename_i h;exact SD h.1
 ·show sE.size<=40;decide⟩
def qN(r:aj×Int):Prop:=gV r.1/\0<=r.2/\r.2<=9
def lf{c:Prop}[Decidable c]{x y:aj×Int}(h:c->qN x)(k:¬c->qN y):qN (if c then x else y):=by
 by_cases e:c
 ·rw[if_pos e];exact h e
 ·rw[if_neg e];exact k e
def mH{v:aj}(h:gV v):qN (v,0):=⟨h,Int.le_refl _,by show(0:Int)<=9;decide⟩
def q9{t:Int}(h:0<=t/\t<=9):qN (v0,t):=⟨D9 0,h⟩
def Mf(s:TF){a b:Int}(ha:cn a):qN (vO s a b):=by unfold vO;refine lf (fun _=>mH (qz (wE _))) fun _=>lf (fun _=>mH (qz (wE _))) fun _=>lf (fun _=>mH (qz (wE _))) fun _=>lf (fun _=>lf (fun _=>q9 jC) fun _=>mH (qz (wE _))) fun _=>lf (fun _=>lf (fun _=>q9 jC) fun _=>mH (qz (PE ha))) fun _=>lf (fun _=>mH (um _)) fun _=>lf (fun _=>mH (um _)) fun _=>q9 jC
def Ql(s:TF){a b:aj}(ha:gV a):qN (pV s a b):=by
 unfold pV;refine lf (fun _=>q9 jC) fun _=>lf (fun _=>mH (um _)) fun _=>lf (fun _=>mH (um _)) fun _=>lf (fun _=>Mf _ ha.1) fun _=>lf (fun _=>lf (fun _=>mH (um _)) fun _=>lf (fun _=>mH (um _)) fun _=>q9 jC) fun _=>lf (fun _=>lf (fun _=>lf (fun _=>q9 jC) fun h=>mH (I4 ?_)) fun _=>q9 jC) fun _=>q9 jC
 rw[ByteArray.size_append];omega
def Jf(s:TF)(a:aj):gV (mL s a):=⟨OQ s a,by
 unfold mL
 (repeat' split)<;>(show sE.size<=40;decide)⟩
def AF{h:TC}(hc:gi h<=40)(hr:tx h)(n:Int):((MV.bk h n).length:Int)<=40/\∀k,k<(MV.bk h n).length->cn (nth (MV.bk h n) k):=by
 unfold MV.bk;split
 ·exact⟨jE,fun k hk=>by simp at hk⟩
 ·rename_i e;have hl:(n-1).toNat<h.length:=jB;have:=QX h (n-1).toNat hl;exact⟨jB,fun k hk=>hr _ (fh hl) _ (fh hk)⟩
def og{p:af}{C:aH}{M:MV}{c:MC}{k:Nat}{x:ax}(h1:1<=M.calls.length)(h8:M.calls.length<=8)(hk:c.at_=k)(O':k<C.ins.length)(hx:nth C.ins k=x)(hz:∀v∈c.stack,gV v)(hd:c.stack.length<=1000)(op:1<=x.op/\x.op<=23)
  (n:Nat) (hn:n<=c.stack.length) (Uf:n=0->x.op=2\/x.op=3\/x.op=4\/x.op=5\/x.op=14\/x.op=16\/x.op=20\/x.op=22) (Vs:n=1->¬(x.op=7\/x.op=12))
  (slot:x.op=5\/x.op=6\/x.op=11\/x.op=12->0<=x.a/\x.a<c.slots.length)
  (call:x.op=20->0<=x.b/\x.b<=c.stack.length/\x.b<=3/\0<=x.a/\x.a<C.entry.length/\x.a<p.size.length/\0<=nth p.size x.a.toNat/\nth p.size x.a.toNat<=24/\x.b<=nth p.size x.a.toNat):(M.ba c).fQ p C:=by
 refine fQ.Ka h1 h8 hk O' hx (fun h=>?_) (fun h=>?_) slot call op (fun h=>?_) (fun v hv=>(hz v hv).2) hd
 ·by_cases e:n=0
  ·have:=Uf e;omega
  ·omega
 ·by_cases e:n=0
  ·have:=Uf e;omega
  ·by_cases e1:n=1
   ·exact(Vs e1 h).elim
   ·omega
 ·have:1<=c.stack.length:=by
   by_cases e:n=0
   ·have:=Uf e;omega
   ·omega
  exact(hz _ (fh jB)).1
def ll(p:af)(C:aH)(inp:TD)(M:MV)(c:MC)(k:Int):Prop:=
 (∃v q,gV v/\bf p C inp (M.ba c) (M.ba { c with at_:=k,stack:=c.stack++[v],aS:=q }))\/∃t:Int,(1<=t/\t<=9)/\bf p C inp (M.ba c) (M.iQ c 3 t)
section
variable {p:af}{C:aH}{inp:TD}{M:MV}
def yJ{c:MC}{k:Nat}{x:ax}{v:aj}(h1:1<=M.calls.length)(h8:M.calls.length<=8)(hs:M.status=0)(hk:c.at_=k)(hl:bI C.ins k [x])(Vt:x.op≠1)(hok:(M.ba c).fQ p C)(hv:gV v)
  (hi:(M.ba { c with at_:=(k:Int)+1 }).ins p C inp x=M.ba (MC.push { c with at_:=(k:Int)+1 } v)):ll p C inp M c (k+1):=
 .inl ⟨v,c.aS-1,hv,bf.ins h1 h8 hs hk hl.head.1 hl.head.2.1 Vt hok (by rw[hi];exact bf.refl _)⟩
def ll.bind{c:MC}{k1 k2:Int}(hd:ll p C inp M c k1)(hn:∀v q,gV v->(∃w q',gV w/\bf p C inp (M.ba { c with at_:=k1,stack:=c.stack++[v],aS:=q }) (M.ba { c with at_:=k2,stack:=c.stack++[w],aS:=q' }))\/∃t:Int,(1<=t/\t<=9)/\bf p C inp (M.ba { c with at_:=k1,stack:=c.stack++[v],aS:=q }) (M.iQ c 3 t)):ll p C inp M c k2:=by
 rcases hd with⟨v,q,hv,g⟩|⟨t,ht,g⟩
 ·rcases hn v q hv with⟨w,q',hw,g'⟩|⟨t,ht,g'⟩
  ·exact .inl ⟨w,q',hw,g.trans g'⟩
  ·exact .inr ⟨t,ht,g.trans g'⟩
 ·exact .inr ⟨t,ht,g⟩
def FV{c d:MC}{k:Nat}{x:ax}{r:aj×Int}{q:Nat}(h1:1<=M.calls.length)(h8:M.calls.length<=8)(hs:M.status=0)(hl:bI C.ins k [x])(Vt:x.op≠1)(hd:d.at_=(k:Int))
  (hok:(M.ba d).fQ p C) (hr:qN r)
  (hi:(M.ba { d with at_:=(k:Int)+1 }).ins p C inp x=(M.ba { c with at_:=(k:Int)+1,aS:=q }).dS r) :
  (∃w q',gV w/\bf p C inp (M.ba d) (M.ba { c with at_:=(k:Int)+1,stack:=c.stack++[w],aS:=q' }))\/∃t:Int,(1<=t/\t<=9)/\bf p C inp (M.ba d) (M.iQ c 3 t):=by
 have g:∀m',bf p C inp ((M.ba { c with at_:=(k:Int)+1,aS:=q }).dS r) m'->bf p C inp (M.ba d) m':=fun m' hg=> bf.ins (c:=d) h1 h8 hs hd hl.head.1 hl.head.2.1 Vt hok (by rw[hi];exact hg)
 by_cases e:r.2=0
 ·refine .inl ⟨r.1,q-1,hr.1,g _ ?_⟩;unfold MV.dS;rw[if_neg (fun h=>h e),MV.fl h1];exact bf.refl _
 ·refine .inr ⟨r.2,by have:=hr.2;omega,g _ ?_⟩;unfold MV.dS;rw[if_pos e,MV.dY h1];exact bf.refl _
def uP{l:List aj}{v:aj}(h:∀u∈l,gV u)(hv:gV v):∀u∈l++[v],gV u:=Qn h hv
theorem xT(hs:gk p)(h1:1<=M.calls.length)(h8:M.calls.length<=8)(P':M.status=0)(hhc:gi M.heap<=40)(hhr:tx M.heap){j:Nat}(hj:j<p.aa.av.length){slots:List aj}(Uq:(slots.length:Int)=nth p.size j)(Yb:rK slots) :
  ∀(n:Nat) (a:Int) (k:Nat) (c:MC),0<=a->a.toNat<p.aa.nodes.length->jd p j a->cQ (bX p.aa.nodes a)->a.toNat<n->c.slots=slots->c.at_=k->bI C.ins k (bo p n a k)->(∀v∈c.stack,gV v)->c.stack.length+a.toNat<=900->
   ll p C inp M c (k+(bo p n a k).length)
 |0,a,k,c,h0,hl,hi,hk,hn,hc,T8,hC,hz,hd=>by omega
 |n+1,a,k,c,h0,hl,hi,hk,hn,hc,T8,hC,hz,hd=>by
  have sh:=(hs.ok.aa.shape a.toNat hl).1;have Tv:cQ (ak p a).kind:=hk;unfold cQ at Tv;have V0:jL (ak p a).kind->0<=nth p.slots a.toNat/\nth p.slots a.toNat<c.slots.length:=fun h=>by have:=(hs.av j hj).all a.toNat hi.1 (by have:=hi.2;omega) h;rw[hc];omega
  have ok0:∀(x:ax),bI C.ins k [x]->x.op=2\/x.op=3\/x.op=4\/(x.op=5/\0<=x.a/\x.a<c.slots.length)->(M.ba c).fQ p C:=fun x hx ho=> og h1 h8 T8 hx.head.1 hx.head.2.1 hz jB jB 0 jB (fun _=>jB) (fun h=>jB) (fun h=>jB) (fun h=>jB)
  have okU:∀(k':Nat) (x:ax) (u:aj) (q:Nat),bI C.ins k' [x]->gV u->x.op=8\/x.op=9\/x.op=10\/(x.op=11/\0<=x.a/\x.a<c.slots.length)\/x.op=18\/x.op=19->(M.ba { c with at_:=(k':Int),stack:=c.stack++[u],aS:=q }).fQ p C:=fun k' x u q hx hu ho=> og h1 h8 rfl hx.head.1 hx.head.2.1 (uP hz hu) jF jB 1 jE (fun h=>jB) (fun _=>jB) (fun h=>by show 0<=x.a/\x.a<c.slots.length;omega) (fun h=>jB)
  -- what is below it
  have sub:∀b∈(ak p a).l,cQ (bX p.aa.nodes b)->∀(k':Nat) (c':MC),c'.slots=slots->c'.at_=k'->bI C.ins k' (bo p n b k')->(∀v∈c'.stack,gV v)->c'.stack.length<=c.stack.length+1->ll p C inp M c' (k'+(bo p n b k').length):=fun b hb hbE k' c' g1 g2 g3 g4 g5=>by obtain⟨b1,b2,b3,b4⟩:=hi.aE hs hj hb;exact xT hs h1 h8 P' hhc hhr hj Uq Yb n b k' c' b2 b4 b1 hbE jB g1 g2 g3 g4 jB
  have T6:(ak p a).kind=1\/(ak p a).kind=2\/(ak p a).kind=3\/(ak p a).kind=4\/(ak p a).kind=5\/(ak p a).kind=6\/(ak p a).kind=7\/(ak p a).kind=8\/(ak p a).kind=9:=jB;have Vr:=fun h=>(sh.one (h:(nth p.aa.nodes a.toNat).kind=5\/(nth p.aa.nodes a.toNat).kind=6\/(nth p.aa.nodes a.toNat).kind=7\/(nth p.aa.nodes a.toNat).kind=8\/(nth p.aa.nodes a.toNat).kind=14\/(nth p.aa.nodes a.toNat).kind=20))
  -- an operation on one value
  have un:∀(x:Int) (i:ax) (f:aj->aj×Int),(ak p a).l=[x]->cQ (bX p.aa.nodes x)->bo p (n+1) a k=bo p n x k++[i]->i.op=8\/i.op=9\/i.op=10\/(i.op=11/\0<=i.a/\i.a<c.slots.length)->(∀v,gV v->qN (f v))->
    (∀v q,(M.ba { c with at_:=((k+(bo p n x k).length:Nat):Int)+1,stack:=c.stack++[v],aS:=q }).ins p C inp i=(M.ba { c with at_:=((k+(bo p n x k).length:Nat):Int)+1,aS:=q+1 }).dS (f v))->ll p C inp M c (k+(bo p (n+1) a k).length):=fun x i f u' TX e VQ hf Uu=>by
   rw[e]at hC ⊢;have d:=sub x (by rw[u'];simp) TX k c hc T8 hC.last.1 hz jB;have Tm:=hC.app.2;rw[List.length_append,List.length_singleton,Int.natCast_add,show((k:Int)+(((bo p n x k).length:Int)+((1:Nat):Int)))=((k+(bo p n x k).length:Nat):Int)+1 by push_cast;omega];refine d.bind fun v q hv=>?_
   exact FV (d:={ c with at_:=((k:Int)+((bo p n x k).length:Int)),stack:=c.stack++[v],aS:=q }) h1 h8 P' Tm (fun h=>jB) (by push_cast;rfl) (by have:=okU _ i v q Tm hv jB;rw[Int.natCast_add]at this;exact this) (hf v hv) (Uu v q)
  rcases T6 with e|e|e|e|e|e|e|e|e
  ·rw[lR]at hC ⊢;simp only[e,Int.reduceEq,↓reduceIte]at hC ⊢;exact yJ h1 h8 P' T8 hC (fun h=>by cases h) (ok0 _ hC (.inl rfl)) (qz (hs.ok.cn _ hl e)) (by rw[MV.rb,MV.fl h1];rfl)
  ·rw[lR]at hC ⊢;simp only[e,Int.reduceEq,↓reduceIte]at hC ⊢;exact yJ h1 h8 P' T8 hC (fun h=>by cases h) (ok0 _ hC (.inr (.inl rfl))) (um _) (by rw[MV.pz,MV.fl h1])
  ·rw[lR]at hC ⊢;simp only[e,Int.reduceEq,↓reduceIte]at hC ⊢;exact yJ h1 h8 P' T8 hC (fun h=>by cases h) (ok0 _ hC (.inr (.inr (.inl rfl)))) (I4 (by have:=sh.text e;show(nth p.aa.nodes a.toNat).name.size<=40;omega)) (by rw[MV.pm,MV.fl h1];rfl)
  ·have hs4:=V0 (.inl e);rw[lR]at hC ⊢;simp only[e,Int.reduceEq,↓reduceIte]at hC ⊢;exact yJ h1 h8 P' T8 hC (fun h=>by cases h) (ok0 _ hC (.inr (.inr (.inr ⟨rfl,hs4⟩)))) (NR (l:=c.slots) (by rw[hc];exact Yb) _ _) (by rw[MV.pj,MV.fl h1,MV.bp h1])
  ·obtain⟨x,u',TX⟩:=Vr (.inl e);have u':(ak p a).l=[x]:=u';have Ur:nth (ak p a).l 0=x:=by rw[u'];rfl
   have Vh:=AF hhc hhr (eR c.slots (nth p.slots a.toNat) 4).n;refine un x (iI 11 (nth p.slots a.toNat)) (fun v=>if v.n<0\/((MV.bk M.heap (eR c.slots (nth p.slots a.toNat) 4).n).length:Int)<=v.n then(v0,2)else(vI (nth (MV.bk M.heap (eR c.slots (nth p.slots a.toNat) 4).n) v.n.toNat),0)) u' TX (by rw[lR,Ur];simp only[e,Int.reduceEq,↓reduceIte]) (.inr (.inr (.inr ⟨rfl,V0 (.inr (.inl e))⟩))) (fun v hv=>?_) fun v q=>?_
   ·exact lf (fun _=>q9 jC) fun _=>mH (qz (Vh.2 _ jB))
   ·rw[MV.nZ,MV.bp h1,MV.fa,MV.da h1,MV.fS,MV.kf];dsimp only;split<;>rfl
  ·obtain⟨x,u',TX⟩:=Vr (by have e:(nth p.aa.nodes a.toNat).kind=6:=e;omega);have u':(ak p a).l=[x]:=u';have Ur:nth (ak p a).l 0=x:=by rw[u'];rfl
   refine un x (iI 10 0) (fun v=>(vI (if v.ty=4 then((MV.bk M.heap v.n).length:Int)else(v.s.size:Int)),0)) u' TX (by rw[lR,Ur];simp only[e,Int.reduceEq,↓reduceIte]) (.inr (.inr (.inl rfl))) (fun v hv=>mH (qz ?_)) fun v q=>?_
   ·have:=(AF hhc hhr v.n).1;have:=hv.2;unfold cn;split<;>omega
   ·rw[MV.iz,MV.bp h1,MV.fa,MV.da h1,MV.fS,MV.kf];rfl
  ·obtain⟨x,u',TX⟩:=Vr (by have e:(nth p.aa.nodes a.toNat).kind=7:=e;omega);have u':(ak p a).l=[x]:=u';have Ur:nth (ak p a).l 0=x:=by rw[u'];rfl
   exact un x (iI 8 0) (fun v=>(mL (⟨#[45]⟩:TF) v,0)) u' TX (by rw[lR,Ur];simp only[e,Int.reduceEq,↓reduceIte]) (.inl rfl) (fun v hv=>mH (Jf _ _)) fun v q=>by rw[MV.rG,MV.bp h1,MV.fa,MV.da h1,MV.fS];rfl
  ·obtain⟨x,u',TX⟩:=Vr (by have e:(nth p.aa.nodes a.toNat).kind=8:=e;omega);have u':(ak p a).l=[x]:=u';have Ur:nth (ak p a).l 0=x:=by rw[u'];rfl
   exact un x (iI 9 0) (fun v=>(mL (⟨#[33]⟩:TF) v,0)) u' TX (by rw[lR,Ur];simp only[e,Int.reduceEq,↓reduceIte]) (.inr (.inl rfl)) (fun v hv=>mH (Jf _ _)) fun v q=>by rw[MV.qU,MV.bp h1,MV.fa,MV.da h1,MV.fS];rfl
  ·obtain⟨x,y,u',TX,WV⟩:=sh.two (.inl e);have u':(ak p a).l=[x,y]:=u';have Ur:nth (ak p a).l 0=x:=by rw[u'];rfl
   have Xm:nth (ak p a).l 1=y:=by rw[u'];rfl
   rw[lR]at hC ⊢;simp only[e,Ur,Xm,Int.reduceEq,↓reduceIte]at hC ⊢;by_cases Vr:lh (ak p a).name=7
   ·rw[if_pos Vr]at hC ⊢;have d:=sub x (by rw[u'];simp) TX k c hc T8 hC.last.1.app.1 hz jB;have YS:=hC.last.1.app.2;have Tm:=hC.app.2;rw[List.length_append,List.length_append,List.length_singleton,show((k:Int)+(((bo p n x k).length+(bo p n y (k+(bo p n x k).length)).length+1:Nat):Int))=((k+(bo p n x k++bo p n y (k+(bo p n x k).length)).length:Nat):Int)+1 by rw[List.length_append];push_cast;omega];refine d.bind fun v q hv=>?_
    have dy:=sub y (by rw[u'];simp) WV (k+(bo p n x k).length) { c with at_:=((k:Int)+((bo p n x k).length:Int)),stack:=c.stack++[v],aS:=q } hc (by push_cast;rfl) (by rw[Int.natCast_add];exact YS) (uP hz hv) jE;rw[Int.natCast_add]at dy;rcases dy with⟨w,q2,hw,g⟩|⟨t,ht,g⟩
    ·have hau:((k:Int)+((bo p n x k).length:Int)+((bo p n y (k+(bo p n x k).length)).length:Int))=((k+(bo p n x k++bo p n y (k+(bo p n x k).length)).length:Nat):Int):=by rw[List.length_append];push_cast;omega
     rw[hau]at g;rcases FV (p:=p) (C:=C) (inp:=inp) (M:=M) (c:=c) (d:={ c with at_:=((k+(bo p n x k++bo p n y (k+(bo p n x k).length)).length:Nat):Int),stack:=c.stack++[v]++[w],aS:=q2 }) (r:=pV (ak p a).name v w) (q:=q2+2) h1 h8 P' Tm (fun h=>by cases h) rfl
      (og h1 h8 rfl Tm.head.1 Tm.head.2.1 (uP (uP hz hv) hw) jF ⟨by show(1:Int)<=7;decide,by show(7:Int)<=23;decide⟩ 2 jE (fun h=>by cases h) (fun h=>by cases h) (fun h=>by rcases h with h|h|h|h<;>cases h) (fun h=>by cases h)) (Ql _ hv)
      (by rw[MV.rH,MV.bp h1,MV.fa,MV.fS c w (c.stack++[v]),MV.fa,MV.da h1,MV.ou])with⟨u,q3,hu,g'⟩|⟨t,ht,g'⟩
     ·exact .inl ⟨u,q3,hu,g.trans g'⟩
     ·exact .inr ⟨t,ht,g.trans g'⟩
    ·exact .inr ⟨t,ht,g⟩
   ·rw[if_neg Vr]at hC ⊢;have hsg:lh (ak p a).name=18\/lh (ak p a).name=19:=by
     unfold lh at Vr ⊢;split
     ·exact .inl rfl
     ·split
      ·exact .inr rfl
      ·rename_i h1 h2;rw[if_neg h1,if_neg h2]at Vr;exact(Vr rfl).elim
    have d:=sub x (by rw[u'];simp) TX k c hc T8 hC.app.1.last.1 hz jB;have Tm:=hC.app.1.last;have ZS:=hC.app.1.app.2;have YS:=hC.app.2;generalize hX:(bo p n x k)=X at*;have eL:((k:Int)+(X.length:Int)+1)=((k+X.length+1:Nat):Int):=by push_cast;omega
    rw[eL]at YS Tm ZS ⊢;have YS:bI C.ins (k+X.length+1) (bo p n y ((k+X.length+1:Nat):Int)):=by rw[List.length_append,List.length_singleton,<-Nat.add_assoc]at YS;exact YS
    have Tq:((k:Int)+((X++[iI (lh (ak p a).name) (((k+X.length+1:Nat):Int)+(bo p n y ((k+X.length+1:Nat):Int)).length)]++bo p n y ((k+X.length+1:Nat):Int)).length:Int))=((k+X.length+1:Nat):Int)+(bo p n y ((k+X.length+1:Nat):Int)).length:=by simp only[List.length_append,List.length_cons,List.length_nil];push_cast;omega
    rw[Tq];refine d.bind fun v q hv=>?_
    have hok:=okU (k+X.length) _ v q ZS hv (by rcases hsg with h|h<;>rw[h]<;>simp[iI]);rw[Int.natCast_add]at hok;have go:∀m',bf p C inp ((M.ba { c with at_:=((k+X.length:Nat):Int)+1,stack:=c.stack++[v],aS:=q }).ins p C inp (iI (lh (ak p a).name) (((k+X.length+1:Nat):Int)+(bo p n y ((k+X.length+1:Nat):Int)).length))) m'->bf p C inp (M.ba { c with at_:=(k:Int)+X.length,stack:=c.stack++[v],aS:=q }) m':=fun m' hg=> bf.ins (c:={ c with at_:=(k:Int)+X.length,stack:=c.stack++[v],aS:=q }) (k:=k+X.length) h1 h8 P' (by push_cast;rfl) Tm.2.1 Tm.2.2 (by rcases hsg with h|h<;>rw[h]<;>(intro h;cases h)) hok hg
    have dy:=fun q2=>sub y (by rw[u'];simp) WV (k+X.length+1) { c with at_:=((k+X.length+1:Nat):Int),aS:=q2 } hc rfl YS hz (by show c.stack.length<=_;omega)
    -- the other side is taken, or not
    have take:ll p C inp M { c with at_:=((k+X.length+1:Nat):Int),aS:=q+1 } (((k+X.length+1:Nat):Int)+(bo p n y ((k+X.length+1:Nat):Int)).length):=dy (q+1);have e1:M.ba (({ c with at_:=((k+X.length:Nat):Int)+1,stack:=c.stack++[v],aS:=q }:MC).cut 1)=M.ba { c with at_:=((k+X.length+1:Nat):Int),aS:=q+1 }:=by rw[MV.fS,show((k+X.length:Nat):Int)+1=((k+X.length+1:Nat):Int) by push_cast;rfl]
    have fin:(M.ba { c with at_:=((k+X.length:Nat):Int)+1,stack:=c.stack++[v],aS:=q }).ins p C inp (iI (lh (ak p a).name) (((k+X.length+1:Nat):Int)+(bo p n y ((k+X.length+1:Nat):Int)).length))=M.ba { c with at_:=((k+X.length+1:Nat):Int),aS:=q+1 }\/
      (M.ba { c with at_:=((k+X.length:Nat):Int)+1,stack:=c.stack++[v],aS:=q }).ins p C inp (iI (lh (ak p a).name) (((k+X.length+1:Nat):Int)+(bo p n y ((k+X.length+1:Nat):Int)).length))=M.ba { c with at_:=(((k+X.length+1:Nat):Int)+(bo p n y ((k+X.length+1:Nat):Int)).length),stack:=c.stack++[v],aS:=q }:=by
     rcases hsg with h|h
     ·rw[h,MV.rn,MV.bp h1,MV.da h1,e1,MV.dp];split
      ·exact .inl rfl
      ·exact .inr rfl
     ·rw[h,MV.uu,MV.bp h1,MV.da h1,e1,MV.dp];split
      ·exact .inr rfl
      ·exact .inl rfl
    rcases fin with fin|fin
    ·rw[fin]at go;rcases take with⟨w,q2,hw,g⟩|⟨t,ht,g⟩
     ·exact .inl ⟨w,q2,hw,go _ g⟩
     ·exact .inr ⟨t,ht,go _ g⟩
    ·rw[fin]at go;exact .inl ⟨v,q,hv,go _ (bf.refl _)⟩
end
inductive dN(p:af)(C:aH)(j:Nat):Nat->Prop
 |mark {k n:Nat} {a:Int} (h0:0<=a) (hn:a.toNat<n+1) (hl:a.toNat<p.aa.nodes.length) (hi:jd p j a) (hk:fu (bX p.aa.nodes a)) (hC:bI C.ins k (gf p (n+1) a k)) (h:dN p C j (k+(gf p (n+1) a k).length)):dN p C j k
 |jump {k k':Nat} (hk:k<C.ins.length) (hx:nth C.ins k=iI 16 (k':Int)) (h:dN p C j k'):dN p C j k
 |fin {k:Nat} {r:Int} (hk:k<C.ins.length) (hx:nth C.ins k=iI 22 r):dN p C j k
structure kX(p:af)(C:aH)(j k n:Nat)(a:Int):Prop where
 h0:0<=a
 hn:a.toNat<n+1
 hl:a.toNat<p.aa.nodes.length
 hi:jd p j a
 hk:fu (bX p.aa.nodes a)
 hC:bI C.ins k (gf p (n+1) a k)
 h:dN p C j (k+(gf p (n+1) a k).length)
def th(p:af)(C:aH)(j:Nat)(k:Int):Prop:=∃k0 n a,k=((k0:Nat):Int)/\kX p C j k0 n a
structure lS(p:af)(c:MC):Prop where
 f0:0<=c.fn
 f1:c.fn<p.aa.av.length
 sl:(c.slots.length:Int)=nth p.size c.fn.toNat
 rg:rK c.slots
def xF(c:MC)(x:ax):Prop:=(∃s,x=iI 6 s/\0<=s/\s<c.slots.length)\/x=iI 23 0
structure qK(p:af)(C:aH)(c:MC):Prop where
 stack:c.stack=[]
 mark:th p C c.fn.toNat c.mark
 at_:∃k:Nat,c.at_=(k:Int)/\k<C.ins.length/\xF c (nth C.ins k)/\dN p C c.fn.toNat (k+1)
structure eK(p:af)(C:aH)(M:MV):Prop where
 one:1<=M.calls.length
 dR:M.calls.length<=8
 st:M.status=0
 tr:0<=M.cY/\M.cY<=9
 low:∀k,k+1<M.calls.length->lS p (nth M.calls k)/\qK p C (nth M.calls k)
 cells:gi M.heap<=40
 rg:tx M.heap
structure MI(p:af)(C:aH)(m:MV):Prop where
 dR:m.calls.length<=8
 low:∀k,k+1<m.calls.length->lS p (nth m.calls k)/\qK p C (nth m.calls k)
 ah:m.status≠2->1<=m.calls.length/\lS p m.ah/\m.ah.stack=[]/\th p C m.ah.fn.toNat m.ah.at_
 wR:m.status=2->m.calls.length=0
 st:0<=m.status/\m.status<=3
 tr:0<=m.cY/\m.cY<=9
 cells:gi m.heap<=40
 rg:tx m.heap
def lL(p:af)(C:aH)(M m:MV):Prop:=m.dG C/\MI p C m/\m.time=M.time
section
variable {p:af}{C:aH}{inp:TD}
def OZ(p:af)(n:Nat)(a k:Int):∃l,gf p (n+1) a k=iI 1 a::l:=⟨_,xS p n a k⟩
theorem kX.head{j k n:Nat}{a:Int}(h:kX p C j k n a):k<C.ins.length/\nth C.ins k=iI 1 a:=by obtain⟨l,e⟩:=OZ p n a k;have hC:=h.hC;rw[e]at hC;exact⟨hC.head.1,hC.head.2.1⟩
theorem eK.ba{M:MV}(h:eK p C M)(c:MC):eK p C (M.ba c):=
 ⟨by rw[MV.bG];exact h.one,by rw[MV.bG];exact h.dR,h.st,h.tr,fun k hk=>by rw[MV.bG]at hk;rw[show nth (M.ba c).calls k=nth M.calls k from(Go.Gd.dv _ _ _ _ (by have:=h.one;omega)).trans (jN)];exact h.low k hk,h.cells,h.rg⟩
variable{M:MV}
def eK.mi(h:eK p C M){c:MC}(hc:lS p c)(P':c.stack=[])(hm:th p C c.fn.toNat c.at_){s t:Int}(hs:s=0\/s=1\/s=3)(ht:0<=t/\t<=9):MI p C { M.ba c with status:=s,cY:=t }:=by
 have hu:=h.ba c;refine⟨hu.dR,hu.low,fun _=>?_,fun e=>?_,?_,ht,h.cells,h.rg⟩
 ·have ht:MV.ah { M.ba c with status:=s,cY:=t }=c:=MV.bp h.one c;rw[ht];exact⟨hu.one,hc,P',hm⟩
 ·have e:s=2:=e;omega
 ·show 0<=s/\s<=3;omega
def uX(h:eK p C M){c:MC}(hc:lS p c)(hm:th p C c.fn.toNat c.mark){s t:Int}(hs:s=1\/s=3)(ht:0<=t/\t<=9):lL p C M (M.iQ c s t):=
 ⟨.inl (by show s≠0;omega),h.mi (c:=c.back) ⟨hc.f0,hc.f1,hc.sl,hc.rg⟩ rfl hm jB ht,rfl⟩
def QW(c:MC):(M.ba c).pop=M.pop:=by show MV.mk ((M.calls.set (M.calls.length-1) c).take ((M.calls.set (M.calls.length-1) c).length-1)) _ _ _ _ _ _ _=_;rw[List.length_set,List.take_set_of_le jl];rfl
def Nc{α:Type}[Inhabited α](l:List α)(n k:Nat)(h:k<n):nth (l.take n) k=nth l k:=by unfold nth;rw[List.getD_eq_getElem?_getD,List.getElem?_take,if_pos h,List.getD_eq_getElem?_getD]
theorem eK.pop{M:MV}(h:eK p C M)(h2:2<=M.calls.length):eK p C M.pop/\M.pop.calls.length=M.calls.length-1/\lS p M.pop.ah/\qK p C M.pop.ah:=by
 have hl:M.pop.calls.length=M.calls.length-1:=by show(M.calls.take _).length=_;rw[List.length_take];omega
 have hn:∀k,k<M.calls.length-1->nth M.pop.calls k=nth M.calls k:=fun k hk=>Nc _ _ _ hk
 have ht:M.pop.ah=nth M.calls (M.calls.length-2):=by unfold MV.ah;rw[hl,hn _ jB];rfl
 have Tm:=h.low (M.calls.length-2) jB;have:=h.dR;rw[ht];exact⟨⟨jB,jB,h.st,h.tr,fun k hk=>by rw[hn k jB];exact h.low k jB,h.cells,h.rg⟩,hl,Tm⟩
def IS{N:Nat}(hM:eK p C M)(hN:M.calls.length=N)
  (ih:∀(M:MV) (c:MC) (k:Nat),eK p C M->M.calls.length=N->lS p c->c.stack=[]->c.at_=(k:Int)->dN p C c.fn.toNat k->∃m1,bf p C inp (M.ba c) m1/\lL p C M m1)
  {c:MC} {v:aj} {k:Nat} (hc:lS p c) (P':c.stack=[v]) (hv:gV v) (T8:c.at_=(k:Int)) (hk:k<C.ins.length) (hx:xF c (nth C.ins k)) (hn:dN p C c.fn.toNat (k+1)):∃m1,bf p C inp (M.ba c) m1/\lL p C M m1:=by
 have h1:=hM.one;have ht:=MV.bp (M:=M) h1;have hz:∀u∈c.stack,gV u:=fun u hu=>by rw[P']at hu;rw[List.mem_singleton.1 hu];exact hv
 rcases hx with⟨s,hx,s0,s1⟩|hx
 ·obtain⟨m1,g,d⟩:=ih M { c with at_:=((k+1:Nat):Int),slots:=c.slots.set s.toNat v,stack:=[],aS:=c.aS+1 } (k+1) hM hN ⟨hc.f0,hc.f1,by show((c.slots.set _ _).length:Int)=_;rw[List.length_set];exact hc.sl,FX hc.rg _ hv.1⟩ rfl rfl hn;refine⟨m1,bf.ins h1 hM.dR hM.st T8 hk hx (fun h=>by cases h) (og h1 hM.dR T8 hk hx hz (by rw[P'];simp) ⟨by show(1:Int)<=6;decide,by show(6:Int)<=23;decide⟩ 1 (by rw[P'];simp) (fun h=>by cases h) (fun _ h=>by rcases h with h|h<;>cases h) (fun _=>⟨s0,s1⟩) (fun h=>by cases h)) ?_,d⟩;rw[MV.oy,ht,MV.dp];have e:({ MC.cut { c with at_:=(k:Int)+1 } 1 with slots:=(MC.slots { c with at_:=(k:Int)+1 }).set s.toNat (MC.last { c with at_:=(k:Int)+1 }) }:MC)={ c with at_:=((k+1:Nat):Int),slots:=c.slots.set s.toNat v,stack:=[],aS:=c.aS+1 }:=by
   unfold MC.cut MC.last;simp only[P'];rfl
  rw[e];exact g
 ·obtain⟨m1,g,d⟩:=ih M { c with at_:=((k+1:Nat):Int),stack:=[],aS:=c.aS+1 } (k+1) hM hN ⟨hc.f0,hc.f1,hc.sl,hc.rg⟩ rfl rfl hn;refine⟨m1,bf.ins h1 hM.dR hM.st T8 hk hx (fun h=>by cases h) (og h1 hM.dR T8 hk hx hz (by rw[P'];simp) ⟨by show(1:Int)<=23;decide,by show(23:Int)<=23;decide⟩ 1 (by rw[P'];simp) (fun h=>by cases h) (fun _ h=>by rcases h with h|h<;>cases h) (fun h=>by rcases h with h|h|h|h<;>cases h) (fun h=>by cases h)) ?_,d⟩;rw[MV.qC,MV.da h1];have e:MC.cut { c with at_:=(k:Int)+1 } 1={ c with at_:=((k+1:Nat):Int),stack:=[],aS:=c.aS+1 }:=by
   unfold MC.cut;simp only[P'];rfl
  rw[e];exact g
def Ja{N:Nat}(hM:eK p C M)(hN:M.calls.length=N+1)
  (ih:∀(M:MV) (c:MC) (k:Nat),eK p C M->M.calls.length=N->lS p c->c.stack=[]->c.at_=(k:Int)->dN p C c.fn.toNat k->∃m1,bf p C inp (M.ba c) m1/\lL p C M m1) {v:aj} (hv:gV v) (c:MC):∃m1,bf p C inp ((M.ba c).ends v) m1/\lL p C M m1:=by
 unfold MV.ends;rw[QW,MV.bG];by_cases h2:M.calls.length<=1
 ·rw[if_pos h2];have hl:M.pop.calls.length=0:=by show(M.calls.take _).length=_;rw[List.length_take];omega
  exact⟨_,bf.refl _,.inl (by show(2:Int)≠0;decide),⟨by show M.pop.calls.length<=8;omega,fun k hk=>by have hk:k+1<M.pop.calls.length:=hk;omega,fun e=>(e rfl).elim,fun _=>hl,⟨by show(0:Int)<=2;decide,by show(2:Int)<=3;decide⟩,hM.tr,hM.cells,hM.rg⟩,rfl⟩
 ·rw[if_neg h2];obtain⟨b,l,f,lo⟩:=hM.pop jB;obtain⟨k,k1,k2,k3,k4⟩:=lo.at_;have e:M.pop.push v=M.pop.ba { M.pop.ah with stack:=[v],aS:=M.pop.ah.aS-1 }:=by
   unfold MV.push MC.push;rw[lo.stack];rfl
  rw[e];exact IS b jB ih (c:={ M.pop.ah with stack:=[v],aS:=M.pop.ah.aS-1 }) ⟨f.f0,f.f1,f.sl,f.rg⟩ rfl hv k1 k2 k3 k4
theorem vN:∀(N:Nat) (M:MV) (c:MC) (k:Nat),eK p C M->M.calls.length=N->lS p c->c.stack=[]->c.at_=(k:Int)->dN p C c.fn.toNat k->∃m1,bf p C inp (M.ba c) m1/\lL p C M m1
 |0,M,c,k,hM,hN,_,_,_,_=>by have:=hM.one;omega
 |N+1,M,c,k,hM,hN,hc,P',T8,hk=>by
  generalize hj:c.fn.toNat=j at hk;have h1:=hM.one;have ht:=MV.bp (M:=M) h1;induction hk generalizing c with
  |@mark k n a h0 hn hl hi hkd hC h _=>
   have hm:kX p C j k n a:=⟨h0,hn,hl,hi,hkd,hC,h⟩;refine⟨_,bf.refl _,.inr ?_,?_,rfl⟩
   ·unfold MV.bn;rw[ht,T8,Int.toNat_natCast,hm.head.2];rfl
   ·have:=hM.mi hc P' (by rw[hj];exact⟨k,n,a,T8,hm⟩) (.inl rfl) hM.tr;have e:({ M.ba c with status:=0,cY:=M.cY }:MV)=M.ba c:=by
     have:=hM.st;unfold MV.ba;rw[this]
    rwa [e]at this
  |@jump k k' hk hx h ih=> obtain⟨m1,g,d⟩:=ih { c with at_:=(k':Int) } ⟨hc.f0,hc.f1,hc.sl,hc.rg⟩ P' rfl hj;refine⟨m1,bf.ins h1 hM.dR hM.st T8 hk hx (fun h=>by cases h) (og h1 hM.dR T8 hk hx (fun u hu=>by rw[P']at hu;cases hu) (by rw[P'];simp) ⟨by show(1:Int)<=16;decide,by show(16:Int)<=23;decide⟩ 0 (Nat.zero_le _) (fun _=>.inr (.inr (.inr (.inr (.inr (.inl rfl)))))) (fun h=>by cases h) (fun h=>by rcases h with h|h|h|h<;>cases h) (fun h=>by cases h)) ?_,d⟩;rw[MV.lZ,ht,MV.dp];exact g
  |@fin k r hk hx=>
   have go:∀m',bf p C inp ((M.ba { c with at_:=(k:Int)+1 }).ends (vZ r)) m'->bf p C inp (M.ba c) m':=fun m' g=> bf.ins h1 hM.dR hM.st T8 hk hx (fun h=>by cases h) (og h1 hM.dR T8 hk hx (fun u hu=>by rw[P']at hu;cases hu) (by rw[P'];simp) ⟨by show(1:Int)<=22;decide,by show(22:Int)<=23;decide⟩ 0 (Nat.zero_le _) (fun _=>.inr (.inr (.inr (.inr (.inr (.inr (.inr rfl))))))) (fun h=>by cases h) (fun h=>by rcases h with h|h|h|h<;>cases h) (fun h=>by cases h)) g
   obtain⟨m1,g,d⟩:=Ja (inp:=inp) hM hN (fun M c k a b=>vN N M c k a b) (D9 r) { c with at_:=(k:Int)+1 };exact⟨m1,go _ g,d⟩
end
def vJ(p:af)(C:aH):Prop:=∀j,j<p.aa.av.length->∃k:Nat,nth C.entry j=(k:Int)/\dN p C j k
section
variable {p:af}{C:aH}{inp:TD}
theorem F7{M:MV}(hs:gk p)(hM:eK p C M){j:Nat}(hj:j<p.aa.av.length){n:Nat}(c:MC)(Uq:(c.slots.length:Int)=nth p.size j)(Yb:rK c.slots) :
  ∀(L:TD) (UM:List aj) (k q:Nat),(∀x∈L,0<=x/\x.toNat<p.aa.nodes.length/\jd p j x/\cQ (bX p.aa.nodes x)/\x.toNat<n)->bI C.ins k (bv (bo p n) k L [])->(∀v∈UM,gV v)->UM.length+L.length<=10->
   (∃vs q',vs.length=L.length/\(∀v∈vs,gV v)/\bf p C inp (M.ba { c with at_:=(k:Int),stack:=UM,aS:=q }) (M.ba { c with at_:=((k+(bv (bo p n) k L []).length:Nat):Int),stack:=UM++vs,aS:=q' }))\/∃t:Int,(1<=t/\t<=9)/\bf p C inp (M.ba { c with at_:=(k:Int),stack:=UM,aS:=q }) (M.iQ c 3 t)
 |[],UM,k,q,hL,hl,hz,hd=>.inl ⟨[],q,rfl,fun v hv=>by(cases hv),by rw[List.append_nil];exact bf.refl _⟩
 |x::L,UM,k,q,hL,hl,hz,hd=>by
  obtain⟨x0,x1,x2,x3,x4⟩:=hL x jE;have hm:=hs.ok.aa.many;have e0:bv (bo p n) (k:Int) (x::L) []=bo p n x k++bv (bo p n) ((k+(bo p n x k).length:Nat):Int) L []:=by show bv (bo p n) k L ([]++bo p n x ((k:Int)+((0:Nat):Int)))=_;rw[vw,List.nil_append,show((k:Int)+((0:Nat):Int))=(k:Int) from jB,Int.natCast_add]
  rw[e0]at hl ⊢;rcases xT (inp:=inp) hs hM.one hM.dR hM.st hM.cells hM.rg hj Uq Yb n x k { c with at_:=(k:Int),stack:=UM,aS:=q } x0 x1 x2 x3 x4 rfl rfl hl.app.1 hz (by show UM.length+x.toNat<=900;simp at hd;omega)with⟨v,q1,hv,g1⟩|⟨t,ht,g1⟩
  ·rcases F7 hs hM hj c Uq Yb L (UM++[v]) (k+(bo p n x k).length) q1 (fun y hy=>hL y (by simp[hy])) hl.app.2 (uP hz hv) (by simp at hd ⊢;omega)with⟨vs,q',e,VG,g2⟩|⟨t,ht,g2⟩
   ·refine .inl ⟨v::vs,q',by simp[e],fun u hu=>?_,?_⟩
    ·rcases List.mem_cons.1 hu with rfl|hu
     ·exact hv
     ·exact VG u hu
    ·rw[Int.natCast_add]at g2;rw[List.length_append,<-Nat.add_assoc];rw[List.append_assoc]at g2;exact g1.trans g2
   ·rw[Int.natCast_add]at g2;exact .inr ⟨t,ht,g1.trans g2⟩
  ·exact .inr ⟨t,ht,g1⟩
def Fy{M:MV}(hs:gk p)(hE:vJ p C)(ZT:C.entry.length=p.aa.av.length)(hM:eK p C M){c:MC}(hc:lS p c)(hm:th p C c.fn.toNat c.mark)(P':c.stack=[]){n kc:Nat}{x:Int}(T8:c.at_=(kc:Int))(h0:0<=x)(hl:x.toNat<p.aa.nodes.length)(hk:(ak p x).kind=21)(Uy:jd p c.fn.toNat x)(hn:x.toNat<n)
  (Yo:bI C.ins kc (cB p n x kc)) (UU:kc+(cB p n x kc).length<C.ins.length) (U0:xF c (nth C.ins (kc+(cB p n x kc).length))) (XV:dN p C c.fn.toNat (kc+(cB p n x kc).length+1)):∃m1,bf p C inp (M.ba c) m1/\lL p C M m1:=by
 have h1:=hM.one;have h8:=hM.dR;have f0:=hc.f0;have f1:=hc.f1;obtain⟨cal,UJ⟩:=callee hs hl hk;have X2:Bs p x=(cal:Int):=UJ.last;have Xu:=hs.ok.aa.shape x.toNat hl;have hao:=UJ.AK;have WE:=Yo.app.2.head;have Tc:(cB p n x kc).length=(bv (bo p n) kc (ak p x).l []).length+1:=by unfold cB;rw[List.length_append];rfl
 rw[X2]at WE;have UF:=F7 (inp:=inp) hs hM (j:=c.fn.toNat) jB (n:=n) c hc.sl hc.rg (ak p x).l [] kc c.aS (fun y hy=>by obtain⟨y1,y2,y3,y4⟩:=Uy.aE hs jB hy;exact⟨y2,y4,y1,Xu.1.call hk y hy,jB⟩) Yo.app.1 (fun v hv=>by cases hv) jF
 have ec:({ c with at_:=(kc:Int),stack:=[],aS:=c.aS }:MC)=c:=by rw[<-T8,<-P']
 rw[ec]at UF;generalize hke2:kc+(bv (bo p n) kc (ak p x).l []).length=ke at*;rcases UF with⟨A,q,WX,hA,g⟩|⟨t,ht,g⟩
 rotate_left
 ·exact⟨_,g,uX hM hc hm (.inr rfl) jB⟩
 rw[List.nil_append]at g;have ZU:=hs.av cal UJ.lt;have Ti:=hs.ok.size;have p1:=ZU.vV;have p2:=ZU.hi;have p3:=UJ.args;have p5:=UJ.lt;have hok:(M.ba { c with at_:=((ke:Nat):Int),stack:=A,aS:=q }).fQ p C:=og h1 h8 rfl WE.1 WE.2.1 hA (by show A.length<=1000;omega) ⟨by show(1:Int)<=20;decide,by show(20:Int)<=23;decide⟩ 0 (Nat.zero_le _) (fun _=>.inr (.inr (.inr (.inr (.inr (.inr (.inl rfl))))))) (fun h=>by cases h) (fun h=>by rcases h with h|h|h|h<;>cases h) (fun _=>by
  refine⟨?_,?_,?_,?_,?_,?_,?_,?_,?_⟩
  ·show(0:Int)<=((ak p x).l.length:Int);omega
  ·show((ak p x).l.length:Int)<=(A.length:Int);omega
  ·show((ak p x).l.length:Int)<=3;omega
  ·show(0:Int)<=(cal:Int);omega
  ·show(cal:Int)<(C.entry.length:Int);omega
  ·show(cal:Int)<(p.size.length:Int);omega
  ·show 0<=nth p.size ((cal:Int)).toNat;rw[Int.toNat_natCast];omega
  ·show nth p.size ((cal:Int)).toNat<=24;rw[Int.toNat_natCast];omega
  ·show((ak p x).l.length:Int)<=nth p.size ((cal:Int)).toNat;rw[Int.toNat_natCast];omega)
 have Uu:∀m',bf p C inp ((M.ba { c with at_:=(ke:Int)+1,stack:=A,aS:=q }).ins p C inp ⟨20,(cal:Int),((ak p x).l.length:Int),sE⟩) m'->bf p C inp (M.ba c) m':=fun m' hg=> g.trans (bf.ins (c:={ c with at_:=(ke:Int),stack:=A,aS:=q }) h1 h8 hM.st rfl WE.1 WE.2.1 (fun h=>by cases h) hok hg)
 have U6:(M.ba { c with at_:=(ke:Int)+1,stack:=A,aS:=q }).cut ((ak p x).l.length:Int).toNat=M.ba { c with at_:=(ke:Int)+1,stack:=[],aS:=q+(ak p x).l.length }:=by rw[MV.da h1,Int.toNat_natCast];unfold MC.cut;show M.ba ⟨_,_,_,_,A.take (A.length-(ak p x).l.length),_⟩=_;rw[WX,Nat.sub_self];rfl
 rw[MV.pM,U6,MV.bG]at Uu;by_cases h88:8<=M.calls.length
 ·rw[if_pos h88,MV.dY h1]at Uu;exact⟨_,Uu _ (bf.refl _),uX hM hc hm (.inr rfl) ⟨jC,jC⟩⟩
 rw[if_neg h88,MV.bp h1]at Uu;have Xj:A.drop (A.length-((ak p x).l.length:Int).toNat)=A:=by rw[Int.toNat_natCast,WX,Nat.sub_self,List.drop_zero]
 have hav:(MC.stack { c with at_:=(ke:Int)+1,stack:=A,aS:=q }).drop ((MC.stack { c with at_:=(ke:Int)+1,stack:=A,aS:=q }).length-((ak p x).l.length:Int).toNat)=A:=Xj;rw[hav]at Uu;obtain⟨ek,e1,e2⟩:=hE cal UJ.lt;generalize Uw:({ c with at_:=(ke:Int)+1,stack:=[],aS:=q+(ak p x).l.length }:MC)=c' at*;have Xo:lS p c'/\qK p C c':=by subst Uw;refine⟨⟨hc.f0,hc.f1,hc.sl,hc.rg⟩,rfl,hm,ke+1,by push_cast;rfl,?_⟩;have e:kc+(cB p n x kc).length=ke+1:=jB;rw[e]at UU U0 XV;exact⟨UU,U0,XV⟩
 generalize hd:MV.iE p C (cal:Int) A=d;have W8:nth p.size ((cal:Int)).toNat=nth p.size cal:=by rw[Int.toNat_natCast]
 have hdF:lS p d:=by
  subst hd;refine⟨by show(0:Int)<=cal;omega,by show(cal:Int)<_;omega,?_,?_⟩
  ·show((A++List.replicate _ v0).length:Int)=nth p.size ((cal:Int)).toNat;rw[List.length_append,List.length_replicate,W8];omega
  ·intro v hv;rcases List.mem_append.1 (show v∈A++List.replicate _ v0 from hv)with hv|hv
   ·exact(hA v hv).1
   ·rw[(List.mem_replicate.1 hv).2];exact qZ
 have Tm:((M.ba c').cM p C (cal:Int) A).calls.length=M.calls.length+1:=by show((M.ba c').calls++[_]).length=_;rw[List.length_append,MV.bG];rfl
 have hnk:∀k,k<M.calls.length->nth ((M.ba c').cM p C (cal:Int) A).calls k=nth (M.ba c').calls k:=fun k hk=>by show nth ((M.ba c').calls++[_]) k=_;unfold nth;rw[List.getD_eq_getElem?_getD,List.getElem?_append_left (by rw[MV.bG];exact hk),List.getD_eq_getElem?_getD]
 have haw:((M.ba c').cM p C (cal:Int) A).ah=d:=by
  unfold MV.ah;rw[Tm];show nth ((M.ba c').calls++[MV.iE p C (cal:Int) A]) (M.calls.length+1-1)=d;have:M.calls.length+1-1=(M.ba c').calls.length:=by rw[MV.bG];omega
  rw[this,qh,hd]
 have hB:eK p C ((M.ba c').cM p C (cal:Int) A):=by
  refine⟨jB,jB,hM.st,hM.tr,fun k hk=>?_,hM.cells,hM.rg⟩;rw[hnk k jB];by_cases e:k=M.calls.length-1
  ·have:nth (M.ba c').calls k=c':=by rw[e];exact(Go.Gd.dv _ _ _ _ jB).trans (if_pos rfl)
   rw[this];exact Xo
  ·have:nth (M.ba c').calls k=nth M.calls k:=(Go.Gd.dv _ _ _ _ jB).trans (jN);rw[this];exact hM.low k jB
 obtain⟨m1,g1,d1⟩:=vN (inp:=inp) _ _ d ek hB rfl hdF (by subst hd;rfl) (by subst hd;show nth C.entry ((cal:Int)).toNat=_;rw[Int.toNat_natCast];exact e1) (by subst hd;show dN p C ((cal:Int)).toNat ek;rw[Int.toNat_natCast];exact e2);refine⟨m1,Uu _ ?_,d1⟩;have:=MV.rh ((M.ba c').cM p C (cal:Int) A) jB;rw[haw]at this;rw[<-this];exact g1
theorem CE{j n:Nat}:∀(L:TD) (k:Nat),(∀x∈L,0<=x/\x.toNat<n/\x.toNat<p.aa.nodes.length/\jd p j x/\fu (bX p.aa.nodes x))->bI C.ins k (bv (gf p n) k L [])->dN p C j (k+(bv (gf p n) k L []).length)->dN p C j k
 |[],k,hL,hl,hc=>hc
 |x::L,k,hL,hl,hc=>by
  obtain⟨x0,x1,x2,x3,x4⟩:=hL x jE;obtain⟨m,rfl⟩:∃m,n=m+1:=⟨n-1,jB⟩;have e0:bv (gf p (m+1)) (k:Int) (x::L) []=gf p (m+1) x k++bv (gf p (m+1)) ((k+(gf p (m+1) x k).length:Nat):Int) L []:=by show bv (gf p (m+1)) k L ([]++gf p (m+1) x ((k:Int)+((0:Nat):Int)))=_;rw[vw,List.nil_append,show((k:Int)+((0:Nat):Int))=(k:Int) from jB,Int.natCast_add]
  rw[e0]at hl hc;rw[List.length_append,<-Nat.add_assoc]at hc;exact .mark x0 x1 x2 x3 x4 hl.app.1 (CE L _ (fun y hy=>hL y (by simp[hy])) hl.app.2 hc)
end
section
variable {p:af}{C:aH}{inp:TD}
def KA{l:TD}(h:∀x∈l,cn x)(k:Nat):cn (nth l k):=by
 rcases Hb l k with e|e
 ·exact h _ e
 ·rw[e];exact qZ
def Nb{h:TC}(hr:tx h)(i k:Nat){v:Int}(hv:cn v):tx (h.set i ((nth h i).set k v)):=fun l hl x hx=>by
 rcases List.mem_or_eq_of_mem_set hl with hl|rfl
 ·exact hr l hl x hx
 ·rcases List.mem_or_eq_of_mem_set hx with hx|rfl
  ·rcases Hb h i with e|e
   ·exact hr _ e x hx
   ·rw[e]at hx;cases hx
  ·exact hv
def SK{M:MV}(hs:gk p)(hE:vJ p C)(ZT:C.entry.length=p.aa.av.length)(hi:∀x∈inp,cn x)(hM:eK p C M){c:MC}(hc:lS p c){k n:Nat}{a:Int}(hm:kX p C c.fn.toNat k n a)(Xc:c.mark=(k:Int))(P':c.stack=[])(T8:c.at_=(k:Int)+1):∃m1,bf p C inp (M.ba c) m1/\lL p C M m1:=by
 have h1:=hM.one;have h8:=hM.dR;have f0:=hc.f0;have f1:=hc.f1;have hj:c.fn.toNat<p.aa.av.length:=jB;have Zb:th p C c.fn.toNat c.mark:=⟨k,n,a,Xc,hm⟩;have hl:=hm.hl;have sh:=(hs.ok.aa.shape a.toNat hl).1;have Th:=hs.ok.aa.many;have Tv:fu (ak p a).kind:=hm.hk;unfold fu at Tv;have V0:jL (ak p a).kind->0<=nth p.slots a.toNat/\nth p.slots a.toNat<c.slots.length:=fun h=>by have:=(hs.av _ hj).all a.toNat hm.hi.1 (by have:=hm.hi.2;omega) h;rw[hc.sl];exact this
 have hC:=hm.hC;have Tq:=hm.h;have e0:=xS p n a k;have ek:(k:Int)+1=((k+1:Nat):Int):=by push_cast;rfl
 rw[ek]at e0 T8;have aE:∀x∈(ak p a).l,0<=x/\x.toNat<n/\x.toNat<p.aa.nodes.length/\jd p c.fn.toNat x:=fun x hx=>by obtain⟨b1,b2,b3,b4⟩:=hm.hi.aE hs hj hx;have:=hm.hn;exact⟨b2,jB,b4,b1⟩
 have ex:∀(M':MV) (d:MC) (kd:Nat),eK p C M'->lS p d->d.fn=c.fn->d.slots=c.slots->d.at_=(kd:Int)->(∀v∈d.stack,gV v)->d.stack.length<=2->∀x∈(ak p a).l,cQ (bX p.aa.nodes x)->bI C.ins kd (bo p n x kd)->ll p C inp M' d (kd+(bo p n x kd).length):=fun M' d kd X4 hd d1 d2 d3 d4 d5 x hx TX hCx=>by obtain⟨b1,b2,b3,b4⟩:=aE x hx;exact xT hs X4.one X4.dR X4.st X4.cells X4.rg hj (slots:=c.slots) hc.sl hc.rg n x kd d b1 b3 b4 TX b2 d2 d3 hCx d4 jB
 have fr:∀(kd q:Nat) (st:List aj),lS p { c with at_:=(kd:Int),stack:=st,aS:=q }:=fun kd q st=>⟨hc.f0,hc.f1,hc.sl,hc.rg⟩
 have stop:∀(kd q:Nat) (st:List aj) (s t:Int),s=1\/s=3->0<=t/\t<=9->lL p C M (M.iQ { c with at_:=(kd:Int),stack:=st,aS:=q } s t):=fun kd q st s t h h'=>uX hM (fr kd q st) Zb h h'
 have cont:∀(M':MV) (kd q:Nat),eK p C M'->dN p C c.fn.toNat kd->∃m1,bf p C inp (M'.ba { c with at_:=(kd:Int),stack:=[],aS:=q }) m1/\lL p C M' m1:=fun M' kd q X4 h=>vN _ M' _ kd X4 rfl (fr kd q []) rfl rfl h
 have finr:∀(M':MV) (kd q:Nat) (v:aj),eK p C M'->gV v->kd<C.ins.length->xF c (nth C.ins kd)->dN p C c.fn.toNat (kd+1)->∃m1,bf p C inp (M'.ba { c with at_:=(kd:Int),stack:=[v],aS:=q }) m1/\lL p C M' m1:=fun M' kd q v X4 hv h2 h3 h4=> IS X4 rfl (fun M c k a b=>vN _ M c k a b) (c:={ c with at_:=(kd:Int),stack:=[v],aS:=q }) (fr kd q [v]) rfl hv rfl h2 h3 h4
 -- an instruction on one value
 have go1:∀{kd q:Nat} {i:ax} {v:aj} {m':MV},bI C.ins kd [i]->gV v->i.op=13\/i.op=15\/i.op=17\/i.op=21->bf p C inp ((M.ba { c with at_:=(kd:Int)+1,stack:=[v],aS:=q }).ins p C inp i) m'->bf p C inp (M.ba { c with at_:=(kd:Int),stack:=[v],aS:=q }) m':=fun{kd q i v m'} hl hv ho g=> bf.ins (c:={ c with at_:=(kd:Int),stack:=[v],aS:=q }) h1 h8 hM.st rfl hl.head.1 hl.head.2.1 jB (og h1 h8 rfl hl.head.1 hl.head.2.1 (fun u hu=>by rw[List.mem_singleton.1 hu];exact hv) jE jB 1 jE (fun h=>by cases h) (fun _=>jB) (fun h=>jB) (fun h=>jB)) g
 have last1:∀(kd:Int) (q:Nat) (v:aj),MC.last { c with at_:=kd,stack:=[v],aS:=q }=v:=fun _ _ _=>rfl
 have cut1:∀(kd:Int) (q:Nat) (v:aj),MC.cut { c with at_:=kd,stack:=[v],aS:=q } 1={ c with at_:=kd,stack:=[],aS:=q+1 }:=fun _ _ _=>rfl
 have nat1:∀kd:Nat,(kd:Int)+1=((kd+1:Nat):Int):=fun kd=>by push_cast;rfl
 have self:c={ c with at_:=((k+1:Nat):Int),stack:=[],aS:=c.aS }:=by rw[<-T8,<-P']
 -- an expression at the beginning, and what is behind it
 have first:∀x∈(ak p a).l,cQ (bX p.aa.nodes x)->bI C.ins (k+1) (bo p n x ((k+1:Nat):Int))->(∀v q,gV v->∃m1,bf p C inp (M.ba { c with at_:=((k+1+(bo p n x ((k+1:Nat):Int)).length:Nat):Int),stack:=[v],aS:=q }) m1/\lL p C M m1)->∃m1,bf p C inp (M.ba c) m1/\lL p C M m1:=fun x hx TX hCx h=>by
  rcases ex M c (k+1) hM hc rfl rfl T8 (fun v hv=>by rw[P']at hv;cases hv) (by rw[P'];simp) x hx TX hCx with⟨v,q,hv,g⟩|⟨t,ht,g⟩
  ·obtain⟨m1,g1,d⟩:=h v q hv;rw[P',List.nil_append]at g;rw[Int.natCast_add (k+1)]at g1;exact⟨m1,g.trans g1,d⟩
  ·exact⟨_,g,uX hM hc Zb (.inr rfl) jB⟩
 -- a block below it
 have blk:∀b∈(ak p a).l,bX p.aa.nodes b=18->∀kb:Nat,bI C.ins kb (bv (gf p n) kb (ak p b).l [])->dN p C c.fn.toNat (kb+(bv (gf p n) kb (ak p b).l []).length)->dN p C c.fn.toNat kb:=fun b hb Wl kb hl h=>by obtain⟨b1,b2,b3,b4⟩:=aE b hb;refine CE _ kb (fun x hx=>?_) hl h;obtain⟨x1,x2,x3,x4⟩:=b4.aE hs hj hx;exact⟨x2,jB,x4,x1,(hs.ok.aa.shape b.toNat b3).1.block Wl x hx⟩
 -- one way, or the other
 have branch:∀(kx q kt:Nat) (v:aj),bI C.ins kx [iI 17 (kt:Int)]->gV v->dN p C c.fn.toNat kt->dN p C c.fn.toNat (kx+1)->∃m1,bf p C inp (M.ba { c with at_:=(kx:Int),stack:=[v],aS:=q }) m1/\lL p C M m1:=fun kx q kt v hl hv ht hf=>by
  have go:∀m',_->bf p C inp (M.ba { c with at_:=(kx:Int),stack:=[v],aS:=q }) m':=fun m'=>go1 (m':=m') hl hv (.inr (.inr (.inl rfl)))
  rw[MV.oc,MV.bp h1,last1,MV.da h1,cut1,MV.dp]at go;by_cases h:v.n=0
  ·rw[if_pos h]at go;obtain⟨m1,g,d⟩:=cont M kt (q+1) hM ht;exact⟨m1,go _ g,d⟩
  ·rw[if_neg h]at go;obtain⟨m1,g,d⟩:=cont M (kx+1) (q+1) hM hf;exact⟨m1,go _ g,d⟩
 have T6:((ak p a).kind=10\/(ak p a).kind=11)\/(ak p a).kind=12\/(ak p a).kind=13\/(ak p a).kind=14\/(ak p a).kind=15\/(ak p a).kind=16\/(ak p a).kind=17:=jB;rcases T6 with e|e|e|e|e|e|e
 ·-- let, set
  obtain⟨x,u',XN⟩:=sh.right e;have u':(ak p a).l=[x]:=u';have Ur:nth (ak p a).l 0=x:=by rw[u'];rfl
  have VP:x∈(ak p a).l:=by rw[u'];simp
  rw[if_pos e,Ur]at e0;rw[e0]at hC Tq;have hC:=hC.head.2.2;have Uq:=V0 (by unfold jL;omega);obtain⟨b1,b2,b3,b4⟩:=aE x VP;have hF:∀i,i=iI 6 (nth p.slots a.toNat)->xF c i:=fun i h=>.inl ⟨_,h,Uq⟩
  have Tj:=hC.last;rw[List.length_cons,List.length_append,List.length_singleton]at Tq;rw[tq]at Tj Tq;by_cases k19:(ak p x).kind=19
  ·rw[if_pos k19]at Tj Tq;have hx:=Tj.1.head;have Tm:=Tj.2;rw[List.length_singleton]at Tm Tq;have go:∀m',bf p C inp ((M.ba { c with at_:=((k+1:Nat):Int)+1 }).ins p C inp (iI 14 0)) m'->bf p C inp (M.ba c) m':=fun m' g=>
    bf.ins h1 h8 hM.st T8 hx.1 hx.2.1 (fun h=>by cases h) (og h1 h8 T8 hx.1 hx.2.1 (fun v hv=>by rw[P']at hv;cases hv) (by rw[P'];simp) ⟨by show(1:Int)<=14;decide,by show(14:Int)<=23;decide⟩ 0 (Nat.zero_le _) (fun _=>.inr (.inr (.inr (.inr (.inl rfl))))) (fun h=>by cases h) (fun h=>by rcases h with h|h|h|h<;>cases h) (fun h=>by cases h)) g
   rw[MV.n8]at go;by_cases hw:(inp.length:Int)<=M.in_
   ·have hw':(inp.length:Int)<=(M.ba { c with at_:=((k+1:Nat):Int)+1 }).in_:=hw;rw[if_pos hw',MV.dY h1]at go;exact⟨_,go _ (bf.refl _),uX hM (c:={ c with at_:=((k+1:Nat):Int)+1 }) ⟨hc.f0,hc.f1,hc.sl,hc.rg⟩ Zb (.inl rfl) ⟨Int.le_refl _,jC⟩⟩
   ·have hw':¬(inp.length:Int)<=(M.ba { c with at_:=((k+1:Nat):Int)+1 }).in_:=hw;rw[if_neg hw',MV.fl h1]at go;obtain⟨m1,g,d⟩:=finr { M with in_:=M.in_+1 } (k+1+1) (c.aS-1) (vI (nth inp M.in_.toNat)) ⟨hM.one,hM.dR,hM.st,hM.tr,hM.low,hM.cells,hM.rg⟩ (qz (KA hi _)) Tm.1 (hF _ Tm.2) Tq;refine⟨m1,go _ ?_,d⟩;have e:MC.push { c with at_:=((k+1:Nat):Int)+1 } (vI (nth inp M.in_.toNat))={ c with at_:=((k+1+1:Nat):Int),stack:=[vI (nth inp M.in_.toNat)],aS:=c.aS-1 }:=by
     unfold MC.push;simp only[P'];rfl
    show bf p C inp { M.ba (MC.push { c with at_:=((k+1:Nat):Int)+1 } (vI (nth inp M.in_.toNat)))with in_:=M.in_+1 } m1;rw[e];exact g
  rw[if_neg k19]at Tj Tq;by_cases k20:(ak p x).kind=20
  ·rw[if_pos k20]at Tj Tq;obtain⟨y,hly,WV⟩:=(hs.ok.aa.shape x.toNat b3).1.one (.inr (.inr (.inr (.inr (.inr k20)))));have hly:(ak p x).l=[y]:=hly;have Xm:nth (ak p x).l 0=y:=by rw[hly];rfl
   rw[Xm]at Tj Tq;obtain⟨y1,y2,y3,y4⟩:=b4.aE hs hj (b:=y) (by rw[hly];simp);have X5:=Tj.1.last;rw[List.length_append,List.length_singleton]at Tj Tq;rcases xT (inp:=inp) hs h1 h8 hM.st hM.cells hM.rg hj (slots:=c.slots) hc.sl hc.rg n y (k+1) c y2 y4 y1 WV jB rfl T8 X5.1 (fun v hv=>by rw[P']at hv;cases hv) (by rw[P'];show 0+y.toNat<=900;omega)with⟨v,q,hv,g⟩|⟨t,ht,g⟩
   rotate_left
   ·exact⟨_,g,uX hM hc Zb (.inr rfl) jB⟩
   rw[P',List.nil_append,<-Int.natCast_add]at g;generalize hX:bo p n y ((k+1:Nat):Int)=X at*;have go:∀m',bf p C inp ((M.ba { c with at_:=((k+1+X.length:Nat):Int)+1,stack:=[v],aS:=q }).ins p C inp (iI 13 0)) m'->bf p C inp (M.ba c) m':=fun m' g'=>g.trans (go1 ⟨_,by rw[List.drop_eq_getElem_cons X5.2.1,<-fJ X5.2.1,X5.2.2];rfl⟩ hv (.inl rfl) g')
   rw[MV.rz,MV.bp h1,last1,MV.da h1,cut1,MV.dY h1,MV.dY h1,MV.fl h1,nat1]at go;by_cases hq:v.n<0\/16<v.n
   ·rw[if_pos hq]at go;exact⟨_,go _ (bf.refl _),stop _ _ _ _ _ (.inr rfl) jC⟩
   rw[if_neg hq]at go;by_cases ZE:40<gi M.heap+v.n+1
   ·have YT:40<gi (M.ba { c with at_:=((k+1+X.length+1:Nat):Int),stack:=[v],aS:=q }).heap+v.n+1:=ZE;rw[if_pos YT]at go;exact⟨_,go _ (bf.refl _),stop _ _ _ _ _ (.inr rfl) jC⟩
   have YT:¬40<gi (M.ba { c with at_:=((k+1+X.length+1:Nat):Int),stack:=[v],aS:=q }).heap+v.n+1:=ZE;rw[if_neg YT]at go;have Ug:gi (M.heap++[List.replicate v.n.toNat 0])<=40:=by rw[C8,List.length_replicate];omega
   have hhl:=Ls M.heap;obtain⟨m1,g',d⟩:=finr { M with heap:=M.heap++[List.replicate v.n.toNat 0] } (k+1+(X.length+1)) (q+1-1) ⟨4,M.heap.length+1,sE⟩ ⟨hM.one,hM.dR,hM.st,hM.tr,hM.low,Ug,fun l hl x hx=>by
    rcases List.mem_append.1 hl with hl|hl
    ·exact hM.rg l hl x hx
    ·rw[List.mem_singleton.1 hl]at hx;rw[(List.mem_replicate.1 hx).2];exact qZ⟩ ⟨by show cn ((M.heap.length:Int)+1);have:=hM.cells;unfold cn;omega,by show sE.size<=40;decide⟩ Tj.2.1 (hF _ Tj.2.2) (by rw[show k+1+(X.length+1)+1=k+(X.length+1+1+1) from jB];exact Tq)
   exact⟨m1,go _ g',d⟩
  rw[if_neg k20]at Tj Tq;by_cases k21:(ak p x).kind=21
  ·rw[if_pos k21]at Tj Tq;exact Fy hs hE ZT hM hc Zb P' T8 b1 b3 k21 b4 b2 Tj.1 Tj.2.1 (hF _ Tj.2.2) (by rw[show k+1+(cB p n x ((k+1:Nat):Int)).length+1=k+((cB p n x ((k+1:Nat):Int)).length+1+1) from jB];exact Tq)
  rw[if_neg k21]at Tj Tq;have TX:cQ (bX p.aa.nodes x):=by
   rcases XN with h|h|h|h
   ·exact h
   ·exact(k19 h).elim
   ·exact(k20 h).elim
   ·exact(k21 h).elim
  exact first x VP TX Tj.1 fun v q hv=>finr M _ q v hM hv Tj.2.1 (hF _ Tj.2.2) (by rw[show k+1+(bo p n x ((k+1:Nat):Int)).length+1=k+((bo p n x ((k+1:Nat):Int)).length+1+1) from jB];exact Tq)
 ·-- put
  obtain⟨x,y,u',TX,WV⟩:=sh.two (.inr e);have u':(ak p a).l=[x,y]:=u';have Ur:nth (ak p a).l 0=x:=by rw[u'];rfl
  have Xm:nth (ak p a).l 1=y:=by rw[u'];rfl
  rw[jN,if_pos e,Ur,Xm]at e0;rw[e0]at hC Tq;have hC:=hC.head.2.2;have Uq:=V0 (by unfold jL;omega);have hxC:=hC.last.1.app.1;have hyC:=hC.last.1.app.2;have Tj:=hC.last.2;simp only[List.length_cons,List.length_append,List.length_nil]at Tj Tq;refine first x (by rw[u'];simp) TX hxC fun v q hv=>?_
  generalize hX:bo p n x ((k+1:Nat):Int)=X at*;rw[<-Int.natCast_add]at hyC Tj Tq;rcases ex M { c with at_:=((k+1+X.length:Nat):Int),stack:=[v],aS:=q } (k+1+X.length) hM (fr _ _ _) rfl rfl rfl (fun u hu=>by rw[List.mem_singleton.1 hu];exact hv) jE y (by rw[u'];simp) WV hyC with⟨w,q2,hw,g⟩|⟨t,ht,g⟩
  rotate_left
  ·exact⟨_,g,stop _ _ _ _ _ (.inr rfl) jB⟩
  rw[<-Int.natCast_add]at g;generalize hY:bo p n y ((k+1+X.length:Nat):Int)=Y at*;rw[<-Nat.add_assoc]at Tj;have go:∀m',bf p C inp ((M.ba { c with at_:=((k+1+X.length+Y.length:Nat):Int)+1,stack:=[v]++[w],aS:=q2 }).ins p C inp (iI 12 (nth p.slots a.toNat))) m'->bf p C inp (M.ba { c with at_:=((k+1+X.length:Nat):Int),stack:=[v],aS:=q }) m':=fun m' g'=>g.trans
   (bf.ins (c:={ c with at_:=((k+1+X.length+Y.length:Nat):Int),stack:=[v]++[w],aS:=q2 }) h1 h8 hM.st rfl Tj.1 Tj.2 (fun h=>by cases h) (og h1 h8 rfl Tj.1 Tj.2 (uP (fun u hu=>by rw[List.mem_singleton.1 hu];exact hv) hw) jE ⟨by show(1:Int)<=12;decide,by show(12:Int)<=23;decide⟩ 2 jE (fun h=>by cases h) (fun h=>by cases h) (fun _=>Uq) (fun h=>by cases h)) g')
  have c2:MC.cut { c with at_:=((k+1+X.length+Y.length:Nat):Int)+1,stack:=[v]++[w],aS:=q2 } 2={ c with at_:=((k+1+X.length+Y.length+1:Nat):Int),stack:=[],aS:=q2+2 }:=rfl;have l1:MC.last (MC.cut { c with at_:=((k+1+X.length+Y.length:Nat):Int)+1,stack:=[v]++[w],aS:=q2 } 1)=v:=rfl;have l2:MC.last { c with at_:=((k+1+X.length+Y.length:Nat):Int)+1,stack:=[v]++[w],aS:=q2 }=w:=rfl;rw[MV.qD,MV.bp h1,l1,l2,MV.da h1,c2,MV.dY h1,MV.kf]at go;have Vh:=AF hM.cells hM.rg (eR c.slots (nth p.slots a.toNat) 4).n;by_cases hb:v.n<0\/((MV.bk M.heap (eR c.slots (nth p.slots a.toNat) 4).n).length:Int)<=v.n
  ·have T5:v.n<0\/((MV.bk M.heap (eR (MC.slots { c with at_:=((k+1+X.length+Y.length:Nat):Int)+1,stack:=[v]++[w],aS:=q2 }) (nth p.slots a.toNat) 4).n).length:Int)<=v.n:=hb;rw[if_pos T5]at go;exact⟨_,go _ (bf.refl _),stop _ _ _ _ _ (.inr rfl) jC⟩
  ·have T5:¬(v.n<0\/((MV.bk M.heap (eR (MC.slots { c with at_:=((k+1+X.length+Y.length:Nat):Int)+1,stack:=[v]++[w],aS:=q2 }) (nth p.slots a.toNat) 4).n).length:Int)<=v.n):=hb;rw[if_neg T5]at go;generalize hg:(eR c.slots (nth p.slots a.toNat) 4).n=g4 at*;have Ug:gi (M.heap.set (g4-1).toNat ((nth M.heap (g4-1).toNat).set v.n.toNat w.n))<=40:=by
    by_cases O':(g4-1).toNat<M.heap.length
    ·rw[Ig _ _ _ O' (by rw[List.length_set])];exact hM.cells
    ·rw[List.set_eq_of_length_le jB];exact hM.cells
   obtain⟨m1,g',d⟩:=cont { M with heap:=M.heap.set (g4-1).toNat ((nth M.heap (g4-1).toNat).set v.n.toNat w.n) } (k+1+X.length+Y.length+1) (q2+2) ⟨hM.one,hM.dR,hM.st,hM.tr,hM.low,Ug,Nb hM.rg _ _ hw.1⟩ (by rw[show k+1+X.length+Y.length+1=k+(X.length+Y.length+(0+1)+1) from jB];exact Tq);exact⟨m1,go _ g',d⟩
 ·-- do
  obtain⟨x,u',hax⟩:=sh.sX e;have u':(ak p a).l=[x]:=u';have Ur:nth (ak p a).l 0=x:=by rw[u'];rfl
  rw[jN,jN,if_pos e,Ur]at e0;rw[e0]at hC Tq;have hC:=hC.head.2.2.last;obtain⟨b1,b2,b3,b4⟩:=aE x (by rw[u'];simp);rw[List.length_cons,List.length_append,List.length_singleton]at Tq;exact Fy hs hE ZT hM hc Zb P' T8 b1 b3 hax b4 b2 hC.1 hC.2.1 (.inr hC.2.2) (by rw[show k+1+(cB p n x ((k+1:Nat):Int)).length+1=k+((cB p n x ((k+1:Nat):Int)).length+1+1) from jB];exact Tq)
 ·-- print
  obtain⟨x,u',TX⟩:=sh.one (.inr (.inr (.inr (.inr (.inl e)))));have u':(ak p a).l=[x]:=u';have Ur:nth (ak p a).l 0=x:=by rw[u'];rfl
  rw[jN,jN,jN,if_pos e,Ur]at e0;rw[e0]at hC Tq;have hC:=hC.head.2.2;rw[List.length_cons,List.length_append,List.length_singleton]at Tq;refine first x (by rw[u'];simp) TX hC.last.1 fun v q hv=>?_
  have Tm:=hC.app.2;generalize hX:bo p n x ((k+1:Nat):Int)=X at*;have go:∀m',_->bf p C inp (M.ba { c with at_:=((k+1+X.length:Nat):Int),stack:=[v],aS:=q }) m':=fun m'=>go1 (m':=m') Tm hv (.inr (.inl rfl))
  rw[MV.oi,MV.bp h1,last1,MV.da h1,cut1,MV.dY h1,nat1]at go;by_cases ho:24<=M.bz.length
  ·have Vw:24<=(M.ba { c with at_:=((k+1+X.length+1:Nat):Int),stack:=[v],aS:=q }).bz.length:=ho;rw[if_pos Vw]at go;exact⟨_,go _ (bf.refl _),stop _ _ _ _ _ (.inr rfl) jC⟩
  ·have Vw:¬24<=(M.ba { c with at_:=((k+1+X.length+1:Nat):Int),stack:=[v],aS:=q }).bz.length:=ho;rw[if_neg Vw]at go;obtain⟨m1,g,d⟩:=cont { M with bz:=M.bz++[mC v] } (k+1+X.length+1) (q+1) ⟨hM.one,hM.dR,hM.st,hM.tr,hM.low,hM.cells,hM.rg⟩ (by rw[show k+1+X.length+1=k+(X.length+1+1) from jB];exact Tq);exact⟨m1,go _ g,d⟩
 ·-- if
  obtain⟨x,b,TX,Wl,YU⟩:=sh.lC e;rw[jN,jN,jN,jN,jN]at e0;rcases YU with u'|⟨d,u',XU⟩
  ·have u':(ak p a).l=[x,b]:=u';have Ur:nth (ak p a).l 0=x:=by rw[u'];rfl
   have ZV:nth (ak p a).l 1=b:=by rw[u'];rfl
   rw[Hs e (by rw[u'];show(2:Nat)≠3;decide),Ur,ZV]at e0;rw[e0]at hC Tq;have hC:=hC.head.2.2;refine first x (by rw[u'];simp) TX hC.app.1.last.1 fun v q hv=>?_
   have Tm:=hC.app.1.app.2;have hB:=hC.app.2;generalize hX:bo p n x ((k+1:Nat):Int)=X at*;simp only[List.length_append,List.length_cons,List.length_nil]at hB Tq;rw[<-Int.natCast_add,nat1]at Tm hB Tq;generalize V6:bv (gf p n) ((k+1+X.length+1:Nat):Int) (ak p b).l []=B at*;rw[<-Int.natCast_add]at Tm;have c1:dN p C c.fn.toNat (k+1+X.length+1+B.length):=by rw[show k+1+X.length+1+B.length=k+(X.length+(0+1)+B.length+1) from jB];exact Tq
   exact branch _ _ _ _ Tm hv c1 (blk b (by rw[u'];simp) Wl _ (by rw[V6];exact hB) (by rw[V6];exact c1))
  ·have u':(ak p a).l=[x,b,d]:=u';have Ur:nth (ak p a).l 0=x:=by rw[u'];rfl
   have ZV:nth (ak p a).l 1=b:=by rw[u'];rfl
   have hd0:nth (ak p a).l 2=d:=by rw[u'];rfl
   rw[HY e (by rw[u'];rfl),Ur,ZV,hd0]at e0;rw[e0]at hC Tq;have hC:=hC.head.2.2;refine first x (by rw[u'];simp) TX hC.app.1.app.1.last.1 fun v q hv=>?_
   have Tm:=hC.app.1.app.1.app.2;have hB:=hC.app.1.app.2.last;have hD:=hC.app.2;generalize hX:bo p n x ((k+1:Nat):Int)=X at*;simp only[List.length_append,List.length_cons,List.length_nil]at hB hD Tq;rw[<-Int.natCast_add,nat1]at Tm hB hD Tq;generalize V6:bv (gf p n) ((k+1+X.length+1:Nat):Int) (ak p b).l []=B at*;have e2:(((k+1+X.length+1:Nat):Int)+(B.length:Int)+1)=((k+1+X.length+1+B.length+1:Nat):Int):=by push_cast;omega
   rw[e2]at hB hD Tq;generalize hDl:bv (gf p n) ((k+1+X.length+1+B.length+1:Nat):Int) (ak p d).l []=D at*;have c1:dN p C c.fn.toNat (k+1+X.length+1+B.length+1+D.length):=by rw[show k+1+X.length+1+B.length+1+D.length=k+(X.length+(0+1)+(B.length+(0+1))+D.length+1) from jB];exact Tq
   rw[show((k+1+X.length+1:Nat):Int)+((B.length:Int)+1)=((k+1+X.length+1+B.length+1:Nat):Int) by push_cast;omega]at Tm;rw[<-Int.natCast_add]at hB;have cD:=blk d (by rw[u'];simp) XU (k+1+X.length+1+B.length+1) (by rw[hDl];rw[show k+1+(X.length+(0+1)+(B.length+(0+1)))=k+1+X.length+1+B.length+1 from jB]at hD;exact hD) (by rw[hDl];exact c1);have cJ:dN p C c.fn.toNat (k+1+X.length+1+B.length):=.jump (k':=k+1+X.length+1+B.length+1+D.length) (by have:=hB.2.1;omega) (by have:=hB.2.2;rw[show k+1+(X.length+(0+1))+B.length=k+1+X.length+1+B.length from jB]at this;exact this) c1;exact branch _ _ _ _ Tm hv cD (blk b (by rw[u'];simp) Wl _ (by rw[V6];exact hB.1) (by rw[V6];exact cJ))
 ·-- while
  obtain⟨x,b,u',TX,Wl⟩:=sh.dX e;rw[jN,jN,jN,jN,jN]at e0;have u':(ak p a).l=[x,b]:=u';have Ur:nth (ak p a).l 0=x:=by rw[u'];rfl
  have ZV:nth (ak p a).l 1=b:=by rw[u'];rfl
  rw[HO e,Ur,ZV]at e0;have cK:dN p C c.fn.toNat k:=.mark hm.h0 hm.hn hm.hl hm.hi hm.hk hm.hC hm.h;rw[e0]at hC Tq;have hC:=hC.head.2.2;refine first x (by rw[u'];simp) TX hC.app.1.last.1 fun v q hv=>?_
  have Tm:=hC.app.1.app.2;have hB:=hC.app.2.last;generalize hX:bo p n x ((k+1:Nat):Int)=X at*;simp only[List.length_append,List.length_cons,List.length_nil]at hB Tq;rw[<-Int.natCast_add,nat1]at Tm hB Tq;generalize V6:bv (gf p n) ((k+1+X.length+1:Nat):Int) (ak p b).l []=B at*;rw[show((k+1+X.length+1:Nat):Int)+((B.length:Int)+1)=((k+1+X.length+1+B.length+1:Nat):Int) by push_cast;omega]at Tm;have c1:dN p C c.fn.toNat (k+1+X.length+1+B.length+1):=by rw[show k+1+X.length+1+B.length+1=k+(X.length+(0+1)+(B.length+(0+1))+1) from jB];exact Tq
  have cJ:dN p C c.fn.toNat (k+1+X.length+1+B.length):=.jump (k':=k) (by have:=hB.2.1;omega) (by have:=hB.2.2;rw[show k+1+(X.length+(0+1))+B.length=k+1+X.length+1+B.length from jB]at this;rw[this];congr 1;push_cast;omega) cK;exact branch _ _ _ _ Tm hv c1 (blk b (by rw[u'];simp) Wl _ (by rw[V6];exact hB.1) (by rw[V6];exact cJ))
 ·-- return
  rw[jN,jN,jN,jN,if_pos e]at e0;by_cases U4:(ak p a).l.length=0
  ·rw[if_pos U4]at e0;rw[e0]at hC;have hx:=hC.head.2.2.head;rw[self];exact cont M (k+1) c.aS hM (.fin hx.1 hx.2.1)
  ·rw[if_neg U4]at e0;rcases sh.ret e with h|⟨x,u',TX⟩
   ·have h:(ak p a).l=[]:=h;rw[h]at U4;exact(U4 rfl).elim
   have u':(ak p a).l=[x]:=u';have Ur:nth (ak p a).l 0=x:=by rw[u'];rfl
   rw[Ur]at e0;rw[e0]at hC;have hC:=hC.head.2.2;refine first x (by rw[u'];simp) TX hC.last.1 fun v q hv=>?_
   have Tm:=hC.app.2;generalize hX:bo p n x ((k+1:Nat):Int)=X at*;have go:∀m',_->bf p C inp (M.ba { c with at_:=((k+1+X.length:Nat):Int),stack:=[v],aS:=q }) m':=fun m'=>go1 (m':=m') Tm hv (.inr (.inr (.inr rfl)))
   rw[MV.rf,MV.bp h1,last1,MV.da h1,cut1]at go;obtain⟨N,hN⟩:∃N,M.calls.length=N+1:=⟨M.calls.length-1,jB⟩;obtain⟨m1,g,d⟩:=Ja (inp:=inp) hM hN (fun M c k a b=>vN N M c k a b) hv { c with at_:=((k+1+X.length:Nat):Int)+1,stack:=[],aS:=q+1 };exact⟨m1,go _ g,d⟩
end
section
variable {p:af}
def wT(hs:gk p):vJ p (cf p):=fun j hj=>by
 obtain⟨k,h1,h2⟩:=(qy hs).at_ j hj;have UO:=h2.app.2.head;refine⟨k,h1,CE _ k (fun x hx=>?_) h2.app.1 (.fin UO.1 UO.2.1)⟩;have hN:=oV hs.ok.aa hj;have hb:=hs.ok.aa.body _ (fh hj);have Ts:=(hs.av j hj).chain.le;have I':(nth p.aa.av j).body.toNat<p.aa.nodes.length:=by have:=hN.1;have:=hN.2;omega
 have hi:jd p j (nth p.aa.av j).body:=⟨Ts,Nat.le_refl _⟩;obtain⟨x1,x2,x3,x4⟩:=hi.aE hs hj (b:=x) hx;exact⟨x2,by unfold mw;omega,x4,x1,(hs.ok.aa.shape _ I').1.block hb x hx⟩
def _root_.Go.Gd.MV.halt(m:MV):Prop:=m.status=2\/m.status=3
theorem MI.fv{C:aH}{m:MV}(h:MI p C m):MI p C m.fv:=⟨h.dR,h.low,h.ah,h.wR,h.st,h.tr,h.cells,h.rg⟩
variable{inp:TD}
def PC{C:aH}(hs:gk p)(hE:vJ p C)(ZT:C.entry.length=p.aa.av.length)(hi:∀x∈inp,cn x){m:MV}(h:MI p C m)(P':¬m.halt):∃m1,bf p C inp m.dW m1/\lL p C m m1:=by obtain⟨h1,hc,Uz,k,n,a,hk,hm⟩:=h.ah (fun e=>P' (.inl e));have hM:eK p C { m with status:=0 }:=⟨h1,h.dR,rfl,h.tr,h.low,h.cells,h.rg⟩;exact SK hs hE ZT hi hM (c:={ m.ah with mark:=m.ah.at_,at_:=m.ah.at_+1 }) ⟨hc.f0,hc.f1,hc.sl,hc.rg⟩ hm hk Uz (by show m.ah.at_+1=_;rw[hk])
def B5{C:aH}(hs:gk p)(hE:vJ p C)(inp:TD):∃m1,bf p C inp (lQ p C) m1/\lL p C (lQ p C) m1:=by
 obtain⟨j,hj,VA,_,ZW⟩:=AE hs;obtain⟨ek,e1,e2⟩:=hE j hj;have hf:=hs.av j hj;have p1:=hf.vV;have hM:eK p C (lQ p C):=⟨by show 1<=1;decide,by show 1<=8;decide,rfl,by show(0:Int)<=0/\(0:Int)<=9;decide,fun k hk=>by have hk:k+1<1:=hk;omega,by show gi []<=40;decide,fun l hl=>by cases hl⟩
 have UA:(MV.iE p C (gQ p) []).fn.toNat=j:=by show(gQ p).toNat=j;rw[VA,Int.toNat_natCast]
 have Ti:nth p.size (gQ p).toNat=nth p.size j:=by rw[VA,Int.toNat_natCast]
 obtain⟨m1,g,d⟩:=vN (inp:=inp) 1 (lQ p C) (MV.iE p C (gQ p) []) ek hM rfl ⟨by show 0<=gQ p;omega,by show gQ p<_;omega,by
  show(([]++List.replicate _ v0:List aj).length:Int)=nth p.size (gQ p).toNat;rw[List.nil_append,List.length_replicate,Ti];simp only[List.length_nil];omega,fun v hv=>by
  have hv:v∈([]++List.replicate _ v0:List aj):=hv;rw[List.nil_append]at hv;rw[(List.mem_replicate.1 hv).2];exact qZ⟩ rfl (by show nth C.entry (gQ p).toNat=_;rw[VA,Int.toNat_natCast];exact e1) (by rw[UA];exact e2)
 exact⟨m1,g,d⟩
structure bQ(p:af)(C:aH)(F:List Int->MV->MV):Prop where
 step:∀inp:List Int,(∀x∈inp,cn x)->∀m,MI p C m->¬m.halt->∃m1,bf p C inp m.dW m1/\lL p C m m1/\F inp m=m1.fv
 still:∀inp m,m.halt->F inp m=m
def Gm(hs:gk p):∃F,bQ p (cf p) F:=by
 classical
 refine⟨fun inp m=>if h:¬m.halt/\∃m1,bf p (cf p) inp m.dW m1/\lL p (cf p) m m1 then(Classical.choose h.2).fv else m,fun inp hi m hm P'=>?_,fun inp m h=>by rw[dif_neg (fun h'=>h'.1 h)]⟩;have h:¬m.halt/\∃m1,bf p (cf p) inp m.dW m1/\lL p (cf p) m m1:=⟨P',PC hs (wT hs) (qy hs).len hi hm P'⟩;have hc:=Classical.choose_spec h.2;exact⟨_,hc.1,hc.2,by rw[dif_pos h]⟩
def bQ.mi{C:aH}{F:TD->MV->MV}(hF:bQ p C F)(hi:∀x∈inp,cn x){m:MV}(h:MI p C m):MI p C (F inp m):=by
 by_cases e:m.halt
 ·rw[hF.still inp m e];exact h
 ·obtain⟨m1,_,d,e⟩:=hF.step inp hi m h e;rw[e];exact d.2.1.fv
theorem bQ.time{C:aH}{F:TD->MV->MV}(hF:bQ p C F){inp:TD}(hi:∀x∈inp,cn x){m:MV}(h:MI p C m):(F inp m).time=m.time\/((F inp m).time=m.time+1/\(F inp m).status≠1/\¬m.halt):=by
 by_cases e:m.halt
 ·exact .inl (by rw[hF.still inp m e])
 ·obtain⟨m1,_,d,e'⟩:=hF.step inp hi m h e;rw[e'];unfold MV.fv;dsimp only;split
  ·exact .inl d.2.2
  ·rename_i UD;exact .inr ⟨by rw[d.2.2],UD,e⟩
end
section
variable {p:af}{C:aH}{inp:TD}
def GA(m:MV)(v:aj):(m.ends v).in_=m.in_:=by unfold MV.ends;split<;>rfl
def FO(m:MV)(r:aj×Int):(m.dS r).in_=m.in_:=by unfold MV.dS;split<;>rfl
def HD{c:Prop}[Decidable c]{a b:MV}{k:Int}(h:a.in_=k)(h':b.in_=k):(if c then a else b).in_=k:=by
 by_cases e:c
 ·rw[if_pos e];exact h
 ·rw[if_neg e];exact h'
def MM(m:MV)(x:ax):(m.ins p C inp x).in_=m.in_\/(m.ins p C inp x).in_=m.in_+1:=by
 by_cases h:x.op=14
 ·rw[MV.jt _ _ _ _ _ h];split
  ·exact .inl rfl
  ·exact .inr rfl
 ·left
  unfold MV.ins;simp only[h,↓reduceIte];repeat' (first|rfl|exact GA _ _|exact FO _ _|refine HD ?_ ?_)
def On{n:Nat}{m a:MV}(h:fA p C inp n m a):∀{k b},fA p C inp k m b->a.dG C->b.dG C->a=b:=by
 induction h with
 |refl m=>
  intro k b hb ha _
  cases hb with
  |refl=>rfl
  |step h0 h1=>exact(ha.elim (fun h=>h h0) h1).elim
 |@step n m m' h0 h1 hok hg ih=>
  intro k b hb ha T5;cases hb with|refl=>exact(T5.elim (fun h=>h h0) h1).elim|step _ _ _ hg'=>exact ih hg' ha T5
def rk(m:MV)(k:Nat)(v:aj):MV:=m.ba { m.ah with slots:=m.ah.slots.set k v }
def GF{m:MV}(h:MI p C m)(hs:¬m.halt)(k:Nat){v:aj}(hv:cn v.n):MI p C (rk m k v):=by
 obtain⟨h1,hf,P',hm⟩:=h.ah (fun e=>hs (.inl e));have ht:(rk m k v).ah={ m.ah with slots:=m.ah.slots.set k v }:=MV.bp h1 _;have hl:(rk m k v).calls.length=m.calls.length:=MV.bG _ _;refine⟨by rw[hl];exact h.dR,fun j hj=>?_,fun _=>?_,fun e=>(hs (.inl e)).elim,h.st,h.tr,h.cells,h.rg⟩
 ·rw[hl]at hj;rw[show nth (rk m k v).calls j=nth m.calls j from(Go.Gd.dv _ _ _ _ jB).trans (jN)];exact h.low j hj
 ·rw[hl,ht];exact⟨h1,⟨hf.f0,hf.f1,by show((m.ah.slots.set k v).length:Int)=_;rw[List.length_set];exact hf.sl,FX hf.rg _ hv⟩,P',hm⟩
end
end Go.Proofs.YtjpcgmjaipfgdaaGreatDoor
namespace Go.Proofs.YtjpcgmjaipfgdaaGreatDoor
open Go Go.Gd Tryz Go.Gd.MV
section
variable {p:af}{C:aH}{m:MV}{N:NM}{e:TA}
def Se(hR:bH p C m N e)(hs:¬(m.status=2\/m.status=3))(h1:1<=m.calls.length)(k:Nat)(hk:k<m.ah.slots.length)(hl:m.ah.slots.length<=1000)(v:aj):cV prog 174 [mP N,rI k,.agg (bS v)] e (rB true) (bg e (hn 1 N.ah.c) (.aF 54 3 ((m.ah.slots.set k v).map bS)))/\bH p C (rk m k v) N (bg e (hn 1 N.ah.c) (.aF 54 3 ((m.ah.slots.set k v).map bS))):=by
 have ht:=ua hR h1;have hT:=hR.ah h1;have Ta:=hR.ok.low;have Ud:=hR.sx h1 (m.ah.slots.set k v) (List.length_set ..);have I':=hR.len;refine⟨⟨?_,hR.ok,Ud.ok,fun i hi=>?_,?_⟩,Ud⟩;rotate_left
 ·rw[bF];split
  ·simp
  ·exact hi
 ·simp only[aW,AV.all,fV hR.root,Bool.and_self,Bool.and_true,bS]
 have k2:=Ud.ok;have s2:¬m.status=2:=fun h=>hs (.inl h)
 have s3:¬m.status=3:=fun h=>hs (.inr h)
 have Uq:=hT.eN;have WN:(k:Int)<(m.ah.slots.length:Int):=jB;have Tt:¬(k:Int)<0:=jB;have TQ:¬(m.ah.slots.length:Int)<=(k:Int):=jB;generalize hE:bg e (hn 1 N.ah.c) (.aF 54 3 ((m.ah.slots.set k v).map bS))=E at k2 ⊢;clear Ud;refine aL (L:=ids e) func174 ntmps174 ?_ (hL:=rfl);generalize hB:ids e=B;refine eO ?_
 (have W:=jA Ta (jA hR.root (jA hT.var (jA Uq (jA s2 (jA s3 (jA WN (jA hk (jA Tt (TQ)))))))));repeat' (first|refine aq fun K hK=>?_|refine au ?_|(with_reducible refine gR 3 ?_);refine dC 3 ([],[34],[]) [] (bc 0 9) mixed ?_|(refine hK _ _ ?_;clear hK K)|(refine ap ?_ ?_<;>intro hc<;>try exact jz)|refine aV 9 ?_|refine mq ht ?_|refine cT ht ?_|(refine bU ?_ ?_<;>intro hc<;>try exact jz)|refine ar ?_|exact jI|(clear hK K)))
 subst hE;refine dZ (tl:=[(9,.var 54 (bS v))]) hB hR.ok k2 (fun i=>?_) (dm jC dz) [.tmp 6];rw[List.map_set];rfl
end
section
variable {p:af}{C:aH}{m:MV}{N:NM}{e:TA}(X:TE)
def Qf(hR:bH p C m N e)(h1:1<=m.calls.length)(x:ax)(hx:¬(x.op=20\/x.op=21\/x.op=22)):cV prog 168 [mP N,cP N,.agg (dj x)] e (rB false) e:=by
 have Ta:=hR.ok.low;refine⟨?_,hR.ok,hR.ok,fun _ h=>h,gZ hR h1 rfl⟩;refine aL (L:=ids e) func168 ntmps168 ?_ (hL:=rfl);generalize hB:ids e=B;refine eO ?_
 (have W:=Ta;repeat' (first|refine aq fun K hK=>?_|refine au ?_|(refine hK _ _ ?_;clear hK K)|(refine ap ?_ ?_<;>intro hc<;>try exact jz)|refine aV 9 ?_|refine ar ?_|exact jI|(clear hK K)))
 exact dZ hB hR.ok hR.ok (fun _=>rfl) (dm jC dz) [.tmp 6]
def Sg(h1:1<=m.calls.length)(b:Nat)(hd:∀k,k<m.calls.length->(nth m.calls k).stack.length<=1000):∀k,k<(m.cut b).calls.length->(nth (m.cut b).calls k).stack.length<=1000:=fun k hk=>by
 have hl:(m.cut b).calls.length=m.calls.length:=MV.bG _ _;have e1:nth (m.cut b).calls k=if k=m.calls.length-1 then m.ah.cut b else nth m.calls k:=Go.Gd.dv _ _ _ _ jB
 rw[e1];split
 ·show(m.ah.stack.take _).length<=_;have:m.ah.stack.length<=1000:=hd (m.calls.length-1) jB;rw[List.length_take];omega
 ·exact hd k jB
def zd(x:aj):lg (bS x)=true:=rfl
def MN(hR:bH p C m N e)(inp:TD)(x:ax)(hk:pF p C m x)(hx:x.op=20\/x.op=21\/x.op=22):kJ prog 168 [mP N,cP N,.agg (dj x)] e X (rB true) (fun N' l=>bH p C (m.ins p C inp x) N' l/\N'.k=N.k):=by
 have h1:=hk.calls;have Ta:=hR.ok.low;have hT:=hR.ah h1;have hl:=hR.len;by_cases h22:x.op=22
 ·have ei:m.ins p C inp x=m.ends (vZ x.a):=I7 _ _ _ _ _ h22;rw[ei];obtain⟨N',l,Tf,hU,hp⟩:=GB X hR h1 (vZ x.a) hk.deep;refine⟨N',l,Tf,hU,⟨?_,hR.ok,hp.e2,hU.aU,gZ hR h1 rfl⟩⟩;refine aL (L:=ids e) func168 ntmps168 ?_ (hL:=rfl);generalize hB:ids e=B;refine eO ?_
  (have W:=Ta;repeat' (first|refine aq fun K hK=>?_|refine au ?_|(refine hK _ _ ?_;clear hK K)|(refine ap ?_ ?_<;>intro hc<;>try exact jz)|refine aV 9 ?_|refine cp (AU _) ?_|refine cT hp ?_|refine ar ?_|exact jI|(clear hK K)))
  exact dZ hB hR.ok hp.e2 (fun _=>rfl) (dm jC dz) [.tmp 6]
 by_cases h21:x.op=21
 ·have ei:m.ins p C inp x=(m.cut 1).ends m.ah.last:=He _ _ _ _ _ h21;rw[ei];obtain⟨N1,l1,Tf,TV,UE⟩:=GR X hR h1 (hk.one jB);have Ym:1<=(m.cut 1).calls.length:=by rw[show(m.cut 1).calls.length=m.calls.length from MV.bG _ _];exact h1
  obtain⟨N',l,Ue,hU,hp⟩:=GB X Tf.1 Ym m.ah.last (Sg h1 1 hk.deep);rw[show mP N1=mP N by unfold mP;rw[Tf.2.1]]at hp;have TT:=Tf.1.ok.low;refine⟨N',l,⟨Ue.1,Ue.2.trans Tf.2.1⟩,TV.trans hU,⟨?_,hR.ok,hp.e2,(TV.trans hU).aU,gZ hR h1 rfl⟩⟩;refine aL (L:=ids e) func168 ntmps168 ?_ (hL:=rfl);generalize hB:ids e=B;refine eO ?_
  (have W:=jA Ta TT;repeat' (first|refine aq fun K hK=>?_|refine au ?_|(refine hK _ _ ?_;clear hK K)|(refine ap ?_ ?_<;>intro hc<;>try exact jz)|refine aV 9 ?_|refine cT UE ?_|refine cT hp ?_|refine ar ?_|exact jI|(clear hK K)))
  exact dZ hB hR.ok hp.e2 (fun _=>rfl) (dm jC dz) [.tmp 6]
 have ZX:x.op=20:=jB;obtain⟨c1,c2,c3⟩:=hk.call ZX;obtain⟨b,hb⟩:∃b:Nat,x.b=b:=⟨x.b.toNat,jB⟩;have ZR:x.b.toNat=b:=jB;rw[ZR]at c3;have Vl:b<=m.ah.stack.length:=jB;have hdp:=hk.ah;have Un:=hR.B8 h1 b Vl;have TV:Up X e (bg e (hn 0 N.ah.c) (.var 217 (MV.cE (m.ah.cut b) ⟨N.ah.c,N.ah.v,m.ah.stack.drop (m.ah.stack.length-b)++N.ah.jk⟩))):=Up.put _ (.inl (by rw[hT.var];simp));have eC:MV.cE (m.ah.cut b) ⟨N.ah.c,N.ah.v,m.ah.stack.drop (m.ah.stack.length-b)++N.ah.jk⟩=[.rs (hn 2 N.ah.v) (m.ah.stack.length+N.ah.jk.length) 3 (m.ah.stack.length-b),.raw (.int .i64 m.ah.fn),.raw (.int .i64 m.ah.at_),.raw (.int .i64 m.ah.mark),.rs (hn 1 N.ah.c) m.ah.slots.length 3 m.ah.slots.length]:=by
  have e1:(m.ah.cut b).stack.length=m.ah.stack.length-b:=by show(m.ah.stack.take _).length=_;rw[List.length_take];omega
  unfold MV.cE;rw[e1,List.length_append,List.length_drop,show m.ah.stack.length-b+(m.ah.stack.length-(m.ah.stack.length-b)+N.ah.jk.length)=m.ah.stack.length+N.ah.jk.length from jB];rfl
 rw[eC]at Un TV;have Tc:=HE (m.ah.stack.drop (m.ah.stack.length-b)) (by rw[List.length_drop];omega) 10;have VM:(m.cut b).calls.length=m.calls.length:=MV.bG _ _;have TT:=Un.ok.low;by_cases h8:8<=m.calls.length
 ·have ei:m.ins p C inp x=(m.cut b).stops 3 3:=by rw[BS _ _ _ _ _ ZX,if_pos h8,ZR]
  rw[ei];obtain⟨N',l,Ue,hU,hp⟩:=xr X Un jB 3 3;refine⟨N',l,⟨Ue.1,Ue.2.1⟩,TV.trans hU,⟨?_,hR.ok,hp.e2,(TV.trans hU).aU,gZ hR h1 rfl⟩⟩;clear eC TV hU;refine aL (L:=ids e) func168 ntmps168 ?_ (hL:=rfl);generalize hB:ids e=B;refine eO ?_
  (have W:=jA Ta (jA hR.root (jA hT.var (hb)));repeat' (first|refine aq fun K hK=>?_|refine au ?_|(with_reducible refine gR 4 ?_);refine dE 4 (bc 0 10) mixed ?_|(refine hK _ _ ?_;clear hK K)|(refine ap ?_ ?_<;>intro hc<;>try exact jz)|refine aV 9 ?_|refine Cu 10 zd Tc (by show aA (tie _ _) _=_;rw[j9,Ta _ jC];rfl) (IP m.ah.stack N.ah.jk (by show aA (tie _ _) _=_;rw[j9,hT.cF];rfl) rfl jB jC) ?_|refine cT hp ?_|refine ar ?_|exact jI|(clear hK K)))
  exact dZ hB hR.ok hp.e2 (fun _=>rfl) (dm jC dz) [.tmp 6]
 ·have ei:m.ins p C inp x=(m.cut b).cM p C x.a (m.ah.stack.drop (m.ah.stack.length-b)):=by rw[BS _ _ _ _ _ ZX,if_neg h8,ZR]
  rw[ei];obtain⟨f0,f1,f2,s0,s1,s2,b1,h8'⟩:=c3 jB;obtain⟨N',l,Ue,hU,hp⟩:=HK X Un x.a (m.ah.stack.drop (m.ah.stack.length-b)) ⟨f0,f1,f2,s0,s1,s2,b1,by rw[VM];exact h8'⟩;refine⟨N',l,⟨Ue.1,Ue.2⟩,TV.trans hU,⟨?_,hR.ok,hp.e2,(TV.trans hU).aU,gZ hR h1 rfl⟩⟩;clear eC TV hU;refine aL (L:=ids e) func168 ntmps168 ?_ (hL:=rfl);generalize hB:ids e=B;refine eO ?_
  (have W:=jA Ta (jA hR.root (jA hT.var (hb)));repeat' (first|refine aq fun K hK=>?_|refine au ?_|(with_reducible refine gR 4 ?_);refine dE 4 (bc 0 10) mixed ?_|(refine hK _ _ ?_;clear hK K)|(refine ap ?_ ?_<;>intro hc<;>try exact jz)|refine aV 9 ?_|refine Cu 10 zd Tc (by show aA (tie _ _) _=_;rw[j9,Ta _ jC];rfl) (IP m.ah.stack N.ah.jk (by show aA (tie _ _) _=_;rw[j9,hT.cF];rfl) rfl jB jC) ?_|refine cT hp ?_|refine ar ?_|exact jI|(clear hK K)))
  exact dZ hB hR.ok hp.e2 (fun _=>rfl) (dm jC dz) [.tmp 6]
end
def O6{p:af}{C:aH}{m:MV}{n:Nat}(h:Bd n m)(hn:n<=1000)(hok:m.fQ p C)(hC:C.entry.length<=1000)(hP:p.size.length<=1000):pF p C (m.ba (m.ah.jump (m.ah.at_+1))) (m.bn C):=by
 have h1:=hok.calls;have ht:(m.ba (m.ah.jump (m.ah.at_+1))).ah=m.ah.jump (m.ah.at_+1):=MV.bp h1 _;have hl:(m.ba (m.ah.jump (m.ah.at_+1))).calls.length=m.calls.length:=MV.bG _ _;have P':(m.ah.jump (m.ah.at_+1)).stack=m.ah.stack:=rfl;have Uq:(m.ah.jump (m.ah.at_+1)).slots=m.ah.slots:=rfl;have VV:(m.ah.jump (m.ah.at_+1)).last=m.ah.last:=rfl;refine⟨by rw[hl];exact h1,by rw[hl];exact hok.nb,?_,?_,?_,fun ZX=>?_,?_,?_,fun k hk=>?_,?_,h.heap,h.outs,h.nB,by have:=h.oA;show m.in_<=1000;omega⟩
 ·rw[ht,P'];exact hok.one
 ·rw[ht,P'];exact hok.two
 ·rw[ht,Uq];exact hok.slot
 ·obtain⟨c1,c2,c3,c4,c5,c6,c7,c8,c9⟩:=hok.call ZX;rw[ht,P'];refine⟨c1,c2,fun h8=>⟨c4,c5,c6,c7,c8,?_,⟨hC,hP⟩,hok.nb |> (by rw[hl];exact·)⟩⟩;rw[List.length_drop];omega
 ·rw[ht,VV];exact hok.word
 ·rw[ht,P'];exact hok.jX
 ·rw[hl]at hk;have e:nth (m.ba (m.ah.jump (m.ah.at_+1))).calls k=if k=m.calls.length-1 then m.ah.jump (m.ah.at_+1)else nth m.calls k:=Go.Gd.dv _ _ _ _ jB
  rw[e];split
  ·exact hok.deep
  ·exact h.deep k jB
 ·rw[ht,Uq];exact h.ah h1
def Lm{h:TC}{a i:Int}(hi:¬(i<0\/((MV.bk h a).length:Int)<=i)):(a-1).toNat<h.length/\i.toNat<(nth h (a-1).toNat).length:=by
 unfold MV.bk at hi;by_cases e:a<1\/(h.length:Int)<a
 ·rw[if_pos e]at hi;simp only[List.length_nil]at hi;omega
 ·rw[if_neg e]at hi;omega
def N6{p:af}{C:aH}{m:MV}{inp:TD}{x:ax}(h:Bd inp.length m)(hk:pF p C m x):Bd inp.length (m.ins p C inp x):=by
 have h1:=hk.calls;have U6:∀k,(m.cut k).calls.length=m.calls.length:=fun k=>MV.bG _ _
 have hc:∀k,Bd inp.length (m.cut k):=fun k=>h.cut h1 k
 have TP:∀k,1<=(m.cut k).calls.length:=fun k=>by rw[U6];exact h1
 by_cases a:x.op=2
 ·rw[OY _ _ _ _ _ a];exact h.push h1 _
 by_cases a:x.op=3
 ·rw[S0 _ _ _ _ _ a];exact h.push h1 _
 by_cases a:x.op=4
 ·rw[Q6 _ _ _ _ _ a];exact h.push h1 _
 by_cases a:x.op=5
 ·rw[KV _ _ _ _ _ a];exact h.push h1 _
 by_cases a:x.op=6
 ·rw[HF _ _ _ _ _ a];refine h.ba ?_;show(m.ah.slots.set _ _).length<=24;rw[List.length_set];exact hk.slots
 by_cases a:x.op=7
 ·rw[Ej _ _ _ _ _ a];exact(hc 2).dS (TP 2) _
 by_cases a:x.op=8
 ·rw[IF _ _ _ _ _ a];exact(hc 1).push (TP 1) _
 by_cases a:x.op=9
 ·rw[IK _ _ _ _ _ a];exact(hc 1).push (TP 1) _
 by_cases a:x.op=10
 ·rw[Ha _ _ _ _ _ a];exact(hc 1).push (TP 1) _
 by_cases a:x.op=11
 ·rw[FM _ _ _ _ _ a];split
  ·exact(hc 1).stops (TP 1) _ _
  ·exact(hc 1).push (TP 1) _
 by_cases a:x.op=12
 ·rw[I6 _ _ _ _ _ a];split
  ·exact(hc 2).stops (TP 2) _ _
  ·rename_i hi;refine(hc 2).nI ?_;obtain⟨q1,q2⟩:=Lm hi;rw[Ig _ _ _ q1 (by rw[List.length_set])];exact h.heap
 by_cases a:x.op=13
 ·rw[Ic _ _ _ _ _ a];split
  ·exact(hc 1).stops (TP 1) _ _
  ·split
   ·exact(hc 1).stops (TP 1) _ _
   ·refine((hc 1).push (TP 1) _).nI ?_;rw[C8,List.length_replicate];omega
 by_cases a:x.op=14
 ·rw[jt _ _ _ _ _ a];split
  ·exact h.stops h1 _ _
  ·have:=h.push h1 (vI (nth inp m.in_.toNat));have h0:=h.nB;exact⟨this.deep,this.slots,this.heap,this.outs,by show 0<=m.in_+1;omega,by show m.in_+1<=_;omega⟩
 by_cases a:x.op=15
 ·rw[Dl _ _ _ _ _ a];split
  ·exact h.stops h1 _ _
  ·have:=hc 1;exact⟨this.deep,this.slots,this.heap,by show(m.bz++[_]).length<=24;rw[List.length_append,List.length_singleton];omega,this.nB,this.oA⟩
 by_cases a:x.op=16
 ·rw[M4 _ _ _ _ _ a];exact h.ba hk.slots
 by_cases a:x.op=17
 ·rw[Sr _ _ _ _ _ a];split
  ·exact h.ba hk.slots
  ·exact hc 1
 by_cases a:x.op=18\/x.op=19
 ·rw[Nh _ _ _ _ _ a];split
  ·exact h.ba hk.slots
  ·exact hc 1
 by_cases a:x.op=20
 ·rw[BS _ _ _ _ _ a];split
  ·exact(hc _).stops (TP _) _ _
  ·rename_i h8;obtain⟨c1,c2,c3⟩:=hk.call a;have c3:=c3 jB;refine(hc _).cM (TP _) ?_ c3.s1 c3.s2;rw[show(m.cut x.b.toNat).ah=m.ah.cut x.b.toNat from MV.bp h1 _];show(m.ah.stack.take _).length<=1000;have:=hk.ah;rw[List.length_take];omega
 by_cases a:x.op=21
 ·rw[He _ _ _ _ _ a];exact(hc 1).ends _
 by_cases a:x.op=22
 ·rw[I7 _ _ _ _ _ a];exact h.ends _
 by_cases a:x.op=23
 ·rw[Ew _ _ _ _ _ a];exact hc 1
 ·rw[LU _ _ _ _ _ jB];exact h
section
variable {p:af}{C:aH}{m:MV}{N:NM}{e:TA}(X:TE)
def Q8(hR:bH p C m N e)(inp:TD)(x:ax)(hk:pF p C m x)(Uf:inp.length<=1000)(hx:x.op=14\/x.op=15):kJ prog 169 [mP N,cP N,.agg (dj x),aM eI 1 inp] e X (.aP []) (To p C (m.ins p C inp x) N):=by
 have h1:=hk.calls;have Ta:=hR.ok.low;have hdp:=hk.ah;have nB:=hk.nB;have oA:=hk.oA;have hou:=hk.outs;by_cases h14:x.op=14
 ·rw[jt _ _ _ _ _ h14];by_cases hw:(inp.length:Int)<=m.in_
  ·rw[if_pos hw];obtain⟨N',l,hT,hU,hp⟩:=xr X hR h1 1 0;refine⟨N',l,hT,hU,⟨?_,hR.ok,hp.e2,hU.aU,gZ hR h1 rfl⟩⟩;refine aL (L:=ids e) func169 ntmps169 ?_ (hL:=rfl);generalize hB:ids e=B;refine eO ?_
   (have W:=jA Ta (hR.root);repeat' (first|refine aq fun K hK=>?_|refine au ?_|(refine hK _ _ ?_;clear hK K)|(refine ap ?_ ?_<;>intro hc<;>try exact jz)|refine aV 9 ?_|refine cT hp ?_|refine ar ?_|exact jI|(clear hK K)))
   exact dZ hB hR.ok hp.e2 (fun _=>rfl) (dm jC dz) []
  ·rw[if_neg hw];obtain⟨N1,l1,Tf,TV,UE⟩:=tc X hR h1 (vI (nth inp m.in_.toNat)) hdp;have Ud:=Tf.1.l5 (m':={ m.push (vI (nth inp m.in_.toNat))with in_:=m.in_+1 }) rfl rfl rfl;have TT:=Tf.1.ok.low;have Vy:=Tf.1.root;rw[Tf.2.1]at Vy;have Uy:(m.push (vI (nth inp m.in_.toNat))).in_=m.in_:=rfl;have Ui:Up X l1 (bg l1 (hn 3 N1.k) (.var 205 (mE p C { m.push (vI (nth inp m.in_.toNat))with in_:=m.in_+1 } N1))):=Up.put _ (.inl (by rw[Tf.2.1,Vy];simp));refine⟨N1,_,⟨Ud,Tf.2.1,Tf.2.2⟩,TV.trans Ui,⟨?_,hR.ok,Ud.ok,(TV.trans Ui).aU,gZ hR h1 rfl⟩⟩;have k2:=Ud.ok;clear Ud TV Ui;generalize hE:bg l1 (hn 3 N1.k) (.var 205 (mE p C { m.push (vI (nth inp m.in_.toNat))with in_:=m.in_+1 } N1))=E at k2 ⊢;refine aL (L:=ids e) func169 ntmps169 ?_ (hL:=rfl);generalize hB:ids e=B;refine eO ?_
   (have W:=jA Ta (jA TT (jA hR.root (jA Vy (jA Tf.2.1 (Uy)))));repeat' (first|refine aq fun K hK=>?_|refine au ?_|(with_reducible refine gR 4 ?_);refine dE 4 (bc 0 12) mixed ?_|(refine hK _ _ ?_;clear hK K)|(refine ap ?_ ?_<;>intro hc<;>try exact jz)|refine aV 9 ?_|refine cp (tT _) ?_|refine cT UE ?_|refine ar ?_|exact jI|(clear hK K)))
   subst hE;refine dZ (tl:=[(9,.var 219 (dj x))]) hB hR.ok k2 (fun i=>?_) (dm jC dz) [];have:=Tf.2.1;unfold mE;rw[this];rfl
 have h15:x.op=15:=jB;rw[Dl _ _ _ _ _ h15];by_cases ho:24<=m.bz.length
 ·rw[if_pos ho];obtain⟨N',l,hT,hU,hp⟩:=xr X hR h1 3 5;refine⟨N',l,hT,hU,⟨?_,hR.ok,hp.e2,hU.aU,gZ hR h1 rfl⟩⟩;refine aL (L:=ids e) func169 ntmps169 ?_ (hL:=rfl);generalize hB:ids e=B;refine eO ?_
  (have W:=jA Ta (hR.root);repeat' (first|refine aq fun K hK=>?_|refine au ?_|(refine hK _ _ ?_;clear hK K)|(refine ap ?_ ?_<;>intro hc<;>try exact jz)|refine aV 9 ?_|refine cT hp ?_|refine ar ?_|exact jI|(clear hK K)))
  exact dZ hB hR.ok hp.e2 (fun _=>rfl) (dm jC dz) []
 ·rw[if_neg ho];have UN:=hk.one jB;obtain⟨N1,l1,⟨Tf,XL⟩,TV,UE,Vt⟩:=ww X hR h1 UN;have Ud:=Tf.1.BG (m':={ m.cut 1 with bz:=m.bz++[mC m.ah.last] }) rfl rfl;have TT:=Tf.1.ok.low;have Vy:=Tf.1.root;have ZY:=Tf.1.outs;rw[Tf.2.1]at Vy ZY;have Ui:Up X l1 (bg (bg l1 (hn 8 N1.k) (.aF 9 1 ((m.bz++[mC m.ah.last]).map eS))) (hn 3 N1.k) (.var 205 (mE p C { m.cut 1 with bz:=m.bz++[mC m.ah.last] } N1))):=by
   refine(Up.put _ (.inl ?_)).trans (Up.put _ (.inl ?_))
   ·rw[Tf.2.1,ZY];simp
   ·rw[bF,if_neg (dh jB jB jB),Tf.2.1,Vy];simp
  have hwd:=SC m.ah.last (hk.word h15);refine⟨N1,_,⟨Ud,Tf.2.1,Tf.2.2⟩,TV.trans Ui,⟨?_,hR.ok,Ud.ok,(TV.trans Ui).aU,gZ hR h1 rfl⟩⟩;have k2:=Ud.ok;clear Ud TV Ui;have ZY:aA l1 (hn 8 N.k)=some (.aF 9 1 (m.bz.map eS)):=ZY;show ab _ _ _ _ fun r l'=>r=_/\l'=bg (bg l1 (hn 8 N1.k) (.aF 9 1 ((m.bz++[mC m.ah.last]).map eS))) (hn 3 N1.k) (.var 205 (mE p C { m.cut 1 with bz:=m.bz++[mC m.ah.last] } N1))
  have k2:fO 0 (bg (bg l1 (hn 8 N1.k) (.aF 9 1 ((m.bz++[mC m.ah.last]).map eS))) (hn 3 N1.k) (.var 205 (mE p C { m.cut 1 with bz:=m.bz++[mC m.ah.last] } N1))):=k2;generalize hE:bg (bg l1 (hn 8 N1.k) (.aF 9 1 ((m.bz++[mC m.ah.last]).map eS))) (hn 3 N1.k) (.var 205 (mE p C { m.cut 1 with bz:=m.bz++[mC m.ah.last] } N1))=E at k2 ⊢;refine aL (L:=ids e) func169 ntmps169 ?_ (hL:=rfl);generalize hB:ids e=B;refine eO ?_
  (have W:=jA Ta (jA TT (jA hR.root (jA Vy (jA ZY (Tf.2.1)))));repeat' (first|refine aq fun K hK=>?_|refine au ?_|(with_reducible refine gR 9 ?_);refine pX 9 [hn 2 N.ah.v,hn 16 N.ah.c] [73] [72,1000000] [] (bc 0 15) mixed ?_|(refine hK _ _ ?_;clear hK K)|(refine ap ?_ ?_<;>intro hc<;>try exact jz)|refine aV 9 ?_|refine nS UE (Vt _ _) ?_|refine cq (hwd) ?_|refine ar ?_|exact jI|(clear hK K)))
  subst hE;refine dZ (tl:=[(9,.var 219 (dj x))]) hB hR.ok k2 (fun i=>?_) (dm jC dz) [];have:=Tf.2.1;have e1:(m.bz++[mC m.ah.last]).length=m.bz.length+1:=jE;unfold mE;dsimp only;rw[this,List.map_append,e1];rfl
end
section
variable {p:af}{C:aH}(X:TE)
inductive sH(inp:List Int)(N:NM)(x:ax)(e l:List (Nat×Row)):Prop
 |a (h:cV prog 164 [mP N,cP N,.agg (dj x)] e (rB true) l)
 |b (h1:cV prog 164 [mP N,cP N,.agg (dj x)] e (rB false) e) (h:cV prog 165 [mP N,cP N,.agg (dj x)] e (rB true) l)
 |c (h1:cV prog 164 [mP N,cP N,.agg (dj x)] e (rB false) e) (h2:cV prog 165 [mP N,cP N,.agg (dj x)] e (rB false) e) (h:cV prog 166 [mP N,cP N,.agg (dj x)] e (rB true) l)
 |d (h1:cV prog 164 [mP N,cP N,.agg (dj x)] e (rB false) e) (h2:cV prog 165 [mP N,cP N,.agg (dj x)] e (rB false) e) (h3:cV prog 166 [mP N,cP N,.agg (dj x)] e (rB false) e) (h:cV prog 167 [mP N,cP N,.agg (dj x)] e (rB true) l)
 |e (h1:cV prog 164 [mP N,cP N,.agg (dj x)] e (rB false) e) (h2:cV prog 165 [mP N,cP N,.agg (dj x)] e (rB false) e) (h3:cV prog 166 [mP N,cP N,.agg (dj x)] e (rB false) e) (h4:cV prog 167 [mP N,cP N,.agg (dj x)] e (rB false) e) (h:cV prog 168 [mP N,cP N,.agg (dj x)] e (rB true) l)
 |f (h1:cV prog 164 [mP N,cP N,.agg (dj x)] e (rB false) e) (h2:cV prog 165 [mP N,cP N,.agg (dj x)] e (rB false) e) (h3:cV prog 166 [mP N,cP N,.agg (dj x)] e (rB false) e) (h4:cV prog 167 [mP N,cP N,.agg (dj x)] e (rB false) e) (h5:cV prog 168 [mP N,cP N,.agg (dj x)] e (rB false) e) (h:cV prog 169 [mP N,cP N,.agg (dj x),aM eI 1 inp] e (.aP []) l)
variable{m:MV}
def Rj{N:NM}{e:TA}(hR:bH p C m N e)(inp:TD)(Uf:inp.length<=1000)(x:ax)(hk:pF p C m x)(hx:2<=x.op/\x.op<=23):∃N' l,(bH p C (m.ins p C inp x) N' l/\N'.k=N.k)/\Up X e l/\sH inp N x e l:=by
 have h1:=hk.calls;by_cases a:x.op=2\/x.op=3\/x.op=4\/x.op=5
 ·obtain⟨N',l,hT,hU,hp⟩:=NX X hR inp x hk a;exact⟨N',l,⟨hT.1,hT.2.1⟩,hU,.a hp⟩
 have n1:=Nl hR h1 x a;by_cases b:x.op=7\/x.op=8\/x.op=9\/x.op=10
 ·obtain⟨N',l,hT,hU,hp⟩:=SX X hR inp x hk b;exact⟨N',l,⟨hT.1,hT.2.1⟩,hU,.b n1 hp⟩
 have n2:=Qt hR h1 x b;by_cases c:x.op=6\/x.op=23\/x.op=11\/x.op=12\/x.op=13
 ·obtain⟨N',l,hT,hU,hp⟩:=PB X hR inp x hk c;exact⟨N',l,⟨hT.1,hT.2.1⟩,hU,.c n1 n2 hp⟩
 have n3:=KQ hR h1 x c;by_cases d:x.op=16\/x.op=17\/x.op=18\/x.op=19
 ·obtain⟨N',l,hT,hU,hp⟩:=MD X hR inp x hk d;exact⟨N',l,⟨hT.1,hT.2.1⟩,hU,.d n1 n2 n3 hp⟩
 have n4:=KO hR h1 x d;by_cases g:x.op=20\/x.op=21\/x.op=22
 ·obtain⟨N',l,hT,hU,hp⟩:=MN X hR inp x hk g;exact⟨N',l,hT,hU,.e n1 n2 n3 n4 hp⟩
 have n5:=Qf hR h1 x g;obtain⟨N',l,hT,hU,hp⟩:=Q8 X hR inp x hk Uf jB;exact⟨N',l,⟨hT.1,hT.2.1⟩,hU,.f n1 n2 n3 n4 n5 hp⟩
structure MS where
 m:MV
 N:NM
 e:List (Nat×Row)
structure Round(p:af)(C:aH)(inp:List Int)(X:List Nat)(a b:MS):Prop where
 rep:bH p C a.m a.N a.e
 st:a.m.status=0
 op:(a.m.bn C).op≠1
 calls:1<=a.m.calls.length
 a0:0<=a.m.ah.at_
 a1:a.m.ah.at_<C.ins.length
 up:Up X a.e b.e
 k:b.N.k=a.N.k
 does:sH inp a.N (a.m.bn C) (bg a.e (hn 0 a.N.ah.c) (.var 217 (MV.cE (a.m.ah.jump (a.m.ah.at_+1)) a.N.ah))) b.e
 ok:fO 0 b.e
variable{inp:TD}
def Pe{N:NM}{e:TA}(hR:bH p C m N e)(hb:Bd inp.length m)(Uf:inp.length<=1000)(hC:C.entry.length<=1000)(hP:p.size.length<=1000)(h0:m.status=0)(h1:(m.bn C).op≠1)(hok:m.fQ p C):∃N' e',Round p C inp X ⟨m,N,e⟩ ⟨m.one p C inp,N',e'⟩/\bH p C (m.one p C inp) N' e'/\Bd inp.length (m.one p C inp):=by have Tc:=hok.calls;have hx:=O6 hb Uf hok hC hP;have hT:=hR.ah Tc;have Un:=hR.jS Tc (c':=m.ah.jump (m.ah.at_+1)) rfl rfl;have TV:Up X e (bg e (hn 0 N.ah.c) (.var 217 (MV.cE (m.ah.jump (m.ah.at_+1)) N.ah))):=Up.put _ (.inl (by rw[hT.var];simp));obtain⟨N',l,Ue,Ui,hd⟩:=Rj X Un inp Uf (m.bn C) hx (by have:=hok.op;omega);have UN:Bd inp.length (m.ba (m.ah.jump (m.ah.at_+1))):=hb.ba (hb.ah Tc);exact⟨N',l,⟨hR,h0,h1,Tc,hok.a0,hok.a1,TV.trans Ui,Ue.2,hd,Ue.1.ok⟩,Ue.1,N6 UN hx⟩
def KN(Uf:inp.length<=1000)(hC:C.entry.length<=1000)(hP:p.size.length<=1000){n:Nat}{m':MV}(hg:fA p C inp n m m'):∀{N:NM} {e:TA},bH p C m N e->Bd inp.length m->∃f:Nat->MS,f 0=⟨m,N,e⟩/\(∀i,i<n->Round p C inp X (f i) (f (i+1)))/\(f n).m=m'/\bH p C m' (f n).N (f n).e/\Bd inp.length m':=by
 induction hg with
 |refl m=>intro N e hR hb;exact⟨fun _=>⟨m,N,e⟩,rfl,fun i hi=>jB,rfl,hR,hb⟩
 |@step n m m' h0 h1 hok _ ih=>
  intro N e hR hb;obtain⟨N1,e1,hr,Un,UN⟩:=Pe X hR hb Uf hC hP h0 h1 hok;obtain⟨f,f0,f1,f2,f3,f4⟩:=ih Un UN;refine⟨fun i=>match i with|0=>⟨m,N,e⟩|i+1=>f i,rfl,fun i hi=>?_,f2,f3,f4⟩;match i with
  |0=>show Round p C inp X ⟨m,N,e⟩ (f 0);rw[f0];exact hr
  |i+1=>exact f1 i jB
def IH{m':MV}{N:NM}{e:TA}(hR:bH p C m N e)(hb:Bd inp.length m)(Uf:inp.length<=1000)(hC:C.entry.length<=1000)(hP:p.size.length<=1000)(hI:C.ins.length<=1000000)(hg:bf p C inp m m')(P':m'.dG C)(T8:m'.status=0->1<=m'.calls.length/\0<=m'.ah.at_/\m'.ah.at_<C.ins.length) :
  kJ prog 114 [mP N,aM eI 1 inp] e X (.aP []) (fun N' l=>bH p C m' N' l/\N'.k=N.k/\Bd inp.length m'):=by
 obtain⟨n,hg⟩:=hg;obtain⟨f,f0,f1,f2,f3,f4⟩:=KN X Uf hC hP hg hR hb;have hk:∀i,i<=n->(f i).N.k=N.k/\Up X e (f i).e/\fO 0 (f i).e:=fun i=>by
  induction i with
  |zero=>intro _;rw[f0];exact⟨rfl,Up.refl _ _,hR.ok⟩
  |succ i ih=> intro hi;obtain⟨a,b,c⟩:=ih jB;have:=f1 i jB;exact⟨this.k.trans a,b.trans this.up,this.ok⟩
 obtain⟨k1,k2,k3⟩:=hk n jl;refine⟨(f n).N,(f n).e,⟨f3,k1,f4⟩,k2,⟨?_,hR.ok,k3,k2.aU,ql hR rfl⟩⟩;refine aL (L:=ids e) func114 ntmps114 ?_ (hL:=rfl);generalize hB:ids e=B;refine eO ?_
 (repeat' (first|(with_reducible refine gR 5 ?_);refine sS [43,50,57,64] ?_|refine aq fun K hK=>?_|refine au ?_|(with_reducible refine gR 2 ?_);refine dE 2 (bc 0 13) mixed ?_|(refine hK _ _ ?_;clear hK K)|(refine ap ?_ ?_<;>intro hc<;>try exact jz)|refine ar ?_|exact jI|(clear hK K)))
 refine eu (S:=Nat) [(4,68)] (fun i=>i<=n) (fun i=>[]) (fun i=>⟨B,tie (f i).e []⟩) (fun i=>n-i) 0 jB (eD (by rw[f0]) cH) ?_;rintro i hi Kr Tg;by_cases O':i<n
 ·have hr:=f1 i O';have WN:=hk i hi;obtain⟨q1,q2,q3⟩:=hk (i+1) O';obtain⟨r1,r2,r3,r4,r5,r6,r7,r8,r9,r10⟩:=hr;generalize T5:f (i+1)=b at*;generalize f i=a at*;obtain⟨am,aN,ae⟩:=a;obtain⟨bm,bN,be⟩:=b;simp only at*;have eM:mP aN=mP N:=by unfold mP;rw[WN.1]
  have ht:=ua r1 r4;rw[eM]at ht;have hT:=r1.ah r4;have Ta:=r1.ok.low;have U9:=r1.root;rw[WN.1]at U9;have haz:=r10.low;have UT:∀i,i<1000->aA (bg ae (hn 0 aN.ah.c) (.var 217 (MV.cE (am.ah.jump (am.ah.at_+1)) aN.ah))) i=none:=fun i hi=>by rw[bF,if_neg (by have:=ix 0 aN.ah.c;omega)];exact Ta i hi
  have hx:nth C.ins am.ah.at_.toNat=am.bn C:=rfl;have hxo:=r3;generalize am.bn C=x at*
  (refine S ?_;try exact jI)
  rcases r9 with h|⟨h1,h⟩|⟨h1,h2,h⟩|⟨h1,h2,h3,h⟩|⟨h1,h2,h3,h4,h⟩|⟨h1,h2,h3,h4,h5,h⟩
  all_goals
   simp only[eM]at*
   (have W:=jA Ta (jA UT (jA haz (jA U9 (jA hT.var (jA r2 (hx))))));repeat' (first|(with_reducible refine gR 5 ?_);refine sS [43,50,57,64] ?_|refine aq fun K hK=>?_|refine au ?_|(with_reducible refine gR 2 ?_);refine dE 2 (bc 0 13) mixed ?_|(refine hK _ _ ?_;clear hK K)|(refine ap ?_ ?_<;>intro hc<;>try exact jz)|refine bY 9 ?_|refine cT ht ?_|refine cT h ?_|refine cT h1 ?_|refine cT h2 ?_|refine cT h3 ?_|refine cT h4 ?_|refine cT h5 ?_|refine ar ?_|exact jI|(clear hK K)))
  all_goals exact Tg _ _ (Qv hB hR.ok r10 (dm jC dz) (i+1) jB (by show n-(i+1)<n-i;omega) (by show _=Hp.mk B (tie (f (i+1)).e []);rw[T5]) jh)
 ·have Uy:i=n:=jB;subst Uy;have ht0:(f i).m=m':=f2;generalize f i=a at*;obtain⟨am,aN,ae⟩:=a;simp only at*;subst ht0;have eM:mP aN=mP N:=by unfold mP;rw[k1]
  have Ta:=f3.ok.low;have U9:=f3.root;rw[k1]at U9;by_cases h0:am.status=0
  ·obtain⟨r4,r5,r6⟩:=T8 h0;have Vr:(am.bn C).op=1:=by
    rcases P' with h|h
    ·exact(h h0).elim
    ·exact h
   have ht:=ua f3 r4;rw[eM]at ht;have hT:=f3.ah r4;have hx:nth C.ins am.ah.at_.toNat=am.bn C:=rfl;generalize am.bn C=x at*;refine S ?_
   (have W:=jA Ta (jA U9 (jA hT.var (jA h0 (hx))));repeat' (first|(with_reducible refine gR 5 ?_);refine sS [43,50,57,64] ?_|refine aq fun K hK=>?_|refine au ?_|(with_reducible refine gR 2 ?_);refine dE 2 (bc 0 13) mixed ?_|(refine hK _ _ ?_;clear hK K)|(refine ap ?_ ?_<;>intro hc<;>try exact jz)|refine bY 9 ?_|refine cT ht ?_|refine ar ?_|exact jI|(clear hK K)))
   exact dZ hB hR.ok f3.ok (fun _=>rfl) (dm jC dz) []
  ·(refine S ?_;try exact jI)
   (have W:=jA Ta U9;repeat' (first|(with_reducible refine gR 5 ?_);refine sS [43,50,57,64] ?_|refine aq fun K hK=>?_|refine au ?_|(with_reducible refine gR 2 ?_);refine dE 2 (bc 0 13) mixed ?_|(refine hK _ _ ?_;clear hK K)|(refine ap ?_ ?_<;>intro hc<;>try exact jz)|refine ar ?_|exact jI|(clear hK K)))
   exact dZ hB hR.ok f3.ok (tl:=[]) (fun _=>rfl) dz []
end
attribute [local go_sem] K9
section
variable {p:af}{C:aH}(X:TE)
def MH{m:MV}{N:NM}{e:TA}(hR:bH p C m N e)(inp:TD)(hs:m.status=2\/m.status=3):cV prog 117 [mP N,aM eI 1 inp] e (.aP []) e:=by
 have Ta:=hR.ok.low;refine⟨?_,hR.ok,hR.ok,fun _ h=>h,ql hR rfl⟩;rcases hs with h|h
 all_goals
  refine aL (L:=ids e) func117 ntmps117 ?_ (hL:=rfl);generalize hB:ids e=B;refine eO ?_
  (have W:=jA Ta (jA hR.root (h));repeat' (first|refine aq fun K hK=>?_|refine au ?_|(refine hK _ _ ?_;clear hK K)|(refine ap ?_ ?_<;>intro hc<;>try exact jz)|refine ar ?_|exact jI|(clear hK K)))
  exact dZ hB hR.ok hR.ok (tl:=[]) (fun _=>rfl) dz []
def Oa{inp:TD}{m m1:MV}{N:NM}{e:TA}(hR:bH p C m N e)(h1:1<=m.calls.length)(hb:Bd inp.length m)(Uf:inp.length<=1000)(hC:C.entry.length<=1000)(hP:p.size.length<=1000)(hI:C.ins.length<=1000000)(P':¬(m.status=2\/m.status=3))(T8:0<=m.ah.at_/\m.ah.at_<=1000000)(Wy:0<=m.time/\m.time<=1000000)
  (hg:bf p C inp m.dW m1) (Xb:m1.dG C) (haA:m1.status=0->1<=m1.calls.length/\0<=m1.ah.at_/\m1.ah.at_<C.ins.length) (WA:-1<=m1.time/\m1.time<=1000000) :
  kJ prog 117 [mP N,aM eI 1 inp] e X (.aP []) (fun N' l=>bH p C m1.fv N' l/\N'.k=N.k/\Bd inp.length m1.fv):=by
 have Ta:=hR.ok.low;have hT:=hR.ah h1;have WW:=hR.l5 (m':={ m with status:=0 }) rfl rfl rfl;have ht:=ua WW h1;have Un:=JY hR h1;have UN:Bd inp.length m.dW:=(hb.ba (c:={ m.ah with mark:=m.ah.at_,at_:=m.ah.at_+1 }) (hb.ah h1)).status 0 m.cY;have TV:Up X e (bg (bg e (hn 3 N.k) (.var 205 (mE p C { m with status:=0 } N))) (hn 0 N.ah.c) (.var 217 (MV.cE { m.ah with mark:=m.ah.at_,at_:=m.ah.at_+1 } N.ah))):=by
  refine(Up.put _ (.inl ?_)).trans (Up.put _ (.inl ?_))
  ·rw[hR.root];simp
  ·rw[bF,if_neg (dh jB jB jB),hT.var];simp
 obtain⟨N1,l1,⟨Ud,Tl,Vl⟩,Ui,hp⟩:=IH X Un UN Uf hC hP hI hg Xb haA;have TT:=Ud.ok.low;have WO:=Ud.root;rw[Tl]at WO;by_cases hw:m1.status=1
 ·have et:m1.fv=m1:=by unfold MV.fv;rw[if_pos hw]
  rw[et];refine⟨N1,l1,⟨Ud,Tl,Vl⟩,TV.trans Ui,⟨?_,hR.ok,Ud.ok,(TV.trans Ui).aU,ql hR rfl⟩⟩;clear TV Ui WW Un;refine aL (L:=ids e) func117 ntmps117 ?_ (hL:=rfl);generalize hB:ids e=B;refine eO ?_
  (have W:=jA Ta (jA TT (jA hR.root (jA hT.var (WO))));repeat' (first|refine aq fun K hK=>?_|refine au ?_|(refine hK _ _ ?_;clear hK K)|(refine ap ?_ ?_<;>intro hc<;>try exact jz)|refine cT ht ?_|refine cT hp ?_|refine ar ?_|exact jI|(clear hK K)))
  exact dZ hB hR.ok Ud.ok (tl:=[]) (fun _=>rfl) dz []
 ·have et:m1.fv={ m1 with time:=m1.time+1 }:=by unfold MV.fv;rw[if_neg hw]
  rw[et];have X3:=Ud.l5 (m':={ m1 with time:=m1.time+1 }) rfl rfl rfl;have hU3:Up X l1 (bg l1 (hn 3 N1.k) (.var 205 (mE p C { m1 with time:=m1.time+1 } N1))):=Up.put _ (.inl (by rw[Ud.root];simp));refine⟨N1,_,⟨X3,Tl,⟨Vl.deep,Vl.slots,Vl.heap,Vl.outs,Vl.nB,Vl.oA⟩⟩,TV.trans (Ui.trans hU3),⟨?_,hR.ok,X3.ok,(TV.trans (Ui.trans hU3)).aU,ql hR rfl⟩⟩;have k2:=X3.ok;clear TV Ui hU3 WW Un X3;generalize hE:bg l1 (hn 3 N1.k) (.var 205 (mE p C { m1 with time:=m1.time+1 } N1))=E at k2 ⊢;refine aL (L:=ids e) func117 ntmps117 ?_ (hL:=rfl);generalize hB:ids e=B;refine eO ?_
  (have W:=jA Ta (jA TT (jA hR.root (jA hT.var (WO))));repeat' (first|refine aq fun K hK=>?_|refine au ?_|(refine hK _ _ ?_;clear hK K)|(refine ap ?_ ?_<;>intro hc<;>try exact jz)|refine cT ht ?_|refine cT hp ?_|refine ar ?_|exact jI|(clear hK K)))
  subst hE;refine dZ hB hR.ok k2 (tl:=[]) (fun i=>?_) dz [];unfold mE;rw[Tl];rfl
end
end Go.Proofs.YtjpcgmjaipfgdaaGreatDoor
namespace Go.Proofs.YtjpcgmjaipfgdaaGreatDoor
open Go Go.Gd Tryz
def P5(x:Int):lg (eI x)=true:=rfl
def OG(x:TF):lg (eS x)=true:=rfl
def Sk(i:Nat):ab prog 111 [] [] (fun r l=>r=.pt i 0 0 0/\l=[(i,.var 269 [.raw (.slice none 0 0),.raw (.slice none 0 0)])]):=by
 refine aL func111 ntmps111 ?_;refine S ?_
 (repeat' (first|refine aq fun K hK=>?_|refine au ?_|(refine hK _ _ ?_;clear hK K)|(refine ap ?_ ?_<;>intro hc<;>try exact jz)|refine aV i ?_|refine ar ?_|exact jI|(clear hK K)))
 (refine bW [.tmp 0] ?_ ?_<;>(try simp only[go_sem]))
def Nw(h:TC)(hl:h.length<=1000)(hf:h.flatten.length<=1000):ab prog 118 [.pt 2 0 0 0] (gL h) (fun r l=>r=aM sJ 1 h/\l=gL h):=by
 refine aL func118 ntmps118 ?_;refine S ?_
 (repeat' (first|refine aq fun K hK=>?_|refine au ?_|(refine hK _ _ ?_;clear hK K)|(refine ap ?_ ?_<;>intro hc<;>try exact jz)|refine ar ?_|exact jI|(clear hK K)))
 refine jq (dO.nil 5 3 22 (sz:=1) rfl jC (Or.inl rfl)) ?_
 (refine S ?_;try exact jI)
 have Tk:=hK;clear hK;refine eu (S:=Nat) [(3,2),(10,12)] (fun k=>k<=h.length) (fun k=>[(3,.rs 5 k 1 k),(10,rI k)])
  (fun k=>⟨[2,3,4],gL h++[(5,.aF 22 1 ((h.take k).map sJ))]⟩) (fun k=>h.length-k) 0 jB (eD rfl cH) ?_
 rintro k hk Kr Tg;by_cases O':k<h.length
 ·have TP:=xj h k ((k:Int)+1) rfl hl hf O';have Ts:=wH h (k+1);have hof:=u7 O';have Tc:=xV (nth h k) jB 6;have etk:h.take (k+1)=h.take k++[nth h k]:=by rw[List.take_succ,List.getElem?_eq_getElem O',fJ O'];rfl
  refine S ?_
  (repeat' (first|refine aq fun K hK=>?_|refine au ?_|(refine hK _ _ ?_;clear hK K)|(refine ap ?_ ?_<;>intro hc<;>try exact jz)|refine cm (TP) ?_|refine Cu 6 P5 Tc rfl (fun w vs hw hv=>by have:=Mn (enc:=eI) h.flatten rfl rfl jB jC w vs hw hv;rw[K8 O']at this;exact this) ?_|refine ar ?_|exact jI|(clear hK K)))
  refine Tg _ _ (eJ (k+1) jB (by show h.length-(k+1)<h.length-k;omega) (by rw[etk,List.map_append];rfl) cH)
 ·have UU:k=h.length:=jB;subst UU;refine S ?_
  (repeat' (first|refine aq fun K hK=>?_|refine au ?_|(refine hK _ _ ?_;clear hK K)|(refine ap ?_ ?_<;>intro hc<;>try exact jz)|refine Tk _ _ ?_|refine ar ?_|exact jI|(clear hK K)))
  refine fC [.tmp 2] ?_;exact cW.row (enc:=sJ) h rfl rfl rfl
end Go.Proofs.YtjpcgmjaipfgdaaGreatDoor
namespace Go.Proofs.YtjpcgmjaipfgdaaGreatDoor
open Go Go.Gd Tryz Go.Gd.MV
section
variable {p:af}{C:aH}(X:TE)
def QC{m:MV}{N:NM}{e:TA}(hR:bH p C m N e)(hl:m.heap.length<=1000)(hf:m.heap.flatten.length<=1000):cV prog 118 [.pt (hn 5 N.k) 0 0 0] e (aM sJ 1 m.heap) e:=
 hR.la rfl rfl (Nw m.heap hl hf)
def Oq{m:MV}{N:NM}{e:TA}(hR:bH p C m N e){k:Nat}(hk:k<m.calls.length):(List.map (fun j=>[AV.pt (hn 0 j) 0 0 0]) (List.map NC.c N.cs)++List.map (fun j=>[AV.pt (hn 0 j) 0 0 0]) N.cj).getD k []=[.pt (hn 0 (nth N.cs k).c) 0 0 0]:=by have hl:=hR.len;rw[<-List.map_append];rw[List.getD_eq_getElem?_getD,List.getElem?_map,List.getElem?_append_left (by rw[List.length_map];omega),List.getElem?_map,List.getElem?_eq_getElem jB,fJ jB];rfl
structure uw(C:aH)(m:MV):Prop where
 calls:m.calls.length<=8
 sel:∀k,k<m.calls.length->0<=m.fN k/\m.fN k<C.ins.length
 slots:∀k,k<m.calls.length->(nth m.calls k).slots.length<=24
 heap:gi m.heap<=40
 outs:m.bz.length<=24
 ins:C.ins.length<=1000000
def we{m:MV}{N:NM}{e:TA}(hR:bH p C m N e)(hk:uw C m):cV prog 63 [mP N] e (.agg (lj (m.dD C))) e:=by
 obtain⟨s1,s2,s3,s4,s5,s6⟩:=hk;rw[wG]at s4;have Ta:=hR.ok.low;have hl:=hR.len;have Yd:=QC hR jB jB;have WY:=Ml m.bz jB 8;refine⟨?_,hR.ok,hR.ok,fun _ h=>h,ql hR rfl⟩;refine aL (L:=ids e) func63 ntmps63 ?_ (hL:=rfl);generalize hB:ids e=B;refine eO ?_
 (have W:=jA Ta (hR.root);repeat' (first|refine aq fun K hK=>?_|refine au ?_|(with_reducible refine gR 1 ?_);refine dC 1 ([],[],[11,20]) [27] [0,1,2,3,5,6,7,8,9,10,11,12,14,15,16,17,18,19,20,21,22,23,24,25,4,13,26,27,28] mixed ?_|(refine hK _ _ ?_;clear hK K)|(refine ap ?_ ?_<;>intro hc<;>try exact jz)|refine bY 9 ?_|refine bY 10 ?_|refine nS Yd (fun _ _ _=>.inl rfl) ?_|refine Ps 8 OG WY (by show aA (tie _ _) _=_;rw[j9,Ta _ jC];rfl) (Ca m.bz (by show aA (tie _ _) _=_;rw[j9,hR.outs];rfl) rfl) ?_|refine ar ?_|exact jI|(clear hK K)))
 refine jq (dO.gg 11 10 0 137 3 (by show aA (tie _ _) _=_;rw[j9,Ta _ jC];rfl) jC (by show aA (tie _ _) _=_;rw[j9,Ta _ jC];rfl) rfl) ?_
 (have W:=jA Ta Ta;refine S ?_;clear W;try exact jI)
 have Tk:=hK;clear hK;refine eu (S:=Nat) [(4,3),(39,46)] (fun i=>i<=m.calls.length) (fun i=>[(39,rI i)])
  (fun i=>⟨B,tie e [(9,.var 45 [.raw (.slice none 0 0),.raw (.slice none 0 0),.raw (.int .i64 0),.raw (.slice none 0 0),.raw (.int .i64 0),.raw (.int .i64 0),.raw (.int .i64 0)]),
   (10,.var 45 [.rs 11 i 3 i,aM sJ 1 m.heap,.raw (.int .i64 m.in_),aM eS 1 m.bz,.raw (.int .i64 m.status),.raw (.int .i64 m.cY),.raw (.int .i64 m.time)]),(11,.aF 137 3 (((List.range i).map (m.spot C)).map qQ))]⟩)
  (fun i=>m.calls.length-i) 0 jB (eD rfl cH) ?_
 rintro i hi Kr Tg;by_cases O':i<m.calls.length
 ·have UJ:=hR.call i O';have Vp:=Oq hR O';have Uq:=s3 i O';obtain⟨a1,a2⟩:=s2 i O';have W0:=HE (nth m.calls i).slots jB 8;have hrg:List.range (i+1)=List.range i++[i]:=List.range_succ;have Y4:((List.range i).map (m.spot C)).length=i:=jE;have key:∀a:Int,m.fN i=a->nth C.ins a.toNat=nth C.ins (m.fN i).toNat:=fun a ha=>by rw[ha]
  unfold MV.fN at a1 a2;by_cases VV:(i:Int)=(m.calls.length:Int)-1
  ·have UW:m.fN i=(nth m.calls i).at_:=by unfold MV.fN;rw[if_pos VV]
   rw[if_pos VV]at a1 a2;refine S ?_
   (have W:=jA Ta (jA hR.root (jA hR.row (jA Vp (jA UJ.var (hl)))));repeat' (first|refine aq fun K hK=>?_|refine au ?_|(with_reducible refine gR 8 ?_);refine dC 8 ([],[79],[]) [] (bc 0 25) mixed ?_|(refine hK _ _ ?_;clear hK K)|(refine ap ?_ ?_<;>intro hc<;>try exact jz)|refine Fm 8 zd W0 (by show aA (tie _ _) _=_;rw[j9,Ta _ jC];rfl) (Ca (nth m.calls i).slots (by show aA (tie _ _) _=_;rw[j9,UJ.eN];rfl) rfl) ?_|refine ar ?_|exact jI|(clear hK K)))
   refine Tg _ _ (eJ (i+1) jB (by show m.calls.length-(i+1)<m.calls.length-i;omega) ?_ cH);rw[hrg,List.map_append,List.map_append,List.map_singleton,List.map_singleton];unfold MV.spot;rw[UW];rfl
  ·have UW:m.fN i=(nth m.calls i).mark:=by unfold MV.fN;rw[if_neg VV]
   rw[if_neg VV]at a1 a2;refine S ?_
   (have W:=jA Ta (jA hR.root (jA hR.row (jA Vp (jA UJ.var (hl)))));repeat' (first|refine aq fun K hK=>?_|refine au ?_|(with_reducible refine gR 8 ?_);refine dC 8 ([],[79],[]) [] (bc 0 25) mixed ?_|(refine hK _ _ ?_;clear hK K)|(refine ap ?_ ?_<;>intro hc<;>try exact jz)|refine Fm 8 zd W0 (by show aA (tie _ _) _=_;rw[j9,Ta _ jC];rfl) (Ca (nth m.calls i).slots (by show aA (tie _ _) _=_;rw[j9,UJ.eN];rfl) rfl) ?_|refine ar ?_|exact jI|(clear hK K)))
   refine Tg _ _ (eJ (i+1) jB (by show m.calls.length-(i+1)<m.calls.length-i;omega) ?_ cH);rw[hrg,List.map_append,List.map_append,List.map_singleton,List.map_singleton];unfold MV.spot;rw[UW];rfl
 ·have Uy:i=m.calls.length:=jB;subst Uy;refine S ?_
  (have W:=jA Ta hl;repeat' (first|refine aq fun K hK=>?_|refine au ?_|(refine hK _ _ ?_;clear hK K)|(refine ap ?_ ?_<;>intro hc<;>try exact jz)|refine Tk _ _ ?_|refine ar ?_|exact jI|(clear hK K)))
  have h9:=Ta 9 jC;have Ym:=Ta 11 jC;refine PF hB hR.ok hR.ok rfl (dm jC (dm jC (dm jC dz))) [.cell 2 45] ?_ (ho:=by simp(disch:=first|omega|assumption|fail) only[go_sem,↓reduceIte,h9];rfl) (hok:=by simp(disch:=first|omega|assumption|fail) only[go_sem,↓reduceIte,h9];first|done|decide|(repeat' (first|exact trivial|decide|(simp;done)|refine jA ?_ ?_)));have Y4:((List.range m.calls.length).map (m.spot C)).length=m.calls.length:=jE;exact bt.agg (ds:=lj (m.dD C)) (jA (cW.row (enc:=qQ) ((List.range m.calls.length).map (m.spot C)) rfl (by show aA (tie _ _) _=_;rw[j9,Ym];rfl) Y4.symm) (jA (.same _ rfl) (jA (.same _ rfl) (jA (.same _ rfl) (jA (.same _ rfl) (jA (.same _ rfl) (jA (.same _ rfl) trivial)))))))
end
def Rw{p:af}(h:gk p):aB prog 113 [.agg (ci p)] (rI (gQ p))/\pO p (cf p) MV.mh (gQ p) []:=by obtain⟨j,hj,VA,Th,ZW⟩:=AE h;have hfs:=h.ok.aa.av;have hC:=qy h;have Ti:=h.ok.size;have Tc:=hC.len;rw[VA];refine⟨SQ j jB hj Th fun i hi e=>(h.names.one i j hi hj (by rw[e,Th])).elim,?_⟩;have hfj:=h.av j hj;have hp:=hfj.vV;have hh:=hfj.hi;have ej:((j:Int)).toNat=j:=Int.toNat_natCast j;have h0:gQ p=(j:Int):=VA;exact⟨jB,jB,jB,by rw[ej];omega,by rw[ej];omega,by rw[ej];show(0:Int)<=_;omega,⟨jB,jB⟩,jC⟩
def Mg{p:af}(hp:fq p)(X:TE){m1:MV}(hg:bf p (cf p) [] (lQ p (cf p)) m1)(P':m1.dG (cf p))(T8:m1.status=0->1<=m1.calls.length/\0<=m1.ah.at_/\m1.ah.at_<(cf p).ins.length) :
  ∃N l,bH p (cf p) m1 N l/\(∀i,aA l i≠none->i ∉ X)/\Bd 0 m1/\ab prog 58 [.agg (ci p)] [] (fun r l'=>r=mP N/\l'=l):=by
 obtain⟨hmn,hbo⟩:=Rw hp.ok;have WX:=Ob hp;have hC:=qy hp.ok;have hfs:=hp.ok.ok.aa.av;have Tc:=hC.len;have Ti:=hp.ok.ok.size;have U2:=hC.oS;generalize cf p=C at*;have hk:=fun a=>B3 X a 0
 generalize qA X+0=k at hk;have WW:=Ju p C k;obtain⟨N1,l1,⟨Un,TQ⟩,TV,UE⟩:=HK X WW (gQ p) [] hbo;have e1:MV.mh.cM p C (gQ p) []=lQ p C:=rfl;rw[e1]at Un;have UN:Bd 0 (lQ p C):=by
  refine⟨fun k hk=>?_,fun k hk=>?_,(by show gi []<=40;decide),(by show 0<=24;omega),(by show(0:Int)<=0;omega),(by show(0:Int)<=0;omega)⟩
  ·have:k+1<1:=hk;omega
  ·have:k<1:=hk;have:k=0:=jB;subst this;show(([]:List aj)++List.replicate _ v0).length<=24;have h1:=hbo.s1;simp only[List.nil_append,List.length_replicate,List.length_nil];omega
 obtain⟨N2,l2,⟨Ud,Tl,Vl⟩,Ui,WU⟩:=IH (inp:=[]) X Un UN jC jB jB U2 hg P' T8;have eM:mP N1=mP ⟨k,[],[]⟩:=by unfold mP;rw[TQ]
 have eM2:mP N2=mP ⟨k,[],[]⟩:=by unfold mP;rw[Tl,TQ]
 rw[eM]at WU;rw[show aM bS 3 []=(.sl false 3 [] (bS default):AV) from rfl]at UE;have UE:=UE.args (args:=[mP ⟨k,[],[]⟩,rI (gQ p),.raw (.slice none 0 0)]) (fun w vs hw hv=>xg hv (fun _ h=>h) fun us hu=>xg hu (fun _ h=>h) fun us hu=>xg hu (HP 3 _) (fun _ h=>h)) (ql WW rfl);have WU:=WU.args (args:=[mP ⟨k,[],[]⟩,.raw (.slice none 0 0)]) (fun w vs hw hv=>xg hv (fun _ h=>h) fun us hu=>xg hu (HP 1 _) (fun _ h=>h)) (by have:=ql (N:=N1) Un (l:=[.raw (.slice none 0 0)]) rfl;rw[eM]at this;exact this);refine⟨N2,l2,Ud,fun i hi=>?_,Vl,?_⟩
 ·rcases(TV.trans Ui).new i hi with h|h
  ·have hm:=(lA _ _).2 h;rw[By]at hm;simp only[List.mem_cons,List.not_mem_nil,or_false]at hm;rcases hm with rfl|rfl|rfl|rfl|rfl|rfl<;>exact hk _
  ·exact h
 ·rw[eM2];have hhn:=Sk (hn 5 k);have eC:xt C=[aM dj 4 C.ins,aM eI 1 C.entry]:=rfl;rw[eC]at WX;rw[z7]at WX hmn ⊢;refine aL func58 ntmps58 ?_;have ZZ:=WW.ok.low;have TT:=Un.ok.low;have UT:=Ud.ok.low
  (have W:=jA ZZ (jA TT (UT));repeat' (first|(with_reducible refine gR 2 ?_);refine jq (QE p C k _) ?_|refine aq fun K hK=>?_|refine au ?_|(with_reducible refine gR 1 ?_);refine dC 1 ([],[6],[7]) [] (bc 0 7) mixed ?_|(refine hK _ _ ?_;clear hK K)|(refine ap ?_ ?_<;>intro hc<;>try exact jz)|refine aV 9 ?_|refine aV (hn 3 k) ?_|refine cq (WX) ?_|refine cN hhn ?_|refine cp (hmn) ?_|refine cT UE ?_|refine cT WU ?_|refine ar ?_|exact jI|(clear hK K)))
  exact dZ (e:=[]) rfl ⟨fun _ _ _=>rfl,List.nodup_nil,fun i r h=>by cases h⟩ Ud.ok (fun _=>rfl) (dm jC dz) [.tmp 2]
end Go.Proofs.YtjpcgmjaipfgdaaGreatDoor
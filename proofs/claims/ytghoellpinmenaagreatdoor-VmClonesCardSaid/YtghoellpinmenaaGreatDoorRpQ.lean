/- Lemmas. No conditions. -/
import Derived.Test.YtghoellpinmenaaGreatDoorRpA
import Derived.Test.YtghoellpinmenaaGreatDoorCmG
set_option linter.all false
set_option maxHeartbeats 4000000
set_option maxRecDepth 10000
namespace Go.Gd
open Go
structure NC where
 c:Nat
 v:Nat
 jk:List aj
 deriving Inhabited
structure NM where
 k:Nat
 cs:List NC
 cj:List Nat
namespace MV
def cE(c:MC)(n:NC):PH:=[.rs (hn 2 n.v) (c.stack.length+n.jk.length) 3 c.stack.length,.raw (.int .i64 c.fn),.raw (.int .i64 c.at_),.raw (.int .i64 c.mark),.rs (hn 1 n.c) c.slots.length 3 c.slots.length]
def mE(p:ab)(C:aB)(m:MV)(N:NM):PH:=hS p++[aX cO 4 C.ins,aX eI 1 C.entry,.rs (hn 4 N.k) (N.cs.length+N.cj.length) 1 N.cs.length,.pt (hn 5 N.k) 0 0 0,.rs (hn 8 N.k) m.aD.length 1 m.aD.length,.raw (.int .i64 m.in_),.raw (.int .i64 m.status),.raw (.int .i64 m.bs),.raw (.int .i64 m.time)]
structure gH(c:MC)(n:NC)(e:List (Nat×Row)):Prop where
 var:ak e (hn 0 n.c)=some (.var 113 (cE c n))
 cf:ak e (hn 2 n.v)=some (.aE 50 3 ((c.stack++n.jk).map bG))
 dv:ak e (hn 1 n.c)=some (.aE 50 3 (c.slots.map bG))
 bd:c.stack.length+n.jk.length<=2000
structure bw(p:ab)(C:aB)(m:MV)(N:NM)(e:List (Nat×Row)):Prop where
 ok:cZ 0 e
 root:ak e (hn 3 N.k)=some (.var 105 (mE p C m N))
 row:ak e (hn 4 N.k)=some (.aE 108 1 ((N.cs.map NC.c++N.cj).map fun j=>[.pt (hn 0 j) 0 0 0]))
 hp:ak e (hn 5 N.k)=some (.var 162 [.rs (hn 6 N.k) m.heap.flatten.length 1 m.heap.flatten.length,.rs (hn 7 N.k) m.heap.length 1 m.heap.length])
 cells:ak e (hn 6 N.k)=some (.aE 3 1 (m.heap.flatten.map eI))
 ends:ak e (hn 7 N.k)=some (.aE 3 1 ((ii m.heap).map eI))
 outs:ak e (hn 8 N.k)=some (.aE 9 1 (m.aD.map eS))
 len:N.cs.length=m.calls.length
 call:∀k,k<m.calls.length->gH (nth m.calls k) (nth N.cs k) e
 nc:(N.cs.map NC.c).Nodup
 nv:(N.cs.map NC.v).Nodup
 bd:N.cs.length+N.cj.length<=1000
end MV
def NM.af(N:NM):NC:=nth N.cs (N.cs.length-1)
def NM.aM(N:NM)(n:NC):NM:={ N with cs:=N.cs.set (N.cs.length-1) n }
attribute [go_sem] MV.cE MV.mE
variable{α:Type}
def tJ{β:Type}[Inhabited α][Inhabited β](f:α->β)(l:List α)(k:Nat)(h:k<l.length):nth (l.map f) k=f (nth l k):=by rw[dT (by simpa using h),dT h];simp
def Dg[Inhabited α]{l:List α}(h:l.Nodup){i j:Nat}(hi:i<l.length)(hj:j<l.length)(e:nth l i=nth l j):i=j:=by rw[dT hi,dT hj]at e;exact(List.getElem_inj h).1 e
def Oc[Inhabited α]{l:List α}(h:l.Nodup){i:Nat}(hi:i<l.length){v:α}(hv:∀j,j<l.length->j≠i->nth l j≠v):(l.set i v).Nodup:=by
 unfold List.Nodup;rw[List.pairwise_iff_getElem];intro a b ha hb TE e;rw[List.length_set]at ha hb;rw[List.getElem_set,List.getElem_set]at e;split at e<;>split at e
 ·omega
 ·rename_i h1 h2;exact hv b hb jB (by rw[dT hb];exact e.symm)
 ·rename_i h1 h2;exact hv a jB jB (by rw[dT jB];exact e)
 ·have:=(List.getElem_inj h).1 e;omega
namespace MV
variable {p:ab}{C:aB}{m:MV}{N:NM}{e:PG}
theorem bw.af(h:bw p C m N e)(h1:1<=m.calls.length):gH m.af N.af e:=by have:=h.call (m.calls.length-1) jB;unfold NM.af MV.af;rw[h.len];exact this
def bw.ne{k j:Nat}(h:bw p C m N e)(hk:k<N.cs.length)(hj:j<N.cs.length)(XV:k≠j):(nth N.cs k).c≠(nth N.cs j).c/\(nth N.cs k).v≠(nth N.cs j).v:=by
 constructor
 ·intro e';exact XV (Dg h.nc (by simpa using hk) (by simpa using hj) (by rw[tJ _ _ _ hk,tJ _ _ _ hj];exact e'))
 ·intro e';exact XV (Dg h.nv (by simpa using hk) (by simpa using hj) (by rw[tJ _ _ _ hk,tJ _ _ _ hj];exact e'))
theorem bw.aM(hR:bw p C m N e)(h1:1<=m.calls.length){c':MC}{n':NC}{e':PG}(Y2:n'.c=N.af.c)(ok:cZ 0 e')(hc:gH c' n' e')(hv:n'.v=N.af.v\/ak e (hn 2 n'.v)=none)
  (hs:∀j,ak e j≠none->j≠hn 0 N.af.c->j≠hn 1 N.af.c->j≠hn 2 N.af.v->ak e' j=ak e j):bw p C (m.aM c') (N.aM n') e':=by
 have hl:=hR.len;have kind:∀(a k:Nat) (r:Row),2<a->a<32->ak e (hn a k)=some r->ak e' (hn a k)=some r:=fun a k r h2 Rr h=>by rw[hs _ (by rw[h];simp) (cB Rr jB jB) (cB Rr jB jB) (cB Rr jB jB)];exact h
 have cs:(N.aM n').cs.map NC.c=N.cs.map NC.c:=by show(N.cs.set _ n').map NC.c=_;rw[List.map_set,Y2];unfold NM.af;rw[<-tJ NC.c N.cs _ jB,dT (by rw[List.length_map];omega),List.set_getElem_self]
 have ln:(N.aM n').cs.length=N.cs.length:=by show(N.cs.set _ n').length=_;simp
 have nu:∀k,nth (N.aM n').cs k=if k=N.cs.length-1 then n' else nth N.cs k:=fun k=>Go.Gd.bI _ _ _ _ jB
 have mu:∀k,nth (m.aM c').calls k=if k=m.calls.length-1 then c' else nth m.calls k:=fun k=>Go.Gd.bI _ _ _ _ jB
 have ml:(m.aM c').calls.length=m.calls.length:=by show(m.calls.set _ c').length=_;simp
 refine⟨ok,?_,?_,kind 5 _ _ jB jB hR.hp,kind 6 _ _ jB jB hR.cells,kind 7 _ _ jB jB hR.ends,kind 8 _ _ jB jB hR.outs,by rw[ln,ml];exact hl,fun k hk=>?_,by rw[cs];exact hR.nc,?_,by rw[ln];exact hR.bd⟩
 ·rw[show mE p C (m.aM c') (N.aM n')=mE p C m N by unfold mE;rw[ln];rfl];exact kind 3 _ _ jB jB hR.root
 ·rw[cs];exact kind 4 _ _ jB jB hR.row
 ·rw[ml]at hk;rw[nu,mu,hl];by_cases ek:k=m.calls.length-1
  ·rw[if_pos ek,if_pos ek];exact hc
  ·rw[if_neg ek,if_neg ek];have QE:=hR.call k hk;obtain⟨n1,n2⟩:=hR.ne (k:=k) (j:=N.cs.length-1) jB jB jB;have n1:(nth N.cs k).c≠N.af.c:=n1;have n2:(nth N.cs k).v≠N.af.v:=n2;exact⟨by rw[hs _ (by rw[QE.var];simp) (fun e=>n1 (sV jB jB e).2) (cB jB jB jB) (cB jB jB jB)];exact QE.var,
    by rw[hs _ (by rw[QE.cf];simp) (cB jB jB jB) (cB jB jB jB) (fun e=>n2 (sV jB jB e).2)];exact QE.cf,
    by rw[hs _ (by rw[QE.dv];simp) (cB jB jB jB) (fun e=>n1 (sV jB jB e).2) (cB jB jB jB)];exact QE.dv,QE.bd⟩
 ·show((N.cs.set _ n').map NC.v).Nodup;rw[List.map_set];refine Oc hR.nv (by rw[List.length_map];omega) fun j hj R7 e'=>?_
  rw[List.length_map]at hj;rw[tJ _ _ _ hj]at e';rcases hv with hv|hv
  ·rw[hv]at e';exact(hR.ne hj jB R7).2 e'
  ·have QE:=(hR.call j jB).cf;rw[e',hv]at QE;cases QE
def bw.lD(hR:bw p C m N e){m':MV}(h1:m'.calls=m.calls)(h2:m'.heap=m.heap)(h3:m'.aD=m.aD):bw p C m' N (bf e (hn 3 N.k) (.var 105 (mE p C m' N))):=by
 have kind:∀(a k:Nat) (r:Row),a≠3->a<32->ak e (hn a k)=some r->ak (bf e (hn 3 N.k) (.var 105 (mE p C m' N))) (hn a k)=some r:=fun a k r h3 Rr h=>by rw[bz,if_neg (cB Rr jB h3)];exact h
 refine⟨hR.ok.put (.inr (gA _ _)) ?_,by rw[bz,if_pos rfl],kind _ _ _ jB jB hR.row,?_,?_,?_,?_,by rw[h1];exact hR.len,fun k hk=>?_,hR.nc,hR.nv,hR.bd⟩
 ·have c4:=fS hR.row;have c5:=fS hR.hp;have c8:=fS hR.outs;have up:aS (fun j=>decide (j=hn 3 N.k) || (ids e).contains j) (hS p)=true:=eH (q:=dq) (fun _ h=>by cases h) _ rfl;unfold mE;simp only[Row.cells];rw[qF,up];simp only[aS,AV.all,c4,c5,c8,Bool.or_true,Bool.and_self,aX]
 ·rw[h2];exact kind _ _ _ jB jB hR.hp
 ·rw[h2];exact kind _ _ _ jB jB hR.cells
 ·rw[h2];exact kind _ _ _ jB jB hR.ends
 ·rw[h3];exact kind _ _ _ jB jB hR.outs
 ·rw[h1]at hk ⊢;have hc:=hR.call k hk;exact⟨kind _ _ _ jB jB hc.var,kind _ _ _ jB jB hc.cf,kind _ _ _ jB jB hc.dv,hc.bd⟩
end MV
def kE(fn at_ mark:Int)(vs jk slots:List aj):PG:=[(6,.var 113 [.rs 7 (vs.length+jk.length) 3 vs.length,.raw (.int .i64 fn),.raw (.int .i64 at_),.raw (.int .i64 mark),.rs 8 slots.length 3 slots.length]),(7,.aE 50 3 ((vs++jk).map bG)),(8,.aE 50 3 (slots.map bG))]
attribute [go_sem] kE
mutual
theorem ui{f:Nat->Nat}:∀a:AV,a.all dq=true->a.bL f=a
 |.raw _,_=>by simp only[AV.bL]
 |.any,_=>by simp only[AV.bL]
 |.agg cs,h=>by simp only[AV.all]at h;simp only[AV.bL,rT cs h]
 |.ba cs,h=>by simp only[AV.all]at h;simp only[AV.bL,rT cs h]
 |.sl _ _ _ _,_=>by simp only[AV.bL]
 |.ip _,_=>by simp only[AV.bL]
 |.gd _ v,h=>by simp only[AV.all]at h;simp only[AV.bL,ui v h]
 |.fJ _ cs,h=>by simp only[AV.all]at h;simp only[AV.bL,rT cs h]
 |.pt _ _ _ _,h=>by simp only[AV.all]at h;cases h
 |.rs _ _ _ _,h=>by simp only[AV.all]at h;cases h
 |.rv _ _ _ _ _,h=>by simp only[AV.all]at h;cases h
 |.mr _,h=>by simp only[AV.all]at h;cases h
 |.bd _ fs,h=>by simp only[AV.all]at h;simp only[AV.bL,rT fs h]
 |.iq _ v,h=>by simp only[AV.all]at h;simp only[AV.bL,ui v h]
 |.mv _ v,h=>by simp only[AV.all]at h;simp only[AV.bL,ui v h]
theorem rT{f:Nat->Nat}:∀l:PH,aS dq l=true->eJ f l=l
 |[],_=>rfl
 |a::l,h=>by simp only[aS,Bool.and_eq_true]at h;simp only[eJ,ui a h.1,rT l h.2]
end
variable{α:Type}{sz:Nat}
def tU{f:Nat->Nat}{enc:α->PH}[he:bD enc sz](l:List α):(l.map enc).map (eJ f)=l.map enc:=by rw[List.map_map];exact List.map_congr_left fun x _=>rT _ (he.free x)
def ob(x y z a b c:Nat)(i:Nat):Nat:=if i=x then a else if i=y then b else if i=z then c else i+(a+b+c+1)
def vR(x y z a b c:Nat)(j:Nat):Nat:=if j=a then x else if j=b then y else if j=c then z else j-(a+b+c+1)
def B7{x y z a b c:Nat}(h1:a≠b)(h2:a≠c)(h3:b≠c)(i:Nat):vR x y z a b c (ob x y z a b c i)=i:=by
 unfold ob;split
 ·rename_i e;unfold vR;rw[if_pos rfl];exact e.symm
 ·split
  ·rename_i e;unfold vR;rw[if_neg (fun e=>h1 e.symm),if_pos rfl];exact e.symm
  ·split
   ·rename_i e;unfold vR;rw[if_neg (fun e=>h2 e.symm),if_neg (fun e=>h3 e.symm),if_pos rfl];exact e.symm
   ·unfold vR;rw[jN,jN,jN];omega
mutual
theorem xa{f:Nat->Nat}{q q':PR}(h:∀i,q i=true->q' (f i)=true):∀a:AV,a.all q=true->(a.bL f).all q'=true
 |.raw _,_=>by simp only[AV.bL,AV.all]
 |.any,_=>by simp only[AV.bL,AV.all]
 |.agg cs,k=>by simp only[AV.all]at k;simp only[AV.bL,AV.all];exact uI h cs k
 |.ba cs,k=>by simp only[AV.all]at k;simp only[AV.bL,AV.all];exact uI h cs k
 |.sl _ _ _ _,_=>by simp only[AV.bL,AV.all]
 |.ip _,_=>by simp only[AV.bL,AV.all]
 |.gd _ v,k=>by simp only[AV.all]at k;simp only[AV.bL,AV.all];exact xa h v k
 |.fJ _ cs,k=>by simp only[AV.all]at k;simp only[AV.bL,AV.all];exact uI h cs k
 |.pt i _ _ _,k=>by simp only[AV.all]at k;simp only[AV.bL,AV.all];exact h i k
 |.rs i _ _ _,k=>by simp only[AV.all]at k;simp only[AV.bL,AV.all];exact h i k
 |.rv i _ _ _ _,k=>by simp only[AV.all]at k;simp only[AV.bL,AV.all];exact h i k
 |.mr i,k=>by simp only[AV.all]at k;simp only[AV.bL,AV.all];exact h i k
 |.bd _ fs,k=>by simp only[AV.all]at k;simp only[AV.bL,AV.all];exact uI h fs k
 |.iq _ v,k=>by simp only[AV.all]at k;simp only[AV.bL,AV.all];exact xa h v k
 |.mv _ v,k=>by simp only[AV.all]at k;simp only[AV.bL,AV.all];exact xa h v k
theorem uI{f:Nat->Nat}{q q':PR}(h:∀i,q i=true->q' (f i)=true):∀l:PH,aS q l=true->aS q' (eJ f l)=true
 |[],_=>rfl
 |a::l,k=>by simp only[aS,Bool.and_eq_true]at k;simp only[eJ,aS,Bool.and_eq_true];exact⟨xa h a k.1,uI h l k.2⟩
end
variable{P:PS}{f:FuncId}
def ai.at{args:PH}{s s' e:PG}{r0:AV}{ρ g:Nat->Nat}(hg:∀i,g (ρ i)=i)(hc:ai P f args s fun r l=>r=r0/\l=s')(hs:∀i r,ak s i=some r->ak e (ρ i)=some (r.bL ρ))(ha:aS (fun i=>(ids s).contains i) args=true)
  (P7:∀i r,ak s i=some r->aS (fun i=>(ids s).contains i) r.cells=true) (hn:(ids s').Nodup) (TI:∀i∈ids s',i∈ids s):ai P f (eJ ρ args) e fun r l=>r=r0.bL ρ/\l=fp e (kv ρ s'):=by
 have mem:∀i,(ids s).contains i=true->(ids (kv ρ s)).contains (ρ i)=true:=fun i hi=>by rw[xb,List.contains_iff_mem];exact List.mem_map_of_mem (List.contains_iff_mem.1 hi)
 have up:∀l:PH,aS (fun i=>(ids s).contains i) l=true->aS (fun i=>(ids (kv ρ s)).contains i) (eJ ρ l)=true:=fun l h=>uI mem l h
 have:=ai.more (e:=e) (ai.bL hg hc) (fun i r hi=>?_) (up _ ha) (fun i r hi=>?_) (fun r l hR=>?_)
 ·refine this.mono fun r l ⟨l0,⟨r1,l1,e1,e2,e3,e4⟩,e5⟩=>?_
  rw[e1,e3,e5,e2,e4];exact⟨rfl,rfl⟩
 ·obtain⟨j,r0,rfl,rfl,h3⟩:=wc hg hi;exact hs j r0 h3
 ·obtain⟨j,r0,rfl,rfl,h3⟩:=wc hg hi;rw[Row.gm];exact up _ (P7 j r0 h3)
 ·obtain⟨r1,l1,e1,e2,e3,e4⟩:=hR;subst e2 e4;refine⟨?_,fun i hi=>.inl ?_⟩
  ·rw[xb];exact hn.map _ (fun a b h1 h2=>h1 (by rw[<-hg a,<-hg b,h2]))
  ·obtain⟨r,hr⟩:=Option.ne_none_iff_exists'.1 hi;obtain⟨j,r0,rfl,rfl,h3⟩:=wc hg hr;obtain⟨x,hx⟩:=Option.ne_none_iff_exists'.1 ((fO _ _).1 (TI j ((fO _ _).2 (by rw[h3];simp))));rw[ya hg,hx];simp
def j3(P:PS)(f:FuncId)(args:PH)(e:PG)(X:PK)(r0:AV)(Q:NM->List PU->Prop):Prop:=∃N' l,Q N' l/\Up X e l/\cw P f args e r0 l
namespace MV
variable {p:ab}{C:aB}{m:MV}{N:NM}{e:PG}{P:PS}{f:FuncId}{rest:PH}{r0:AV}{X:PK}
def kL(N:NM)(c':MC)(jk':List aj)(e:PG):PG:=bf (bf (bf e (hn 0 N.af.c) (.var 113 (cE c' ⟨N.af.c,N.af.v,jk'⟩))) (hn 2 N.af.v) (.aE 50 3 ((c'.stack++jk').map bG))) (hn 1 N.af.c) (.aE 50 3 (c'.slots.map bG))
def bw.mA(hR:bw p C m N e)(h1:1<=m.calls.length){c':MC}{jk':List aj}(hb:c'.stack.length+jk'.length<=2000)(P9:aS dq rest=true)(hr:r0.all dq=true)
  (hc:ai P f (.pt 6 0 0 0::rest) (kE m.af.fn m.af.at_ m.af.mark m.af.stack N.af.jk m.af.slots) fun r l=>r=r0/\l=kE c'.fn c'.at_ c'.mark c'.stack jk' c'.slots) :
  (bw p C (m.aM c') (N.aM ⟨N.af.c,N.af.v,jk'⟩) (kL N c' jk' e)/\(N.aM ⟨N.af.c,N.af.v,jk'⟩).af.c=N.af.c)/\Up X e (kL N c' jk' e)/\cw P f (.pt (hn 0 N.af.c) 0 0 0::rest) e r0 (kL N c' jk' e):=by
 have ht:=hR.af h1;unfold kL;have a1:hn 0 N.af.c≠hn 2 N.af.v:=cB jB jB jB;have a2:hn 0 N.af.c≠hn 1 N.af.c:=cB jB jB jB;have a3:hn 2 N.af.v≠hn 1 N.af.c:=cB jB jB jB;have q6:ob 6 7 8 (hn 0 N.af.c) (hn 2 N.af.v) (hn 1 N.af.c) 6=hn 0 N.af.c:=rfl;have q7:ob 6 7 8 (hn 0 N.af.c) (hn 2 N.af.v) (hn 1 N.af.c) 7=hn 2 N.af.v:=rfl;have q8:ob 6 7 8 (hn 0 N.af.c) (hn 2 N.af.v) (hn 1 N.af.c) 8=hn 1 N.af.c:=rfl;have ea:eJ (ob 6 7 8 (hn 0 N.af.c) (hn 2 N.af.v) (hn 1 N.af.c)) (.pt 6 0 0 0::rest)=.pt (hn 0 N.af.c) 0 0 0::rest:=by simp only[eJ,AV.bL,q6,rT _ P9]
 have el:fp e (kv (ob 6 7 8 (hn 0 N.af.c) (hn 2 N.af.v) (hn 1 N.af.c)) (kE c'.fn c'.at_ c'.mark c'.stack jk' c'.slots))=bf (bf (bf e (hn 0 N.af.c) (.var 113 (cE c' ⟨N.af.c,N.af.v,jk'⟩))) (hn 2 N.af.v) (.aE 50 3 ((c'.stack++jk').map bG))) (hn 1 N.af.c) (.aE 50 3 (c'.slots.map bG)):=by simp only[kE,kv,List.map_cons,List.map_nil,fp,q6,q7,q8,Row.bL,eJ,AV.bL,tU (enc:=bG) (sz:=3),cE]
 have i0:=fS ht.var;have i1:=fS ht.dv;have i2:=fS ht.cf;have no:∀l:List aj,aS dq ((l.map bG).flatten)=true:=fun l=>oj (la (enc:=bG) (sz:=3) _)
 have hl:=hR.len;have Tu:bw p C (m.aM c') (N.aM ⟨N.af.c,N.af.v,jk'⟩) (bf (bf (bf e (hn 0 N.af.c) (.var 113 (cE c' ⟨N.af.c,N.af.v,jk'⟩))) (hn 2 N.af.v) (.aE 50 3 ((c'.stack++jk').map bG))) (hn 1 N.af.c) (.aE 50 3 (c'.slots.map bG))):=by
  refine hR.aM h1 rfl ?_ ⟨?_,?_,?_,hb⟩ (.inl rfl) fun j hj n0 n1 n2=>?_
  ·refine((hR.ok.put (.inr (gA _ _)) ?_).put (.inr (gA _ _)) ?_).put (.inr (gA _ _)) ?_
   ·simp only[Row.cells,cE,aS,AV.all,i1,i2,Bool.or_true,Bool.and_self]
   ·exact eH (fun _ h=>by cases h) _ (no _)
   ·exact eH (fun _ h=>by cases h) _ (no _)
  ·rw[bz,if_neg a2,bz,if_neg a1,bz,if_pos rfl]
  ·rw[bz,if_neg a3,bz,if_pos rfl]
  ·rw[bz,if_pos rfl]
  ·rw[bz,if_neg n1,bz,if_neg n2,bz,if_neg n0]
 have VP:Up X e (bf (bf (bf e (hn 0 N.af.c) (.var 113 (cE c' ⟨N.af.c,N.af.v,jk'⟩))) (hn 2 N.af.v) (.aE 50 3 ((c'.stack++jk').map bG))) (hn 1 N.af.c) (.aE 50 3 (c'.slots.map bG))):=by
  refine((Up.put _ (.inl ?_)).trans (Up.put _ (.inl ?_))).trans (Up.put _ (.inl ?_))
  ·rw[ht.var];simp
  ·rw[bz,if_neg (fun e=>a1 e.symm),ht.cf];simp
  ·rw[bz,if_neg (fun e=>a3 e.symm),bz,if_neg (fun e=>a2 e.symm),ht.dv];simp
 refine⟨⟨Tu,?_⟩,VP,⟨?_,hR.ok,Tu.ok,VP.aT,?_⟩⟩
 ·show(nth (N.cs.set _ _) ((N.cs.set _ _).length-1)).c=_;rw[List.length_set,Go.Gd.bI _ _ _ _ jB,if_pos rfl]
 ·rw[<-ea,<-el];refine(ai.at (e:=e) (B7 a1 a2 a3) hc (fun i r h=>?_) ?_ (fun i r h=>?_) ?_ (fun i h=>h)).mono fun r l ⟨e1,e2⟩=>⟨by rw[e1,ui _ hr],e2⟩
  ·simp only[kE,ak]at h;split at h
   ·rename_i ei;subst ei;cases h;rw[q6,ht.var];simp only[cE,Row.bL,eJ,AV.bL,q7,q8]
   ·split at h
    ·rename_i ei;subst ei;cases h;rw[q7,ht.cf];simp only[Row.bL,tU (enc:=bG) (sz:=3)]
    ·split at h
     ·rename_i ei;subst ei;cases h;rw[q8,ht.dv];simp only[Row.bL,tU (enc:=bG) (sz:=3)]
     ·cases h
  ·simp only[aS,Bool.and_eq_true];exact⟨rfl,eH (fun _ h=>by cases h) _ P9⟩
  ·simp only[kE,ak]at h;split at h
   ·cases h;rfl
   ·split at h
    ·cases h;exact eH (q:=dq) (fun _ h=>by cases h) _ (no _)
    ·split at h
     ·cases h;exact eH (q:=dq) (fun _ h=>by cases h) _ (no _)
     ·cases h
  ·show([6,7,8]:PK).Nodup;decide
 ·simp only[aS,Bool.and_eq_true];exact⟨i0,eH (fun _ h=>by cases h) _ P9⟩
def bw.cd(hR:bw p C m N e)(h1:1<=m.calls.length){c':MC}{jk':List aj}(hb:c'.stack.length+jk'.length<=2000)(P9:aS dq rest=true)(hr:r0.all dq=true)
  (hc:ai P f (.pt 6 0 0 0::rest) (kE m.af.fn m.af.at_ m.af.mark m.af.stack N.af.jk m.af.slots) fun r l=>r=r0/\l=kE c'.fn c'.at_ c'.mark c'.stack jk' c'.slots) :
  j3 P f (.pt (hn 0 N.af.c) 0 0 0::rest) e X r0 fun N' l=>bw p C (m.aM c') N' l/\N'.k=N.k/\N'.af.c=N.af.c:=by
 obtain⟨h2,h3,h4⟩:=hR.mA (X:=X) h1 hb P9 hr hc;exact⟨_,_,⟨h2.1,rfl,h2.2⟩,h3,h4⟩
def bw.sa(hR:bw p C m N e)(h1:1<=m.calls.length)(P9:aS dq rest=true)(hr:r0.all dq=true)
  (hc:ai P f (.pt 6 0 0 0::rest) (kE m.af.fn m.af.at_ m.af.mark m.af.stack N.af.jk m.af.slots) fun r l=>r=r0/\l=kE m.af.fn m.af.at_ m.af.mark m.af.stack N.af.jk m.af.slots):cw P f (.pt (hn 0 N.af.c) 0 0 0::rest) e r0 e:=by
 have ht:=hR.af h1;obtain⟨h2,h3,h4⟩:=hR.mA (X:=[]) (c':=m.af) (jk':=N.af.jk) h1 ht.bd P9 hr hc;have el:kL N m.af N.af.jk e=e:=by unfold kL;have e0:(⟨N.af.c,N.af.v,N.af.jk⟩:NC)=N.af:=rfl;rw[e0,sW ht.var,sW ht.cf,sW ht.dv]
 rw[el]at h4;exact h4
variable{h':PI}
def bw.mR(hR:bw p C m N e){e':PG}(ok:cZ 0 e')(h1:ak e' (hn 5 N.k)=some (.var 162 [.rs (hn 6 N.k) h'.flatten.length 1 h'.flatten.length,.rs (hn 7 N.k) h'.length 1 h'.length]))
  (h2:ak e' (hn 6 N.k)=some (.aE 3 1 (h'.flatten.map eI))) (h3:ak e' (hn 7 N.k)=some (.aE 3 1 ((ii h').map eI))) (hs:∀j,j≠hn 5 N.k->j≠hn 6 N.k->j≠hn 7 N.k->ak e' j=ak e j):bw p C { m with heap:=h' } N e':=by
 have kind:∀(a k:Nat) (r:Row),a≠5->a≠6->a≠7->a<32->ak e (hn a k)=some r->ak e' (hn a k)=some r:=fun a k r h5 h6 h7 Rr h=>by rw[hs _ (cB Rr jB h5) (cB Rr jB h6) (cB Rr jB h7)];exact h
 exact⟨ok,kind _ _ _ jB jB jB jB hR.root,kind _ _ _ jB jB jB jB hR.row,h1,h2,h3,kind _ _ _ jB jB jB jB hR.outs,hR.len,fun k hk=> ⟨kind _ _ _ jB jB jB jB (hR.call k hk).var,kind _ _ _ jB jB jB jB (hR.call k hk).cf,kind _ _ _ jB jB jB jB (hR.call k hk).dv,(hR.call k hk).bd⟩,hR.nc,hR.nv,hR.bd⟩
def hL(N:NM)(h':PI)(e:PG):PG:=bf (bf (bf e (hn 5 N.k) (.var 162 [.rs (hn 6 N.k) h'.flatten.length 1 h'.flatten.length,.rs (hn 7 N.k) h'.length 1 h'.length])) (hn 6 N.k) (.aE 3 1 (h'.flatten.map eI))) (hn 7 N.k) (.aE 3 1 ((ii h').map eI))
def bw.oS(hR:bw p C m N e)(P9:aS dq rest=true)(hr:r0.all dq=true)(hc:ai P f (.pt 2 0 0 0::rest) (gi m.heap) fun r l=>r=r0/\l=gi h') :
  bw p C { m with heap:=h' } N (hL N h' e)/\Up X e (hL N h' e)/\cw P f (.pt (hn 5 N.k) 0 0 0::rest) e r0 (hL N h' e):=by
 unfold hL;have a1:hn 5 N.k≠hn 6 N.k:=cB jB jB jB;have a2:hn 5 N.k≠hn 7 N.k:=cB jB jB jB;have a3:hn 6 N.k≠hn 7 N.k:=cB jB jB jB;have q6:ob 2 3 4 (hn 5 N.k) (hn 6 N.k) (hn 7 N.k) 2=hn 5 N.k:=rfl;have q7:ob 2 3 4 (hn 5 N.k) (hn 6 N.k) (hn 7 N.k) 3=hn 6 N.k:=rfl;have q8:ob 2 3 4 (hn 5 N.k) (hn 6 N.k) (hn 7 N.k) 4=hn 7 N.k:=rfl;have ea:eJ (ob 2 3 4 (hn 5 N.k) (hn 6 N.k) (hn 7 N.k)) (.pt 2 0 0 0::rest)=.pt (hn 5 N.k) 0 0 0::rest:=by simp only[eJ,AV.bL,q6,rT _ P9]
 have el:fp e (kv (ob 2 3 4 (hn 5 N.k) (hn 6 N.k) (hn 7 N.k)) (gi h'))=bf (bf (bf e (hn 5 N.k) (.var 162 [.rs (hn 6 N.k) h'.flatten.length 1 h'.flatten.length,.rs (hn 7 N.k) h'.length 1 h'.length])) (hn 6 N.k) (.aE 3 1 (h'.flatten.map eI))) (hn 7 N.k) (.aE 3 1 ((ii h').map eI)):=by simp only[gi,kv,List.map_cons,List.map_nil,fp,q6,q7,q8,Row.bL,eJ,AV.bL,tU (enc:=eI) (sz:=1)]
 have i0:=fS hR.hp;have i1:=fS hR.cells;have i2:=fS hR.ends;have no:∀l:PJ,aS dq ((l.map eI).flatten)=true:=fun l=>oj (la (enc:=eI) (sz:=1) _)
 have Tu:bw p C { m with heap:=h' } N (bf (bf (bf e (hn 5 N.k) (.var 162 [.rs (hn 6 N.k) h'.flatten.length 1 h'.flatten.length,.rs (hn 7 N.k) h'.length 1 h'.length])) (hn 6 N.k) (.aE 3 1 (h'.flatten.map eI))) (hn 7 N.k) (.aE 3 1 ((ii h').map eI))):=by
  refine hR.mR ?_ ?_ ?_ ?_ fun j n0 n1 n2=>?_
  ·refine((hR.ok.put (.inr (gA _ _)) ?_).put (.inr (gA _ _)) ?_).put (.inr (gA _ _)) ?_
   ·simp only[Row.cells,aS,AV.all,i1,i2,Bool.or_true,Bool.and_self]
   ·exact eH (fun _ h=>by cases h) _ (no _)
   ·exact eH (fun _ h=>by cases h) _ (no _)
  ·rw[bz,if_neg a2,bz,if_neg a1,bz,if_pos rfl]
  ·rw[bz,if_neg a3,bz,if_pos rfl]
  ·rw[bz,if_pos rfl]
  ·rw[bz,if_neg n2,bz,if_neg n1,bz,if_neg n0]
 have VP:Up X e (bf (bf (bf e (hn 5 N.k) (.var 162 [.rs (hn 6 N.k) h'.flatten.length 1 h'.flatten.length,.rs (hn 7 N.k) h'.length 1 h'.length])) (hn 6 N.k) (.aE 3 1 (h'.flatten.map eI))) (hn 7 N.k) (.aE 3 1 ((ii h').map eI))):=by
  refine((Up.put _ (.inl ?_)).trans (Up.put _ (.inl ?_))).trans (Up.put _ (.inl ?_))
  ·rw[hR.hp];simp
  ·rw[bz,if_neg (fun e=>a1 e.symm),hR.cells];simp
  ·rw[bz,if_neg (fun e=>a3 e.symm),bz,if_neg (fun e=>a2 e.symm),hR.ends];simp
 refine⟨Tu,VP,⟨?_,hR.ok,Tu.ok,VP.aT,?_⟩⟩
 ·rw[<-ea,<-el];refine(ai.at (e:=e) (B7 a1 a2 a3) hc (fun i r h=>?_) ?_ (fun i r h=>?_) ?_ (fun i h=>h)).mono fun r l ⟨e1,e2⟩=>⟨by rw[e1,ui _ hr],e2⟩
  ·simp only[gi,ak]at h;split at h
   ·rename_i ei;subst ei;cases h;rw[q6,hR.hp];simp only[Row.bL,eJ,AV.bL,q7,q8]
   ·split at h
    ·rename_i ei;subst ei;cases h;rw[q7,hR.cells];simp only[Row.bL,tU (enc:=eI) (sz:=1)]
    ·split at h
     ·rename_i ei;subst ei;cases h;rw[q8,hR.ends];simp only[Row.bL,tU (enc:=eI) (sz:=1)]
     ·cases h
  ·simp only[aS,Bool.and_eq_true];exact⟨rfl,eH (fun _ h=>by cases h) _ P9⟩
  ·simp only[gi,ak]at h;split at h
   ·cases h;rfl
   ·split at h
    ·cases h;exact eH (q:=dq) (fun _ h=>by cases h) _ (no _)
    ·split at h
     ·cases h;exact eH (q:=dq) (fun _ h=>by cases h) _ (no _)
     ·cases h
  ·show([2,3,4]:PK).Nodup;decide
 ·simp only[aS,Bool.and_eq_true];exact⟨i0,eH (fun _ h=>by cases h) _ P9⟩
def bw.sc(hR:bw p C m N e)(P9:aS dq rest=true)(hr:r0.all dq=true)(hc:ai P f (.pt 2 0 0 0::rest) (gi m.heap) fun r l=>r=r0/\l=gi h') :
  j3 P f (.pt (hn 5 N.k) 0 0 0::rest) e X r0 fun N' l=>bw p C { m with heap:=h' } N' l/\N'.k=N.k/\N'.af.c=N.af.c:=by
 obtain⟨h2,h3,h4⟩:=hR.oS (X:=X) P9 hr hc;exact⟨_,_,⟨h2,rfl,rfl⟩,h3,h4⟩
def bw.kn(hR:bw p C m N e)(P9:aS dq rest=true)(hr:r0.all dq=true)(hc:ai P f (.pt 2 0 0 0::rest) (gi m.heap) fun r l=>r=r0/\l=gi m.heap):cw P f (.pt (hn 5 N.k) 0 0 0::rest) e r0 e:=by
 obtain⟨h2,h3,h4⟩:=hR.oS (X:=[]) (h':=m.heap) P9 hr hc;have el:hL N m.heap e=e:=by unfold hL;rw[sW hR.hp,sW hR.cells,sW hR.ends]
 rw[el]at h4;exact h4
end MV
variable{H:Hp}{t:PM}
def gL.fl{r:AV}(i j k:Nat)(e:PM)(sz:Nat){cs:PH}(hi:H.get i=none)(h0:0<sz)(hj:H.get j=some (.var t cs))(hk:cs[k]?=some (.raw (.slice none 0 0))):gL r H r ((H.put i (.aE e sz [])).put j (.var t (cs.set k (.rs i 0 sz 0)))):=fun w v h1 h2=>by
 obtain⟨a,b⟩:=vr h1 hi e h0;have Vq:j≠i:=fun e=>by subst e;rw[hi]at hj;cases hj
 obtain⟨a',b'⟩:=Al (cs':=cs.set k (.rs i 0 sz 0)) a (j:=j) (t:=t) (cs:=cs) (by rw[Hp.aW,if_neg Vq];exact hj) jE fun n x x' v hx Qd hv=>by
  rw[List.getElem?_set]at Qd;by_cases hn:k=n
  ·subst hn;rw[if_pos rfl]at Qd;split at Qd
   ·cases Qd;rw[hk]at hx;cases hx;cases hv;exact .ik _ _ _ _ (NW.bU _ _ _ _)
   ·cases Qd
  ·rw[if_neg hn,hx]at Qd;cases Qd;exact hv
 exact⟨w.name i 0 .nil,rfl,a',h2.ext b,(b.trans b').px⟩
abbrev mP(N:NM):AV:=.pt (hn 3 N.k) 0 0 0
abbrev cP(N:NM):AV:=.pt (hn 0 N.af.c) 0 0 0
def To(p:ab)(C:aB)(m':MV)(N:NM)(N':NM)(l:PG):Prop:=MV.bw p C m' N' l/\N'.k=N.k/\N'.af.c=N.af.c
def NM.pop(N:NM):NM:={ N with cs:=N.cs.take (N.cs.length-1),cj:=N.af.c::N.cj }
def NM.mV(N:NM)(j:Nat):NM:={ N with cs:=N.cs++[⟨j,j,[]⟩],cj:=N.cj.drop 1 }
namespace MV
variable {p:ab}{C:aB}{m:MV}{N:NM}{e:PG}
def bw.fY(hR:bw p C m N e){e':PG}(h:∀j,j∈ids e->j∈ids e')(m':MV)(N':NM)(hk:N'.k=N.k):aS (fun j=>(ids e').contains j) (mE p C m' N')=true:=by have c4:=List.contains_iff_mem.2 (h _ (List.contains_iff_mem.1 (fS hR.row)));have c5:=List.contains_iff_mem.2 (h _ (List.contains_iff_mem.1 (fS hR.hp)));have c8:=List.contains_iff_mem.2 (h _ (List.contains_iff_mem.1 (fS hR.outs)));have up:aS (fun j=>(ids e').contains j) (hS p)=true:=eH (q:=dq) (fun _ h=>by cases h) _ rfl;unfold mE;rw[qF,up,hk];simp only[aS,AV.all,c4,c5,c8,Bool.and_self,aX]
def KA(h1:1<=N.cs.length):N.pop.cs.map NC.c++N.pop.cj=N.cs.map NC.c++N.cj:=by
 show(N.cs.take (N.cs.length-1)).map NC.c++(N.af.c::N.cj)=_;have e1:N.cs.take (N.cs.length-1)++[N.af]=N.cs:=by unfold NM.af;rw[dT jB,List.take_append_getElem,show N.cs.length-1+1=N.cs.length from jB,List.take_length]
 have:(N.cs.take (N.cs.length-1)).map NC.c++(N.af.c::N.cj)=((N.cs.take (N.cs.length-1)++[N.af]).map NC.c)++N.cj:=jE;rw[this,e1]
def bw.wo(hR:bw p C m N e)(h1:1<=m.calls.length){m':MV}(hc:m'.calls=m.calls.take (m.calls.length-1))(h2:m'.heap=m.heap)(h3:m'.aD=m.aD):bw p C m' N.pop (bf e (hn 3 N.k) (.var 105 (mE p C m' N.pop))):=by
 have hl:=hR.len;have kind:∀(a k:Nat) (r:Row),a≠3->a<32->ak e (hn a k)=some r->ak (bf e (hn 3 N.k) (.var 105 (mE p C m' N.pop))) (hn a k)=some r:=fun a k r h3 Rr h=>by rw[bz,if_neg (cB Rr jB h3)];exact h
 have lt:(N.cs.take (N.cs.length-1)).length=N.cs.length-1:=by rw[List.length_take];omega
 have ml:m'.calls.length=m.calls.length-1:=by rw[hc,List.length_take];omega
 refine⟨hR.ok.put (.inr (gA _ _)) ?_,by show ak _ (hn 3 N.k)=_;rw[bz,if_pos rfl],?_,?_,?_,?_,?_,by rw[ml,<-hl];exact lt,fun k hk=>?_,?_,?_,?_⟩
 ·exact eH (fun j hj=>by rw[Bool.or_eq_true];exact .inr hj) _ (hR.fY (fun _ h=>h) m' N.pop rfl)
 ·rw[KA jB];exact kind _ _ _ jB jB hR.row
 ·rw[h2];exact kind _ _ _ jB jB hR.hp
 ·rw[h2];exact kind _ _ _ jB jB hR.cells
 ·rw[h2];exact kind _ _ _ jB jB hR.ends
 ·rw[h3];exact kind _ _ _ jB jB hR.outs
 ·rw[ml]at hk;have QE:=hR.call k jB;have e1:nth m'.calls k=nth m.calls k:=by
   rw[hc];unfold nth;rw[List.getD_eq_getElem?_getD,List.getElem?_take,if_pos hk,List.getD_eq_getElem?_getD]
  have e2:nth N.pop.cs k=nth N.cs k:=by show nth (N.cs.take _) k=_;unfold nth;rw[List.getD_eq_getElem?_getD,List.getElem?_take,jP,List.getD_eq_getElem?_getD]
  rw[e1,e2];exact⟨kind _ _ _ jB jB QE.var,kind _ _ _ jB jB QE.cf,kind _ _ _ jB jB QE.dv,QE.bd⟩
 ·show((N.cs.take _).map NC.c).Nodup;rw[List.map_take];exact(List.take_sublist _ _).nodup hR.nc
 ·show((N.cs.take _).map NC.v).Nodup;rw[List.map_take];exact(List.take_sublist _ _).nodup hR.nv
 ·show(N.cs.take _).length+(N.af.c::N.cj).length<=1000;have:=hR.bd;rw[lt,List.length_cons];omega
def mH(p:ab)(C:aB)(m':MV)(N:NM)(c':MC)(j:Nat)(e:PG):PG:=
 bf (bf (bf (bf (bf e (hn 1 j) (.aE 50 3 (c'.slots.map bG))) (hn 2 j) (.aE 50 3 (c'.stack.map bG))) (hn 0 j) (.var 113 (cE c' ⟨j,j,[]⟩))) (hn 4 N.k) (.aE 108 1 (((N.mV j).cs.map NC.c++(N.mV j).cj).map fun j=>[.pt (hn 0 j) 0 0 0]))) (hn 3 N.k) (.var 105 (mE p C m' (N.mV j)))
def bw.yD(hR:bw p C m N e)(h8:m.calls.length<=100){m':MV}{c':MC}{j:Nat}(hc:m'.calls=m.calls++[c'])(h2:m'.heap=m.heap)(h3:m'.aD=m.aD)(j0:ak e (hn 0 j)=none)(j1:ak e (hn 1 j)=none)(j2:ak e (hn 2 j)=none)(hb:c'.stack.length<=2000) :
  bw p C m' (N.mV j) (mH p C m' N c' j e):=by
 have hl:=hR.len;have no:∀l:List aj,aS dq ((l.map bG).flatten)=true:=fun l=>oj (la (enc:=bG) (sz:=3) _)
 have kind:∀(a k:Nat) (r:Row),a<32->(hn a k≠hn 1 j)->(hn a k≠hn 2 j)->(hn a k≠hn 0 j)->a≠4->a≠3->ak e (hn a k)=some r->ak (mH p C m' N c' j e) (hn a k)=some r:=fun a k r Rr n1 n2 n0 h4 h3 h=>by unfold mH;rw[bz,if_neg (cB Rr jB h3),bz,if_neg (cB Rr jB h4),bz,if_neg n0,bz,if_neg n2,bz,if_neg n1];exact h
 have pu:∀(a k:Nat) (r:Row),a<32->4<a->ak e (hn a k)=some r->ak (mH p C m' N c' j e) (hn a k)=some r:=fun a k r Rr h4 h=>kind a k r Rr (cB Rr jB jB) (cB Rr jB jB) (cB Rr jB jB) jB jB h
 have ml:m'.calls.length=m.calls.length+1:=by rw[hc];simp
 have nl:(N.mV j).cs.length=N.cs.length+1:=by show(N.cs++[_]).length=_;simp
 refine⟨?_,by show ak _ (hn 3 N.k)=_;unfold mH;rw[bz,if_pos rfl],by show ak _ (hn 4 N.k)=_;unfold mH;rw[bz,if_neg (cB jB jB jB),bz,if_pos rfl],by rw[h2];exact pu 5 _ _ jB jB hR.hp,by rw[h2];exact pu 6 _ _ jB jB hR.cells,by rw[h2];exact pu 7 _ _ jB jB hR.ends,by rw[h3];exact pu 8 _ _ jB jB hR.outs,by rw[nl,ml,hl],fun k hk=>?_,?_,?_,?_⟩
 ·unfold mH;have k1:=((hR.ok.put (i:=hn 1 j) (r:=.aE 50 3 (c'.slots.map bG)) (.inr (gA _ _)) (eH (fun _ h=>by cases h) _ (no _))).put (i:=hn 2 j) (r:=.aE 50 3 (c'.stack.map bG)) (.inr (gA _ _)) (eH (fun _ h=>by cases h) _ (no _)));have m1:∀x,x∈ids e->x∈ids (bf (bf e (hn 1 j) (.aE 50 3 (c'.slots.map bG))) (hn 2 j) (.aE 50 3 (c'.stack.map bG))):=fun x hx=>(nD _ _ _ _).2 (.inr ((nD _ _ _ _).2 (.inr hx)))
  have i1:hn 1 j∈ids (bf (bf e (hn 1 j) (.aE 50 3 (c'.slots.map bG))) (hn 2 j) (.aE 50 3 (c'.stack.map bG))):=(nD _ _ _ _).2 (.inr ((nD _ _ _ _).2 (.inl rfl)));have i2:hn 2 j∈ids (bf (bf e (hn 1 j) (.aE 50 3 (c'.slots.map bG))) (hn 2 j) (.aE 50 3 (c'.stack.map bG))):=(nD _ _ _ _).2 (.inl rfl);generalize bf (bf e (hn 1 j) (.aE 50 3 (c'.slots.map bG))) (hn 2 j) (.aE 50 3 (c'.stack.map bG))=e1 at k1 m1 i1 i2;rw[<-List.contains_iff_mem]at i1 i2;have k2:=k1.put (i:=hn 0 j) (r:=.var 113 (cE c' ⟨j,j,[]⟩)) (.inr (gA _ _)) (by simp only[Row.cells,cE,aS,AV.all,i1,i2,Bool.or_true,Bool.and_self]);have m2:∀x,x∈ids e->x∈ids (bf e1 (hn 0 j) (.var 113 (cE c' ⟨j,j,[]⟩))):=fun x hx=>(nD _ _ _ _).2 (.inr (m1 x hx))
  have i0:hn 0 j∈ids (bf e1 (hn 0 j) (.var 113 (cE c' ⟨j,j,[]⟩))):=(nD _ _ _ _).2 (.inl rfl);generalize bf e1 (hn 0 j) (.var 113 (cE c' ⟨j,j,[]⟩))=e2 at k2 m2 i0;have hold:∀x∈N.cs.map NC.c++N.cj,hn 0 x∈ids e:=fun x hx=>by have:=Bl (hR.ok.closed _ _ hR.row) [.pt (hn 0 x) 0 0 0] (List.mem_map.2 ⟨x,hx,rfl⟩);simp only[aS,AV.all,Bool.and_true]at this;exact List.contains_iff_mem.1 this
  have R4:∀x∈(N.mV j).cs.map NC.c++(N.mV j).cj,hn 0 x∈ids e2:=fun x hx=>by
   have hx:x∈(N.cs++[(⟨j,j,[]⟩:NC)]).map NC.c++N.cj.drop 1:=hx;rw[List.map_append]at hx;simp only[List.mem_append,List.map_cons,List.map_nil,List.mem_singleton]at hx;rcases hx with(hx|rfl)|hx
   ·exact m2 _ (hold x (List.mem_append_left _ hx))
   ·exact i0
   ·exact m2 _ (hold x (List.mem_append_right _ (List.mem_of_mem_drop hx)))
  have k3:=k2.put (i:=hn 4 N.k) (r:=.aE 108 1 (((N.mV j).cs.map NC.c++(N.mV j).cj).map fun j=>[.pt (hn 0 j) 0 0 0])) (.inr (gA _ _)) (oj fun y hy=>by obtain⟨x,hx,rfl⟩:=List.mem_map.1 hy;have:=List.contains_iff_mem.2 (R4 x hx);simp only[aS,AV.all,this,Bool.or_true,Bool.and_self])
  refine k3.put (.inr (gA _ _)) ?_;exact eH (fun j hj=>by rw[Bool.or_eq_true];exact .inr hj) _ (hR.fY (fun x hx=>(nD _ _ _ _).2 (.inr (m2 x hx))) m' (N.mV j) rfl)
 ·rw[ml]at hk;by_cases P1:k<m.calls.length
  ·have QE:=hR.call k P1;have e1:nth m'.calls k=nth m.calls k:=by rw[hc,oz P1]
   have e2:nth (N.mV j).cs k=nth N.cs k:=by show nth (N.cs++_) k=_;rw[oz jB]
   have q0:hn 0 (nth N.cs k).c≠hn 0 j:=fun e'=>by rw[<-e',QE.var]at j0;cases j0
   have q1:hn 1 (nth N.cs k).c≠hn 1 j:=fun e'=>by rw[<-e',QE.dv]at j1;cases j1
   have q2:hn 2 (nth N.cs k).v≠hn 2 j:=fun e'=>by rw[<-e',QE.cf]at j2;cases j2
   rw[e1,e2];exact⟨kind _ _ _ jB (cB jB jB jB) (cB jB jB jB) q0 jB jB QE.var,kind _ _ _ jB (cB jB jB jB) q2 (cB jB jB jB) jB jB QE.cf,kind _ _ _ jB q1 (cB jB jB jB) (cB jB jB jB) jB jB QE.dv,QE.bd⟩
  ·have ek:k=m.calls.length:=jB;subst ek;have e1:nth m'.calls m.calls.length=c':=by rw[hc,o5]
   have e2:nth (N.mV j).cs m.calls.length=⟨j,j,[]⟩:=by show nth (N.cs++[_]) _=_;rw[<-hl,o5]
   rw[e1,e2];refine⟨?_,?_,?_,by show c'.stack.length+0<=2000;omega⟩
   ·unfold mH;rw[bz,if_neg (cB jB jB jB),bz,if_neg (cB jB jB jB),bz,if_pos rfl]
   ·unfold mH;rw[bz,if_neg (cB jB jB jB),bz,if_neg (cB jB jB jB),bz,if_neg (cB jB jB jB),bz,if_pos rfl,List.append_nil]
   ·unfold mH;rw[bz,if_neg (cB jB jB jB),bz,if_neg (cB jB jB jB),bz,if_neg (cB jB jB jB),bz,if_neg (cB jB jB jB),bz,if_pos rfl]
 ·show((N.cs++[(⟨j,j,[]⟩:NC)]).map NC.c).Nodup;rw[List.map_append,List.nodup_append];refine⟨hR.nc,jE,fun a ha b hb e'=>?_⟩;have hb:b=j:=by simpa using hb
  obtain⟨x,hx,rfl⟩:=List.mem_map.1 ha;obtain⟨k,hk,rfl⟩:=List.getElem_of_mem hx;have:=(hR.call k jB).var;rw[dT jB,e',hb,j0]at this;cases this
 ·show((N.cs++[(⟨j,j,[]⟩:NC)]).map NC.v).Nodup;rw[List.map_append,List.nodup_append];refine⟨hR.nv,jE,fun a ha b hb e'=>?_⟩;have hb:b=j:=by simpa using hb
  obtain⟨x,hx,rfl⟩:=List.mem_map.1 ha;obtain⟨k,hk,rfl⟩:=List.getElem_of_mem hx;have:=(hR.call k jB).cf;rw[dT jB,e',hb,j2]at this;cases this
 ·show(N.cs++[_]).length+(N.cj.drop 1).length<=1000;have:=hR.bd;rw[List.length_append,List.length_drop,List.length_singleton];omega
end MV
namespace MV
variable {p:ab}{C:aB}{m:MV}{N:NM}{e:PG}
def F4(h:1<=N.cs.length):N.aM N.af=N:=by unfold NM.aM NM.af;rw[dT jB,List.set_getElem_self]
def bw.jq(hR:bw p C m N e)(h1:1<=m.calls.length){c':MC}(hs:c'.stack=m.af.stack)(hl:c'.slots=m.af.slots):bw p C (m.aM c') N (bf e (hn 0 N.af.c) (.var 113 (MV.cE c' N.af))):=by
 have ht:=hR.af h1;have J':=hR.len;have h:=hR.aM (e':=bf e (hn 0 N.af.c) (.var 113 (MV.cE c' N.af))) h1 (c':=c') (n':=N.af) rfl ?_ ⟨?_,?_,?_,by rw[hs];exact ht.bd⟩ (.inl rfl) fun j hj n0 n1 n2=>by rw[bz,if_neg n0]
 ·rw[F4 jB]at h;exact h
 ·refine hR.ok.put (.inr (gA _ _)) ?_;have i1:=fS ht.dv;have i2:=fS ht.cf;simp only[Row.cells,MV.cE,aS,AV.all,i1,i2,Bool.or_true,Bool.and_self]
 ·rw[bz,if_pos rfl]
 ·rw[bz,if_neg (cB jB jB jB),hs];exact ht.cf
 ·rw[bz,if_neg (cB jB jB jB),hl];exact ht.dv
end MV
namespace MV
structure Bd(n:Nat)(m:MV):Prop where
 deep:∀k,k+1<m.calls.length->(nth m.calls k).stack.length<=1000
 slots:∀k,k<m.calls.length->(nth m.calls k).slots.length<=24
 heap:fv m.heap<=40
 outs:m.aD.length<=24
 jw:0<=m.in_
 jY:m.in_<=n
variable {n:Nat}{m:MV}
theorem Bd.af(h:Bd n m)(h1:1<=m.calls.length):m.af.slots.length<=24:=h.slots (m.calls.length-1) jB
theorem Bd.aM(h:Bd n m){c:MC}(hc:c.slots.length<=24):Bd n (m.aM c):=by
 have hl:(m.aM c).calls.length=m.calls.length:=br _ _;have e:∀k,k<m.calls.length->nth (m.aM c).calls k=if k=m.calls.length-1 then c else nth m.calls k:=fun k hk=>Go.Gd.bI _ _ _ _ jB
 refine⟨fun k hk=>?_,fun k hk=>?_,h.heap,h.outs,h.jw,h.jY⟩
 ·rw[hl]at hk;rw[e k jB,jN];exact h.deep k hk
 ·rw[hl]at hk;rw[e k hk];split
  ·exact hc
  ·exact h.slots k hk
theorem Bd.status(h:Bd n m)(s t:Int):Bd n { m with status:=s,bs:=t }:=⟨h.deep,h.slots,h.heap,h.outs,h.jw,h.jY⟩
theorem Bd.push(h:Bd n m)(h1:1<=m.calls.length)(v:aj):Bd n (m.push v):=h.aM (h.af h1)
theorem Bd.cut(h:Bd n m)(h1:1<=m.calls.length)(k:Nat):Bd n (m.cut k):=h.aM (h.af h1)
theorem Bd.stops(h:Bd n m)(h1:1<=m.calls.length)(s t:Int):Bd n (m.stops s t):=(h.aM (c:=m.af.back) (h.af h1)).status s t
theorem Bd.dI(h:Bd n m)(h1:1<=m.calls.length)(r:aj×Int):Bd n (m.dI r):=by
 unfold MV.dI;split
 ·exact h.stops h1 _ _
 ·exact h.push h1 _
def fF{α:Type}[Inhabited α]{l:List α}{n k:Nat}(h:k<n):nth (l.take n) k=nth l k:=by unfold nth;rw[List.getD_eq_getElem?_getD,List.getElem?_take,if_pos h,List.getD_eq_getElem?_getD]
theorem Bd.pop(h:Bd n m):Bd n m.pop:=by
 have hl:m.pop.calls.length=m.calls.length-1:=by show(m.calls.take _).length=_;rw[List.length_take];omega
 have e:∀k,k<m.calls.length-1->nth m.pop.calls k=nth m.calls k:=fun k hk=>fF hk
 refine⟨fun k hk=>?_,fun k hk=>?_,h.heap,h.outs,h.jw,h.jY⟩
 ·rw[hl]at hk;rw[e k jB];exact h.deep k jB
 ·rw[hl]at hk;rw[e k hk];exact h.slots k jB
theorem Bd.ends(h:Bd n m)(v:aj):Bd n (m.ends v):=by
 unfold MV.ends;split
 ·exact h.pop.status 2 m.pop.bs
 ·rename_i h2;refine h.pop.push ?_ v;show 1<=(m.calls.take _).length;rw[List.length_take];omega
theorem Bd.ci{p:ab}{C:aB}(h:Bd n m)(h1:1<=m.calls.length)(hd:m.af.stack.length<=1000){fn:Int}{args:List aj}(s1:nth p.size fn.toNat<=24)(s2:(args.length:Int)<=nth p.size fn.toNat):Bd n (m.ci p C fn args):=by
 have hl:(m.ci p C fn args).calls.length=m.calls.length+1:=by show(m.calls++[_]).length=_;simp
 have e:∀k,k<m.calls.length->nth (m.ci p C fn args).calls k=nth m.calls k:=fun k hk=>oz hk
 refine⟨fun k hk=>?_,fun k hk=>?_,h.heap,h.outs,h.jw,h.jY⟩
 ·rw[hl]at hk;rw[e k jB];by_cases P1:k=m.calls.length-1
  ·subst P1;exact hd
  ·exact h.deep k jB
 ·rw[hl]at hk;by_cases P1:k<m.calls.length
  ·rw[e k P1];exact h.slots k P1
  ·have:k=m.calls.length:=jB;subst this;have:nth (m.ci p C fn args).calls m.calls.length=iD p C fn args:=o5 _ _;rw[this];show(args++List.replicate _ v0).length<=24;rw[List.length_append,List.length_replicate];omega
def Bd.mR(h:Bd n m){h':PI}(hc:fv h'<=40):Bd n { m with heap:=h' }:=⟨h.deep,h.slots,hc,h.outs,h.jw,h.jY⟩
end MV
namespace MV
variable (m:MV)(p:ab)(C:aB)(inp:PJ)(x:aq)
def Nj(h:x.op=2):m.ins p C inp x=m.push (vI x.a):=by unfold MV.ins;dsimp only;rw[if_pos h]
def Hz(h:x.op=3):m.ins p C inp x=m.push (vB (decide (x.a=1))):=by unfold MV.ins;dsimp only;rw[jN,if_pos h]
def OF(h:x.op=4):m.ins p C inp x=m.push (vT x.s):=by unfold MV.ins;dsimp only;rw[jN,jN,if_pos h]
def Hw(h:x.op=5):m.ins p C inp x=m.push (dt m.af.slots x.a x.b):=by unfold MV.ins;dsimp only;rw[jN,jN,jN,if_pos h]
def C8(h:x.op=6):m.ins p C inp x=m.aM { m.af.cut 1 with slots:=m.af.slots.set x.a.toNat m.af.last }:=by unfold MV.ins;dsimp only;rw[jN,jN,jN,jN,if_pos h]
def DF(h:x.op=7):m.ins p C inp x=(m.cut 2).dI (mz x.s (m.af.cut 1).last m.af.last):=by unfold MV.ins;dsimp only;rw[jN,jN,jN,jN,jN,if_pos h]
def CQ(h:x.op=8):m.ins p C inp x=(m.cut 1).push (jV (⟨#[45]⟩:PL) m.af.last):=by unfold MV.ins;dsimp only;rw[jN,jN,jN,jN,jN,jN,if_pos h]
def Dl(h:x.op=9):m.ins p C inp x=(m.cut 1).push (jV (⟨#[33]⟩:PL) m.af.last):=by unfold MV.ins;dsimp only;rw[jN,jN,jN,jN,jN,jN,jN,if_pos h]
def FM(h:x.op=10):m.ins p C inp x=(m.cut 1).push (vI (if m.af.last.ty=4 then((aV m.heap m.af.last.n).length:Int)else(m.af.last.s.size:Int))):=by unfold MV.ins;dsimp only;rw[jN,jN,jN,jN,jN,jN,jN,jN,if_pos h]
def FD(h:x.op=11):m.ins p C inp x=if m.af.last.n<0\/((aV m.heap (dt m.af.slots x.a 4).n).length:Int)<=m.af.last.n then(m.cut 1).stops 3 2 else(m.cut 1).push (vI (nth (aV m.heap (dt m.af.slots x.a 4).n) m.af.last.n.toNat)):=by unfold MV.ins;dsimp only;rw[jN,jN,jN,jN,jN,jN,jN,jN,jN,if_pos h]
def BQ(h:x.op=12):m.ins p C inp x=if(m.af.cut 1).last.n<0\/((aV m.heap (dt m.af.slots x.a 4).n).length:Int)<=(m.af.cut 1).last.n then(m.cut 2).stops 3 2 else{ m.cut 2 with heap:=m.heap.set ((dt m.af.slots x.a 4).n-1).toNat ((nth m.heap ((dt m.af.slots x.a 4).n-1).toNat).set (m.af.cut 1).last.n.toNat m.af.last.n) }:=by unfold MV.ins;dsimp only;rw[jN,jN,jN,jN,jN,jN,jN,jN,jN,jN,if_pos h]
def Fo(h:x.op=13):m.ins p C inp x=if m.af.last.n<0\/16<m.af.last.n then(m.cut 1).stops 3 7 else if 40<fv m.heap+m.af.last.n+1 then(m.cut 1).stops 3 4 else{ (m.cut 1).push ⟨4,m.heap.length+1,sE⟩with heap:=m.heap++[List.replicate m.af.last.n.toNat 0] }:=by unfold MV.ins;dsimp only;rw[jN,jN,jN,jN,jN,jN,jN,jN,jN,jN,jN,if_pos h]
def gp(h:x.op=14):m.ins p C inp x=if(inp.length:Int)<=m.in_ then m.stops 1 0 else{ m.push (vI (nth inp m.in_.toNat))with in_:=m.in_+1 }:=by unfold MV.ins;dsimp only;rw[jN,jN,jN,jN,jN,jN,jN,jN,jN,jN,jN,jN,if_pos h]
def Fg(h:x.op=15):m.ins p C inp x=if 24<=m.aD.length then m.stops 3 5 else{ m.cut 1 with aD:=m.aD++[kW m.af.last] }:=by unfold MV.ins;dsimp only;rw[jN,jN,jN,jN,jN,jN,jN,jN,jN,jN,jN,jN,jN,if_pos h]
def IU(h:x.op=16):m.ins p C inp x=m.aM (m.af.jump x.a):=by unfold MV.ins;dsimp only;rw[jN,jN,jN,jN,jN,jN,jN,jN,jN,jN,jN,jN,jN,jN,if_pos h]
def LS(h:x.op=17):m.ins p C inp x=if m.af.last.n=0 then m.aM ((m.af.cut 1).jump x.a)else m.cut 1:=by unfold MV.ins;dsimp only;rw[jN,jN,jN,jN,jN,jN,jN,jN,jN,jN,jN,jN,jN,jN,jN,if_pos h]
def M5(h:x.op=18\/x.op=19):m.ins p C inp x=if(m.af.last.n=1<->x.op=19)then m.aM (m.af.jump x.a)else m.cut 1:=by unfold MV.ins;dsimp only;rw[jN,jN,jN,jN,jN,jN,jN,jN,jN,jN,jN,jN,jN,jN,jN,jN,if_pos h]
def yT(h:x.op=20):m.ins p C inp x=if 8<=m.calls.length then(m.cut x.b.toNat).stops 3 3 else(m.cut x.b.toNat).ci p C x.a (m.af.stack.drop (m.af.stack.length-x.b.toNat)):=by unfold MV.ins;dsimp only;rw[jN,jN,jN,jN,jN,jN,jN,jN,jN,jN,jN,jN,jN,jN,jN,jN,jN,if_pos h]
def CO(h:x.op=21):m.ins p C inp x=(m.cut 1).ends m.af.last:=by unfold MV.ins;dsimp only;rw[jN,jN,jN,jN,jN,jN,jN,jN,jN,jN,jN,jN,jN,jN,jN,jN,jN,jN,if_pos h]
def Ej(h:x.op=22):m.ins p C inp x=m.ends (vZ x.a):=by unfold MV.ins;dsimp only;rw[jN,jN,jN,jN,jN,jN,jN,jN,jN,jN,jN,jN,jN,jN,jN,jN,jN,jN,jN,if_pos h]
def Fz(h:x.op=23):m.ins p C inp x=m.cut 1:=by unfold MV.ins;dsimp only;rw[jN,jN,jN,jN,jN,jN,jN,jN,jN,jN,jN,jN,jN,jN,jN,jN,jN,jN,jN,jN,if_pos h]
def Lg(h:x.op<2\/23<x.op):m.ins p C inp x=m:=by unfold MV.ins;dsimp only;rw[jN,jN,jN,jN,jN,jN,jN,jN,jN,jN,jN,jN,jN,jN,jN,jN,jN,jN,jN,jN,jN]
end MV
namespace MV
variable {p:ab}{C:aB}{m:MV}{N:NM}{e:PG}
def bw.ri(hR:bw p C m N e)(h1:1<=m.calls.length)(l:List aj)(hl:l.length=m.af.slots.length):bw p C (m.aM { m.af with slots:=l }) N (bf e (hn 1 N.af.c) (.aE 50 3 (l.map bG))):=by
 have ht:=hR.af h1;have J':=hR.len;have h:=hR.aM (e':=bf e (hn 1 N.af.c) (.aE 50 3 (l.map bG))) h1 (c':={ m.af with slots:=l }) (n':=N.af) rfl ?_ ⟨?_,?_,?_,ht.bd⟩ (.inl rfl) fun j hj n0 n1 n2=>by rw[bz,if_neg n1]
 ·rw[F4 jB]at h;exact h
 ·exact hR.ok.put (.inr (gA _ _)) (eH (q:=dq) (fun _ h=>by cases h) _ (oj (la (enc:=bG) (sz:=3) _)))
 ·rw[bz,if_neg (cB jB jB jB),ht.var];unfold MV.cE;rw[<-hl]
 ·rw[bz,if_neg (cB jB jB jB)];exact ht.cf
 ·rw[bz,if_pos rfl]
end MV
theorem gL.nil{r:AV}{H:Hp}(i:Nat)(e:PM){sz:Nat}(hi:H.get i=none)(h0:0<sz)(hs:r=.raw (.slice none 0 0)):gL r H (.rs i 0 sz 0) (H.put i (.aE e sz [])):=fun w v h1 h2=>by
 obtain⟨w',e,a,b,c⟩:=cU.nil (F:=[r]) i 0 e hi h0 (.inl (by rw[hs];rfl)) w #[v] h1 ⟨rfl,fun k a x ha hx=>by
  match k with
  |0=>cases ha;cases hx;exact h2
  |k+1=>simp at ha⟩
 exact⟨w',e,a,b.2 0 _ v rfl rfl,c⟩
variable{F:PH}
def zq{fn:Func}{out:PH}{e:Exit}(i:Nat)(t:PM)(sz:Nat)(h0:0<sz)(rs:List ResultVar)(W4:jd out=.raw (.slice none 0 0))(ho:iB P ⟨[],[]⟩ F rs=some out)(hok:ju P ⟨[],[]⟩ F rs)(RF:fn.results.toList=rs:=by rfl)(he:e=.normal\/e=.ret:=by first|exact Or.inr rfl|exact Or.inl rfl|fail) :
  j9 P fn (fun r l=>r=.rs i 0 sz 0/\l=[(i,.aE t sz [])]) e F ⟨[],[]⟩:=by
 subst RF;exact rN he ho hok _ _ (gL.nil i t rfl h0 W4) ⟨rfl,rfl⟩
variable{args':PH}{q:Prop}
def Bm{args:PH}{K:PE}[Inhabited α]{enc:α->PH}[he:bD enc sz]{xs:List α}(i:Nat)(QT:∀x,jx (enc x)=true)
  (hc:ai P f args' [] fun r l=>r=.rs i xs.length sz xs.length/\l=[(i,.aE t sz (xs.map enc))]) (hi:H.get i=none) (hv:∀w vs,aH w H->aY w args vs->aY (w.ck fun _=>true) args' vs) (k:q) (h0:bo P f=true:=by exact db) (e:K (aX enc sz xs) H=q:=by exact eu):fh P (.raw (.func (.func f) #[] #[])) args H K:=
 nB h0 (Bq QT hi hc hv (e ▸ k))
def Du{w w':NW}{a b:AV}{vs:PO}(h:aY w [a] vs)(TE:∀v,ar w a v->ar w' b v):aY w' [b] vs:=⟨h.1,fun i x v hx hv=>by
 match i with
 |0=>cases hx;exact TE v (h.2 0 a v rfl hv)
 |i+1=>simp at hx⟩
variable{i n:Nat}
def DJ{m o:Nat}[Inhabited α]{enc:α->PH}[he:bD enc sz](l more:List α)(hi:H.get i=some (.aE t sz ((l++more).map enc)))(hm:m=l.length+more.length)(hn:o+n=l.length)(h0:0<sz):∀w vs,aH w H->aY w [.rv i m sz o n] vs->aY (w.ck fun _=>true) [aX enc sz (l.drop o)] vs:=fun w vs hw hv=>
 Du hv fun v h=>by
  have:=Gr (d:=enc default) hw hi (by rw[List.length_map,List.length_append];exact hm) jB h0 (la (enc:=enc) (sz:=sz) _) h;have e:(((l++more).map enc).drop o).take n=(l.drop o).map enc:=by rw[<-List.map_drop,<-List.map_take,List.drop_append_of_le_length jB,List.take_append_of_le_length (by rw[List.length_drop];omega),List.take_of_length_le (by rw[List.length_drop];omega)]
  rw[e]at this;exact this
namespace MV
variable {p:ab}{C:aB}{m:MV}{N:NM}{e:PG}
def bw.zY(hR:bw p C m N e)(h1:1<=m.calls.length)(b:Nat)(hb:b<=m.af.stack.length):bw p C (m.cut b) (N.aM ⟨N.af.c,N.af.v,m.af.stack.drop (m.af.stack.length-b)++N.af.jk⟩) (bf e (hn 0 N.af.c) (.var 113 (MV.cE (m.af.cut b) ⟨N.af.c,N.af.v,m.af.stack.drop (m.af.stack.length-b)++N.af.jk⟩))):=by
 have ht:=hR.af h1;have VN:=ht.bd;refine hR.aM h1 (c':=m.af.cut b) rfl ?_ ⟨?_,?_,?_,?_⟩ (.inl rfl) fun j hj n0 n1 n2=>by rw[bz,if_neg n0]
 ·refine hR.ok.put (.inr (gA _ _)) ?_;have i1:=fS ht.dv;have i2:=fS ht.cf;simp only[Row.cells,MV.cE,aS,AV.all,i1,i2,Bool.or_true,Bool.and_self]
 ·rw[bz,if_pos rfl]
 ·rw[bz,if_neg (cB jB jB jB)];show _=some (Row.aE _ 3 ((m.af.stack.take (m.af.stack.length-b)++(m.af.stack.drop (m.af.stack.length-b)++N.af.jk)).map bG));rw[<-List.append_assoc,List.take_append_drop];exact ht.cf
 ·rw[bz,if_neg (cB jB jB jB)];exact ht.dv
 ·show(m.af.stack.take (m.af.stack.length-b)).length+(m.af.stack.drop (m.af.stack.length-b)++N.af.jk).length<=2000;rw[List.length_take,List.length_append,List.length_drop];omega
end MV
namespace MV
variable {p:ab}{C:aB}{m:MV}{N:NM}{e:PG}
def bw.A9(hR:bw p C m N e){m':MV}(h1:m'.calls=m.calls)(h2:m'.heap=m.heap):bw p C m' N (bf (bf e (hn 8 N.k) (.aE 9 1 (m'.aD.map eS))) (hn 3 N.k) (.var 105 (mE p C m' N))):=by
 have kind:∀(a k:Nat) (r:Row),a≠3->a≠8->a<32->ak e (hn a k)=some r->ak (bf (bf e (hn 8 N.k) (.aE 9 1 (m'.aD.map eS))) (hn 3 N.k) (.var 105 (mE p C m' N))) (hn a k)=some r:=fun a k r h3 h8 Rr h=>by rw[bz,if_neg (cB Rr jB h3),bz,if_neg (cB Rr jB h8)];exact h
 refine⟨?_,by rw[bz,if_pos rfl],kind _ _ _ jB jB jB hR.row,?_,?_,?_,?_,by rw[h1];exact hR.len,fun k hk=>?_,hR.nc,hR.nv,hR.bd⟩
 ·refine(hR.ok.put (.inr (gA _ _)) (eH (q:=dq) (fun _ h=>by cases h) _ (oj (la (enc:=eS) (sz:=1) _)))).put (.inr (gA _ _)) ?_;exact eH (fun j hj=>by rw[Bool.or_eq_true];exact .inr hj) _ (hR.fY (fun _ h=>(nD _ _ _ _).2 (.inr h)) m' N rfl)
 ·rw[h2];exact kind _ _ _ jB jB jB hR.hp
 ·rw[h2];exact kind _ _ _ jB jB jB hR.cells
 ·rw[h2];exact kind _ _ _ jB jB jB hR.ends
 ·rw[bz,if_neg (cB jB jB jB),bz,if_pos rfl]
 ·rw[h1]at hk ⊢;have hc:=hR.call k hk;exact⟨kind _ _ _ jB jB jB hc.var,kind _ _ _ jB jB jB hc.cf,kind _ _ _ jB jB jB hc.dv,hc.bd⟩
end MV
theorem cw.args{P:PS}{f:FuncId}{args args':PH}{e l:PG}{r0:AV}(h:cw P f args' e r0 l)(hv:∀w vs,aH w (entry e)->aY w args vs->aY w args' vs)(ha:aS (fun i=>(ids e).contains i) args=true):cw P f args e r0 l:=⟨h.c.args hv,h.e1,h.e2,h.aT,ha⟩
theorem G4:∀(l:PG) (i:Nat) (r r':Row),bf (bf l i r) i r'=bf l i r'
 |[],i,r,r'=>by simp[bf]
 |(j,s)::l,i,r,r'=>by
  show bf (if i=j then(i,r)::l else(j,s)::bf l i r) i r'=(if i=j then(i,r')::l else(j,s)::bf l i r');by_cases e:i=j
  ·subst e;rw[if_pos rfl,if_pos rfl];simp[bf]
  ·rw[if_neg e,if_neg e];show(if i=j then _ else(j,s)::bf (bf l i r) i r')=_;rw[if_neg e,G4 l i r r']
def HQ(l:PG)(a k:Nat)(r r':Row):bf (bf l (hn a k) r) (hn a k) r'=bf l (hn a k) r':=G4 _ _ _ _
namespace MV
variable {p:ab}{C:aB}{m:MV}{N:NM}{e:PG}
def I4(hR:bw p C m N e)(h1:1<=m.calls.length):bw p C m.dJ N (bf (bf e (hn 3 N.k) (.var 105 (mE p C { m with status:=0 } N))) (hn 0 N.af.c) (.var 113 (MV.cE { m.af with mark:=m.af.at_,at_:=m.af.at_+1 } N.af))):=
 (hR.lD (m':={ m with status:=0 }) rfl rfl rfl).jq h1 (c':={ m.af with mark:=m.af.at_,at_:=m.af.at_+1 }) rfl rfl
end MV
def F2{m o:Nat}[Inhabited α]{enc:α->PH}[he:bD enc sz](l:List α)(hi:H.get i=some (.aE t sz (l.map enc)))(hm:m=l.length)(hn:o+n<=l.length)(h0:0<sz):∀w vs,aH w H->aY w [.rv i m sz o n] vs->aY (w.ck fun _=>true) [aX enc sz ((l.drop o).take n)] vs:=fun w vs hw hv=>
 Du hv fun v h=>by have:=Gr (d:=enc default) hw hi (by rw[List.length_map];exact hm) jB h0 (la (enc:=enc) (sz:=sz) _) h;rw[<-List.map_drop,<-List.map_take]at this;exact this
def Dv{h:PI}{k:Nat}(hk:k<h.length):(h.flatten.drop (im h k)).take (nth h k).length=nth h k:=by
 have e:h.flatten=(h.take k).flatten++(nth h k++(h.drop (k+1)).flatten):=by rw[dT hk,<-List.flatten_cons,List.getElem_cons_drop,<-List.flatten_append,List.take_append_drop]
 rw[e];unfold im;rw[List.drop_left,List.take_left]
def HL{fn:Func}{B:PK}{L:PG}{out:PH}{ex:Exit}{r0:AV}{e l tl:PG}(hB:ids e=B)(k1:cZ 0 e)(k2:cZ 0 l)(hp:L=tie l tl)(hl:nA 0 tl)(rs:List ResultVar)(hv:dz (dx 0) ⟨B,tie l tl⟩ (jd out) r0)
  (RF:fn.results.toList=rs:=by rfl) (he:ex=.normal\/ex=.ret:=by first|exact Or.inr rfl|exact Or.inl rfl|fail) (ho:iB P ⟨B,L⟩ F rs=some out:=by first|rfl|(simp(disch:=first|omega|fail) only[go_sem,↓reduceIte,Nat.reduceEqDiff,Nat.reduceLeDiff,Nat.reduceSub,Nat.reduceAdd];rfl)) (hok:ju P ⟨B,L⟩ F rs:=by first|exact jI|(simp(disch:=first|omega|fail) only[go_sem,↓reduceIte,Nat.reduceEqDiff,Nat.reduceLeDiff,Nat.reduceSub,Nat.reduceAdd])):j9 P fn (fun r l'=>r=r0/\l'=l) ex F ⟨B,L⟩:=by
 subst RF hp;obtain⟨h1,h2,h3⟩:=k1.free k2 hB hl;have:=gL.free (r:=jd out) (r':=r0) (H:=⟨B,l++tl⟩) (Go.Gd.dx 0) h1 h2 hv;rw[show(Hp.mk B (l++tl)).l=l++tl from rfl,h3]at this;exact rN he ho hok r0 ⟨B,l⟩ this ⟨rfl,rfl⟩
def Ex{args:PH}{R:AV->Prop}[Inhabited α]{enc:α->PH}[he:bD enc sz]{xs:List α}(i:Nat)(QT:∀x,jx (enc x)=true)
  (hc:ai P f args' [] fun r l=>r=.rs i xs.length sz xs.length/\l=[(i,.aE t sz (xs.map enc))]) (hi:H.get i=none) (hv:∀w vs,aH w H->aY w args vs->aY (w.ck fun _=>true) args' vs) (k:q) (h0:bo P f=true:=by exact db) (e:R (aX enc sz xs)=q:=by exact eu):∃r,(fh P (.raw (.func (.func f) #[] #[])) args H fun r' H'=>r'=r/\H'=H)/\R r:=
 ⟨_,nB h0 (Bq (K:=fun r' H'=>r'=aX enc sz xs/\H'=H) QT hi hc hv ⟨rfl,rfl⟩),e ▸ k⟩
def CI{A:AS}{args:PH}{g:PE}{d:gq fun r H'=>df A H H'/\g r H'}[Inhabited α]{enc:α->PH}[he:bD enc sz]{xs:List α}(i:Nat)(QT:∀x,jx (enc x)=true)
  (hc:ai P f args' [] fun r l=>r=.rs i xs.length sz xs.length/\l=[(i,.aE t sz (xs.map enc))]) (hi:H.get i=none) (hv:∀w vs,aH w H->aY w args vs->aY (w.ck fun _=>true) args' vs) (k:q) (h0:bo P f=true:=by exact db) (e:g (aX enc sz xs) H=q:=by exact eu):fh P (.raw (.func (.func f) #[] #[])) args H (AP (fun r H'=>df A H H'/\g r H') d):=
 nB h0 (Bq (K:=AP (fun r H'=>df A H H'/\g r H') d) QT hi hc hv ⟨df.refl _ _,e ▸ k⟩)
def pJ[Inhabited α]{enc:α->PH}[he:bD enc sz](l:List α)(hi:H.get i=some (.aE t sz (l.map enc)))(hn:n=l.length):∀w vs,aH w H->aY w [.rs i n sz n] vs->aY (w.ck fun _=>true) [aX enc sz l] vs:=
 GP ⟨dz.row (dd:=enc default) l rfl hi hn,trivial⟩
namespace MV
def cQ(m:MV)(k:Nat):Int:=if(k:Int)=(m.calls.length:Int)-1 then(nth m.calls k).at_ else(nth m.calls k).mark
def spot(C:aB)(m:MV)(k:Nat):lm:=⟨(nth m.calls k).fn,(nth C.ins (m.cQ k).toNat).a,(nth m.calls k).slots⟩
def iC(C:aB)(m:MV):lz:=⟨(List.range m.calls.length).map (m.spot C),m.heap,m.in_,m.aD,m.status,m.bs,m.time⟩
end MV
def MV.lH:MV:=⟨[],0,[],0,[],0,0,0⟩
def vL(p:ab)(C:aB)(k:Nat):PG:=
 [(hn 5 k,.var 162 [.rs (hn 6 k) 0 1 0,.rs (hn 7 k) 0 1 0]),(hn 3 k,.var 105 (MV.mE p C MV.lH ⟨k,[],[]⟩)),(hn 4 k,.aE 108 1 []),(hn 8 k,.aE 9 1 []),(hn 6 k,.aE 3 1 []),(hn 7 k,.aE 3 1 [])]
def wX(p:ab)(C:aB)(k i:Nat):ak (vL p C k) i=if i=hn 5 k then some (.var 162 [.rs (hn 6 k) 0 1 0,.rs (hn 7 k) 0 1 0])else if i=hn 3 k then some (.var 105 (MV.mE p C MV.lH ⟨k,[],[]⟩))else if i=hn 4 k then some (.aE 108 1 [])else if i=hn 8 k then some (.aE 9 1 [])else if i=hn 6 k then some (.aE 3 1 [])else if i=hn 7 k then some (.aE 3 1 [])else none:=rfl
def zw(p:ab)(C:aB)(k:Nat):ids (vL p C k)=[hn 5 k,hn 3 k,hn 4 k,hn 8 k,hn 6 k,hn 7 k]:=rfl
def O4(p:ab)(C:aB)(k:Nat):MV.bw p C MV.lH ⟨k,[],[]⟩ (vL p C k):=by
 have nd:∀a b:Nat,a<32->b<32->a≠b->hn a k≠hn b k:=fun a b ha hb h=>cB ha hb h
 have ok:cZ 0 (vL p C k):=by
  refine⟨fun i _ hi=>?_,?_,fun i r hi=>?_⟩
  ·rw[wX];have g:=fun a=>gA a k
   rw[if_neg (by have:=g 5;omega),if_neg (by have:=g 3;omega),if_neg (by have:=g 4;omega),if_neg (by have:=g 8;omega),if_neg (by have:=g 6;omega),if_neg (by have:=g 7;omega)]
  ·rw[zw];simp[hn]
  ·rw[zw];rw[wX]at hi;have up:aS (fun j=>[hn 5 k,hn 3 k,hn 4 k,hn 8 k,hn 6 k,hn 7 k].contains j) (hS p)=true:=eH (q:=dq) (fun _ h=>by cases h) _ rfl;split at hi
   ·cases hi;simp[Row.cells,aS,AV.all]
   ·split at hi
    ·cases hi;show aS _ (MV.mE _ _ _ _)=true;unfold MV.mE;rw[qF,up];simp[aS,AV.all,aX]
    ·split at hi
     ·cases hi;rfl
     ·split at hi
      ·cases hi;rfl
      ·split at hi
       ·cases hi;rfl
       ·split at hi
        ·cases hi;rfl
        ·cases hi
 refine⟨ok,?_,?_,?_,?_,?_,?_,rfl,(fun k hk=>by cases hk),List.nodup_nil,List.nodup_nil,by show 0+0<=1000;omega⟩;all_goals rw[wX]
 ·rw[if_neg (nd 3 5 jB jB jB),if_pos rfl]
 ·rw[if_neg (nd 4 5 jB jB jB),if_neg (nd 4 3 jB jB jB),if_pos rfl];rfl
 ·rw[if_pos rfl];rfl
 ·rw[if_neg (nd 6 5 jB jB jB),if_neg (nd 6 3 jB jB jB),if_neg (nd 6 4 jB jB jB),if_neg (nd 6 8 jB jB jB),if_pos rfl];rfl
 ·rw[if_neg (nd 7 5 jB jB jB),if_neg (nd 7 3 jB jB jB),if_neg (nd 7 4 jB jB jB),if_neg (nd 7 8 jB jB jB),if_neg (nd 7 6 jB jB jB),if_pos rfl];rfl
 ·rw[if_neg (nd 8 5 jB jB jB),if_neg (nd 8 3 jB jB jB),if_neg (nd 8 4 jB jB jB),if_pos rfl];rfl
def Li(p:ab)(C:aB)(k:Nat)(r9:Row):cU F ⟨[],[(9,r9),(hn 5 k,.var 162 [.raw (.slice none 0 0),.raw (.slice none 0 0)]),(hn 3 k,.var 105 (hS p++[aX cO 4 C.ins,aX eI 1 C.entry,.raw (.slice none 0 0),.pt (hn 5 k) 0 0 0,.raw (.slice none 0 0),.raw (.int .i64 0),.raw (.int .i64 0),.raw (.int .i64 0),.raw (.int .i64 0)]))]⟩ F ⟨[],tie (vL p C k) [(9,r9)]⟩:=by
 have n9:∀a,hn a k≠9:=fun a e=>by have:=gA a k;omega
 have nd:∀a b:Nat,a<32->b<32->a≠b->hn a k≠hn b k:=fun a b ha hb h=>cB ha hb h
 have s1:=cU.fl (F:=F) (H:=⟨[],[(9,r9),(hn 5 k,.var 162 [.raw (.slice none 0 0),.raw (.slice none 0 0)]),(hn 3 k,.var 105 (hS p++[aX cO 4 C.ins,aX eI 1 C.entry,.raw (.slice none 0 0),.pt (hn 5 k) 0 0 0,.raw (.slice none 0 0),.raw (.int .i64 0),.raw (.int .i64 0),.raw (.int .i64 0),.raw (.int .i64 0)]))]⟩) (hn 4 k) (hn 3 k) 8 108 1 (t:=105) (cs:=hS p++[aX cO 4 C.ins,aX eI 1 C.entry,.raw (.slice none 0 0),.pt (hn 5 k) 0 0 0,.raw (.slice none 0 0),.raw (.int .i64 0),.raw (.int .i64 0),.raw (.int .i64 0),.raw (.int .i64 0)])
  (by show ak _ _=_;simp only[ak,if_neg (n9 4),if_neg (nd 4 5 jB jB jB),if_neg (nd 4 3 jB jB jB)]) jC (by show ak _ _=_;simp only[ak,if_neg (n9 3),if_neg (nd 3 5 jB jB jB),if_pos]) rfl
 have s2:=cU.fl (F:=F) (H:=(((⟨[],[(9,r9),(hn 5 k,.var 162 [.raw (.slice none 0 0),.raw (.slice none 0 0)]),(hn 3 k,.var 105 (hS p++[aX cO 4 C.ins,aX eI 1 C.entry,.raw (.slice none 0 0),.pt (hn 5 k) 0 0 0,.raw (.slice none 0 0),.raw (.int .i64 0),.raw (.int .i64 0),.raw (.int .i64 0),.raw (.int .i64 0)]))]⟩:Hp).put (hn 4 k) (.aE 108 1 [])).put (hn 3 k) (.var 105 (hS p++[aX cO 4 C.ins,aX eI 1 C.entry,.rs (hn 4 k) 0 1 0,.pt (hn 5 k) 0 0 0,.raw (.slice none 0 0),.raw (.int .i64 0),.raw (.int .i64 0),.raw (.int .i64 0),.raw (.int .i64 0)])))) (hn 8 k) (hn 3 k) 10 9 1 (t:=105) (cs:=hS p++[aX cO 4 C.ins,aX eI 1 C.entry,.rs (hn 4 k) 0 1 0,.pt (hn 5 k) 0 0 0,.raw (.slice none 0 0),.raw (.int .i64 0),.raw (.int .i64 0),.raw (.int .i64 0),.raw (.int .i64 0)])
  (by rw[Hp.aW,if_neg (nd 8 3 jB jB jB),Hp.aW,if_neg (nd 8 4 jB jB jB)];show ak _ _=_;simp only[ak,if_neg (n9 8),if_neg (nd 8 5 jB jB jB),if_neg (nd 8 3 jB jB jB)]) jC (by rw[Hp.aW,if_pos rfl]) rfl
 have s3:=cU.fl (F:=F) (H:=((((((⟨[],[(9,r9),(hn 5 k,.var 162 [.raw (.slice none 0 0),.raw (.slice none 0 0)]),(hn 3 k,.var 105 (hS p++[aX cO 4 C.ins,aX eI 1 C.entry,.raw (.slice none 0 0),.pt (hn 5 k) 0 0 0,.raw (.slice none 0 0),.raw (.int .i64 0),.raw (.int .i64 0),.raw (.int .i64 0),.raw (.int .i64 0)]))]⟩:Hp).put (hn 4 k) (.aE 108 1 [])).put (hn 3 k) (.var 105 (hS p++[aX cO 4 C.ins,aX eI 1 C.entry,.rs (hn 4 k) 0 1 0,.pt (hn 5 k) 0 0 0,.raw (.slice none 0 0),.raw (.int .i64 0),.raw (.int .i64 0),.raw (.int .i64 0),.raw (.int .i64 0)])))).put (hn 8 k) (.aE 9 1 [])).put (hn 3 k) (.var 105 (hS p++[aX cO 4 C.ins,aX eI 1 C.entry,.rs (hn 4 k) 0 1 0,.pt (hn 5 k) 0 0 0,.rs (hn 8 k) 0 1 0,.raw (.int .i64 0),.raw (.int .i64 0),.raw (.int .i64 0),.raw (.int .i64 0)]))))
  (hn 6 k) (hn 5 k) 0 3 1 (t:=162) (cs:=[.raw (.slice none 0 0),.raw (.slice none 0 0)])
  (by rw[Hp.aW,if_neg (nd 6 3 jB jB jB),Hp.aW,if_neg (nd 6 8 jB jB jB),Hp.aW,if_neg (nd 6 3 jB jB jB),Hp.aW,if_neg (nd 6 4 jB jB jB)];show ak _ _=_;simp only[ak,if_neg (n9 6),if_neg (nd 6 5 jB jB jB),if_neg (nd 6 3 jB jB jB)]) jC
  (by rw[Hp.aW,if_neg (nd 5 3 jB jB jB),Hp.aW,if_neg (nd 5 8 jB jB jB),Hp.aW,if_neg (nd 5 3 jB jB jB),Hp.aW,if_neg (nd 5 4 jB jB jB)];show ak _ _=_;simp only[ak,if_neg (n9 5),if_pos]) rfl
 refine s1.trans (s2.trans (s3.trans ?_));refine cU.trans (cU.fl (hn 7 k) (hn 5 k) 1 3 1 (t:=162) (cs:=[.rs (hn 6 k) 0 1 0,.raw (.slice none 0 0)]) ?_ jC ?_ rfl) (cU.perm _ fun i=>?_)
 ·simp only[Hp.aW,if_neg (nd 7 5 jB jB jB),if_neg (nd 7 6 jB jB jB),if_neg (nd 7 3 jB jB jB),if_neg (nd 7 8 jB jB jB),if_neg (nd 7 4 jB jB jB)];show ak _ _=_;simp only[ak,if_neg (n9 7),if_neg (nd 7 5 jB jB jB),if_neg (nd 7 3 jB jB jB)]
 ·rw[Hp.aW,if_pos rfl];rfl
 ·simp only[Hp.put,bz,eD,wX];by_cases a5:i=hn 5 k
  ·simp only[if_pos a5];rfl
  simp only[if_neg a5];by_cases a7:i=hn 7 k
  ·subst a7;simp(disch:=omega) only[go_sem,↓reduceIte]
  simp only[if_neg a7];by_cases a6:i=hn 6 k
  ·subst a6;simp(disch:=omega) only[go_sem,↓reduceIte]
  simp only[if_neg a6];by_cases a3:i=hn 3 k
  ·simp only[if_pos a3];rfl
  simp only[if_neg a3];by_cases a8:i=hn 8 k
  ·subst a8;simp(disch:=omega) only[go_sem,↓reduceIte]
  simp only[if_neg a8];by_cases a4:i=hn 4 k
  ·subst a4;simp(disch:=omega) only[go_sem,↓reduceIte]
  simp only[if_neg a4,ak,if_neg a5,if_neg a3,Option.none_or]
end Go.Gd
namespace Go.Proofs.YtghoellpinmenaaGreatDoor
open Go Go.Gd Tryz
def Om(fn at_ mark:Int)(vs jk slots:List aj)(v:aj)(hL:¬(100000<vs.length+jk.length)):ai prog 109 [.pt 6 0 0 0,rV v] (kE fn at_ mark vs jk slots) (fun r l=>r=.ba []/\l=kE fn at_ mark (vs++[v]) (jk.drop 1) slots):=by
 refine aQ func109 ntmps109 ?_;refine S ?_
 (repeat' (first|refine ax fun K hK=>?_|refine az ?_|(with_reducible refine gR 1 ?_);refine dE 1 (aK 0 11) mixed ?_|(refine hK _ _ ?_;clear hK K)|(refine aw ?_ ?_<;>intro hc<;>try exact jz)|refine dL 9 ?_|refine ou vs jk [v] ?_|(refine fc ?_ ?_<;>intro hc<;>try exact jz)|refine ay ?_|exact jI|(clear hK K)))
 (refine bA [] ?_;try simp only[go_sem])
def Fh(fn at_ mark:Int)(vs jk slots:List aj)(h1:1<=vs.length)(hL:¬(100000<vs.length+jk.length)):ai prog 123 [.pt 6 0 0 0] (kE fn at_ mark vs jk slots) (fun r l=>r=rV (nth vs (vs.length-1))/\l=kE fn at_ mark vs jk slots):=by
 refine aQ func123 ntmps123 ?_;refine S ?_
 (repeat' (first|refine ax fun K hK=>?_|refine az ?_|(with_reducible refine gR 1 ?_);refine dE 1 (aK 0 13) mixed ?_|(refine hK _ _ ?_;clear hK K)|(refine aw ?_ ?_<;>intro hc<;>try exact jz)|refine al 9 ?_|(refine fc ?_ ?_<;>intro hc<;>try exact jz)|refine ay ?_|exact jI|(clear hK K)))
 (refine bA [.cell 2 50] ?_;try simp only[go_sem])
def DW(fn at_ mark:Int)(vs jk slots:List aj)(v:aj)(hL:¬(100000<vs.length+1+jk.length)):ai prog 114 [.pt 6 0 0 0] (kE fn at_ mark (vs++[v]) jk slots) (fun r l=>r=rV v/\l=kE fn at_ mark vs (v::jk) slots):=by
 have QZ:=Fh fn at_ mark (vs++[v]) jk slots jE (by rw[List.length_append,List.length_singleton];omega);rw[show nth (vs++[v]) ((vs++[v]).length-1)=v by simp[nth]]at QZ;have e:(vs++[v])++jk=vs++(v::jk):=jE;have e2:((vs++[v]).length:Int)-1=vs.length:=jE;have e3:(vs++[v]).length=vs.length+1:=jE;have e4:vs.length+(v::jk).length=vs.length+1+jk.length:=by simp only[List.length_cons];omega
 unfold kE at QZ ⊢;rw[e,e3]at QZ ⊢;rw[e4];refine aQ func114 ntmps114 ?_;refine S ?_
 (repeat' (first|refine ax fun K hK=>?_|refine az ?_|(with_reducible refine gR 2 ?_);refine dE 2 (aK 0 15) mixed ?_|(refine hK _ _ ?_;clear hK K)|(refine aw ?_ ?_<;>intro hc<;>try exact jz)|refine al 9 ?_|refine al 10 ?_|refine cm (QZ) ?_|(refine fc ?_ ?_<;>intro hc<;>try exact jz)|refine ay ?_|exact jI|(clear hK K)))
 refine bA [.cell 2 50] rfl (h2:=?_);simp[er,lO]
def Jv(fn at_ mark:Int)(vs jk slots:List aj)(k t:Int)(hk:0<=k/\k<slots.length)(hL:¬(100000<slots.length)):ai prog 113 [.pt 6 0 0 0,rI k,rI t] (kE fn at_ mark vs jk slots) (fun r l=>r=rV (dt slots k t)/\l=kE fn at_ mark vs jk slots):=by
 refine aQ func113 ntmps113 ?_;refine S ?_
 (repeat' (first|refine ax fun K hK=>?_|refine az ?_|(refine hK _ _ ?_;clear hK K)|(refine aw ?_ ?_<;>intro hc<;>try exact jz)|refine al 9 ?_|refine al 10 ?_|refine cp (Bs _) ?_|(first|refine cg (zi _) ?_|refine xk (zi _) ?_)|refine cp (zi _) ?_|(refine fc ?_ ?_<;>intro hc<;>try exact jz)|refine ay ?_|exact jI|(clear hK K)))
 all_goals(refine bA [.cell 6 50] ?_;try simp only[go_sem])
 all_goals(unfold dt;(repeat' split)<;>first|rfl|omega|(exfalso;simp_all;done)|(simp_all;done)|skip)
end Go.Proofs.YtghoellpinmenaaGreatDoor
namespace Go.Proofs.YtghoellpinmenaaGreatDoor
open Go Go.Gd Tryz Go.Gd.MV
section
variable {p:ab}{C:aB}{m:MV}{N:NM}{e:PG}(X:PK)
def rH(hR:bw p C m N e)(h1:1<=m.calls.length)(v:aj)(hb:m.af.stack.length<=1000):j3 prog 109 [cP N,rV v] e X (.ba []) (To p C (m.push v) N):=by have RA:=(hR.af h1).bd;exact hR.cd h1 (c':=m.af.push v) (jk':=N.af.jk.drop 1) (by show(m.af.stack++[v]).length+_<=_;rw[List.length_append,List.length_drop,List.length_singleton];omega) rfl rfl (Om _ _ _ _ _ _ v jB)
def Em(hR:bw p C m N e)(h1:1<=m.calls.length)(hb:1<=m.af.stack.length):j3 prog 114 [cP N] e X (rV m.af.last) (To p C (m.cut 1) N):=by
 have RA:=(hR.af h1).bd;have e1:m.af.stack.take (m.af.stack.length-1)++[m.af.last]=m.af.stack:=by unfold MC.last;rw[dT jB,List.take_append_getElem,show m.af.stack.length-1+1=m.af.stack.length from jB,List.take_length]
 have PW:(m.af.stack.take (m.af.stack.length-1)).length=m.af.stack.length-1:=by rw[List.length_take];omega
 have hc:=DW m.af.fn m.af.at_ m.af.mark (m.af.stack.take (m.af.stack.length-1)) N.af.jk m.af.slots m.af.last (by rw[PW];omega);rw[e1]at hc;have W5:(m.af.cut 1).stack.length+(m.af.last::N.af.jk).length<=2000:=by show(m.af.stack.take (m.af.stack.length-1)).length+_<=_;rw[PW,List.length_cons];omega
 exact hR.cd h1 (c':=m.af.cut 1) W5 rfl rfl hc
def JA(hR:bw p C m N e)(h1:1<=m.calls.length)(hb:1<=m.af.stack.length):cw prog 123 [cP N] e (rV m.af.last) e:=by have RA:=(hR.af h1).bd;exact hR.sa h1 rfl rfl (Fh _ _ _ _ _ _ hb jB)
def yP(hR:bw p C m N e)(h1:1<=m.calls.length)(k t:Int)(hk:0<=k/\k<m.af.slots.length)(hb:m.af.slots.length<=1000):cw prog 113 [cP N,rI k,rI t] e (rV (dt m.af.slots k t)) e:=
 hR.sa h1 rfl rfl (Jv _ _ _ _ _ _ k t hk jB)
def MH(hR:bw p C m N e)(a i:Int)(hl:m.heap.length<=1000)(hf:m.heap.flatten.length<=1000):cw prog 119 [.pt (hn 5 N.k) 0 0 0,rI a,rI i] e (.ba [rI (if i<0\/((MV.aV m.heap a).length:Int)<=i then 0 else nth (MV.aV m.heap a) i.toNat),rI (if i<0\/((MV.aV m.heap a).length:Int)<=i then 2 else 0)]) e:=
 hR.kn rfl rfl (Nr m.heap a i hl hf)
def H4(hR:bw p C m N e)(a:Int)(hl:m.heap.length<=1000)(hf:m.heap.flatten.length<=1000):cw prog 118 [.pt (hn 5 N.k) 0 0 0,rI a] e (rI (MV.aV m.heap a).length) e:=
 hR.kn rfl rfl (Im m.heap a hl hf)
def HD(hR:bw p C m N e)(a i n:Int)(hl:m.heap.length<=1000)(hf:m.heap.flatten.length<=1000)(hi:¬(i<0\/((MV.aV m.heap a).length:Int)<=i)):j3 prog 120 [.pt (hn 5 N.k) 0 0 0,rI a,rI i,rI n] e X (rI 0) (To p C { m with heap:=m.heap.set (a-1).toNat ((nth m.heap (a-1).toNat).set i.toNat n) } N):=
 hR.sc rfl rfl (Jt m.heap a i n hl hf hi)
def Oo(hR:bw p C m N e)(a i n:Int)(hl:m.heap.length<=1000)(hf:m.heap.flatten.length<=1000)(hi:i<0\/((MV.aV m.heap a).length:Int)<=i):cw prog 120 [.pt (hn 5 N.k) 0 0 0,rI a,rI i,rI n] e (rI 2) e:=
 hR.kn rfl rfl (LQ m.heap a i n hl hf hi)
def Ii(hR:bw p C m N e)(n:Int)(h0:0<=n/\n<=16)(hc:fv m.heap+n+1<=40)(Sm:fv m.heap=m.heap.length+m.heap.flatten.length):j3 prog 122 [.pt (hn 5 N.k) 0 0 0,rI n] e X (.ba [rI (m.heap.length+1:Nat),rI 0]) (To p C { m with heap:=m.heap++[List.replicate n.toNat 0] } N):=by obtain⟨k,rfl⟩:∃k:Nat,n=k:=⟨n.toNat,jB⟩;rw[Int.toNat_natCast];exact hR.sc rfl rfl (Nz m.heap k jB jB)
def Hs(hR:bw p C m N e)(n:Int)(h0:n<0\/16<n)(hl:m.heap.length<=40)(hf:m.heap.flatten.length<=40):cw prog 122 [.pt (hn 5 N.k) 0 0 0,rI n] e (.ba [rI 0,rI 7]) e:=
 hR.kn rfl rfl (IJ m.heap n h0 hl hf)
def Iv(hR:bw p C m N e)(n:Int)(h0:0<=n/\n<=16)(hc:40<(m.heap.length:Int)+m.heap.flatten.length+n+1)(hl:m.heap.length<=40)(hf:m.heap.flatten.length<=40):cw prog 122 [.pt (hn 5 N.k) 0 0 0,rI n] e (.ba [rI 0,rI 4]) e:=
 hR.kn rfl rfl (NK m.heap n h0 hc hl hf)
def Ky(hR:bw p C m N e)(h1:1<=m.calls.length):(List.map (fun j=>[AV.pt (hn 0 j) 0 0 0]) (List.map NC.c N.cs)++List.map (fun j=>[AV.pt (hn 0 j) 0 0 0]) N.cj).getD (N.cs.length-1) []=[cP N]:=by have hl:=hR.len;rw[<-List.map_append];rw[List.getD_eq_getElem?_getD,List.getElem?_map,List.getElem?_append_left (by rw[List.length_map];omega),List.getElem?_map,List.getElem?_eq_getElem jB];unfold cP NM.af;rw[dT jB];rfl
def rK(hR:bw p C m N e)(h1:1<=m.calls.length):cw prog 46 [mP N] e (cP N) e:=by
 have PV:=hR.ok.low;have hl:=hR.len;have hb:=hR.bd;have hg:=Ky hR h1;refine⟨?_,hR.ok,hR.ok,fun _ h=>h,by simp only[aS,AV.all,fS hR.root,Bool.and_self]⟩;refine aQ (L:=ids e) func46 ntmps46 ?_ (hL:=rfl);generalize hB:ids e=B;refine dP ?_
 (have W:=jA PV (jA hR.root (jA hR.row (hg)));repeat' (first|refine ax fun K hK=>?_|refine az ?_|(with_reducible refine gR 1 ?_);refine dE 1 (aK 0 13) mixed ?_|(refine hK _ _ ?_;clear hK K)|(refine aw ?_ ?_<;>intro hc<;>try exact jz)|refine ay ?_|exact jI|(clear hK K)))
 exact dW hB hR.ok hR.ok (tl:=[]) (fun _=>rfl) de [.tmp 2]
def D9{N:NM}{n:NC}(h:1<=N.cs.length):(N.aM n).af=n:=by show nth (N.cs.set _ n) ((N.cs.set _ n).length-1)=n;rw[List.length_set,Go.Gd.bI _ _ _ _ jB,if_pos rfl]
def vQ(hR:bw p C m N e)(h1:1<=m.calls.length)(s t:Int):j3 prog 121 [mP N,rI s,rI t] e X (.ba []) (To p C (m.stops s t) N):=by
 have ht:=rK hR h1;have hT:=hR.af h1;have PV:=hR.ok.low;have hl:=hR.len;have Te:bw p C { m with status:=s,bs:=t } N (bf e (hn 3 N.k) (.var 105 (mE p C { m with status:=s,bs:=t } N))):=hR.lD rfl rfl rfl;have QK:=tQ e X 2 0;have XW:=wT e X 2 0;generalize oK (ids e++X)+0=k at QK XW;have T':ak (bf e (hn 3 N.k) (.var 105 (mE p C { m with status:=s,bs:=t } N))) (hn 2 k)=none:=by rw[bz,if_neg (cB jB jB jB)];exact QK
 have i1:=fS hT.dv;have Qr:bw p C (m.stops s t) (N.aM ⟨N.af.c,k,[]⟩) (bf (bf (bf e (hn 3 N.k) (.var 105 (mE p C { m with status:=s,bs:=t } N))) (hn 2 k) (.aE 50 3 [])) (hn 0 N.af.c) (.var 113 (MV.cE m.af.back ⟨N.af.c,k,[]⟩))):=by
  refine Te.aM (c':=m.af.back) (n':=⟨N.af.c,k,[]⟩) h1 rfl ?_ ⟨?_,?_,?_,by show 0+0<=2000;omega⟩ (.inr T') fun j hj n0 n1 n2=>?_
  ·refine(Te.ok.put (.inr (gA _ _)) rfl).put (.inr (gA _ _)) ?_;have j1:=fS (Te.af h1).dv;have q1:=(nD (bf e (hn 3 N.k) (.var 105 (mE p C { m with status:=s,bs:=t } N))) (hn 2 k) (hn 2 k) (.aE 50 3 [])).2 (.inl rfl);have q2:=(nD (bf e (hn 3 N.k) (.var 105 (mE p C { m with status:=s,bs:=t } N))) (hn 2 k) (hn 1 N.af.c) (.aE 50 3 [])).2 (.inr (List.contains_iff_mem.1 j1));rw[<-List.contains_iff_mem]at q1 q2;simp only[Row.cells,MV.cE,aS,AV.all,q1,q2,Bool.or_true,Bool.and_self]
  ·rw[bz,if_pos rfl]
  ·rw[bz,if_neg (cB jB jB jB),bz,if_pos rfl];rfl
  ·rw[bz,if_neg (cB jB jB jB),bz,if_neg (cB jB jB jB)];exact(Te.af h1).dv
  ·rw[bz,if_neg n0,bz,if_neg (fun e'=>by subst e';exact hj T')]
 have hU:Up X e (bf (bf (bf e (hn 3 N.k) (.var 105 (mE p C { m with status:=s,bs:=t } N))) (hn 2 k) (.aE 50 3 [])) (hn 0 N.af.c) (.var 113 (MV.cE m.af.back ⟨N.af.c,k,[]⟩))):=by
  refine((Up.put _ (.inl ?_)).trans (Up.put _ (.inr XW))).trans (Up.put _ (.inl ?_))
  ·rw[hR.root];simp
  ·rw[bz,if_neg (cB jB jB jB),bz,if_neg (cB jB jB jB),hT.var];simp
 refine⟨_,_,⟨Qr,rfl,by rw[D9 jB]⟩,hU,⟨?_,hR.ok,Qr.ok,hU.aT,by simp only[aS,AV.all,fS hR.root,Bool.and_self]⟩⟩;have k2:=Qr.ok;clear Qr hU;generalize hE:bf (bf (bf e (hn 3 N.k) (.var 105 (mE p C { m with status:=s,bs:=t } N))) (hn 2 k) (.aE 50 3 [])) (hn 0 N.af.c) (.var 113 (MV.cE m.af.back ⟨N.af.c,k,[]⟩))=E at k2 ⊢;refine aQ (L:=ids e) func121 ntmps121 ?_ (hL:=rfl);generalize hB:ids e=B;refine dP ?_
 (have W:=jA PV (jA hR.root (hT.var));repeat' (first|refine ax fun K hK=>?_|refine az ?_|(refine hK _ _ ?_;clear hK K)|(refine aw ?_ ?_<;>intro hc<;>try exact jz)|refine cT ht ?_|refine ay ?_|exact jI|(clear hK K)))
 refine C5 hB hR.ok k2 (gL.fl (t:=113) (cs:=[.raw (.slice none 0 0),rI m.af.fn,rI m.af.mark,rI m.af.mark,.rs (hn 1 N.af.c) m.af.slots.length 3 m.af.slots.length]) (hn 2 k) (hn 0 N.af.c) 0 50 3 ?_ jC ?_ rfl) (tl:=[]) (fun i=>?_) de []
 ·show ak (tie _ []) _=_;simp(disch:=first|omega|assumption|fail) only[go_sem,↓reduceIte,QK]
 ·show ak (tie _ []) _=_;simp(disch:=first|omega|assumption|fail) only[go_sem,↓reduceIte,hT.var]
 ·subst hE;simp only[Hp.put,eD,bz,ak,Option.or_none];by_cases a:i=hn 0 N.af.c
  ·rw[if_pos a,if_pos a];rfl
  ·simp only[if_neg a];by_cases b:i=hn 2 k
   ·simp only[if_pos b]
   ·simp only[if_neg b];by_cases c:i=hn 3 N.k
    ·simp only[if_pos c];rfl
    ·simp only[if_neg c]
def vg(hR:bw p C m N e)(h1:1<=m.calls.length)(r:aj×Int)(hb:m.af.stack.length<=1000):j3 prog 115 [mP N,rV r.1,rI r.2] e X (.ba []) (To p C (m.dI r) N):=by
 have ht:=rK hR h1;have PV:=hR.ok.low;have ha:∀v t:AV,v.all dq=true->t.all dq=true->aS (fun i=>(ids e).contains i) [mP N,v,t]=true:=fun v t h h'=>by simp only[aS,AV.all,fS hR.root,Bool.true_and,Bool.and_true];exact Bool.and_eq_true _ _ ▸ ⟨ql (fun _ h=>by cases h) _ h,ql (fun _ h=>by cases h) _ h'⟩
 unfold MV.dI;by_cases h0:r.2≠0
 ·rw[if_pos h0];obtain⟨N',l,hT,hU,hp⟩:=vQ X hR h1 3 r.2;refine⟨N',l,hT,hU,⟨?_,hR.ok,hp.e2,hU.aT,ha _ _ rfl rfl⟩⟩;refine aQ (L:=ids e) func115 ntmps115 ?_ (hL:=rfl);generalize hB:ids e=B;refine dP ?_
  (have W:=PV;repeat' (first|refine ax fun K hK=>?_|refine az ?_|(with_reducible refine gR 3 ?_);refine dQ 3 mixed ?_|(refine hK _ _ ?_;clear hK K)|(refine aw ?_ ?_<;>intro hc<;>try exact jz)|refine dL 9 ?_|refine cT hp ?_|refine ay ?_|exact jI|(clear hK K)))
  exact dW hB hR.ok hp.e2 (fun _=>rfl) (dD jC de) []
 ·rw[if_neg h0];have h0:r.2=0:=jB;obtain⟨N',l,hT,hU,hp⟩:=rH X hR h1 r.1 hb;refine⟨N',l,hT,hU,⟨?_,hR.ok,hp.e2,hU.aT,ha _ _ rfl rfl⟩⟩;refine aQ (L:=ids e) func115 ntmps115 ?_ (hL:=rfl);generalize hB:ids e=B;refine dP ?_
  (have W:=jA PV h0;repeat' (first|refine ax fun K hK=>?_|refine az ?_|(with_reducible refine gR 3 ?_);refine dC 3 ([],[12],[]) [] (aK 0 6) mixed ?_|(refine hK _ _ ?_;clear hK K)|(refine aw ?_ ?_<;>intro hc<;>try exact jz)|refine dL 9 ?_|refine mJ ht ?_|refine cT hp ?_|refine ay ?_|exact jI|(clear hK K)))
  exact dW hB hR.ok hp.e2 (fun _=>rfl) (dD jC de) []
end
section
variable {p:ab}{C:aB}{m:MV}{N:NM}{e:PG}(X:PK)
def ov(hR:bw p C m N e){l:PH}(h:aS dq l=true):aS (fun i=>(ids e).contains i) (mP N::l)=true:=by simp only[aS,AV.all,fS hR.root,Bool.true_and];exact eH (fun _ h=>by cases h) _ h
def Cy(hR:bw p C m N e)(h1:1<=m.calls.length)(v:aj)(hb:∀k,k<m.calls.length->(nth m.calls k).stack.length<=1000):j3 prog 124 [mP N,rV v] e X (.ba []) (fun N' l=>bw p C (m.ends v) N' l/\N'.k=N.k):=by
 have PV:=hR.ok.low;have hl:=hR.len;have VN:=hR.bd;unfold MV.ends;by_cases h2:m.calls.length<=1
 ·rw[if_pos h2];have Qr:bw p C { m.pop with status:=2 } N.pop (bf e (hn 3 N.k) (.var 105 (mE p C { m.pop with status:=2 } N.pop))):=hR.wo h1 rfl rfl rfl;have hU:Up X e (bf e (hn 3 N.k) (.var 105 (mE p C { m.pop with status:=2 } N.pop))):=Up.put _ (.inl (by rw[hR.root];simp));refine⟨_,_,⟨Qr,rfl⟩,hU,⟨?_,hR.ok,Qr.ok,hU.aT,ov hR rfl⟩⟩;have k2:=Qr.ok;clear Qr hU;generalize hE:bf e (hn 3 N.k) (.var 105 (mE p C { m.pop with status:=2 } N.pop))=E at k2 ⊢;refine aQ (L:=ids e) func124 ntmps124 ?_ (hL:=rfl);generalize hB:ids e=B;refine dP ?_
  (have W:=jA PV (hR.root);repeat' (first|refine ax fun K hK=>?_|refine az ?_|(with_reducible refine gR 1 ?_);refine dE 1 (aK 0 15) mixed ?_|(with_reducible refine gR 4 ?_);refine dQ 4 mixed ?_|(refine hK _ _ ?_;clear hK K)|(refine aw ?_ ?_<;>intro hc<;>try exact jz)|refine dL 9 ?_|refine ay ?_|exact jI|(clear hK K)))
  refine dW (tl:=[(9,.var 50 (bG v))]) hB hR.ok k2 (fun i=>?_) (dD jC de) [];subst hE;have e1:N.cs.length=1:=jB;simp only[eD,bz];by_cases a:i=hn 3 N.k
  ·simp only[if_pos a,Option.some_or];unfold mE NM.pop;simp[MV.pop,hS,e1,Nat.add_comm]
  ·simp only[if_neg a]
 ·rw[if_neg h2];have Qr:bw p C m.pop N.pop (bf e (hn 3 N.k) (.var 105 (mE p C m.pop N.pop))):=hR.wo h1 rfl rfl rfl;have eE:bf e (hn 3 N.k) (.var 105 (mE p C m.pop N.pop))=bf e (hn 3 N.k) (.var 105 (hS p++[aX cO 4 C.ins,aX eI 1 C.entry,.rs (hn 4 N.k) (N.cs.length+N.cj.length) 1 (N.cs.length-1),.pt (hn 5 N.k) 0 0 0,.rs (hn 8 N.k) m.aD.length 1 m.aD.length,.raw (.int .i64 m.in_),.raw (.int .i64 m.status),.raw (.int .i64 m.bs),.raw (.int .i64 m.time)])):=by
   unfold mE NM.pop;have:N.cs.length-1+(N.cj.length+1)=N.cs.length+N.cj.length:=jB;simp[MV.pop,this]
  rw[eE]at Qr;have hU:Up X e (bf e (hn 3 N.k) (.var 105 (hS p++[aX cO 4 C.ins,aX eI 1 C.entry,.rs (hn 4 N.k) (N.cs.length+N.cj.length) 1 (N.cs.length-1),.pt (hn 5 N.k) 0 0 0,.rs (hn 8 N.k) m.aD.length 1 m.aD.length,.raw (.int .i64 m.in_),.raw (.int .i64 m.status),.raw (.int .i64 m.bs),.raw (.int .i64 m.time)]))):=Up.put _ (.inl (by rw[hR.root];simp));have p1:1<=m.pop.calls.length:=by show 1<=(m.calls.take _).length;rw[List.length_take];omega
  have ht:=rK Qr p1;have VQ:m.pop.af.stack.length<=1000:=by have:m.pop.af=nth m.calls (m.calls.length-1-1):=MV.p8 jB;rw[this];exact hb _ jB
  obtain⟨N',l,hT,QH,hp⟩:=rH X Qr p1 v VQ;refine⟨N',l,⟨hT.1,hT.2.1⟩,hU.trans QH,⟨?_,hR.ok,hp.e2,(hU.trans QH).aT,ov hR rfl⟩⟩;clear hU QH eE;refine aQ (L:=ids e) func124 ntmps124 ?_ (hL:=rfl);generalize hB:ids e=B;refine dP ?_
  (have W:=jA PV (hR.root);repeat' (first|refine ax fun K hK=>?_|refine az ?_|(with_reducible refine gR 1 ?_);refine dE 1 (aK 0 15) mixed ?_|(with_reducible refine gR 4 ?_);refine dC 4 ([],[28],[]) [] (aK 0 6) mixed ?_|(refine hK _ _ ?_;clear hK K)|(refine aw ?_ ?_<;>intro hc<;>try exact jz)|refine dL 9 ?_|refine mJ ht ?_|refine cT hp ?_|refine ay ?_|exact jI|(clear hK K)))
  exact dW hB hR.ok hp.e2 (fun _=>rfl) (dD jC de) []
structure o7(p:ab)(C:aB)(m:MV)(fn:Int)(args:List aj):Prop where
 f0:0<=fn
 f1:fn<C.entry.length
 f2:fn<p.size.length
 s0:0<=nth p.size fn.toNat
 s1:nth p.size fn.toNat<=24
 s2:(args.length:Int)<=nth p.size fn.toNat
 pu:C.entry.length<=1000/\p.size.length<=1000
 calls:m.calls.length<=8
def B3(hR:bw p C m N e)(fn:Int)(args:List aj)(hk:o7 p C m fn args):j3 prog 43 [mP N,rI fn,aX bG 3 args] e X (.ba []) (fun N' l=>bw p C (m.ci p C fn args) N' l/\N'.k=N.k):=by
 have PV:=hR.ok.low;have hl:=hR.len;have VN:=hR.bd;obtain⟨f0,f1,f2,s0,s1,s2,⟨b1,b2⟩,h8⟩:=hk;have n0:=tQ e X 0 0;have n1:=tQ e X 1 0;have n2:=tQ e X 2 0;have x0:=wT e X 0 0;have x1:=wT e X 1 0;have x2:=wT e X 2 0;generalize oK (ids e++X)+0=k at n0 n1 n2 x0 x1 x2;have Qr:=hR.yD (m':=m.ci p C fn args) (c':=iD p C fn args) (j:=k) jB rfl rfl rfl n0 n1 n2 (by show 0<=2000;omega);have hU:Up X e (mH p C (m.ci p C fn args) N (iD p C fn args) k e):=by
  unfold mH;refine((((Up.put _ (.inr x1)).trans (Up.put _ (.inr x2))).trans (Up.put _ (.inr x0))).trans (Up.put _ (.inl ?_))).trans (Up.put _ (.inl ?_))
  ·rw[bz,if_neg (cB jB jB jB),bz,if_neg (cB jB jB jB),bz,if_neg (cB jB jB jB),hR.row];simp
  ·rw[bz,if_neg (cB jB jB jB),bz,if_neg (cB jB jB jB),bz,if_neg (cB jB jB jB),bz,if_neg (cB jB jB jB),hR.root];simp
 obtain⟨n,Wd⟩:∃n:Nat,nth p.size fn.toNat=(n:Int):=⟨(nth p.size fn.toNat).toNat,jB⟩;refine⟨_,_,⟨Qr,rfl⟩,hU,⟨?_,hR.ok,Qr.ok,hU.aT,ov hR rfl⟩⟩;have k2:=Qr.ok;clear Qr hU;generalize hE:mH p C (m.ci p C fn args) N (iD p C fn args) k e=E at k2 ⊢;have han:args.length<=n:=jB;refine aQ (L:=ids e) func43 ntmps43 ?_ (hL:=rfl);generalize hB:ids e=B;refine dP ?_
 (have W:=jA PV (jA hR.root (jA hR.row (jA Wd (jA n0 (n1)))));repeat' (first|refine ax fun K hK=>?_|refine az ?_|(with_reducible refine gR 0 ?_);refine dC 0 ([],[],[32]) [] (aK 0 29) mixed ?_|(refine hK _ _ ?_;clear hK K)|(refine aw ?_ ?_<;>intro hc<;>try exact jz)|refine dL (hn 0 k) ?_|refine Nc (n:=n) (hn 1 k) ?_|refine Nq ?_ (hd:=by(show ak (tie _ _) _=_;rw[eD,n1,Option.none_or];exact if_pos rfl))|refine pO 10 ?_|refine ou (enc:=fun j=>[.pt (hn 0 j) 0 0 0]) (N.cs.map NC.c) N.cj [k] ?_ (hm:=by rw[List.length_map]) (hn:=by rw[List.length_map])|refine ay ?_|exact jI|(clear hK K)))
 refine C5 (tl:=[(10,.aE 108 1 [[.pt (hn 0 k) 0 0 0]])]) hB hR.ok k2 (gL.fl (t:=113) (cs:=[.raw (.slice none 0 0),rI fn,rI (nth C.entry fn.toNat),rI (nth C.entry fn.toNat),.rs (hn 1 k) n 3 n]) (hn 2 k) (hn 0 k) 0 50 3 ?_ jC ?_ rfl) (fun i=>?_) (dD jC de) []
 ·show ak (tie _ _) _=_;simp(disch:=first|omega|assumption|fail) only[go_sem,↓reduceIte,n2]
 ·show ak (tie _ _) _=_;simp(disch:=first|omega|assumption|fail) only[go_sem,↓reduceIte,n0]
 ·subst hE;have en:((nth p.size fn.toNat)-(args.length:Int)).toNat=n-args.length:=jB;have es:(iD p C fn args).slots.map bG=gX (List.replicate n (bG v0)) 0 (args.map bG):=by
   show(args++List.replicate _ v0).map bG=_;unfold gX;rw[en,List.map_append,List.map_replicate];simp
  have el:(iD p C fn args).slots.length=n:=by show(args++List.replicate _ v0).length=n;rw[en,List.length_append,List.length_replicate];omega
  have q4:hn 4 N.k≠hn 3 N.k:=cB jB jB jB;simp only[mH,Hp.put,eD,bz,es];by_cases a:i=hn 3 N.k
  ·subst a;simp(disch:=first|omega|assumption|fail) only[go_sem,↓reduceIte,NM.mV,List.length_append,List.length_drop,List.length_singleton,MV.ci]
  simp only[if_neg a];by_cases b:i=hn 4 N.k
  ·subst b;simp(disch:=first|omega|assumption|fail) only[go_sem,↓reduceIte,NM.mV,List.map_append,List.append_assoc]
  simp only[if_neg b];by_cases c:i=hn 0 k
  ·subst c;simp(disch:=first|omega|assumption|fail) only[go_sem,↓reduceIte,el];rfl
  simp only[if_neg c];by_cases d:i=hn 2 k
  ·subst d;simp(disch:=first|omega|assumption|fail) only[go_sem,↓reduceIte];rfl
  simp only[if_neg d];by_cases f:i=hn 1 k
  ·subst f;simp(disch:=first|omega|assumption|fail) only[go_sem,↓reduceIte,n1];rfl
  simp only[if_neg f,ak,if_neg c]
end
structure pe(p:ab)(C:aB)(m:MV)(x:aq):Prop where
 calls:1<=m.calls.length
 mw:m.calls.length<=8
 one:x.op=6\/x.op=8\/x.op=9\/x.op=10\/x.op=11\/x.op=13\/x.op=15\/x.op=17\/x.op=18\/x.op=19\/x.op=21\/x.op=23->1<=m.af.stack.length
 two:x.op=7\/x.op=12->2<=m.af.stack.length
 slot:x.op=5\/x.op=6\/x.op=11\/x.op=12->0<=x.a/\x.a<m.af.slots.length
 call:x.op=20->0<=x.b/\x.b<=m.af.stack.length/\(m.calls.length<8->o7 p C m x.a (m.af.stack.drop (m.af.stack.length-x.b.toNat)))
 word:x.op=15->cr m.af.last.n
 jh:∀v∈m.af.stack,v.s.size<=40
 deep:∀k,k<m.calls.length->(nth m.calls k).stack.length<=1000
 slots:m.af.slots.length<=24
 heap:fv m.heap<=40
 outs:m.aD.length<=24
 jw:0<=m.in_
 jY:m.in_<=1000
theorem pe.af{p:ab}{C:aB}{m:MV}{x:aq}(h:pe p C m x):m.af.stack.length<=1000:=h.deep (m.calls.length-1) (by have:=h.calls;omega)
section
variable {p:ab}{C:aB}{m:MV}{N:NM}{e:PG}(X:PK)
def gC(hR:bw p C m N e)(h1:1<=m.calls.length){l:PH}(h:aS dq l=true):aS (fun i=>(ids e).contains i) (mP N::cP N::l)=true:=by simp only[aS,AV.all,fS hR.root,fS (hR.af h1).var,Bool.true_and];exact eH (fun _ h=>by cases h) _ h
def Mp(hR:bw p C m N e)(h1:1<=m.calls.length)(x:aq)(hx:¬(x.op=2\/x.op=3\/x.op=4\/x.op=5)):cw prog 75 [mP N,cP N,.agg (cO x)] e (rB false) e:=by
 have PV:=hR.ok.low;refine⟨?_,hR.ok,hR.ok,fun _ h=>h,gC hR h1 rfl⟩;refine aQ (L:=ids e) func75 ntmps75 ?_ (hL:=rfl);generalize hB:ids e=B;refine dP ?_
 (have W:=PV;repeat' (first|refine ax fun K hK=>?_|refine az ?_|(with_reducible refine gR 4 ?_);refine dE 4 (aK 0 7) mixed ?_|(with_reducible refine gR 6 ?_);refine dE 6 (aK 0 8) mixed ?_|(with_reducible refine gR 8 ?_);refine dE 8 (aK 0 7) mixed ?_|(with_reducible refine gR 10 ?_);refine dE 10 (aK 0 10) mixed ?_|(refine hK _ _ ?_;clear hK K)|(refine aw ?_ ?_<;>intro hc<;>try exact jz)|refine dL 9 ?_|refine ay ?_|exact jI|(clear hK K)))
 exact dW hB hR.ok hR.ok (fun _=>rfl) (dD jC de) [.tmp 6]
def Ma(hR:bw p C m N e)(inp:PJ)(x:aq)(hk:pe p C m x)(hx:x.op=2\/x.op=3\/x.op=4\/x.op=5):j3 prog 75 [mP N,cP N,.agg (cO x)] e X (rB true) (To p C (m.ins p C inp x) N):=by
 have h1:=hk.calls;have PV:=hR.ok.low;have h5:x.op=5->cw prog 113 [cP N,rI x.a,rI x.b] e (rV (dt m.af.slots x.a x.b)) e:=fun h=>yP hR h1 x.a x.b (hk.slot (.inl h)) (by have:=hk.slots;omega)
 have key:∀v:aj,((x.op=2/\v=vI x.a)\/(x.op=3/\v=vB (decide (x.a=1)))\/(x.op=4/\v=vT x.s)\/(x.op=5/\v=dt m.af.slots x.a x.b))->j3 prog 75 [mP N,cP N,.agg (cO x)] e X (rB true) (To p C (m.push v) N):=fun v hv=>by
  obtain⟨N',l,hT,hU,hp⟩:=rH X hR h1 v hk.af;refine⟨N',l,hT,hU,⟨?_,hR.ok,hp.e2,hU.aT,gC hR h1 rfl⟩⟩;refine aQ (L:=ids e) func75 ntmps75 ?_ (hL:=rfl);generalize hB:ids e=B;refine dP ?_;rcases hv with⟨h,rfl⟩|⟨h,rfl⟩|⟨h,rfl⟩|⟨h,rfl⟩
  all_goals
   (have W:=PV;repeat' (first|refine ax fun K hK=>?_|refine az ?_|(with_reducible refine gR 4 ?_);refine dE 4 (aK 0 7) mixed ?_|(with_reducible refine gR 6 ?_);refine dE 6 (aK 0 8) mixed ?_|(with_reducible refine gR 8 ?_);refine dE 8 (aK 0 7) mixed ?_|(with_reducible refine gR 10 ?_);refine dC 10 ([],[47],[]) [] (aK 0 10) mixed ?_|(refine hK _ _ ?_;clear hK K)|(refine aw ?_ ?_<;>intro hc<;>try exact jz)|refine dL 9 ?_|refine cp (sD _) ?_|refine cp (ve _) ?_|refine cp (GS _) ?_|refine mJ (h5 h) ?_|refine cT hp ?_|refine ay ?_|exact jI|(clear hK K)))
  all_goals exact dW hB hR.ok hp.e2 (fun _=>rfl) (dD jC de) [.tmp 6]
 unfold MV.ins;rcases hx with h|h|h|h
 ·have:=key (vI x.a) (.inl ⟨h,rfl⟩);simpa[h]using this
 ·have:=key (vB (decide (x.a=1))) (.inr (.inl ⟨h,rfl⟩));simpa[h]using this
 ·have:=key (vT x.s) (.inr (.inr (.inl ⟨h,rfl⟩)));simpa[h]using this
 ·have:=key (dt m.af.slots x.a x.b) (.inr (.inr (.inr ⟨h,rfl⟩)));simpa[h]using this
end
section
variable {p:ab}{C:aB}{m:MV}{N:NM}{e:PG}(X:PK)
def Mg(hR:bw p C m N e)(h1:1<=m.calls.length)(x:aq)(hx:¬(x.op=16\/x.op=17\/x.op=18\/x.op=19)):cw prog 78 [mP N,cP N,.agg (cO x)] e (rB false) e:=by
 have PV:=hR.ok.low;refine⟨?_,hR.ok,hR.ok,fun _ h=>h,gC hR h1 rfl⟩;refine aQ (L:=ids e) func78 ntmps78 ?_ (hL:=rfl);generalize hB:ids e=B;refine dP ?_
 (have W:=PV;repeat' (first|refine ax fun K hK=>?_|refine az ?_|(with_reducible refine gR 10 ?_);refine dQ 10 mixed ?_|(refine hK _ _ ?_;clear hK K)|(refine aw ?_ ?_<;>intro hc<;>try exact jz)|refine dL 9 ?_|refine ay ?_|exact jI|(clear hK K)))
 exact dW hB hR.ok hR.ok (fun _=>rfl) (dD jC de) [.tmp 6]
def KI(hR:bw p C m N e)(inp:PJ)(x:aq)(hk:pe p C m x)(hx:x.op=16\/x.op=17\/x.op=18\/x.op=19):j3 prog 78 [mP N,cP N,.agg (cO x)] e X (rB true) (To p C (m.ins p C inp x) N):=by
 have h1:=hk.calls;have PV:=hR.ok.low;have hT:=hR.af h1;by_cases Rr:x.op=16
 ·have ei:m.ins p C inp x=m.aM (m.af.jump x.a):=by unfold MV.ins;simp[Rr]
  rw[ei];have Qr:=hR.jq h1 (c':=m.af.jump x.a) rfl rfl;have hU:Up X e (bf e (hn 0 N.af.c) (.var 113 (MV.cE (m.af.jump x.a) N.af))):=Up.put _ (.inl (by rw[hT.var];simp));refine⟨_,_,⟨Qr,rfl,rfl⟩,hU,⟨?_,hR.ok,Qr.ok,hU.aT,gC hR h1 rfl⟩⟩;have k2:=Qr.ok;clear Qr hU;generalize hE:bf e (hn 0 N.af.c) (.var 113 (MV.cE (m.af.jump x.a) N.af))=E at k2 ⊢;refine aQ (L:=ids e) func78 ntmps78 ?_ (hL:=rfl);generalize hB:ids e=B;refine dP ?_
  (have W:=jA PV (hT.var);repeat' (first|refine ax fun K hK=>?_|refine az ?_|(with_reducible refine gR 10 ?_);refine dQ 10 mixed ?_|(refine hK _ _ ?_;clear hK K)|(refine aw ?_ ?_<;>intro hc<;>try exact jz)|refine dL 9 ?_|refine ay ?_|exact jI|(clear hK K)))
  subst hE;exact dW hB hR.ok k2 (fun _=>rfl) (dD jC de) [.tmp 6]
 have RD:=hk.one jB;obtain⟨N1,l1,P2,Qh,QN⟩:=Em X hR h1 RD;have Uf:1<=(m.cut 1).calls.length:=by rw[show(m.cut 1).calls.length=m.calls.length from MV.br _ _];exact h1
 have Qf:=P2.1.ok.low;have R2:=(P2.1.af Uf).var;rw[P2.2.2]at R2;have Qz:=P2.1.jq Uf (c':=(m.cut 1).af.jump x.a) rfl rfl;have QH:Up X l1 (bf l1 (hn 0 N1.af.c) (.var 113 (MV.cE ((m.cut 1).af.jump x.a) N1.af))):=Up.put _ (.inl (by rw[P2.2.2,R2];simp));by_cases XX:x.op=17
 ·by_cases hz:m.af.last.n=0
  ·have ei:m.ins p C inp x=(m.cut 1).aM ((m.cut 1).af.jump x.a):=by
    unfold MV.ins;simp only[XX,hz];unfold MV.cut;rw[MV.dc,MV.bh h1];rfl
   rw[ei];refine⟨_,_,⟨Qz,P2.2.1,P2.2.2⟩,Qh.trans QH,⟨?_,hR.ok,Qz.ok,(Qh.trans QH).aT,gC hR h1 rfl⟩⟩;have k2:=Qz.ok;clear Qz Qh QH;generalize hE:bf l1 (hn 0 N1.af.c) (.var 113 (MV.cE ((m.cut 1).af.jump x.a) N1.af))=E at k2 ⊢;refine aQ (L:=ids e) func78 ntmps78 ?_ (hL:=rfl);generalize hB:ids e=B;refine dP ?_
   (have W:=jA PV (jA Qf (jA R2 (hz)));repeat' (first|refine ax fun K hK=>?_|refine az ?_|(with_reducible refine gR 10 ?_);refine dQ 10 mixed ?_|(refine hK _ _ ?_;clear hK K)|(refine aw ?_ ?_<;>intro hc<;>try exact jz)|refine dL 9 ?_|refine cT QN ?_|refine ay ?_|exact jI|(clear hK K)))
   subst hE;refine dW (tl:=[(9,.var 118 (cO x))]) hB hR.ok k2 (fun i=>?_) (dD jC de) [.tmp 6];have:=P2.2.2;unfold MV.cE;rw[this];rfl
  ·have ei:m.ins p C inp x=m.cut 1:=by unfold MV.ins;simp only[XX];simp[hz]
   rw[ei];refine⟨_,_,P2,Qh,⟨?_,hR.ok,QN.e2,Qh.aT,gC hR h1 rfl⟩⟩;refine aQ (L:=ids e) func78 ntmps78 ?_ (hL:=rfl);generalize hB:ids e=B;refine dP ?_
   (have W:=jA PV Qf;repeat' (first|refine ax fun K hK=>?_|refine az ?_|(with_reducible refine gR 10 ?_);refine dQ 10 mixed ?_|(refine hK _ _ ?_;clear hK K)|(refine aw ?_ ?_<;>intro hc<;>try exact jz)|refine dL 9 ?_|refine cT QN ?_|refine ay ?_|exact jI|(clear hK K)))
   exact dW hB hR.ok QN.e2 (fun _=>rfl) (dD jC de) [.tmp 6]
 have QZ:=JA hR h1 RD;have h2:x.op=18\/x.op=19:=jB;have SZ:m.ins p C inp x=if(m.af.last.n=1<->x.op=19)then m.aM (m.af.jump x.a)else m.cut 1:=by unfold MV.ins;rcases h2 with h|h<;>simp only[h]<;>rfl
 by_cases hj:(m.af.last.n=1<->x.op=19)
 ·have ei:m.ins p C inp x=m.aM (m.af.jump x.a):=by rw[SZ,if_pos hj]
  rw[ei];have TY:=hR.jq h1 (c':=m.af.jump x.a) rfl rfl;have hU:Up X e (bf e (hn 0 N.af.c) (.var 113 (MV.cE (m.af.jump x.a) N.af))):=Up.put _ (.inl (by rw[hT.var];simp));refine⟨_,_,⟨TY,rfl,rfl⟩,hU,⟨?_,hR.ok,TY.ok,hU.aT,gC hR h1 rfl⟩⟩;have k2:=TY.ok;clear TY hU Qz QH Qh;generalize hE:bf e (hn 0 N.af.c) (.var 113 (MV.cE (m.af.jump x.a) N.af))=E at k2 ⊢;have W6:(decide (m.af.last.n=1) == decide (x.op=19))=true:=by by_cases a:m.af.last.n=1<;>by_cases b:x.op=19<;>simp[a,b]at hj ⊢
  refine aQ (L:=ids e) func78 ntmps78 ?_ (hL:=rfl);generalize hB:ids e=B;refine dP ?_;rcases h2 with h|h
  all_goals
   (have W:=jA PV (jA hT.var (W6));repeat' (first|refine ax fun K hK=>?_|refine az ?_|(with_reducible refine gR 10 ?_);refine dC 10 ([],[35],[]) [] (aK 0 10) mixed ?_|(refine hK _ _ ?_;clear hK K)|(refine aw ?_ ?_<;>intro hc<;>try exact jz)|refine dL 9 ?_|refine mJ QZ ?_|refine ay ?_|exact jI|(clear hK K)))
  all_goals
   subst hE;exact dW hB hR.ok k2 (fun _=>rfl) (dD jC de) [.tmp 6]
 ·have ei:m.ins p C inp x=m.cut 1:=by rw[SZ,if_neg hj]
  rw[ei];refine⟨_,_,P2,Qh,⟨?_,hR.ok,QN.e2,Qh.aT,gC hR h1 rfl⟩⟩;have W6:(decide (m.af.last.n=1) == decide (x.op=19))=false:=by by_cases a:m.af.last.n=1<;>by_cases b:x.op=19<;>simp[a,b]at hj ⊢
  refine aQ (L:=ids e) func78 ntmps78 ?_ (hL:=rfl);generalize hB:ids e=B;refine dP ?_;rcases h2 with h|h
  all_goals
   (have W:=jA PV (W6);repeat' (first|refine ax fun K hK=>?_|refine az ?_|(with_reducible refine gR 10 ?_);refine dC 10 ([],[35],[]) [] (aK 0 10) mixed ?_|(refine hK _ _ ?_;clear hK K)|(refine aw ?_ ?_<;>intro hc<;>try exact jz)|refine dL 9 ?_|refine mJ QZ ?_|refine cT QN ?_|refine ay ?_|exact jI|(clear hK K)))
  all_goals exact dW hB hR.ok QN.e2 (fun _=>rfl) (dD jC de) [.tmp 6]
end
end Go.Proofs.YtghoellpinmenaaGreatDoor
namespace Go.Proofs.YtghoellpinmenaaGreatDoor
open Go Go.Gd Tryz
theorem DM:∀h:PI,h.foldl kH (0:Int)=(h.flatten.length:Int)
 |[]=>rfl
 |x::h=>by show h.foldl kH (kH 0 x)=_;rw[mn,DM h,List.flatten_cons,List.length_append];show(0:Int)+(x.length:Int)+_=_;omega
def pL(h:PI):fv h=h.length+h.flatten.length:=by unfold fv;rw[mn,DM]
end Go.Proofs.YtghoellpinmenaaGreatDoor
namespace Go.Proofs.YtghoellpinmenaaGreatDoor
open Go Go.Gd Tryz Go.Gd.MV
section
variable {p:ab}{C:aB}{m:MV}{N:NM}{e:PG}(X:PK)
def vA(hR:bw p C m N e)(h1:1<=m.calls.length)(hb:1<=m.af.stack.length):∃N' l,(To p C (m.cut 1) N N' l/\N'.af.v=N.af.v)/\Up X e l/\cw prog 114 [cP N] e (rV m.af.last) l/\∀C D,Aw ([hn 2 N.af.v,hn 16 N.af.c],C,D) e l:=by
 have ht:=hR.af h1;have RA:=ht.bd;have hl:=hR.len;have e1:m.af.stack.take (m.af.stack.length-1)++[m.af.last]=m.af.stack:=by unfold MC.last;rw[dT jB,List.take_append_getElem,show m.af.stack.length-1+1=m.af.stack.length from jB,List.take_length]
 have PW:(m.af.stack.take (m.af.stack.length-1)).length=m.af.stack.length-1:=by rw[List.length_take];omega
 have hc:=DW m.af.fn m.af.at_ m.af.mark (m.af.stack.take (m.af.stack.length-1)) N.af.jk m.af.slots m.af.last (by rw[PW];omega);rw[e1]at hc;have W5:(m.af.cut 1).stack.length+(m.af.last::N.af.jk).length<=2000:=by show(m.af.stack.take (m.af.stack.length-1)).length+_<=_;rw[PW,List.length_cons];omega
 obtain⟨⟨h2,h3⟩,h4,h5⟩:=hR.mA (X:=X) h1 (c':=m.af.cut 1) W5 rfl rfl hc;refine⟨_,_,⟨⟨h2,rfl,h3⟩,by rw[D9 jB]⟩,h4,h5,fun C D j hj XT=>?_⟩;have R7:j≠hn 2 N.af.v:=fun e'=>by subst e';simp at hj
 unfold kL;by_cases h0:j=hn 0 N.af.c
 ·right
  subst h0;refine⟨by rw[M8];simp,113,_,.rs (hn 2 N.af.v) ((m.af.cut 1).stack.length+(m.af.last::N.af.jk).length) 3 (m.af.cut 1).stack.length,_,ht.var,?_⟩;rw[bz,if_neg (cB jB jB jB),bz,if_neg (cB jB jB jB),bz,if_pos rfl];rfl
 ·left
  rw[bz];by_cases TJ:j=hn 1 N.af.c
  ·rw[if_pos TJ];subst TJ;rw[ht.dv];rfl
  ·rw[if_neg TJ,bz,if_neg R7,bz,if_neg h0]
def Pz(hR:bw p C m N e)(h1:1<=m.calls.length)(x:aq)(hx:¬(x.op=7\/x.op=8\/x.op=9\/x.op=10)):cw prog 76 [mP N,cP N,.agg (cO x)] e (rB false) e:=by
 have PV:=hR.ok.low;refine⟨?_,hR.ok,hR.ok,fun _ h=>h,gC hR h1 rfl⟩;refine aQ (L:=ids e) func76 ntmps76 ?_ (hL:=rfl);generalize hB:ids e=B;refine dP ?_
 (have W:=PV;repeat' (first|refine ax fun K hK=>?_|refine az ?_|(with_reducible refine gR 5 ?_);refine dQ 5 mixed ?_|(with_reducible refine gR 7 ?_);refine dE 7 (aK 0 9) mixed ?_|(with_reducible refine gR 9 ?_);refine dE 9 (aK 0 9) mixed ?_|(with_reducible refine gR 14 ?_);refine dE 14 (aK 0 8) mixed ?_|(with_reducible refine gR 15 ?_);refine dE 15 (aK 0 6) mixed ?_|(refine hK _ _ ?_;clear hK K)|(refine aw ?_ ?_<;>intro hc<;>try exact jz)|refine dL 9 ?_|refine ay ?_|exact jI|(clear hK K)))
 exact dW hB hR.ok hR.ok (fun _=>rfl) (dD jC de) [.tmp 6]
def Fs(h1:1<=m.calls.length)(a b:Nat)(TE:a+b<=m.af.stack.length):(m.cut a).cut b=m.cut (a+b):=by
 unfold MV.cut;rw[MV.dc,MV.bh h1];congr 1
 unfold MC.cut;simp only[List.length_take];rw[Nat.min_eq_left jB,List.take_take,Nat.min_eq_left jB];congr 1
 ·congr 1;omega
 ·omega
def GN(hb:1<=m.af.stack.length):m.af.last∈m.af.stack:=by unfold MC.last;rw[dT jB];exact List.getElem_mem _
def LL(hb:2<=m.af.stack.length):(m.af.cut 1).last∈m.af.stack:=by unfold MC.last MC.cut;simp only[List.length_take];rw[Nat.min_eq_left jB,Go.Gd.MV.fF jB,dT jB];exact List.getElem_mem _
def NO(hR:bw p C m N e)(inp:PJ)(x:aq)(hk:pe p C m x)(hx:x.op=7\/x.op=8\/x.op=9\/x.op=10):j3 prog 76 [mP N,cP N,.agg (cO x)] e X (rB true) (To p C (m.ins p C inp x) N):=by
 have h1:=hk.calls;have PV:=hR.ok.low;have Wn:=hk.af;have Ra:1<=m.af.stack.length:=by
  by_cases h7:x.op=7
  ·have:=hk.two (.inl h7);omega
  ·exact hk.one jB
 obtain⟨N1,l1,⟨P2,R2⟩,Qh,QN,RB⟩:=vA X hR h1 Ra;have Qk:(m.cut 1).calls.length=m.calls.length:=MV.br _ _;have Sk:(m.cut 1).af=m.af.cut 1:=MV.bh h1 _;have W7:(m.cut 1).af.stack.length=m.af.stack.length-1:=by rw[Sk];show(m.af.stack.take _).length=_;rw[List.length_take];omega
 have Qf:=P2.1.ok.low;have eN1:cP N1=cP N:=by unfold cP;rw[P2.2.2]
 have eM1:mP N1=mP N:=by unfold mP;rw[P2.2.1]
 by_cases h7:x.op=7
 ·have h2:=hk.two (.inl h7);rw[DF _ _ _ _ _ h7];obtain⟨N2,l2,⟨QA,R8⟩,QH,Sb,Vb⟩:=vA X P2.1 jB jB;rw[eN1,Sk]at Sb;rw[R2,P2.2.2]at Vb;have ecc:(m.cut 1).cut 1=m.cut 2:=Fs h1 1 1 jB;rw[ecc]at QA;have Ro:=QA.1.ok.low;have UU:(m.cut 2).calls.length=m.calls.length:=MV.br _ _;have XG:(m.cut 2).af.stack.length<=1000:=by rw[show(m.cut 2).af=m.af.cut 2 from MV.bh h1 _];show(m.af.stack.take _).length<=_;rw[List.length_take];omega
  obtain⟨N',l,hT,hU,hp⟩:=vg X QA.1 jB (mz x.s (m.af.cut 1).last m.af.last) XG;rw[show mP N2=mP N by unfold mP;rw[QA.2.1,P2.2.1]]at hp;have W8:=hk.jh _ (GN Ra);have hsz2:=hk.jh _ (LL h2);have Y3:=KX x.s (m.af.cut 1).last m.af.last jB jB;refine⟨N',l,⟨hT.1,hT.2.1.trans (QA.2.1.trans P2.2.1),hT.2.2.trans (QA.2.2.trans P2.2.2)⟩,Qh.trans (QH.trans hU),⟨?_,hR.ok,hp.e2,(Qh.trans (QH.trans hU)).aT,gC hR h1 rfl⟩⟩;refine aQ (L:=ids e) func76 ntmps76 ?_ (hL:=rfl);generalize hB:ids e=B;refine dP ?_
  (have W:=jA PV (jA Qf (Ro));repeat' (first|refine ax fun K hK=>?_|refine az ?_|(with_reducible refine gR 5 ?_);refine qn 5 [hn 2 N.af.v,hn 16 N.af.c] [] [24] [] [0,1,2,3,4,5,7,6,8,9,10,11] mixed ?_|(with_reducible refine gR 7 ?_);refine dE 7 (aK 0 9) mixed ?_|(with_reducible refine gR 9 ?_);refine dE 9 (aK 0 9) mixed ?_|(with_reducible refine gR 14 ?_);refine dE 14 (aK 0 8) mixed ?_|(with_reducible refine gR 15 ?_);refine dE 15 (aK 0 6) mixed ?_|(refine hK _ _ ?_;clear hK K)|(refine aw ?_ ?_<;>intro hc<;>try exact jz)|refine dL 9 ?_|refine ld 10 ?_|refine cT QN ?_|refine oi Sb (Vb _ _) ?_|refine cp (Y3) ?_|refine cT hp ?_|refine ay ?_|exact jI|(clear hK K)))
  exact dW hB hR.ok hp.e2 (fun _=>rfl) (dD jC (dD jC de)) [.tmp 6]
 by_cases Y4:x.op=10
 ·rw[FM _ _ _ _ _ Y4];have W8:=hk.jh _ (GN Ra);have Sm:=hk.heap;rw[pL]at Sm;have Qa:=H4 P2.1 m.af.last.n (by show m.heap.length<=1000;omega) (by show m.heap.flatten.length<=1000;omega);have Vc:=P2.1.root;rw[P2.2.1]at Vc Qa;by_cases Sj:m.af.last.ty=4
  ·rw[if_pos Sj];obtain⟨N',l,hT,hU,hp⟩:=rH X P2.1 jB (vI (aV m.heap m.af.last.n).length) jB;rw[eN1]at hp;refine⟨N',l,⟨hT.1,hT.2.1.trans P2.2.1,hT.2.2.trans P2.2.2⟩,Qh.trans hU,⟨?_,hR.ok,hp.e2,(Qh.trans hU).aT,gC hR h1 rfl⟩⟩;refine aQ (L:=ids e) func76 ntmps76 ?_ (hL:=rfl);generalize hB:ids e=B;refine dP ?_
   (have W:=jA PV (jA Qf (jA Vc (P2.2.1)));repeat' (first|refine ax fun K hK=>?_|refine az ?_|(with_reducible refine gR 5 ?_);refine dQ 5 mixed ?_|(with_reducible refine gR 7 ?_);refine dE 7 (aK 0 9) mixed ?_|(with_reducible refine gR 9 ?_);refine dE 9 (aK 0 9) mixed ?_|(with_reducible refine gR 14 ?_);refine dC 14 ([],[70],[]) [] (aK 0 8) mixed ?_|(with_reducible refine gR 15 ?_);refine dE 15 (aK 0 6) mixed ?_|(refine hK _ _ ?_;clear hK K)|(refine aw ?_ ?_<;>intro hc<;>try exact jz)|refine dL 9 ?_|refine ld 10 ?_|refine mJ Qa ?_|refine cT QN ?_|refine cp (sD _) ?_|refine cT hp ?_|refine ay ?_|exact jI|(clear hK K)))
   exact dW hB hR.ok hp.e2 (fun _=>rfl) (dD jC (dD jC de)) [.tmp 6]
  ·rw[if_neg Sj];obtain⟨N',l,hT,hU,hp⟩:=rH X P2.1 jB (vI m.af.last.s.size) jB;rw[eN1]at hp;refine⟨N',l,⟨hT.1,hT.2.1.trans P2.2.1,hT.2.2.trans P2.2.2⟩,Qh.trans hU,⟨?_,hR.ok,hp.e2,(Qh.trans hU).aT,gC hR h1 rfl⟩⟩;refine aQ (L:=ids e) func76 ntmps76 ?_ (hL:=rfl);generalize hB:ids e=B;refine dP ?_
   (have W:=jA PV Qf;repeat' (first|refine ax fun K hK=>?_|refine az ?_|(with_reducible refine gR 5 ?_);refine dQ 5 mixed ?_|(with_reducible refine gR 7 ?_);refine dE 7 (aK 0 9) mixed ?_|(with_reducible refine gR 9 ?_);refine dE 9 (aK 0 9) mixed ?_|(with_reducible refine gR 14 ?_);refine dC 14 ([],[70],[]) [] (aK 0 8) mixed ?_|(with_reducible refine gR 15 ?_);refine dE 15 (aK 0 6) mixed ?_|(refine hK _ _ ?_;clear hK K)|(refine aw ?_ ?_<;>intro hc<;>try exact jz)|refine dL 9 ?_|refine ld 10 ?_|refine cT QN ?_|refine cp (sD _) ?_|refine cT hp ?_|refine ay ?_|exact jI|(clear hK K)))
   exact dW hB hR.ok hp.e2 (fun _=>rfl) (dD jC (dD jC de)) [.tmp 6]
 have key:∀g:PL,((x.op=8/\g=(⟨#[45]⟩:PL))\/(x.op=9/\g=(⟨#[33]⟩:PL)))->j3 prog 76 [mP N,cP N,.agg (cO x)] e X (rB true) (To p C ((m.cut 1).push (jV g m.af.last)) N):=fun g hg=>by
  obtain⟨N',l,hT,hU,hp⟩:=rH X P2.1 jB (jV g m.af.last) jB;rw[eN1]at hp;refine⟨N',l,⟨hT.1,hT.2.1.trans P2.2.1,hT.2.2.trans P2.2.2⟩,Qh.trans hU,⟨?_,hR.ok,hp.e2,(Qh.trans hU).aT,gC hR h1 rfl⟩⟩;refine aQ (L:=ids e) func76 ntmps76 ?_ (hL:=rfl);generalize hB:ids e=B;refine dP ?_;rcases hg with⟨h,rfl⟩|⟨h,rfl⟩
  all_goals
   (have W:=jA PV Qf;repeat' (first|refine ax fun K hK=>?_|refine az ?_|(with_reducible refine gR 5 ?_);refine dQ 5 mixed ?_|(with_reducible refine gR 7 ?_);refine dE 7 (aK 0 9) mixed ?_|(with_reducible refine gR 9 ?_);refine dE 9 (aK 0 9) mixed ?_|(with_reducible refine gR 14 ?_);refine dE 14 (aK 0 8) mixed ?_|(with_reducible refine gR 15 ?_);refine dE 15 (aK 0 6) mixed ?_|(refine hK _ _ ?_;clear hK K)|(refine aw ?_ ?_<;>intro hc<;>try exact jz)|refine dL 9 ?_|refine cT QN ?_|refine cp (LB _ _) ?_|refine cT hp ?_|refine ay ?_|exact jI|(clear hK K)))
  all_goals exact dW hB hR.ok hp.e2 (fun _=>rfl) (dD jC de) [.tmp 6]
 by_cases h8:x.op=8
 ·rw[CQ _ _ _ _ _ h8];exact key _ (.inl ⟨h8,rfl⟩)
 ·have h9:x.op=9:=jB;rw[Dl _ _ _ _ _ h9];exact key _ (.inr ⟨h9,rfl⟩)
end
section
variable {p:ab}{C:aB}{m:MV}{N:NM}{e:PG}(X:PK)
def MK(hR:bw p C m N e)(h1:1<=m.calls.length)(x:aq)(hx:¬(x.op=6\/x.op=23\/x.op=11\/x.op=12\/x.op=13)):cw prog 77 [mP N,cP N,.agg (cO x)] e (rB false) e:=by
 have PV:=hR.ok.low;refine⟨?_,hR.ok,hR.ok,fun _ h=>h,gC hR h1 rfl⟩;refine aQ (L:=ids e) func77 ntmps77 ?_ (hL:=rfl);generalize hB:ids e=B;refine dP ?_
 (have W:=PV;repeat' (first|refine ax fun K hK=>?_|refine az ?_|(with_reducible refine gR 4 ?_);refine dQ 4 mixed ?_|(with_reducible refine gR 8 ?_);refine dQ 8 mixed ?_|(with_reducible refine gR 12 ?_);refine dQ 12 mixed ?_|(with_reducible refine gR 16 ?_);refine dQ 16 mixed ?_|(refine hK _ _ ?_;clear hK K)|(refine aw ?_ ?_<;>intro hc<;>try exact jz)|refine dL 9 ?_|refine ay ?_|exact jI|(clear hK K)))
 exact dW hB hR.ok hR.ok (fun _=>rfl) (dD jC de) [.tmp 6]
def OK(hR:bw p C m N e)(inp:PJ)(x:aq)(hk:pe p C m x)(hx:x.op=6\/x.op=23\/x.op=11\/x.op=12\/x.op=13):j3 prog 77 [mP N,cP N,.agg (cO x)] e X (rB true) (To p C (m.ins p C inp x) N):=by
 have h1:=hk.calls;have PV:=hR.ok.low;have Wn:=hk.af;have hT:=hR.af h1;have Ra:1<=m.af.stack.length:=by
  by_cases T9:x.op=12
  ·have:=hk.two (.inr T9);omega
  ·exact hk.one jB
 obtain⟨N1,l1,⟨P2,R2⟩,Qh,QN,RB⟩:=vA X hR h1 Ra;have Qk:(m.cut 1).calls.length=m.calls.length:=MV.br _ _;have Sk:(m.cut 1).af=m.af.cut 1:=MV.bh h1 _;have W7:(m.cut 1).af.stack.length=m.af.stack.length-1:=by rw[Sk];show(m.af.stack.take _).length=_;rw[List.length_take];omega
 have Qf:=P2.1.ok.low;have eN1:cP N1=cP N:=by unfold cP;rw[P2.2.2]
 have eM1:mP N1=mP N:=by unfold mP;rw[P2.2.1]
 have Sm:=hk.heap;rw[pL]at Sm;have Vc:=P2.1.root;rw[P2.2.1]at Vc;by_cases Y5:x.op=23
 ·rw[Fz _ _ _ _ _ Y5];refine⟨N1,l1,P2,Qh,⟨?_,hR.ok,QN.e2,Qh.aT,gC hR h1 rfl⟩⟩;refine aQ (L:=ids e) func77 ntmps77 ?_ (hL:=rfl);generalize hB:ids e=B;refine dP ?_
  (have W:=jA PV Qf;repeat' (first|refine ax fun K hK=>?_|refine az ?_|(with_reducible refine gR 4 ?_);refine dQ 4 mixed ?_|(with_reducible refine gR 8 ?_);refine dQ 8 mixed ?_|(with_reducible refine gR 12 ?_);refine dQ 12 mixed ?_|(with_reducible refine gR 16 ?_);refine dQ 16 mixed ?_|(refine hK _ _ ?_;clear hK K)|(refine aw ?_ ?_<;>intro hc<;>try exact jz)|refine dL 9 ?_|refine cT QN ?_|refine ay ?_|exact jI|(clear hK K)))
  exact dW hB hR.ok QN.e2 (fun _=>rfl) (dD jC de) [.tmp 6]
 by_cases h6:x.op=6
 ·rw[C8 _ _ _ _ _ h6];have Q0:=hk.slot jB;have hss:=hk.slots;have Qz:=P2.1.ri jB (m.af.slots.set x.a.toNat m.af.last) (by rw[List.length_set,Sk];rfl);have em:(m.cut 1).aM { (m.cut 1).af with slots:=m.af.slots.set x.a.toNat m.af.last }=m.aM { m.af.cut 1 with slots:=m.af.slots.set x.a.toNat m.af.last }:=by
   rw[Sk];unfold MV.cut;rw[MV.dc]
  rw[em]at Qz;have Tv:=(P2.1.af jB).dv;rw[P2.2.2,Sk]at Tv;have Tv:ak l1 (hn 1 N.af.c)=some (.aE 50 3 (m.af.slots.map bG)):=Tv;rw[P2.2.2]at Qz;have QH:Up X l1 (bf l1 (hn 1 N.af.c) (.aE 50 3 ((m.af.slots.set x.a.toNat m.af.last).map bG))):=Up.put _ (.inl (by rw[Tv];simp));refine⟨N1,_,⟨Qz,P2.2.1,P2.2.2⟩,Qh.trans QH,⟨?_,hR.ok,Qz.ok,(Qh.trans QH).aT,gC hR h1 rfl⟩⟩;have k2:=Qz.ok;clear Qz QH Qh em;generalize hE:bf l1 (hn 1 N.af.c) (.aE 50 3 ((m.af.slots.set x.a.toNat m.af.last).map bG))=E at k2 ⊢;refine aQ (L:=ids e) func77 ntmps77 ?_ (hL:=rfl);generalize hB:ids e=B;refine dP ?_
  (have W:=jA PV (jA Qf (jA hT.var (Tv)));repeat' (first|refine ax fun K hK=>?_|refine az ?_|(with_reducible refine gR 4 ?_);refine qn 4 [hn 2 N.af.v,hn 16 N.af.c] [] [26,1000000] [] (aK 0 12) mixed ?_|(with_reducible refine gR 8 ?_);refine dQ 8 mixed ?_|(with_reducible refine gR 12 ?_);refine dQ 12 mixed ?_|(with_reducible refine gR 16 ?_);refine dQ 16 mixed ?_|(refine hK _ _ ?_;clear hK K)|(refine aw ?_ ?_<;>intro hc<;>try exact jz)|refine dL 9 ?_|refine oi QN (RB _ _) ?_|refine ay ?_|exact jI|(clear hK K)))
  subst hE;refine dW (tl:=[(9,.var 118 (cO x))]) hB hR.ok k2 (fun i=>?_) (dD jC de) [.tmp 6];rw[List.map_set];rfl
 by_cases Uf:x.op=11
 ·rw[FD _ _ _ _ _ Uf];have Q0:=hk.slot jB;have Ru:=yP hR h1 x.a 4 Q0 (by have:=hk.slots;omega);have Vd:=MH P2.1 (dt m.af.slots x.a 4).n m.af.last.n (by show m.heap.length<=1000;omega) (by show m.heap.flatten.length<=1000;omega);rw[P2.2.1]at Vd;have Vd:cw prog 119 [.pt (hn 5 N.k) 0 0 0,rI (dt m.af.slots x.a 4).n,rI m.af.last.n] l1 (.ba [rI (if m.af.last.n<0\/((aV m.heap (dt m.af.slots x.a 4).n).length:Int)<=m.af.last.n then 0 else nth (aV m.heap (dt m.af.slots x.a 4).n) m.af.last.n.toNat),rI (if m.af.last.n<0\/((aV m.heap (dt m.af.slots x.a 4).n).length:Int)<=m.af.last.n then 2 else 0)]) l1:=Vd;have eg:(if m.af.last.n<0\/((aV m.heap (dt m.af.slots x.a 4).n).length:Int)<=m.af.last.n then(m.cut 1).stops 3 2 else(m.cut 1).push (vI (nth (aV m.heap (dt m.af.slots x.a 4).n) m.af.last.n.toNat)))=(m.cut 1).dI (vI (if m.af.last.n<0\/((aV m.heap (dt m.af.slots x.a 4).n).length:Int)<=m.af.last.n then 0 else nth (aV m.heap (dt m.af.slots x.a 4).n) m.af.last.n.toNat),if m.af.last.n<0\/((aV m.heap (dt m.af.slots x.a 4).n).length:Int)<=m.af.last.n then 2 else 0):=by
   unfold MV.dI;split
   ·rename_i h;simp only[if_pos h];rfl
   ·rename_i h;simp only[if_neg h];rfl
  rw[eg];generalize (if m.af.last.n<0\/((aV m.heap (dt m.af.slots x.a 4).n).length:Int)<=m.af.last.n then(0:Int)else nth (aV m.heap (dt m.af.slots x.a 4).n) m.af.last.n.toNat)=gn at Vd ⊢;generalize (if m.af.last.n<0\/((aV m.heap (dt m.af.slots x.a 4).n).length:Int)<=m.af.last.n then(2:Int)else 0)=gt at Vd ⊢;obtain⟨N',l,QA,hU,hp⟩:=vg X P2.1 jB (vI gn,gt) jB;rw[eM1]at hp;refine⟨N',l,⟨QA.1,QA.2.1.trans P2.2.1,QA.2.2.trans P2.2.2⟩,Qh.trans hU,⟨?_,hR.ok,hp.e2,(Qh.trans hU).aT,gC hR h1 rfl⟩⟩;refine aQ (L:=ids e) func77 ntmps77 ?_ (hL:=rfl);generalize hB:ids e=B;refine dP ?_
  (have W:=jA PV (jA Qf (hR.root));repeat' (first|refine ax fun K hK=>?_|refine az ?_|(with_reducible refine gR 4 ?_);refine dQ 4 mixed ?_|(with_reducible refine gR 8 ?_);refine qn 8 [hn 2 N.af.v,hn 16 N.af.c] [44,51] [49] [] (aK 0 20) mixed ?_|(with_reducible refine gR 12 ?_);refine dQ 12 mixed ?_|(with_reducible refine gR 16 ?_);refine dQ 16 mixed ?_|(refine hK _ _ ?_;clear hK K)|(refine aw ?_ ?_<;>intro hc<;>try exact jz)|refine dL 9 ?_|refine mJ Ru ?_|refine oi QN (RB _ _) ?_|refine mJ Vd ?_|refine cp (sD _) ?_|refine cT hp ?_|refine ay ?_|exact jI|(clear hK K)))
  exact dW hB hR.ok hp.e2 (fun _=>rfl) (dD jC de) [.tmp 6]
 by_cases Y6:x.op=13
 ·rw[Fo _ _ _ _ _ Y6];by_cases c1:m.af.last.n<0\/16<m.af.last.n
  ·rw[if_pos c1];have Tf:=Hs P2.1 m.af.last.n c1 (by show m.heap.length<=40;omega) (by show m.heap.flatten.length<=40;omega);rw[P2.2.1]at Tf;obtain⟨N',l,QA,hU,hp⟩:=vg X P2.1 jB (⟨4,0,sE⟩,7) jB;rw[eM1]at hp;refine⟨N',l,⟨QA.1,QA.2.1.trans P2.2.1,QA.2.2.trans P2.2.2⟩,Qh.trans hU,⟨?_,hR.ok,hp.e2,(Qh.trans hU).aT,gC hR h1 rfl⟩⟩;refine aQ (L:=ids e) func77 ntmps77 ?_ (hL:=rfl);generalize hB:ids e=B;refine dP ?_
   (have W:=jA PV (jA Qf (hR.root));repeat' (first|refine ax fun K hK=>?_|refine az ?_|(with_reducible refine gR 4 ?_);refine dQ 4 mixed ?_|(with_reducible refine gR 8 ?_);refine dQ 8 mixed ?_|(with_reducible refine gR 12 ?_);refine dQ 12 mixed ?_|(with_reducible refine gR 16 ?_);refine qn 16 [hn 2 N.af.v,hn 16 N.af.c] [] [97] [] (aK 0 15) mixed ?_|(refine hK _ _ ?_;clear hK K)|(refine aw ?_ ?_<;>intro hc<;>try exact jz)|refine dL 9 ?_|refine oi QN (RB _ _) ?_|refine cT Tf ?_|refine cT hp ?_|refine ay ?_|exact jI|(clear hK K)))
   exact dW hB hR.ok hp.e2 (fun _=>rfl) (dD jC de) [.tmp 6]
  rw[if_neg c1];by_cases c2:40<fv m.heap+m.af.last.n+1
  ·rw[if_pos c2];have Tf:=Iv P2.1 m.af.last.n jB (by show 40<(m.heap.length:Int)+m.heap.flatten.length+m.af.last.n+1;rw[pL]at c2;omega) (by show m.heap.length<=40;omega) (by show m.heap.flatten.length<=40;omega);rw[P2.2.1]at Tf;obtain⟨N',l,QA,hU,hp⟩:=vg X P2.1 jB (⟨4,0,sE⟩,4) jB;rw[eM1]at hp;refine⟨N',l,⟨QA.1,QA.2.1.trans P2.2.1,QA.2.2.trans P2.2.2⟩,Qh.trans hU,⟨?_,hR.ok,hp.e2,(Qh.trans hU).aT,gC hR h1 rfl⟩⟩;refine aQ (L:=ids e) func77 ntmps77 ?_ (hL:=rfl);generalize hB:ids e=B;refine dP ?_
   (have W:=jA PV (jA Qf (hR.root));repeat' (first|refine ax fun K hK=>?_|refine az ?_|(with_reducible refine gR 4 ?_);refine dQ 4 mixed ?_|(with_reducible refine gR 8 ?_);refine dQ 8 mixed ?_|(with_reducible refine gR 12 ?_);refine dQ 12 mixed ?_|(with_reducible refine gR 16 ?_);refine qn 16 [hn 2 N.af.v,hn 16 N.af.c] [] [97] [] (aK 0 15) mixed ?_|(refine hK _ _ ?_;clear hK K)|(refine aw ?_ ?_<;>intro hc<;>try exact jz)|refine dL 9 ?_|refine oi QN (RB _ _) ?_|refine cT Tf ?_|refine cT hp ?_|refine ay ?_|exact jI|(clear hK K)))
   exact dW hB hR.ok hp.e2 (fun _=>rfl) (dD jC de) [.tmp 6]
  rw[if_neg c2];obtain⟨N2,l2,QA,QH,Tf⟩:=Ii X P2.1 m.af.last.n jB (by show fv m.heap+_+1<=40;omega) (pL _);rw[P2.2.1]at Tf;have Tf:cw prog 122 [.pt (hn 5 N.k) 0 0 0,rI m.af.last.n] l1 (.ba [rI (m.heap.length+1:Nat),rI 0]) l2:=Tf;obtain⟨N',l,Ug,Wo,hp⟩:=rH X QA.1 (by show 1<=(m.cut 1).calls.length;omega) ⟨4,m.heap.length+1,sE⟩ (by show(m.cut 1).af.stack.length<=1000;omega);obtain⟨N'',l',W9,XY,Wp⟩:=vg X QA.1 (by show 1<=(m.cut 1).calls.length;omega) (⟨4,m.heap.length+1,sE⟩,0) (by show(m.cut 1).af.stack.length<=1000;omega);rw[show mP N2=mP N by unfold mP;rw[QA.2.1,P2.2.1]]at Wp;have Ro:=QA.1.ok.low;refine⟨N'',l',⟨W9.1,W9.2.1.trans (QA.2.1.trans P2.2.1),W9.2.2.trans (QA.2.2.trans P2.2.2)⟩,Qh.trans (QH.trans XY),⟨?_,hR.ok,Wp.e2,(Qh.trans (QH.trans XY)).aT,gC hR h1 rfl⟩⟩;refine aQ (L:=ids e) func77 ntmps77 ?_ (hL:=rfl);generalize hB:ids e=B;refine dP ?_
  (have W:=jA PV (jA Qf (jA Ro (hR.root)));repeat' (first|refine ax fun K hK=>?_|refine az ?_|(with_reducible refine gR 4 ?_);refine dQ 4 mixed ?_|(with_reducible refine gR 8 ?_);refine dQ 8 mixed ?_|(with_reducible refine gR 12 ?_);refine dQ 12 mixed ?_|(with_reducible refine gR 16 ?_);refine qn 16 [hn 2 N.af.v,hn 16 N.af.c] [] [97] [] (aK 0 15) mixed ?_|(refine hK _ _ ?_;clear hK K)|(refine aw ?_ ?_<;>intro hc<;>try exact jz)|refine dL 9 ?_|refine oi QN (RB _ _) ?_|refine cT Tf ?_|refine cT Wp ?_|refine ay ?_|exact jI|(clear hK K)))
  exact dW hB hR.ok Wp.e2 (fun _=>rfl) (dD jC de) [.tmp 6]
 have T9:x.op=12:=jB;rw[BQ _ _ _ _ _ T9];have h2:=hk.two (.inr T9);have Q0:=hk.slot jB;have Ru:=yP P2.1 jB x.a 4 (by rw[Sk];exact Q0) (by rw[Sk];have:=hk.slots;show m.af.slots.length<=1000;omega);rw[eN1,Sk]at Ru;have Ru:cw prog 113 [cP N,rI x.a,rI 4] l1 (rV (dt m.af.slots x.a 4)) l1:=Ru;obtain⟨N2,l2,⟨QA,R8⟩,QH,Sb,Vb⟩:=vA X P2.1 jB jB;rw[eN1,Sk]at Sb;rw[R2,P2.2.2]at Vb;have ecc:(m.cut 1).cut 1=m.cut 2:=Fs h1 1 1 jB;rw[ecc]at QA;have Ro:=QA.1.ok.low;have UU:(m.cut 2).calls.length=m.calls.length:=MV.br _ _;have ek:N2.k=N.k:=QA.2.1.trans P2.2.1;by_cases hi:(m.af.cut 1).last.n<0\/((aV m.heap (dt m.af.slots x.a 4).n).length:Int)<=(m.af.cut 1).last.n
 ·rw[if_pos hi];have TF:=Oo QA.1 (dt m.af.slots x.a 4).n (m.af.cut 1).last.n m.af.last.n (by show m.heap.length<=1000;omega) (by show m.heap.flatten.length<=1000;omega) hi;rw[ek]at TF;obtain⟨N',l,Ug,hU,hp⟩:=vQ X QA.1 jB 3 2;rw[show mP N2=mP N by unfold mP;rw[ek]]at hp;refine⟨N',l,⟨Ug.1,Ug.2.1.trans ek,Ug.2.2.trans (QA.2.2.trans P2.2.2)⟩,Qh.trans (QH.trans hU),⟨?_,hR.ok,hp.e2,(Qh.trans (QH.trans hU)).aT,gC hR h1 rfl⟩⟩;refine aQ (L:=ids e) func77 ntmps77 ?_ (hL:=rfl);generalize hB:ids e=B;refine dP ?_
  (have W:=jA PV (jA Qf (jA Ro (jA Vc (P2.2.1))));repeat' (first|refine ax fun K hK=>?_|refine az ?_|(with_reducible refine gR 4 ?_);refine dQ 4 mixed ?_|(with_reducible refine gR 8 ?_);refine dQ 8 mixed ?_|(with_reducible refine gR 12 ?_);refine qn 12 [hn 2 N.af.v,hn 16 N.af.c] [73] [78] [] [0,1,2,3,4,5,6,7,8,9,10,11,14,12,13,15,16] mixed ?_|(with_reducible refine gR 16 ?_);refine dQ 16 mixed ?_|(refine hK _ _ ?_;clear hK K)|(refine aw ?_ ?_<;>intro hc<;>try exact jz)|refine dL 9 ?_|refine cT QN ?_|refine mJ Ru ?_|refine oi Sb (Vb _ _) ?_|refine cT TF ?_|refine cT hp ?_|refine ay ?_|exact jI|(clear hK K)))
  exact dW hB hR.ok hp.e2 (fun _=>rfl) (dD jC de) [.tmp 6]
 ·rw[if_neg hi];obtain⟨N',l,Ug,hU,hp⟩:=HD X QA.1 (dt m.af.slots x.a 4).n (m.af.cut 1).last.n m.af.last.n (by show m.heap.length<=1000;omega) (by show m.heap.flatten.length<=1000;omega) hi;rw[ek]at hp;refine⟨N',l,⟨Ug.1,Ug.2.1.trans ek,Ug.2.2.trans (QA.2.2.trans P2.2.2)⟩,Qh.trans (QH.trans hU),⟨?_,hR.ok,hp.e2,(Qh.trans (QH.trans hU)).aT,gC hR h1 rfl⟩⟩;refine aQ (L:=ids e) func77 ntmps77 ?_ (hL:=rfl);generalize hB:ids e=B;refine dP ?_
  (have W:=jA PV (jA Qf (jA Ro (jA Vc (P2.2.1))));repeat' (first|refine ax fun K hK=>?_|refine az ?_|(with_reducible refine gR 4 ?_);refine dQ 4 mixed ?_|(with_reducible refine gR 8 ?_);refine dQ 8 mixed ?_|(with_reducible refine gR 12 ?_);refine qn 12 [hn 2 N.af.v,hn 16 N.af.c] [73] [78] [] [0,1,2,3,4,5,6,7,8,9,10,11,14,12,13,15,16] mixed ?_|(with_reducible refine gR 16 ?_);refine dQ 16 mixed ?_|(refine hK _ _ ?_;clear hK K)|(refine aw ?_ ?_<;>intro hc<;>try exact jz)|refine dL 9 ?_|refine cT QN ?_|refine mJ Ru ?_|refine oi Sb (Vb _ _) ?_|refine cT hp ?_|refine ay ?_|exact jI|(clear hK K)))
  exact dW hB hR.ok hp.e2 (fun _=>rfl) (dD jC de) [.tmp 6]
end
end Go.Proofs.YtghoellpinmenaaGreatDoor
namespace Go.Proofs.YtghoellpinmenaaGreatDoor
open Go Go.Gd Tryz
def BC(l:List PL)(hl:l.length<=1000)(i:Nat):ai prog 48 [aX eS 1 l] [] (fun r l'=>r=.rs i l.length 1 l.length/\l'=[(i,.aE 9 1 (l.map eS))]):=by
 refine aQ func48 ntmps48 ?_
 (repeat' (first|refine ax fun K hK=>?_|refine az ?_|(refine hK _ _ ?_;clear hK K)|(refine aw ?_ ?_<;>intro hc<;>try exact jz)|(with_reducible refine fun(b:Bool) hb=>?_)|refine pO i ?_|refine ay ?_|exact jI|(clear hK K)))
 ·have QX:l=[]:=by simpa using hb hc
  subst QX;exact zq i 9 1 jC [.tmp 2] rfl rfl trivial
 ·(refine bQ [.tmp 2] ?_ ?_<;>(try simp only[go_sem]))
def wv(l:List (aj))(hl:l.length<=1000)(i:Nat):ai prog 49 [aX bG 3 l] [] (fun r l'=>r=.rs i l.length 3 l.length/\l'=[(i,.aE 50 3 (l.map bG))]):=by
 refine aQ func49 ntmps49 ?_
 (repeat' (first|refine ax fun K hK=>?_|refine az ?_|(refine hK _ _ ?_;clear hK K)|(refine aw ?_ ?_<;>intro hc<;>try exact jz)|(with_reducible refine fun(b:Bool) hb=>?_)|refine pO i ?_|refine ay ?_|exact jI|(clear hK K)))
 ·have QX:l=[]:=by simpa using hb hc
  subst QX;exact zq i 50 3 jC [.tmp 2] rfl rfl trivial
 ·(refine bQ [.tmp 2] ?_ ?_<;>(try simp only[go_sem]))
def xO(l:List (Int))(hl:l.length<=1000)(i:Nat):ai prog 81 [aX eI 1 l] [] (fun r l'=>r=.rs i l.length 1 l.length/\l'=[(i,.aE 3 1 (l.map eI))]):=by
 refine aQ func81 ntmps81 ?_
 (repeat' (first|refine ax fun K hK=>?_|refine az ?_|(refine hK _ _ ?_;clear hK K)|(refine aw ?_ ?_<;>intro hc<;>try exact jz)|(with_reducible refine fun(b:Bool) hb=>?_)|refine pO i ?_|refine ay ?_|exact jI|(clear hK K)))
 ·have QX:l=[]:=by simpa using hb hc
  subst QX;exact zq i 3 1 jC [.tmp 2] rfl rfl trivial
 ·(refine bQ [.tmp 2] ?_ ?_<;>(try simp only[go_sem]))
def gx(v:aj):Prop:=cr v.n/\v.s.size<=40
def qf{n:Int}(h:cr n):gx (vI n):=⟨h,by show sE.size<=40;decide⟩
def sF(b:Bool):gx (vB b):=⟨vl b,by show sE.size<=40;decide⟩
def CL(t:Int):gx (vZ t):=⟨ka,by show sE.size<=40;decide⟩
def FU{s:PL}(h:s.size<=40):gx (vT s):=⟨ka,h⟩
def Mb{l:List aj}(h:lG l)(k t:Int):gx (dt l k t):=⟨EY h k t,by
 unfold dt;split
 ·show sE.size<=40;decide
 split
 ·rename_i h;exact BZ h.1
 ·show sE.size<=40;decide⟩
def qN(r:aj×Int):Prop:=gx r.1/\0<=r.2/\r.2<=9
def ki{c:Prop}[Decidable c]{x y:aj×Int}(h:c->qN x)(k:¬c->qN y):qN (if c then x else y):=by
 by_cases e:c
 ·rw[if_pos e];exact h e
 ·rw[if_neg e];exact k e
def lT{v:aj}(h:gx v):qN (v,0):=⟨h,Int.le_refl _,by show(0:Int)<=9;decide⟩
def qI{t:Int}(h:0<=t/\t<=9):qN (v0,t):=⟨CL 0,h⟩
def LI(s:PL){a b:Int}(ha:cr a):qN (qH s a b):=by unfold qH;refine ki (fun _=>lT (qf (tT _))) fun _=>ki (fun _=>lT (qf (tT _))) fun _=>ki (fun _=>lT (qf (tT _))) fun _=>ki (fun _=>ki (fun _=>qI jC) fun _=>lT (qf (tT _))) fun _=>ki (fun _=>ki (fun _=>qI jC) fun _=>lT (qf (Ea ha))) fun _=>ki (fun _=>lT (sF _)) fun _=>ki (fun _=>lT (sF _)) fun _=>qI jC
def Ka(s:PL){a b:aj}(ha:gx a):qN (mz s a b):=by
 unfold mz;refine ki (fun _=>qI jC) fun _=>ki (fun _=>lT (sF _)) fun _=>ki (fun _=>lT (sF _)) fun _=>ki (fun _=>LI _ ha.1) fun _=>ki (fun _=>ki (fun _=>lT (sF _)) fun _=>ki (fun _=>lT (sF _)) fun _=>qI jC) fun _=>ki (fun _=>ki (fun _=>ki (fun _=>qI jC) fun h=>lT (FU ?_)) fun _=>qI jC) fun _=>qI jC
 rw[ByteArray.size_append];omega
def Fi(s:PL)(a:aj):gx (jV s a):=⟨BH s a,by
 unfold jV
 (repeat' split)<;>(show sE.size<=40;decide)⟩
def AT{h:PI}(hc:fv h<=40)(hr:p7 h)(n:Int):((MV.aV h n).length:Int)<=40/\∀k,k<(MV.aV h n).length->cr (nth (MV.aV h n) k):=by
 unfold MV.aV;split
 ·exact⟨jE,fun k hk=>by simp at hk⟩
 ·rename_i e;have hl:(n-1).toNat<h.length:=jB;have:=xq h (n-1).toNat hl;exact⟨jB,fun k hk=>hr _ (fu hl) _ (fu hk)⟩
def oV{p:ab}{C:aB}{M:MV}{c:MC}{k:Nat}{x:aq}(h1:1<=M.calls.length)(h8:M.calls.length<=8)(hk:c.at_=k)(PW:k<C.ins.length)(hx:nth C.ins k=x)(hz:∀v∈c.stack,gx v)(hd:c.stack.length<=1000)(op:1<=x.op/\x.op<=23)
  (n:Nat) (hn:n<=c.stack.length) (QK:n=0->x.op=2\/x.op=3\/x.op=4\/x.op=5\/x.op=14\/x.op=16\/x.op=20\/x.op=22) (RY:n=1->¬(x.op=7\/x.op=12))
  (slot:x.op=5\/x.op=6\/x.op=11\/x.op=12->0<=x.a/\x.a<c.slots.length)
  (call:x.op=20->0<=x.b/\x.b<=c.stack.length/\x.b<=3/\0<=x.a/\x.a<C.entry.length/\x.a<p.size.length/\0<=nth p.size x.a.toNat/\nth p.size x.a.toNat<=24/\x.b<=nth p.size x.a.toNat):(M.aM c).fE p C:=by
 refine fE.OR h1 h8 hk PW hx (fun h=>?_) (fun h=>?_) slot call op (fun h=>?_) (fun v hv=>(hz v hv).2) hd
 ·by_cases e:n=0
  ·have:=QK e;omega
  ·omega
 ·by_cases e:n=0
  ·have:=QK e;omega
  ·by_cases e1:n=1
   ·exact(RY e1 h).elim
   ·omega
 ·have:1<=c.stack.length:=by
   by_cases e:n=0
   ·have:=QK e;omega
   ·omega
  exact(hz _ (fu jB)).1
def kS(p:ab)(C:aB)(inp:PJ)(M:MV)(c:MC)(k:Int):Prop:=
 (∃v q,gx v/\bj p C inp (M.aM c) (M.aM { c with at_:=k,stack:=c.stack++[v],aP:=q }))\/∃t:Int,(1<=t/\t<=9)/\bj p C inp (M.aM c) (M.iv c 3 t)
section
variable {p:ab}{C:aB}{inp:PJ}{M:MV}
def xW{c:MC}{k:Nat}{x:aq}{v:aj}(h1:1<=M.calls.length)(h8:M.calls.length<=8)(hs:M.status=0)(hk:c.at_=k)(hl:bB C.ins k [x])(RB:x.op≠1)(hok:(M.aM c).fE p C)(hv:gx v)
  (hi:(M.aM { c with at_:=(k:Int)+1 }).ins p C inp x=M.aM (MC.push { c with at_:=(k:Int)+1 } v)):kS p C inp M c (k+1):=
 .inl ⟨v,c.aP-1,hv,bj.ins h1 h8 hs hk hl.head.1 hl.head.2.1 RB hok (by rw[hi];exact bj.refl _)⟩
def kS.bind{c:MC}{k1 k2:Int}(hd:kS p C inp M c k1)(hn:∀v q,gx v->(∃w q',gx w/\bj p C inp (M.aM { c with at_:=k1,stack:=c.stack++[v],aP:=q }) (M.aM { c with at_:=k2,stack:=c.stack++[w],aP:=q' }))\/∃t:Int,(1<=t/\t<=9)/\bj p C inp (M.aM { c with at_:=k1,stack:=c.stack++[v],aP:=q }) (M.iv c 3 t)):kS p C inp M c k2:=by
 rcases hd with⟨v,q,hv,g⟩|⟨t,ht,g⟩
 ·rcases hn v q hv with⟨w,q',hw,g'⟩|⟨t,ht,g'⟩
  ·exact .inl ⟨w,q',hw,g.trans g'⟩
  ·exact .inr ⟨t,ht,g.trans g'⟩
 ·exact .inr ⟨t,ht,g⟩
def DY{c d:MC}{k:Nat}{x:aq}{r:aj×Int}{q:Nat}(h1:1<=M.calls.length)(h8:M.calls.length<=8)(hs:M.status=0)(hl:bB C.ins k [x])(RB:x.op≠1)(hd:d.at_=(k:Int))
  (hok:(M.aM d).fE p C) (hr:qN r)
  (hi:(M.aM { d with at_:=(k:Int)+1 }).ins p C inp x=(M.aM { c with at_:=(k:Int)+1,aP:=q }).dI r) :
  (∃w q',gx w/\bj p C inp (M.aM d) (M.aM { c with at_:=(k:Int)+1,stack:=c.stack++[w],aP:=q' }))\/∃t:Int,(1<=t/\t<=9)/\bj p C inp (M.aM d) (M.iv c 3 t):=by
 have g:∀m',bj p C inp ((M.aM { c with at_:=(k:Int)+1,aP:=q }).dI r) m'->bj p C inp (M.aM d) m':=fun m' hg=> bj.ins (c:=d) h1 h8 hs hd hl.head.1 hl.head.2.1 RB hok (by rw[hi];exact hg)
 by_cases e:r.2=0
 ·refine .inl ⟨r.1,q-1,hr.1,g _ ?_⟩;unfold MV.dI;rw[if_neg (fun h=>h e),MV.eQ h1];exact bj.refl _
 ·refine .inr ⟨r.2,by have:=hr.2;omega,g _ ?_⟩;unfold MV.dI;rw[if_pos e,MV.dK h1];exact bj.refl _
def uO{l:List aj}{v:aj}(h:∀u∈l,gx u)(hv:gx v):∀u∈l++[v],gx u:=Hu h hv
theorem xo(hs:fG p)(h1:1<=M.calls.length)(h8:M.calls.length<=8)(P0:M.status=0)(Xa:fv M.heap<=40)(Xb:p7 M.heap){j:Nat}(hj:j<p.aa.au.length){slots:List aj}(Q0:(slots.length:Int)=nth p.size j)(T3:lG slots) :
  ∀(n:Nat) (a:Int) (k:Nat) (c:MC),0<=a->a.toNat<p.aa.nodes.length->iH p j a->bW (bE p.aa.nodes a)->a.toNat<n->c.slots=slots->c.at_=k->bB C.ins k (aZ p n a k)->(∀v∈c.stack,gx v)->c.stack.length+a.toNat<=900->
   kS p C inp M c (k+(aZ p n a k).length)
 |0,a,k,c,h0,hl,hi,hk,hn,hc,Qx,hC,hz,hd=>by omega
 |n+1,a,k,c,h0,hl,hi,hk,hn,hc,Qx,hC,hz,hd=>by
  have sh:=(hs.ok.aa.shape a.toNat hl).1;have P8:bW (ao p a).kind:=hk;unfold bW at P8;have Sg:iM (ao p a).kind->0<=nth p.slots a.toNat/\nth p.slots a.toNat<c.slots.length:=fun h=>by have:=(hs.au j hj).all a.toNat hi.1 (by have:=hi.2;omega) h;rw[hc];omega
  have ok0:∀(x:aq),bB C.ins k [x]->x.op=2\/x.op=3\/x.op=4\/(x.op=5/\0<=x.a/\x.a<c.slots.length)->(M.aM c).fE p C:=fun x hx ho=> oV h1 h8 Qx hx.head.1 hx.head.2.1 hz jB jB 0 jB (fun _=>jB) (fun h=>jB) (fun h=>jB) (fun h=>jB)
  have okU:∀(k':Nat) (x:aq) (u:aj) (q:Nat),bB C.ins k' [x]->gx u->x.op=8\/x.op=9\/x.op=10\/(x.op=11/\0<=x.a/\x.a<c.slots.length)\/x.op=18\/x.op=19->(M.aM { c with at_:=(k':Int),stack:=c.stack++[u],aP:=q }).fE p C:=fun k' x u q hx hu ho=> oV h1 h8 rfl hx.head.1 hx.head.2.1 (uO hz hu) jF jB 1 jE (fun h=>jB) (fun _=>jB) (fun h=>by show 0<=x.a/\x.a<c.slots.length;omega) (fun h=>jB)
  -- what is below it
  have sub:∀b∈(ao p a).l,bW (bE p.aa.nodes b)->∀(k':Nat) (c':MC),c'.slots=slots->c'.at_=k'->bB C.ins k' (aZ p n b k')->(∀v∈c'.stack,gx v)->c'.stack.length<=c.stack.length+1->kS p C inp M c' (k'+(aZ p n b k').length):=fun b hb Y7 k' c' g1 g2 g3 g4 g5=>by obtain⟨b1,b2,b3,b4⟩:=hi.aA hs hj hb;exact xo hs h1 h8 P0 Xa Xb hj Q0 T3 n b k' c' b2 b4 b1 Y7 jB g1 g2 g3 g4 jB
  have Qs:(ao p a).kind=1\/(ao p a).kind=2\/(ao p a).kind=3\/(ao p a).kind=4\/(ao p a).kind=5\/(ao p a).kind=6\/(ao p a).kind=7\/(ao p a).kind=8\/(ao p a).kind=9:=jB;have Ry:=fun h=>(sh.one (h:(nth p.aa.nodes a.toNat).kind=5\/(nth p.aa.nodes a.toNat).kind=6\/(nth p.aa.nodes a.toNat).kind=7\/(nth p.aa.nodes a.toNat).kind=8\/(nth p.aa.nodes a.toNat).kind=14\/(nth p.aa.nodes a.toNat).kind=20))
  -- an operation on one value
  have un:∀(x:Int) (i:aq) (f:aj->aj×Int),(ao p a).l=[x]->bW (bE p.aa.nodes x)->aZ p (n+1) a k=aZ p n x k++[i]->i.op=8\/i.op=9\/i.op=10\/(i.op=11/\0<=i.a/\i.a<c.slots.length)->(∀v,gx v->qN (f v))->
    (∀v q,(M.aM { c with at_:=((k+(aZ p n x k).length:Nat):Int)+1,stack:=c.stack++[v],aP:=q }).ins p C inp i=(M.aM { c with at_:=((k+(aZ p n x k).length:Nat):Int)+1,aP:=q+1 }).dI (f v))->kS p C inp M c (k+(aZ p (n+1) a k).length):=fun x i f B' Ql e Sh hf Q1=>by
   rw[e]at hC ⊢;have d:=sub x (by rw[B'];simp) Ql k c hc Qx hC.last.1 hz jB;have Qe:=hC.app.2;rw[List.length_append,List.length_singleton,Int.natCast_add,show((k:Int)+(((aZ p n x k).length:Int)+((1:Nat):Int)))=((k+(aZ p n x k).length:Nat):Int)+1 by push_cast;omega];refine d.bind fun v q hv=>?_
   exact DY (d:={ c with at_:=((k:Int)+((aZ p n x k).length:Int)),stack:=c.stack++[v],aP:=q }) h1 h8 P0 Qe (fun h=>jB) (by push_cast;rfl) (by have:=okU _ i v q Qe hv jB;rw[Int.natCast_add]at this;exact this) (hf v hv) (Q1 v q)
  rcases Qs with e|e|e|e|e|e|e|e|e
  ·rw[lf]at hC ⊢;simp only[e,Int.reduceEq,↓reduceIte]at hC ⊢;exact xW h1 h8 P0 Qx hC (fun h=>by cases h) (ok0 _ hC (.inl rfl)) (qf (hs.ok.cr _ hl e)) (by rw[MV.qi,MV.eQ h1];rfl)
  ·rw[lf]at hC ⊢;simp only[e,Int.reduceEq,↓reduceIte]at hC ⊢;exact xW h1 h8 P0 Qx hC (fun h=>by cases h) (ok0 _ hC (.inr (.inl rfl))) (sF _) (by rw[MV.oI,MV.eQ h1])
  ·rw[lf]at hC ⊢;simp only[e,Int.reduceEq,↓reduceIte]at hC ⊢;exact xW h1 h8 P0 Qx hC (fun h=>by cases h) (ok0 _ hC (.inr (.inr (.inl rfl)))) (FU (by have:=sh.text e;show(nth p.aa.nodes a.toNat).name.size<=40;omega)) (by rw[MV.oW,MV.eQ h1];rfl)
  ·have Y8:=Sg (.inl e);rw[lf]at hC ⊢;simp only[e,Int.reduceEq,↓reduceIte]at hC ⊢;exact xW h1 h8 P0 Qx hC (fun h=>by cases h) (ok0 _ hC (.inr (.inr (.inr ⟨rfl,Y8⟩)))) (Mb (l:=c.slots) (by rw[hc];exact T3) _ _) (by rw[MV.o0,MV.eQ h1,MV.bh h1])
  ·obtain⟨x,B',Ql⟩:=Ry (.inl e);have B':(ao p a).l=[x]:=B';have QP:nth (ao p a).l 0=x:=by rw[B'];rfl
   have Ux:=AT Xa Xb (dt c.slots (nth p.slots a.toNat) 4).n;refine un x (iI 11 (nth p.slots a.toNat)) (fun v=>if v.n<0\/((MV.aV M.heap (dt c.slots (nth p.slots a.toNat) 4).n).length:Int)<=v.n then(v0,2)else(vI (nth (MV.aV M.heap (dt c.slots (nth p.slots a.toNat) 4).n) v.n.toNat),0)) B' Ql (by rw[lf,QP];simp only[e,Int.reduceEq,↓reduceIte]) (.inr (.inr (.inr ⟨rfl,Sg (.inr (.inl e))⟩))) (fun v hv=>?_) fun v q=>?_
   ·exact ki (fun _=>qI jC) fun _=>lT (qf (Ux.2 _ jB))
   ·rw[MV.nU,MV.bh h1,MV.eK,MV.cL h1,MV.fB,MV.jt];dsimp only;split<;>rfl
  ·obtain⟨x,B',Ql⟩:=Ry (by have e:(nth p.aa.nodes a.toNat).kind=6:=e;omega);have B':(ao p a).l=[x]:=B';have QP:nth (ao p a).l 0=x:=by rw[B'];rfl
   refine un x (iI 10 0) (fun v=>(vI (if v.ty=4 then((MV.aV M.heap v.n).length:Int)else(v.s.size:Int)),0)) B' Ql (by rw[lf,QP];simp only[e,Int.reduceEq,↓reduceIte]) (.inr (.inr (.inl rfl))) (fun v hv=>lT (qf ?_)) fun v q=>?_
   ·have:=(AT Xa Xb v.n).1;have:=hv.2;unfold cr;split<;>omega
   ·rw[MV.qy,MV.bh h1,MV.eK,MV.cL h1,MV.fB,MV.jt];rfl
  ·obtain⟨x,B',Ql⟩:=Ry (by have e:(nth p.aa.nodes a.toNat).kind=7:=e;omega);have B':(ao p a).l=[x]:=B';have QP:nth (ao p a).l 0=x:=by rw[B'];rfl
   exact un x (iI 8 0) (fun v=>(jV (⟨#[45]⟩:PL) v,0)) B' Ql (by rw[lf,QP];simp only[e,Int.reduceEq,↓reduceIte]) (.inl rfl) (fun v hv=>lT (Fi _ _)) fun v q=>by rw[MV.qc,MV.bh h1,MV.eK,MV.cL h1,MV.fB];rfl
  ·obtain⟨x,B',Ql⟩:=Ry (by have e:(nth p.aa.nodes a.toNat).kind=8:=e;omega);have B':(ao p a).l=[x]:=B';have QP:nth (ao p a).l 0=x:=by rw[B'];rfl
   exact un x (iI 9 0) (fun v=>(jV (⟨#[33]⟩:PL) v,0)) B' Ql (by rw[lf,QP];simp only[e,Int.reduceEq,↓reduceIte]) (.inr (.inl rfl)) (fun v hv=>lT (Fi _ _)) fun v q=>by rw[MV.qL,MV.bh h1,MV.eK,MV.cL h1,MV.fB];rfl
  ·obtain⟨x,y,B',Ql,S6⟩:=sh.two (.inl e);have B':(ao p a).l=[x,y]:=B';have QP:nth (ao p a).l 0=x:=by rw[B'];rfl
   have Tl:nth (ao p a).l 1=y:=by rw[B'];rfl
   rw[lf]at hC ⊢;simp only[e,QP,Tl,Int.reduceEq,↓reduceIte]at hC ⊢;by_cases Ry:kF (ao p a).name=7
   ·rw[if_pos Ry]at hC ⊢;have d:=sub x (by rw[B'];simp) Ql k c hc Qx hC.last.1.app.1 hz jB;have UW:=hC.last.1.app.2;have Qe:=hC.app.2;rw[List.length_append,List.length_append,List.length_singleton,show((k:Int)+(((aZ p n x k).length+(aZ p n y (k+(aZ p n x k).length)).length+1:Nat):Int))=((k+(aZ p n x k++aZ p n y (k+(aZ p n x k).length)).length:Nat):Int)+1 by rw[List.length_append];push_cast;omega];refine d.bind fun v q hv=>?_
    have dy:=sub y (by rw[B'];simp) S6 (k+(aZ p n x k).length) { c with at_:=((k:Int)+((aZ p n x k).length:Int)),stack:=c.stack++[v],aP:=q } hc (by push_cast;rfl) (by rw[Int.natCast_add];exact UW) (uO hz hv) jE;rw[Int.natCast_add]at dy;rcases dy with⟨w,q2,hw,g⟩|⟨t,ht,g⟩
    ·have Xc:((k:Int)+((aZ p n x k).length:Int)+((aZ p n y (k+(aZ p n x k).length)).length:Int))=((k+(aZ p n x k++aZ p n y (k+(aZ p n x k).length)).length:Nat):Int):=by rw[List.length_append];push_cast;omega
     rw[Xc]at g;rcases DY (p:=p) (C:=C) (inp:=inp) (M:=M) (c:=c) (d:={ c with at_:=((k+(aZ p n x k++aZ p n y (k+(aZ p n x k).length)).length:Nat):Int),stack:=c.stack++[v]++[w],aP:=q2 }) (r:=mz (ao p a).name v w) (q:=q2+2) h1 h8 P0 Qe (fun h=>by cases h) rfl
      (oV h1 h8 rfl Qe.head.1 Qe.head.2.1 (uO (uO hz hv) hw) jF ⟨by show(1:Int)<=7;decide,by show(7:Int)<=23;decide⟩ 2 jE (fun h=>by cases h) (fun h=>by cases h) (fun h=>by rcases h with h|h|h|h<;>cases h) (fun h=>by cases h)) (Ka _ hv)
      (by rw[MV.pX,MV.bh h1,MV.eK,MV.fB c w (c.stack++[v]),MV.eK,MV.cL h1,MV.nC])with⟨u,q3,hu,g'⟩|⟨t,ht,g'⟩
     ·exact .inl ⟨u,q3,hu,g.trans g'⟩
     ·exact .inr ⟨t,ht,g.trans g'⟩
    ·exact .inr ⟨t,ht,g⟩
   ·rw[if_neg Ry]at hC ⊢;have Xd:kF (ao p a).name=18\/kF (ao p a).name=19:=by
     unfold kF at Ry ⊢;split
     ·exact .inl rfl
     ·split
      ·exact .inr rfl
      ·rename_i h1 h2;rw[if_neg h1,if_neg h2]at Ry;exact(Ry rfl).elim
    have d:=sub x (by rw[B'];simp) Ql k c hc Qx hC.app.1.last.1 hz jB;have Qe:=hC.app.1.last;have VR:=hC.app.1.app.2;have UW:=hC.app.2;generalize hX:(aZ p n x k)=X at*;have eL:((k:Int)+(X.length:Int)+1)=((k+X.length+1:Nat):Int):=by push_cast;omega
    rw[eL]at UW Qe VR ⊢;have UW:bB C.ins (k+X.length+1) (aZ p n y ((k+X.length+1:Nat):Int)):=by rw[List.length_append,List.length_singleton,<-Nat.add_assoc]at UW;exact UW
    have P6:((k:Int)+((X++[iI (kF (ao p a).name) (((k+X.length+1:Nat):Int)+(aZ p n y ((k+X.length+1:Nat):Int)).length)]++aZ p n y ((k+X.length+1:Nat):Int)).length:Int))=((k+X.length+1:Nat):Int)+(aZ p n y ((k+X.length+1:Nat):Int)).length:=by simp only[List.length_append,List.length_cons,List.length_nil];push_cast;omega
    rw[P6];refine d.bind fun v q hv=>?_
    have hok:=okU (k+X.length) _ v q VR hv (by rcases Xd with h|h<;>rw[h]<;>simp[iI]);rw[Int.natCast_add]at hok;have go:∀m',bj p C inp ((M.aM { c with at_:=((k+X.length:Nat):Int)+1,stack:=c.stack++[v],aP:=q }).ins p C inp (iI (kF (ao p a).name) (((k+X.length+1:Nat):Int)+(aZ p n y ((k+X.length+1:Nat):Int)).length))) m'->bj p C inp (M.aM { c with at_:=(k:Int)+X.length,stack:=c.stack++[v],aP:=q }) m':=fun m' hg=> bj.ins (c:={ c with at_:=(k:Int)+X.length,stack:=c.stack++[v],aP:=q }) (k:=k+X.length) h1 h8 P0 (by push_cast;rfl) Qe.2.1 Qe.2.2 (by rcases Xd with h|h<;>rw[h]<;>(intro h;cases h)) hok hg
    have dy:=fun q2=>sub y (by rw[B'];simp) S6 (k+X.length+1) { c with at_:=((k+X.length+1:Nat):Int),aP:=q2 } hc rfl UW hz (by show c.stack.length<=_;omega)
    -- the other side is taken, or not
    have take:kS p C inp M { c with at_:=((k+X.length+1:Nat):Int),aP:=q+1 } (((k+X.length+1:Nat):Int)+(aZ p n y ((k+X.length+1:Nat):Int)).length):=dy (q+1);have e1:M.aM (({ c with at_:=((k+X.length:Nat):Int)+1,stack:=c.stack++[v],aP:=q }:MC).cut 1)=M.aM { c with at_:=((k+X.length+1:Nat):Int),aP:=q+1 }:=by rw[MV.fB,show((k+X.length:Nat):Int)+1=((k+X.length+1:Nat):Int) by push_cast;rfl]
    have fin:(M.aM { c with at_:=((k+X.length:Nat):Int)+1,stack:=c.stack++[v],aP:=q }).ins p C inp (iI (kF (ao p a).name) (((k+X.length+1:Nat):Int)+(aZ p n y ((k+X.length+1:Nat):Int)).length))=M.aM { c with at_:=((k+X.length+1:Nat):Int),aP:=q+1 }\/
      (M.aM { c with at_:=((k+X.length:Nat):Int)+1,stack:=c.stack++[v],aP:=q }).ins p C inp (iI (kF (ao p a).name) (((k+X.length+1:Nat):Int)+(aZ p n y ((k+X.length+1:Nat):Int)).length))=M.aM { c with at_:=(((k+X.length+1:Nat):Int)+(aZ p n y ((k+X.length+1:Nat):Int)).length),stack:=c.stack++[v],aP:=q }:=by
     rcases Xd with h|h
     ·rw[h,MV.qQ,MV.bh h1,MV.cL h1,e1,MV.dc];split
      ·exact .inl rfl
      ·exact .inr rfl
     ·rw[h,MV.tA,MV.bh h1,MV.cL h1,e1,MV.dc];split
      ·exact .inr rfl
      ·exact .inl rfl
    rcases fin with fin|fin
    ·rw[fin]at go;rcases take with⟨w,q2,hw,g⟩|⟨t,ht,g⟩
     ·exact .inl ⟨w,q2,hw,go _ g⟩
     ·exact .inr ⟨t,ht,go _ g⟩
    ·rw[fin]at go;exact .inl ⟨v,q,hv,go _ (bj.refl _)⟩
end
inductive dB(p:ab)(C:aB)(j:Nat):Nat->Prop
 |mark {k n:Nat} {a:Int} (h0:0<=a) (hn:a.toNat<n+1) (hl:a.toNat<p.aa.nodes.length) (hi:iH p j a) (hk:eR (bE p.aa.nodes a)) (hC:bB C.ins k (fR p (n+1) a k)) (h:dB p C j (k+(fR p (n+1) a k).length)):dB p C j k
 |jump {k k':Nat} (hk:k<C.ins.length) (hx:nth C.ins k=iI 16 (k':Int)) (h:dB p C j k'):dB p C j k
 |fin {k:Nat} {r:Int} (hk:k<C.ins.length) (hx:nth C.ins k=iI 22 r):dB p C j k
structure lK(p:ab)(C:aB)(j k n:Nat)(a:Int):Prop where
 h0:0<=a
 hn:a.toNat<n+1
 hl:a.toNat<p.aa.nodes.length
 hi:iH p j a
 hk:eR (bE p.aa.nodes a)
 hC:bB C.ins k (fR p (n+1) a k)
 h:dB p C j (k+(fR p (n+1) a k).length)
def tB(p:ab)(C:aB)(j:Nat)(k:Int):Prop:=∃k0 n a,k=((k0:Nat):Int)/\lK p C j k0 n a
structure lu(p:ab)(c:MC):Prop where
 f0:0<=c.fn
 f1:c.fn<p.aa.au.length
 sl:(c.slots.length:Int)=nth p.size c.fn.toNat
 rg:lG c.slots
def wE(c:MC)(x:aq):Prop:=(∃s,x=iI 6 s/\0<=s/\s<c.slots.length)\/x=iI 23 0
structure qG(p:ab)(C:aB)(c:MC):Prop where
 stack:c.stack=[]
 mark:tB p C c.fn.toNat c.mark
 at_:∃k:Nat,c.at_=(k:Int)/\k<C.ins.length/\wE c (nth C.ins k)/\dB p C c.fn.toNat (k+1)
structure eZ(p:ab)(C:aB)(M:MV):Prop where
 one:1<=M.calls.length
 dM:M.calls.length<=8
 st:M.status=0
 tr:0<=M.bs/\M.bs<=9
 low:∀k,k+1<M.calls.length->lu p (nth M.calls k)/\qG p C (nth M.calls k)
 cells:fv M.heap<=40
 rg:p7 M.heap
structure MI(p:ab)(C:aB)(m:MV):Prop where
 dM:m.calls.length<=8
 low:∀k,k+1<m.calls.length->lu p (nth m.calls k)/\qG p C (nth m.calls k)
 af:m.status≠2->1<=m.calls.length/\lu p m.af/\m.af.stack=[]/\tB p C m.af.fn.toNat m.af.at_
 sI:m.status=2->m.calls.length=0
 st:0<=m.status/\m.status<=3
 tr:0<=m.bs/\m.bs<=9
 cells:fv m.heap<=40
 rg:p7 m.heap
def kV(p:ab)(C:aB)(M m:MV):Prop:=m.eo C/\MI p C m/\m.time=M.time
section
variable {p:ab}{C:aB}{inp:PJ}
def Kd(p:ab)(n:Nat)(a k:Int):∃l,fR p (n+1) a k=iI 1 a::l:=⟨_,xX p n a k⟩
theorem lK.head{j k n:Nat}{a:Int}(h:lK p C j k n a):k<C.ins.length/\nth C.ins k=iI 1 a:=by obtain⟨l,e⟩:=Kd p n a k;have hC:=h.hC;rw[e]at hC;exact⟨hC.head.1,hC.head.2.1⟩
theorem eZ.aM{M:MV}(h:eZ p C M)(c:MC):eZ p C (M.aM c):=
 ⟨by rw[MV.br];exact h.one,by rw[MV.br];exact h.dM,h.st,h.tr,fun k hk=>by rw[MV.br]at hk;rw[show nth (M.aM c).calls k=nth M.calls k from(Go.Gd.bI _ _ _ _ (by have:=h.one;omega)).trans (jN)];exact h.low k hk,h.cells,h.rg⟩
variable{M:MV}
def eZ.mi(h:eZ p C M){c:MC}(hc:lu p c)(P0:c.stack=[])(hm:tB p C c.fn.toNat c.at_){s t:Int}(hs:s=0\/s=1\/s=3)(ht:0<=t/\t<=9):MI p C { M.aM c with status:=s,bs:=t }:=by
 have hu:=h.aM c;refine⟨hu.dM,hu.low,fun _=>?_,fun e=>?_,?_,ht,h.cells,h.rg⟩
 ·have ht:MV.af { M.aM c with status:=s,bs:=t }=c:=MV.bh h.one c;rw[ht];exact⟨hu.one,hc,P0,hm⟩
 ·have e:s=2:=e;omega
 ·show 0<=s/\s<=3;omega
def ue(h:eZ p C M){c:MC}(hc:lu p c)(hm:tB p C c.fn.toNat c.mark){s t:Int}(hs:s=1\/s=3)(ht:0<=t/\t<=9):kV p C M (M.iv c s t):=
 ⟨.inl (by show s≠0;omega),h.mi (c:=c.back) ⟨hc.f0,hc.f1,hc.sl,hc.rg⟩ rfl hm jB ht,rfl⟩
def L6(c:MC):(M.aM c).pop=M.pop:=by show MV.mk ((M.calls.set (M.calls.length-1) c).take ((M.calls.set (M.calls.length-1) c).length-1)) _ _ _ _ _ _ _=_;rw[List.length_set,List.take_set_of_le jl];rfl
def IL{α:Type}[Inhabited α](l:List α)(n k:Nat)(h:k<n):nth (l.take n) k=nth l k:=by unfold nth;rw[List.getD_eq_getElem?_getD,List.getElem?_take,if_pos h,List.getD_eq_getElem?_getD]
theorem eZ.pop{M:MV}(h:eZ p C M)(h2:2<=M.calls.length):eZ p C M.pop/\M.pop.calls.length=M.calls.length-1/\lu p M.pop.af/\qG p C M.pop.af:=by
 have hl:M.pop.calls.length=M.calls.length-1:=by show(M.calls.take _).length=_;rw[List.length_take];omega
 have hn:∀k,k<M.calls.length-1->nth M.pop.calls k=nth M.calls k:=fun k hk=>IL _ _ _ hk
 have ht:M.pop.af=nth M.calls (M.calls.length-2):=by unfold MV.af;rw[hl,hn _ jB];rfl
 have Qe:=h.low (M.calls.length-2) jB;have:=h.dM;rw[ht];exact⟨⟨jB,jB,h.st,h.tr,fun k hk=>by rw[hn k jB];exact h.low k jB,h.cells,h.rg⟩,hl,Qe⟩
def Ds{N:Nat}(hM:eZ p C M)(hN:M.calls.length=N)
  (ih:∀(M:MV) (c:MC) (k:Nat),eZ p C M->M.calls.length=N->lu p c->c.stack=[]->c.at_=(k:Int)->dB p C c.fn.toNat k->∃m1,bj p C inp (M.aM c) m1/\kV p C M m1)
  {c:MC} {v:aj} {k:Nat} (hc:lu p c) (P0:c.stack=[v]) (hv:gx v) (Qx:c.at_=(k:Int)) (hk:k<C.ins.length) (hx:wE c (nth C.ins k)) (hn:dB p C c.fn.toNat (k+1)):∃m1,bj p C inp (M.aM c) m1/\kV p C M m1:=by
 have h1:=hM.one;have ht:=MV.bh (M:=M) h1;have hz:∀u∈c.stack,gx u:=fun u hu=>by rw[P0]at hu;rw[List.mem_singleton.1 hu];exact hv
 rcases hx with⟨s,hx,s0,s1⟩|hx
 ·obtain⟨m1,g,d⟩:=ih M { c with at_:=((k+1:Nat):Int),slots:=c.slots.set s.toNat v,stack:=[],aP:=c.aP+1 } (k+1) hM hN ⟨hc.f0,hc.f1,by show((c.slots.set _ _).length:Int)=_;rw[List.length_set];exact hc.sl,yG hc.rg _ hv.1⟩ rfl rfl hn;refine⟨m1,bj.ins h1 hM.dM hM.st Qx hk hx (fun h=>by cases h) (oV h1 hM.dM Qx hk hx hz (by rw[P0];simp) ⟨by show(1:Int)<=6;decide,by show(6:Int)<=23;decide⟩ 1 (by rw[P0];simp) (fun h=>by cases h) (fun _ h=>by rcases h with h|h<;>cases h) (fun _=>⟨s0,s1⟩) (fun h=>by cases h)) ?_,d⟩;rw[MV.nM,ht,MV.dc];have e:({ MC.cut { c with at_:=(k:Int)+1 } 1 with slots:=(MC.slots { c with at_:=(k:Int)+1 }).set s.toNat (MC.last { c with at_:=(k:Int)+1 }) }:MC)={ c with at_:=((k+1:Nat):Int),slots:=c.slots.set s.toNat v,stack:=[],aP:=c.aP+1 }:=by
   unfold MC.cut MC.last;simp only[P0];rfl
  rw[e];exact g
 ·obtain⟨m1,g,d⟩:=ih M { c with at_:=((k+1:Nat):Int),stack:=[],aP:=c.aP+1 } (k+1) hM hN ⟨hc.f0,hc.f1,hc.sl,hc.rg⟩ rfl rfl hn;refine⟨m1,bj.ins h1 hM.dM hM.st Qx hk hx (fun h=>by cases h) (oV h1 hM.dM Qx hk hx hz (by rw[P0];simp) ⟨by show(1:Int)<=23;decide,by show(23:Int)<=23;decide⟩ 1 (by rw[P0];simp) (fun h=>by cases h) (fun _ h=>by rcases h with h|h<;>cases h) (fun h=>by rcases h with h|h|h|h<;>cases h) (fun h=>by cases h)) ?_,d⟩;rw[MV.pY,MV.cL h1];have e:MC.cut { c with at_:=(k:Int)+1 } 1={ c with at_:=((k+1:Nat):Int),stack:=[],aP:=c.aP+1 }:=by
   unfold MC.cut;simp only[P0];rfl
  rw[e];exact g
def B5{N:Nat}(hM:eZ p C M)(hN:M.calls.length=N+1)
  (ih:∀(M:MV) (c:MC) (k:Nat),eZ p C M->M.calls.length=N->lu p c->c.stack=[]->c.at_=(k:Int)->dB p C c.fn.toNat k->∃m1,bj p C inp (M.aM c) m1/\kV p C M m1) {v:aj} (hv:gx v) (c:MC):∃m1,bj p C inp ((M.aM c).ends v) m1/\kV p C M m1:=by
 unfold MV.ends;rw[L6,MV.br];by_cases h2:M.calls.length<=1
 ·rw[if_pos h2];have hl:M.pop.calls.length=0:=by show(M.calls.take _).length=_;rw[List.length_take];omega
  exact⟨_,bj.refl _,.inl (by show(2:Int)≠0;decide),⟨by show M.pop.calls.length<=8;omega,fun k hk=>by have hk:k+1<M.pop.calls.length:=hk;omega,fun e=>(e rfl).elim,fun _=>hl,⟨by show(0:Int)<=2;decide,by show(2:Int)<=3;decide⟩,hM.tr,hM.cells,hM.rg⟩,rfl⟩
 ·rw[if_neg h2];obtain⟨b,l,f,lo⟩:=hM.pop jB;obtain⟨k,k1,k2,k3,k4⟩:=lo.at_;have e:M.pop.push v=M.pop.aM { M.pop.af with stack:=[v],aP:=M.pop.af.aP-1 }:=by
   unfold MV.push MC.push;rw[lo.stack];rfl
  rw[e];exact Ds b jB ih (c:={ M.pop.af with stack:=[v],aP:=M.pop.af.aP-1 }) ⟨f.f0,f.f1,f.sl,f.rg⟩ rfl hv k1 k2 k3 k4
theorem tL:∀(N:Nat) (M:MV) (c:MC) (k:Nat),eZ p C M->M.calls.length=N->lu p c->c.stack=[]->c.at_=(k:Int)->dB p C c.fn.toNat k->∃m1,bj p C inp (M.aM c) m1/\kV p C M m1
 |0,M,c,k,hM,hN,_,_,_,_=>by have:=hM.one;omega
 |N+1,M,c,k,hM,hN,hc,P0,Qx,hk=>by
  generalize hj:c.fn.toNat=j at hk;have h1:=hM.one;have ht:=MV.bh (M:=M) h1;induction hk generalizing c with
  |@mark k n a h0 hn hl hi Y9 hC h _=>
   have hm:lK p C j k n a:=⟨h0,hn,hl,hi,Y9,hC,h⟩;refine⟨_,bj.refl _,.inr ?_,?_,rfl⟩
   ·unfold MV.bc;rw[ht,Qx,Int.toNat_natCast,hm.head.2];rfl
   ·have:=hM.mi hc P0 (by rw[hj];exact⟨k,n,a,Qx,hm⟩) (.inl rfl) hM.tr;have e:({ M.aM c with status:=0,bs:=M.bs }:MV)=M.aM c:=by
     have:=hM.st;unfold MV.aM;rw[this]
    rwa [e]at this
  |@jump k k' hk hx h ih=> obtain⟨m1,g,d⟩:=ih { c with at_:=(k':Int) } ⟨hc.f0,hc.f1,hc.sl,hc.rg⟩ P0 rfl hj;refine⟨m1,bj.ins h1 hM.dM hM.st Qx hk hx (fun h=>by cases h) (oV h1 hM.dM Qx hk hx (fun u hu=>by rw[P0]at hu;cases hu) (by rw[P0];simp) ⟨by show(1:Int)<=16;decide,by show(16:Int)<=23;decide⟩ 0 (Nat.zero_le _) (fun _=>.inr (.inr (.inr (.inr (.inr (.inl rfl)))))) (fun h=>by cases h) (fun h=>by rcases h with h|h|h|h<;>cases h) (fun h=>by cases h)) ?_,d⟩;rw[MV.oD,ht,MV.dc];exact g
  |@fin k r hk hx=>
   have go:∀m',bj p C inp ((M.aM { c with at_:=(k:Int)+1 }).ends (vZ r)) m'->bj p C inp (M.aM c) m':=fun m' g=> bj.ins h1 hM.dM hM.st Qx hk hx (fun h=>by cases h) (oV h1 hM.dM Qx hk hx (fun u hu=>by rw[P0]at hu;cases hu) (by rw[P0];simp) ⟨by show(1:Int)<=22;decide,by show(22:Int)<=23;decide⟩ 0 (Nat.zero_le _) (fun _=>.inr (.inr (.inr (.inr (.inr (.inr (.inr rfl))))))) (fun h=>by cases h) (fun h=>by rcases h with h|h|h|h<;>cases h) (fun h=>by cases h)) g
   obtain⟨m1,g,d⟩:=B5 (inp:=inp) hM hN (fun M c k a b=>tL N M c k a b) (CL r) { c with at_:=(k:Int)+1 };exact⟨m1,go _ g,d⟩
end
def wF(p:ab)(C:aB):Prop:=∀j,j<p.aa.au.length->∃k:Nat,nth C.entry j=(k:Int)/\dB p C j k
section
variable {p:ab}{C:aB}{inp:PJ}
theorem FP{M:MV}(hs:fG p)(hM:eZ p C M){j:Nat}(hj:j<p.aa.au.length){n:Nat}(c:MC)(Q0:(c.slots.length:Int)=nth p.size j)(T3:lG c.slots) :
  ∀(L:PJ) (Q6:List aj) (k q:Nat),(∀x∈L,0<=x/\x.toNat<p.aa.nodes.length/\iH p j x/\bW (bE p.aa.nodes x)/\x.toNat<n)->bB C.ins k (bn (aZ p n) k L [])->(∀v∈Q6,gx v)->Q6.length+L.length<=10->
   (∃vs q',vs.length=L.length/\(∀v∈vs,gx v)/\bj p C inp (M.aM { c with at_:=(k:Int),stack:=Q6,aP:=q }) (M.aM { c with at_:=((k+(bn (aZ p n) k L []).length:Nat):Int),stack:=Q6++vs,aP:=q' }))\/∃t:Int,(1<=t/\t<=9)/\bj p C inp (M.aM { c with at_:=(k:Int),stack:=Q6,aP:=q }) (M.iv c 3 t)
 |[],Q6,k,q,hL,hl,hz,hd=>.inl ⟨[],q,rfl,fun v hv=>by(cases hv),by rw[List.append_nil];exact bj.refl _⟩
 |x::L,Q6,k,q,hL,hl,hz,hd=>by
  obtain⟨x0,x1,x2,x3,x4⟩:=hL x jE;have hm:=hs.ok.aa.many;have e0:bn (aZ p n) (k:Int) (x::L) []=aZ p n x k++bn (aZ p n) ((k+(aZ p n x k).length:Nat):Int) L []:=by show bn (aZ p n) k L ([]++aZ p n x ((k:Int)+((0:Nat):Int)))=_;rw[uM,List.nil_append,show((k:Int)+((0:Nat):Int))=(k:Int) from jB,Int.natCast_add]
  rw[e0]at hl ⊢;rcases xo (inp:=inp) hs hM.one hM.dM hM.st hM.cells hM.rg hj Q0 T3 n x k { c with at_:=(k:Int),stack:=Q6,aP:=q } x0 x1 x2 x3 x4 rfl rfl hl.app.1 hz (by show Q6.length+x.toNat<=900;simp at hd;omega)with⟨v,q1,hv,g1⟩|⟨t,ht,g1⟩
  ·rcases FP hs hM hj c Q0 T3 L (Q6++[v]) (k+(aZ p n x k).length) q1 (fun y hy=>hL y (by simp[hy])) hl.app.2 (uO hz hv) (by simp at hd ⊢;omega)with⟨vs,q',e,Uu,g2⟩|⟨t,ht,g2⟩
   ·refine .inl ⟨v::vs,q',by simp[e],fun u hu=>?_,?_⟩
    ·rcases List.mem_cons.1 hu with rfl|hu
     ·exact hv
     ·exact Uu u hu
    ·rw[Int.natCast_add]at g2;rw[List.length_append,<-Nat.add_assoc];rw[List.append_assoc]at g2;exact g1.trans g2
   ·rw[Int.natCast_add]at g2;exact .inr ⟨t,ht,g1.trans g2⟩
  ·exact .inr ⟨t,ht,g1⟩
def GA{M:MV}(hs:fG p)(hE:wF p C)(VS:C.entry.length=p.aa.au.length)(hM:eZ p C M){c:MC}(hc:lu p c)(hm:tB p C c.fn.toNat c.mark)(P0:c.stack=[]){n kc:Nat}{x:Int}(Qx:c.at_=(kc:Int))(h0:0<=x)(hl:x.toNat<p.aa.nodes.length)(hk:(ao p x).kind=21)(Q2:iH p c.fn.toNat x)(hn:x.toNat<n)
  (Uh:bB C.ins kc (cd p n x kc)) (RU:kc+(cd p n x kc).length<C.ins.length) (Rm:wE c (nth C.ins (kc+(cd p n x kc).length))) (VA:dB p C c.fn.toNat (kc+(cd p n x kc).length+1)):∃m1,bj p C inp (M.aM c) m1/\kV p C M m1:=by
 have h1:=hM.one;have h8:=hM.dM;have f0:=hc.f0;have f1:=hc.f1;obtain⟨cal,QE⟩:=callee hs hl hk;have TU:zn p x=(cal:Int):=QE.last;have Tp:=hs.ok.aa.shape x.toNat hl;have W2:=QE.zV;have SU:=Uh.app.2.head;have P7:(cd p n x kc).length=(bn (aZ p n) kc (ao p x).l []).length+1:=by unfold cd;rw[List.length_append];rfl
 rw[TU]at SU;have QU:=FP (inp:=inp) hs hM (j:=c.fn.toNat) jB (n:=n) c hc.sl hc.rg (ao p x).l [] kc c.aP (fun y hy=>by obtain⟨y1,y2,y3,y4⟩:=Q2.aA hs jB hy;exact⟨y2,y4,y1,Tp.1.call hk y hy,jB⟩) Uh.app.1 (fun v hv=>by cases hv) jF
 have ec:({ c with at_:=(kc:Int),stack:=[],aP:=c.aP }:MC)=c:=by rw[<-Qx,<-P0]
 rw[ec]at QU;generalize hke2:kc+(bn (aZ p n) kc (ao p x).l []).length=ke at*;rcases QU with⟨A,q,Ve,hA,g⟩|⟨t,ht,g⟩
 rotate_left
 ·exact⟨_,g,ue hM hc hm (.inr rfl) jB⟩
 rw[List.nil_append]at g;have VT:=hs.au cal QE.lt;have P5:=hs.ok.size;have p1:=VT.ww;have p2:=VT.hi;have p3:=QE.args;have p5:=QE.lt;have hok:(M.aM { c with at_:=((ke:Nat):Int),stack:=A,aP:=q }).fE p C:=oV h1 h8 rfl SU.1 SU.2.1 hA (by show A.length<=1000;omega) ⟨by show(1:Int)<=20;decide,by show(20:Int)<=23;decide⟩ 0 (Nat.zero_le _) (fun _=>.inr (.inr (.inr (.inr (.inr (.inr (.inl rfl))))))) (fun h=>by cases h) (fun h=>by rcases h with h|h|h|h<;>cases h) (fun _=>by
  refine⟨?_,?_,?_,?_,?_,?_,?_,?_,?_⟩
  ·show(0:Int)<=((ao p x).l.length:Int);omega
  ·show((ao p x).l.length:Int)<=(A.length:Int);omega
  ·show((ao p x).l.length:Int)<=3;omega
  ·show(0:Int)<=(cal:Int);omega
  ·show(cal:Int)<(C.entry.length:Int);omega
  ·show(cal:Int)<(p.size.length:Int);omega
  ·show 0<=nth p.size ((cal:Int)).toNat;rw[Int.toNat_natCast];omega
  ·show nth p.size ((cal:Int)).toNat<=24;rw[Int.toNat_natCast];omega
  ·show((ao p x).l.length:Int)<=nth p.size ((cal:Int)).toNat;rw[Int.toNat_natCast];omega)
 have Q1:∀m',bj p C inp ((M.aM { c with at_:=(ke:Int)+1,stack:=A,aP:=q }).ins p C inp ⟨20,(cal:Int),((ao p x).l.length:Int),sE⟩) m'->bj p C inp (M.aM c) m':=fun m' hg=> g.trans (bj.ins (c:={ c with at_:=(ke:Int),stack:=A,aP:=q }) h1 h8 hM.st rfl SU.1 SU.2.1 (fun h=>by cases h) hok hg)
 have UX:(M.aM { c with at_:=(ke:Int)+1,stack:=A,aP:=q }).cut ((ao p x).l.length:Int).toNat=M.aM { c with at_:=(ke:Int)+1,stack:=[],aP:=q+(ao p x).l.length }:=by rw[MV.cL h1,Int.toNat_natCast];unfold MC.cut;show M.aM ⟨_,_,_,_,A.take (A.length-(ao p x).l.length),_⟩=_;rw[Ve,Nat.sub_self];rfl
 rw[MV.o9,UX,MV.br]at Q1;by_cases XZ:8<=M.calls.length
 ·rw[if_pos XZ,MV.dK h1]at Q1;exact⟨_,Q1 _ (bj.refl _),ue hM hc hm (.inr rfl) ⟨jC,jC⟩⟩
 rw[if_neg XZ,MV.bh h1]at Q1;have Vu:A.drop (A.length-((ao p x).l.length:Int).toNat)=A:=by rw[Int.toNat_natCast,Ve,Nat.sub_self,List.drop_zero]
 have Xe:(MC.stack { c with at_:=(ke:Int)+1,stack:=A,aP:=q }).drop ((MC.stack { c with at_:=(ke:Int)+1,stack:=A,aP:=q }).length-((ao p x).l.length:Int).toNat)=A:=Vu;rw[Xe]at Q1;obtain⟨ek,e1,e2⟩:=hE cal QE.lt;generalize QQ:({ c with at_:=(ke:Int)+1,stack:=[],aP:=q+(ao p x).l.length }:MC)=c' at*;have Xf:lu p c'/\qG p C c':=by subst QQ;refine⟨⟨hc.f0,hc.f1,hc.sl,hc.rg⟩,rfl,hm,ke+1,by push_cast;rfl,?_⟩;have e:kc+(cd p n x kc).length=ke+1:=jB;rw[e]at RU Rm VA;exact⟨RU,Rm,VA⟩
 generalize hd:MV.iD p C (cal:Int) A=d;have VC:nth p.size ((cal:Int)).toNat=nth p.size cal:=by rw[Int.toNat_natCast]
 have Za:lu p d:=by
  subst hd;refine⟨by show(0:Int)<=cal;omega,by show(cal:Int)<_;omega,?_,?_⟩
  ·show((A++List.replicate _ v0).length:Int)=nth p.size ((cal:Int)).toNat;rw[List.length_append,List.length_replicate,VC];omega
  ·intro v hv;rcases List.mem_append.1 (show v∈A++List.replicate _ v0 from hv)with hv|hv
   ·exact(hA v hv).1
   ·rw[(List.mem_replicate.1 hv).2];exact ka
 have Qe:((M.aM c').ci p C (cal:Int) A).calls.length=M.calls.length+1:=by show((M.aM c').calls++[_]).length=_;rw[List.length_append,MV.br];rfl
 have WA:∀k,k<M.calls.length->nth ((M.aM c').ci p C (cal:Int) A).calls k=nth (M.aM c').calls k:=fun k hk=>by show nth ((M.aM c').calls++[_]) k=_;unfold nth;rw[List.getD_eq_getElem?_getD,List.getElem?_append_left (by rw[MV.br];exact hk),List.getD_eq_getElem?_getD]
 have Xg:((M.aM c').ci p C (cal:Int) A).af=d:=by
  unfold MV.af;rw[Qe];show nth ((M.aM c').calls++[MV.iD p C (cal:Int) A]) (M.calls.length+1-1)=d;have:M.calls.length+1-1=(M.aM c').calls.length:=by rw[MV.br];omega
  rw[this,o5,hd]
 have hB:eZ p C ((M.aM c').ci p C (cal:Int) A):=by
  refine⟨jB,jB,hM.st,hM.tr,fun k hk=>?_,hM.cells,hM.rg⟩;rw[WA k jB];by_cases e:k=M.calls.length-1
  ·have:nth (M.aM c').calls k=c':=by rw[e];exact(Go.Gd.bI _ _ _ _ jB).trans (if_pos rfl)
   rw[this];exact Xf
  ·have:nth (M.aM c').calls k=nth M.calls k:=(Go.Gd.bI _ _ _ _ jB).trans (jN);rw[this];exact hM.low k jB
 obtain⟨m1,g1,d1⟩:=tL (inp:=inp) _ _ d ek hB rfl Za (by subst hd;rfl) (by subst hd;show nth C.entry ((cal:Int)).toNat=_;rw[Int.toNat_natCast];exact e1) (by subst hd;show dB p C ((cal:Int)).toNat ek;rw[Int.toNat_natCast];exact e2);refine⟨m1,Q1 _ ?_,d1⟩;have:=MV.qC ((M.aM c').ci p C (cal:Int) A) jB;rw[Xg]at this;rw[<-this];exact g1
theorem zX{j n:Nat}:∀(L:PJ) (k:Nat),(∀x∈L,0<=x/\x.toNat<n/\x.toNat<p.aa.nodes.length/\iH p j x/\eR (bE p.aa.nodes x))->bB C.ins k (bn (fR p n) k L [])->dB p C j (k+(bn (fR p n) k L []).length)->dB p C j k
 |[],k,hL,hl,hc=>hc
 |x::L,k,hL,hl,hc=>by
  obtain⟨x0,x1,x2,x3,x4⟩:=hL x jE;obtain⟨m,rfl⟩:∃m,n=m+1:=⟨n-1,jB⟩;have e0:bn (fR p (m+1)) (k:Int) (x::L) []=fR p (m+1) x k++bn (fR p (m+1)) ((k+(fR p (m+1) x k).length:Nat):Int) L []:=by show bn (fR p (m+1)) k L ([]++fR p (m+1) x ((k:Int)+((0:Nat):Int)))=_;rw[uM,List.nil_append,show((k:Int)+((0:Nat):Int))=(k:Int) from jB,Int.natCast_add]
  rw[e0]at hl hc;rw[List.length_append,<-Nat.add_assoc]at hc;exact .mark x0 x1 x2 x3 x4 hl.app.1 (zX L _ (fun y hy=>hL y (by simp[hy])) hl.app.2 hc)
end
section
variable {p:ab}{C:aB}{inp:PJ}
def NY{l:PJ}(h:∀x∈l,cr x)(k:Nat):cr (nth l k):=by
 rcases vX l k with e|e
 ·exact h _ e
 ·rw[e];exact ka
def IW{h:PI}(hr:p7 h)(i k:Nat){v:Int}(hv:cr v):p7 (h.set i ((nth h i).set k v)):=fun l hl x hx=>by
 rcases List.mem_or_eq_of_mem_set hl with hl|rfl
 ·exact hr l hl x hx
 ·rcases List.mem_or_eq_of_mem_set hx with hx|rfl
  ·rcases vX h i with e|e
   ·exact hr _ e x hx
   ·rw[e]at hx;cases hx
  ·exact hv
def Jy{M:MV}(hs:fG p)(hE:wF p C)(VS:C.entry.length=p.aa.au.length)(hi:∀x∈inp,cr x)(hM:eZ p C M){c:MC}(hc:lu p c){k n:Nat}{a:Int}(hm:lK p C c.fn.toNat k n a)(Tf:c.mark=(k:Int))(P0:c.stack=[])(Qx:c.at_=(k:Int)+1):∃m1,bj p C inp (M.aM c) m1/\kV p C M m1:=by
 have h1:=hM.one;have h8:=hM.dM;have f0:=hc.f0;have f1:=hc.f1;have hj:c.fn.toNat<p.aa.au.length:=jB;have Vf:tB p C c.fn.toNat c.mark:=⟨k,n,a,Tf,hm⟩;have hl:=hm.hl;have sh:=(hs.ok.aa.shape a.toNat hl).1;have Qi:=hs.ok.aa.many;have P8:eR (ao p a).kind:=hm.hk;unfold eR at P8;have Sg:iM (ao p a).kind->0<=nth p.slots a.toNat/\nth p.slots a.toNat<c.slots.length:=fun h=>by have:=(hs.au _ hj).all a.toNat hm.hi.1 (by have:=hm.hi.2;omega) h;rw[hc.sl];exact this
 have hC:=hm.hC;have P6:=hm.h;have e0:=xX p n a k;have ek:(k:Int)+1=((k+1:Nat):Int):=by push_cast;rfl
 rw[ek]at e0 Qx;have aA:∀x∈(ao p a).l,0<=x/\x.toNat<n/\x.toNat<p.aa.nodes.length/\iH p c.fn.toNat x:=fun x hx=>by obtain⟨b1,b2,b3,b4⟩:=hm.hi.aA hs hj hx;have:=hm.hn;exact⟨b2,jB,b4,b1⟩
 have ex:∀(M':MV) (d:MC) (kd:Nat),eZ p C M'->lu p d->d.fn=c.fn->d.slots=c.slots->d.at_=(kd:Int)->(∀v∈d.stack,gx v)->d.stack.length<=2->∀x∈(ao p a).l,bW (bE p.aa.nodes x)->bB C.ins kd (aZ p n x kd)->kS p C inp M' d (kd+(aZ p n x kd).length):=fun M' d kd TZ hd d1 d2 d3 d4 d5 x hx Ql Xh=>by obtain⟨b1,b2,b3,b4⟩:=aA x hx;exact xo hs TZ.one TZ.dM TZ.st TZ.cells TZ.rg hj (slots:=c.slots) hc.sl hc.rg n x kd d b1 b3 b4 Ql b2 d2 d3 Xh d4 jB
 have fr:∀(kd q:Nat) (st:List aj),lu p { c with at_:=(kd:Int),stack:=st,aP:=q }:=fun kd q st=>⟨hc.f0,hc.f1,hc.sl,hc.rg⟩
 have stop:∀(kd q:Nat) (st:List aj) (s t:Int),s=1\/s=3->0<=t/\t<=9->kV p C M (M.iv { c with at_:=(kd:Int),stack:=st,aP:=q } s t):=fun kd q st s t h h'=>ue hM (fr kd q st) Vf h h'
 have cont:∀(M':MV) (kd q:Nat),eZ p C M'->dB p C c.fn.toNat kd->∃m1,bj p C inp (M'.aM { c with at_:=(kd:Int),stack:=[],aP:=q }) m1/\kV p C M' m1:=fun M' kd q TZ h=>tL _ M' _ kd TZ rfl (fr kd q []) rfl rfl h
 have finr:∀(M':MV) (kd q:Nat) (v:aj),eZ p C M'->gx v->kd<C.ins.length->wE c (nth C.ins kd)->dB p C c.fn.toNat (kd+1)->∃m1,bj p C inp (M'.aM { c with at_:=(kd:Int),stack:=[v],aP:=q }) m1/\kV p C M' m1:=fun M' kd q v TZ hv h2 h3 h4=> Ds TZ rfl (fun M c k a b=>tL _ M c k a b) (c:={ c with at_:=(kd:Int),stack:=[v],aP:=q }) (fr kd q [v]) rfl hv rfl h2 h3 h4
 -- an instruction on one value
 have go1:∀{kd q:Nat} {i:aq} {v:aj} {m':MV},bB C.ins kd [i]->gx v->i.op=13\/i.op=15\/i.op=17\/i.op=21->bj p C inp ((M.aM { c with at_:=(kd:Int)+1,stack:=[v],aP:=q }).ins p C inp i) m'->bj p C inp (M.aM { c with at_:=(kd:Int),stack:=[v],aP:=q }) m':=fun{kd q i v m'} hl hv ho g=> bj.ins (c:={ c with at_:=(kd:Int),stack:=[v],aP:=q }) h1 h8 hM.st rfl hl.head.1 hl.head.2.1 jB (oV h1 h8 rfl hl.head.1 hl.head.2.1 (fun u hu=>by rw[List.mem_singleton.1 hu];exact hv) jE jB 1 jE (fun h=>by cases h) (fun _=>jB) (fun h=>jB) (fun h=>jB)) g
 have last1:∀(kd:Int) (q:Nat) (v:aj),MC.last { c with at_:=kd,stack:=[v],aP:=q }=v:=fun _ _ _=>rfl
 have cut1:∀(kd:Int) (q:Nat) (v:aj),MC.cut { c with at_:=kd,stack:=[v],aP:=q } 1={ c with at_:=kd,stack:=[],aP:=q+1 }:=fun _ _ _=>rfl
 have nat1:∀kd:Nat,(kd:Int)+1=((kd+1:Nat):Int):=fun kd=>by push_cast;rfl
 have self:c={ c with at_:=((k+1:Nat):Int),stack:=[],aP:=c.aP }:=by rw[<-Qx,<-P0]
 -- an expression at the beginning, and what is behind it
 have first:∀x∈(ao p a).l,bW (bE p.aa.nodes x)->bB C.ins (k+1) (aZ p n x ((k+1:Nat):Int))->(∀v q,gx v->∃m1,bj p C inp (M.aM { c with at_:=((k+1+(aZ p n x ((k+1:Nat):Int)).length:Nat):Int),stack:=[v],aP:=q }) m1/\kV p C M m1)->∃m1,bj p C inp (M.aM c) m1/\kV p C M m1:=fun x hx Ql Xh h=>by
  rcases ex M c (k+1) hM hc rfl rfl Qx (fun v hv=>by rw[P0]at hv;cases hv) (by rw[P0];simp) x hx Ql Xh with⟨v,q,hv,g⟩|⟨t,ht,g⟩
  ·obtain⟨m1,g1,d⟩:=h v q hv;rw[P0,List.nil_append]at g;rw[Int.natCast_add (k+1)]at g1;exact⟨m1,g.trans g1,d⟩
  ·exact⟨_,g,ue hM hc Vf (.inr rfl) jB⟩
 -- a block below it
 have blk:∀b∈(ao p a).l,bE p.aa.nodes b=18->∀kb:Nat,bB C.ins kb (bn (fR p n) kb (ao p b).l [])->dB p C c.fn.toNat (kb+(bn (fR p n) kb (ao p b).l []).length)->dB p C c.fn.toNat kb:=fun b hb S3 kb hl h=>by obtain⟨b1,b2,b3,b4⟩:=aA b hb;refine zX _ kb (fun x hx=>?_) hl h;obtain⟨x1,x2,x3,x4⟩:=b4.aA hs hj hx;exact⟨x2,jB,x4,x1,(hs.ok.aa.shape b.toNat b3).1.block S3 x hx⟩
 -- one way, or the other
 have branch:∀(kx q kt:Nat) (v:aj),bB C.ins kx [iI 17 (kt:Int)]->gx v->dB p C c.fn.toNat kt->dB p C c.fn.toNat (kx+1)->∃m1,bj p C inp (M.aM { c with at_:=(kx:Int),stack:=[v],aP:=q }) m1/\kV p C M m1:=fun kx q kt v hl hv ht hf=>by
  have go:∀m',_->bj p C inp (M.aM { c with at_:=(kx:Int),stack:=[v],aP:=q }) m':=fun m'=>go1 (m':=m') hl hv (.inr (.inr (.inl rfl)))
  rw[MV.np,MV.bh h1,last1,MV.cL h1,cut1,MV.dc]at go;by_cases h:v.n=0
  ·rw[if_pos h]at go;obtain⟨m1,g,d⟩:=cont M kt (q+1) hM ht;exact⟨m1,go _ g,d⟩
  ·rw[if_neg h]at go;obtain⟨m1,g,d⟩:=cont M (kx+1) (q+1) hM hf;exact⟨m1,go _ g,d⟩
 have Qs:((ao p a).kind=10\/(ao p a).kind=11)\/(ao p a).kind=12\/(ao p a).kind=13\/(ao p a).kind=14\/(ao p a).kind=15\/(ao p a).kind=16\/(ao p a).kind=17:=jB;rcases Qs with e|e|e|e|e|e|e
 ·-- let, set
  obtain⟨x,B',TG⟩:=sh.right e;have B':(ao p a).l=[x]:=B';have QP:nth (ao p a).l 0=x:=by rw[B'];rfl
  have R3:x∈(ao p a).l:=by rw[B'];simp
  rw[if_pos e,QP]at e0;rw[e0]at hC P6;have hC:=hC.head.2.2;have Q0:=Sg (by unfold iM;omega);obtain⟨b1,b2,b3,b4⟩:=aA x R3;have hF:∀i,i=iI 6 (nth p.slots a.toNat)->wE c i:=fun i h=>.inl ⟨_,h,Q0⟩
  have P4:=hC.last;rw[List.length_cons,List.length_append,List.length_singleton]at P6;rw[sR]at P4 P6;by_cases k19:(ao p x).kind=19
  ·rw[if_pos k19]at P4 P6;have hx:=P4.1.head;have Qe:=P4.2;rw[List.length_singleton]at Qe P6;have go:∀m',bj p C inp ((M.aM { c with at_:=((k+1:Nat):Int)+1 }).ins p C inp (iI 14 0)) m'->bj p C inp (M.aM c) m':=fun m' g=>
    bj.ins h1 h8 hM.st Qx hx.1 hx.2.1 (fun h=>by cases h) (oV h1 h8 Qx hx.1 hx.2.1 (fun v hv=>by rw[P0]at hv;cases hv) (by rw[P0];simp) ⟨by show(1:Int)<=14;decide,by show(14:Int)<=23;decide⟩ 0 (Nat.zero_le _) (fun _=>.inr (.inr (.inr (.inr (.inl rfl))))) (fun h=>by cases h) (fun h=>by rcases h with h|h|h|h<;>cases h) (fun h=>by cases h)) g
   rw[MV.nG]at go;by_cases hw:(inp.length:Int)<=M.in_
   ·have Xi:(inp.length:Int)<=(M.aM { c with at_:=((k+1:Nat):Int)+1 }).in_:=hw;rw[if_pos Xi,MV.dK h1]at go;exact⟨_,go _ (bj.refl _),ue hM (c:={ c with at_:=((k+1:Nat):Int)+1 }) ⟨hc.f0,hc.f1,hc.sl,hc.rg⟩ Vf (.inl rfl) ⟨Int.le_refl _,jC⟩⟩
   ·have Xi:¬(inp.length:Int)<=(M.aM { c with at_:=((k+1:Nat):Int)+1 }).in_:=hw;rw[if_neg Xi,MV.eQ h1]at go;obtain⟨m1,g,d⟩:=finr { M with in_:=M.in_+1 } (k+1+1) (c.aP-1) (vI (nth inp M.in_.toNat)) ⟨hM.one,hM.dM,hM.st,hM.tr,hM.low,hM.cells,hM.rg⟩ (qf (NY hi _)) Qe.1 (hF _ Qe.2) P6;refine⟨m1,go _ ?_,d⟩;have e:MC.push { c with at_:=((k+1:Nat):Int)+1 } (vI (nth inp M.in_.toNat))={ c with at_:=((k+1+1:Nat):Int),stack:=[vI (nth inp M.in_.toNat)],aP:=c.aP-1 }:=by
     unfold MC.push;simp only[P0];rfl
    show bj p C inp { M.aM (MC.push { c with at_:=((k+1:Nat):Int)+1 } (vI (nth inp M.in_.toNat)))with in_:=M.in_+1 } m1;rw[e];exact g
  rw[if_neg k19]at P4 P6;by_cases k20:(ao p x).kind=20
  ·rw[if_pos k20]at P4 P6;obtain⟨y,Wq,S6⟩:=(hs.ok.aa.shape x.toNat b3).1.one (.inr (.inr (.inr (.inr (.inr k20)))));have Wq:(ao p x).l=[y]:=Wq;have Tl:nth (ao p x).l 0=y:=by rw[Wq];rfl
   rw[Tl]at P4 P6;obtain⟨y1,y2,y3,y4⟩:=b4.aA hs hj (b:=y) (by rw[Wq];simp);have T0:=P4.1.last;rw[List.length_append,List.length_singleton]at P4 P6;rcases xo (inp:=inp) hs h1 h8 hM.st hM.cells hM.rg hj (slots:=c.slots) hc.sl hc.rg n y (k+1) c y2 y4 y1 S6 jB rfl Qx T0.1 (fun v hv=>by rw[P0]at hv;cases hv) (by rw[P0];show 0+y.toNat<=900;omega)with⟨v,q,hv,g⟩|⟨t,ht,g⟩
   rotate_left
   ·exact⟨_,g,ue hM hc Vf (.inr rfl) jB⟩
   rw[P0,List.nil_append,<-Int.natCast_add]at g;generalize hX:aZ p n y ((k+1:Nat):Int)=X at*;have go:∀m',bj p C inp ((M.aM { c with at_:=((k+1+X.length:Nat):Int)+1,stack:=[v],aP:=q }).ins p C inp (iI 13 0)) m'->bj p C inp (M.aM c) m':=fun m' g'=>g.trans (go1 ⟨_,by rw[List.drop_eq_getElem_cons T0.2.1,<-dT T0.2.1,T0.2.2];rfl⟩ hv (.inl rfl) g')
   rw[MV.qO,MV.bh h1,last1,MV.cL h1,cut1,MV.dK h1,MV.dK h1,MV.eQ h1,nat1]at go;by_cases hq:v.n<0\/16<v.n
   ·rw[if_pos hq]at go;exact⟨_,go _ (bj.refl _),stop _ _ _ _ _ (.inr rfl) jC⟩
   rw[if_neg hq]at go;by_cases SA:40<fv M.heap+v.n+1
   ·have UY:40<fv (M.aM { c with at_:=((k+1+X.length+1:Nat):Int),stack:=[v],aP:=q }).heap+v.n+1:=SA;rw[if_pos UY]at go;exact⟨_,go _ (bj.refl _),stop _ _ _ _ _ (.inr rfl) jC⟩
   have UY:¬40<fv (M.aM { c with at_:=((k+1+X.length+1:Nat):Int),stack:=[v],aP:=q }).heap+v.n+1:=SA;rw[if_neg UY]at go;have Q4:fv (M.heap++[List.replicate v.n.toNat 0])<=40:=by rw[zz,List.length_replicate];omega
   have hhl:=xn M.heap;obtain⟨m1,g',d⟩:=finr { M with heap:=M.heap++[List.replicate v.n.toNat 0] } (k+1+(X.length+1)) (q+1-1) ⟨4,M.heap.length+1,sE⟩ ⟨hM.one,hM.dM,hM.st,hM.tr,hM.low,Q4,fun l hl x hx=>by
    rcases List.mem_append.1 hl with hl|hl
    ·exact hM.rg l hl x hx
    ·rw[List.mem_singleton.1 hl]at hx;rw[(List.mem_replicate.1 hx).2];exact ka⟩ ⟨by show cr ((M.heap.length:Int)+1);have:=hM.cells;unfold cr;omega,by show sE.size<=40;decide⟩ P4.2.1 (hF _ P4.2.2) (by rw[show k+1+(X.length+1)+1=k+(X.length+1+1+1) from jB];exact P6)
   exact⟨m1,go _ g',d⟩
  rw[if_neg k20]at P4 P6;by_cases k21:(ao p x).kind=21
  ·rw[if_pos k21]at P4 P6;exact GA hs hE VS hM hc Vf P0 Qx b1 b3 k21 b4 b2 P4.1 P4.2.1 (hF _ P4.2.2) (by rw[show k+1+(cd p n x ((k+1:Nat):Int)).length+1=k+((cd p n x ((k+1:Nat):Int)).length+1+1) from jB];exact P6)
  rw[if_neg k21]at P4 P6;have Ql:bW (bE p.aa.nodes x):=by
   rcases TG with h|h|h|h
   ·exact h
   ·exact(k19 h).elim
   ·exact(k20 h).elim
   ·exact(k21 h).elim
  exact first x R3 Ql P4.1 fun v q hv=>finr M _ q v hM hv P4.2.1 (hF _ P4.2.2) (by rw[show k+1+(aZ p n x ((k+1:Nat):Int)).length+1=k+((aZ p n x ((k+1:Nat):Int)).length+1+1) from jB];exact P6)
 ·-- put
  obtain⟨x,y,B',Ql,S6⟩:=sh.two (.inr e);have B':(ao p a).l=[x,y]:=B';have QP:nth (ao p a).l 0=x:=by rw[B'];rfl
  have Tl:nth (ao p a).l 1=y:=by rw[B'];rfl
  rw[jN,if_pos e,QP,Tl]at e0;rw[e0]at hC P6;have hC:=hC.head.2.2;have Q0:=Sg (by unfold iM;omega);have Wm:=hC.last.1.app.1;have X0:=hC.last.1.app.2;have P4:=hC.last.2;simp only[List.length_cons,List.length_append,List.length_nil]at P4 P6;refine first x (by rw[B'];simp) Ql Wm fun v q hv=>?_
  generalize hX:aZ p n x ((k+1:Nat):Int)=X at*;rw[<-Int.natCast_add]at X0 P4 P6;rcases ex M { c with at_:=((k+1+X.length:Nat):Int),stack:=[v],aP:=q } (k+1+X.length) hM (fr _ _ _) rfl rfl rfl (fun u hu=>by rw[List.mem_singleton.1 hu];exact hv) jE y (by rw[B'];simp) S6 X0 with⟨w,q2,hw,g⟩|⟨t,ht,g⟩
  rotate_left
  ·exact⟨_,g,stop _ _ _ _ _ (.inr rfl) jB⟩
  rw[<-Int.natCast_add]at g;generalize hY:aZ p n y ((k+1+X.length:Nat):Int)=Y at*;rw[<-Nat.add_assoc]at P4;have go:∀m',bj p C inp ((M.aM { c with at_:=((k+1+X.length+Y.length:Nat):Int)+1,stack:=[v]++[w],aP:=q2 }).ins p C inp (iI 12 (nth p.slots a.toNat))) m'->bj p C inp (M.aM { c with at_:=((k+1+X.length:Nat):Int),stack:=[v],aP:=q }) m':=fun m' g'=>g.trans
   (bj.ins (c:={ c with at_:=((k+1+X.length+Y.length:Nat):Int),stack:=[v]++[w],aP:=q2 }) h1 h8 hM.st rfl P4.1 P4.2 (fun h=>by cases h) (oV h1 h8 rfl P4.1 P4.2 (uO (fun u hu=>by rw[List.mem_singleton.1 hu];exact hv) hw) jE ⟨by show(1:Int)<=12;decide,by show(12:Int)<=23;decide⟩ 2 jE (fun h=>by cases h) (fun h=>by cases h) (fun _=>Q0) (fun h=>by cases h)) g')
  have c2:MC.cut { c with at_:=((k+1+X.length+Y.length:Nat):Int)+1,stack:=[v]++[w],aP:=q2 } 2={ c with at_:=((k+1+X.length+Y.length+1:Nat):Int),stack:=[],aP:=q2+2 }:=rfl;have l1:MC.last (MC.cut { c with at_:=((k+1+X.length+Y.length:Nat):Int)+1,stack:=[v]++[w],aP:=q2 } 1)=v:=rfl;have l2:MC.last { c with at_:=((k+1+X.length+Y.length:Nat):Int)+1,stack:=[v]++[w],aP:=q2 }=w:=rfl;rw[MV.qA,MV.bh h1,l1,l2,MV.cL h1,c2,MV.dK h1,MV.jt]at go;have Ux:=AT hM.cells hM.rg (dt c.slots (nth p.slots a.toNat) 4).n;by_cases hb:v.n<0\/((MV.aV M.heap (dt c.slots (nth p.slots a.toNat) 4).n).length:Int)<=v.n
  ·have QX:v.n<0\/((MV.aV M.heap (dt (MC.slots { c with at_:=((k+1+X.length+Y.length:Nat):Int)+1,stack:=[v]++[w],aP:=q2 }) (nth p.slots a.toNat) 4).n).length:Int)<=v.n:=hb;rw[if_pos QX]at go;exact⟨_,go _ (bj.refl _),stop _ _ _ _ _ (.inr rfl) jC⟩
  ·have QX:¬(v.n<0\/((MV.aV M.heap (dt (MC.slots { c with at_:=((k+1+X.length+Y.length:Nat):Int)+1,stack:=[v]++[w],aP:=q2 }) (nth p.slots a.toNat) 4).n).length:Int)<=v.n):=hb;rw[if_neg QX]at go;generalize hg:(dt c.slots (nth p.slots a.toNat) 4).n=g4 at*;have Q4:fv (M.heap.set (g4-1).toNat ((nth M.heap (g4-1).toNat).set v.n.toNat w.n))<=40:=by
    by_cases PW:(g4-1).toNat<M.heap.length
    ·rw[AM _ _ _ PW (by rw[List.length_set])];exact hM.cells
    ·rw[List.set_eq_of_length_le jB];exact hM.cells
   obtain⟨m1,g',d⟩:=cont { M with heap:=M.heap.set (g4-1).toNat ((nth M.heap (g4-1).toNat).set v.n.toNat w.n) } (k+1+X.length+Y.length+1) (q2+2) ⟨hM.one,hM.dM,hM.st,hM.tr,hM.low,Q4,IW hM.rg _ _ hw.1⟩ (by rw[show k+1+X.length+Y.length+1=k+(X.length+Y.length+(0+1)+1) from jB];exact P6);exact⟨m1,go _ g',d⟩
 ·-- do
  obtain⟨x,B',Xj⟩:=sh.pB e;have B':(ao p a).l=[x]:=B';have QP:nth (ao p a).l 0=x:=by rw[B'];rfl
  rw[jN,jN,if_pos e,QP]at e0;rw[e0]at hC P6;have hC:=hC.head.2.2.last;obtain⟨b1,b2,b3,b4⟩:=aA x (by rw[B'];simp);rw[List.length_cons,List.length_append,List.length_singleton]at P6;exact GA hs hE VS hM hc Vf P0 Qx b1 b3 Xj b4 b2 hC.1 hC.2.1 (.inr hC.2.2) (by rw[show k+1+(cd p n x ((k+1:Nat):Int)).length+1=k+((cd p n x ((k+1:Nat):Int)).length+1+1) from jB];exact P6)
 ·-- print
  obtain⟨x,B',Ql⟩:=sh.one (.inr (.inr (.inr (.inr (.inl e)))));have B':(ao p a).l=[x]:=B';have QP:nth (ao p a).l 0=x:=by rw[B'];rfl
  rw[jN,jN,jN,if_pos e,QP]at e0;rw[e0]at hC P6;have hC:=hC.head.2.2;rw[List.length_cons,List.length_append,List.length_singleton]at P6;refine first x (by rw[B'];simp) Ql hC.last.1 fun v q hv=>?_
  have Qe:=hC.app.2;generalize hX:aZ p n x ((k+1:Nat):Int)=X at*;have go:∀m',_->bj p C inp (M.aM { c with at_:=((k+1+X.length:Nat):Int),stack:=[v],aP:=q }) m':=fun m'=>go1 (m':=m') Qe hv (.inr (.inl rfl))
  rw[MV.nS,MV.bh h1,last1,MV.cL h1,cut1,MV.dK h1,nat1]at go;by_cases ho:24<=M.aD.length
  ·have RG:24<=(M.aM { c with at_:=((k+1+X.length+1:Nat):Int),stack:=[v],aP:=q }).aD.length:=ho;rw[if_pos RG]at go;exact⟨_,go _ (bj.refl _),stop _ _ _ _ _ (.inr rfl) jC⟩
  ·have RG:¬24<=(M.aM { c with at_:=((k+1+X.length+1:Nat):Int),stack:=[v],aP:=q }).aD.length:=ho;rw[if_neg RG]at go;obtain⟨m1,g,d⟩:=cont { M with aD:=M.aD++[kW v] } (k+1+X.length+1) (q+1) ⟨hM.one,hM.dM,hM.st,hM.tr,hM.low,hM.cells,hM.rg⟩ (by rw[show k+1+X.length+1=k+(X.length+1+1) from jB];exact P6);exact⟨m1,go _ g,d⟩
 ·-- if
  obtain⟨x,b,Ql,S3,Zb⟩:=sh.lN e;rw[jN,jN,jN,jN,jN]at e0;rcases Zb with B'|⟨d,B',UJ⟩
  ·have B':(ao p a).l=[x,b]:=B';have QP:nth (ao p a).l 0=x:=by rw[B'];rfl
   have Ue:nth (ao p a).l 1=b:=by rw[B'];rfl
   rw[EN e (by rw[B'];show(2:Nat)≠3;decide),QP,Ue]at e0;rw[e0]at hC P6;have hC:=hC.head.2.2;refine first x (by rw[B'];simp) Ql hC.app.1.last.1 fun v q hv=>?_
   have Qe:=hC.app.1.app.2;have hB:=hC.app.2;generalize hX:aZ p n x ((k+1:Nat):Int)=X at*;simp only[List.length_append,List.length_cons,List.length_nil]at hB P6;rw[<-Int.natCast_add,nat1]at Qe hB P6;generalize Tb:bn (fR p n) ((k+1+X.length+1:Nat):Int) (ao p b).l []=B at*;rw[<-Int.natCast_add]at Qe;have c1:dB p C c.fn.toNat (k+1+X.length+1+B.length):=by rw[show k+1+X.length+1+B.length=k+(X.length+(0+1)+B.length+1) from jB];exact P6
   exact branch _ _ _ _ Qe hv c1 (blk b (by rw[B'];simp) S3 _ (by rw[Tb];exact hB) (by rw[Tb];exact c1))
  ·have B':(ao p a).l=[x,b,d]:=B';have QP:nth (ao p a).l 0=x:=by rw[B'];rfl
   have Ue:nth (ao p a).l 1=b:=by rw[B'];rfl
   have Zc:nth (ao p a).l 2=d:=by rw[B'];rfl
   rw[GK e (by rw[B'];rfl),QP,Ue,Zc]at e0;rw[e0]at hC P6;have hC:=hC.head.2.2;refine first x (by rw[B'];simp) Ql hC.app.1.app.1.last.1 fun v q hv=>?_
   have Qe:=hC.app.1.app.1.app.2;have hB:=hC.app.1.app.2.last;have hD:=hC.app.2;generalize hX:aZ p n x ((k+1:Nat):Int)=X at*;simp only[List.length_append,List.length_cons,List.length_nil]at hB hD P6;rw[<-Int.natCast_add,nat1]at Qe hB hD P6;generalize Tb:bn (fR p n) ((k+1+X.length+1:Nat):Int) (ao p b).l []=B at*;have e2:(((k+1+X.length+1:Nat):Int)+(B.length:Int)+1)=((k+1+X.length+1+B.length+1:Nat):Int):=by push_cast;omega
   rw[e2]at hB hD P6;generalize X1:bn (fR p n) ((k+1+X.length+1+B.length+1:Nat):Int) (ao p d).l []=D at*;have c1:dB p C c.fn.toNat (k+1+X.length+1+B.length+1+D.length):=by rw[show k+1+X.length+1+B.length+1+D.length=k+(X.length+(0+1)+(B.length+(0+1))+D.length+1) from jB];exact P6
   rw[show((k+1+X.length+1:Nat):Int)+((B.length:Int)+1)=((k+1+X.length+1+B.length+1:Nat):Int) by push_cast;omega]at Qe;rw[<-Int.natCast_add]at hB;have cD:=blk d (by rw[B'];simp) UJ (k+1+X.length+1+B.length+1) (by rw[X1];rw[show k+1+(X.length+(0+1)+(B.length+(0+1)))=k+1+X.length+1+B.length+1 from jB]at hD;exact hD) (by rw[X1];exact c1);have cJ:dB p C c.fn.toNat (k+1+X.length+1+B.length):=.jump (k':=k+1+X.length+1+B.length+1+D.length) (by have:=hB.2.1;omega) (by have:=hB.2.2;rw[show k+1+(X.length+(0+1))+B.length=k+1+X.length+1+B.length from jB]at this;exact this) c1;exact branch _ _ _ _ Qe hv cD (blk b (by rw[B'];simp) S3 _ (by rw[Tb];exact hB.1) (by rw[Tb];exact cJ))
 ·-- while
  obtain⟨x,b,B',Ql,S3⟩:=sh.fm e;rw[jN,jN,jN,jN,jN]at e0;have B':(ao p a).l=[x,b]:=B';have QP:nth (ao p a).l 0=x:=by rw[B'];rfl
  have Ue:nth (ao p a).l 1=b:=by rw[B'];rfl
  rw[BX e,QP,Ue]at e0;have cK:dB p C c.fn.toNat k:=.mark hm.h0 hm.hn hm.hl hm.hi hm.hk hm.hC hm.h;rw[e0]at hC P6;have hC:=hC.head.2.2;refine first x (by rw[B'];simp) Ql hC.app.1.last.1 fun v q hv=>?_
  have Qe:=hC.app.1.app.2;have hB:=hC.app.2.last;generalize hX:aZ p n x ((k+1:Nat):Int)=X at*;simp only[List.length_append,List.length_cons,List.length_nil]at hB P6;rw[<-Int.natCast_add,nat1]at Qe hB P6;generalize Tb:bn (fR p n) ((k+1+X.length+1:Nat):Int) (ao p b).l []=B at*;rw[show((k+1+X.length+1:Nat):Int)+((B.length:Int)+1)=((k+1+X.length+1+B.length+1:Nat):Int) by push_cast;omega]at Qe;have c1:dB p C c.fn.toNat (k+1+X.length+1+B.length+1):=by rw[show k+1+X.length+1+B.length+1=k+(X.length+(0+1)+(B.length+(0+1))+1) from jB];exact P6
  have cJ:dB p C c.fn.toNat (k+1+X.length+1+B.length):=.jump (k':=k) (by have:=hB.2.1;omega) (by have:=hB.2.2;rw[show k+1+(X.length+(0+1))+B.length=k+1+X.length+1+B.length from jB]at this;rw[this];congr 1;push_cast;omega) cK;exact branch _ _ _ _ Qe hv c1 (blk b (by rw[B'];simp) S3 _ (by rw[Tb];exact hB.1) (by rw[Tb];exact cJ))
 ·-- return
  rw[jN,jN,jN,jN,if_pos e]at e0;by_cases Q3:(ao p a).l.length=0
  ·rw[if_pos Q3]at e0;rw[e0]at hC;have hx:=hC.head.2.2.head;rw[self];exact cont M (k+1) c.aP hM (.fin hx.1 hx.2.1)
  ·rw[if_neg Q3]at e0;rcases sh.ret e with h|⟨x,B',Ql⟩
   ·have h:(ao p a).l=[]:=h;rw[h]at Q3;exact(Q3 rfl).elim
   have B':(ao p a).l=[x]:=B';have QP:nth (ao p a).l 0=x:=by rw[B'];rfl
   rw[QP]at e0;rw[e0]at hC;have hC:=hC.head.2.2;refine first x (by rw[B'];simp) Ql hC.last.1 fun v q hv=>?_
   have Qe:=hC.app.2;generalize hX:aZ p n x ((k+1:Nat):Int)=X at*;have go:∀m',_->bj p C inp (M.aM { c with at_:=((k+1+X.length:Nat):Int),stack:=[v],aP:=q }) m':=fun m'=>go1 (m':=m') Qe hv (.inr (.inr (.inr rfl)))
   rw[MV.qd,MV.bh h1,last1,MV.cL h1,cut1]at go;obtain⟨N,hN⟩:∃N,M.calls.length=N+1:=⟨M.calls.length-1,jB⟩;obtain⟨m1,g,d⟩:=B5 (inp:=inp) hM hN (fun M c k a b=>tL N M c k a b) hv { c with at_:=((k+1+X.length:Nat):Int)+1,stack:=[],aP:=q+1 };exact⟨m1,go _ g,d⟩
end
section
variable {p:ab}
def ze(hs:fG p):wF p (cC p):=fun j hj=>by
 obtain⟨k,h1,h2⟩:=(sM hs).at_ j hj;have VU:=h2.app.2.head;refine⟨k,h1,zX _ k (fun x hx=>?_) h2.app.1 (.fin VU.1 VU.2.1)⟩;have hN:=pC hs.ok.aa hj;have hb:=hs.ok.aa.body _ (fu hj);have Qa:=(hs.au j hj).chain.le;have J':(nth p.aa.au j).body.toNat<p.aa.nodes.length:=by have:=hN.1;have:=hN.2;omega
 have hi:iH p j (nth p.aa.au j).body:=⟨Qa,Nat.le_refl _⟩;obtain⟨x1,x2,x3,x4⟩:=hi.aA hs hj (b:=x) hx;exact⟨x2,by unfold lR;omega,x4,x1,(hs.ok.aa.shape _ J').1.block hb x hx⟩
def _root_.Go.Gd.MV.halt(m:MV):Prop:=m.status=2\/m.status=3
theorem MI.eT{C:aB}{m:MV}(h:MI p C m):MI p C m.eT:=⟨h.dM,h.low,h.af,h.sI,h.st,h.tr,h.cells,h.rg⟩
variable{inp:PJ}
def Hd{C:aB}(hs:fG p)(hE:wF p C)(VS:C.entry.length=p.aa.au.length)(hi:∀x∈inp,cr x){m:MV}(h:MI p C m)(P0:¬m.halt):∃m1,bj p C inp m.dJ m1/\kV p C m m1:=by obtain⟨h1,hc,RT,k,n,a,hk,hm⟩:=h.af (fun e=>P0 (.inl e));have hM:eZ p C { m with status:=0 }:=⟨h1,h.dM,rfl,h.tr,h.low,h.cells,h.rg⟩;exact Jy hs hE VS hi hM (c:={ m.af with mark:=m.af.at_,at_:=m.af.at_+1 }) ⟨hc.f0,hc.f1,hc.sl,hc.rg⟩ hm hk RT (by show m.af.at_+1=_;rw[hk])
def ES{C:aB}(hs:fG p)(hE:wF p C)(inp:PJ):∃m1,bj p C inp (pr p C) m1/\kV p C (pr p C) m1:=by
 obtain⟨j,hj,S7,_,Xk⟩:=Dc hs;obtain⟨ek,e1,e2⟩:=hE j hj;have hf:=hs.au j hj;have p1:=hf.ww;have hM:eZ p C (pr p C):=⟨by show 1<=1;decide,by show 1<=8;decide,rfl,by show(0:Int)<=0/\(0:Int)<=9;decide,fun k hk=>by have hk:k+1<1:=hk;omega,by show fv []<=40;decide,fun l hl=>by cases hl⟩
 have SF:(MV.iD p C (iO p) []).fn.toNat=j:=by show(iO p).toNat=j;rw[S7,Int.toNat_natCast]
 have P5:nth p.size (iO p).toNat=nth p.size j:=by rw[S7,Int.toNat_natCast]
 obtain⟨m1,g,d⟩:=tL (inp:=inp) 1 (pr p C) (MV.iD p C (iO p) []) ek hM rfl ⟨by show 0<=iO p;omega,by show iO p<_;omega,by
  show(([]++List.replicate _ v0:List aj).length:Int)=nth p.size (iO p).toNat;rw[List.nil_append,List.length_replicate,P5];simp only[List.length_nil];omega,fun v hv=>by
  have hv:v∈([]++List.replicate _ v0:List aj):=hv;rw[List.nil_append]at hv;rw[(List.mem_replicate.1 hv).2];exact ka⟩ rfl (by show nth C.entry (iO p).toNat=_;rw[S7,Int.toNat_natCast];exact e1) (by rw[SF];exact e2)
 exact⟨m1,g,d⟩
structure fa(p:ab)(C:aB)(F:List Int->MV->MV):Prop where
 step:∀inp:List Int,(∀x∈inp,cr x)->∀m,MI p C m->¬m.halt->∃m1,bj p C inp m.dJ m1/\kV p C m m1/\F inp m=m1.eT
 still:∀inp m,m.halt->F inp m=m
def Gz(hs:fG p):∃F,fa p (cC p) F:=by
 classical
 refine⟨fun inp m=>if h:¬m.halt/\∃m1,bj p (cC p) inp m.dJ m1/\kV p (cC p) m m1 then(Classical.choose h.2).eT else m,fun inp hi m hm P0=>?_,fun inp m h=>by rw[dif_neg (fun h'=>h'.1 h)]⟩;have h:¬m.halt/\∃m1,bj p (cC p) inp m.dJ m1/\kV p (cC p) m m1:=⟨P0,Hd hs (ze hs) (sM hs).len hi hm P0⟩;have hc:=Classical.choose_spec h.2;exact⟨_,hc.1,hc.2,by rw[dif_pos h]⟩
def fa.mi{C:aB}{F:PJ->MV->MV}(hF:fa p C F)(hi:∀x∈inp,cr x){m:MV}(h:MI p C m):MI p C (F inp m):=by
 by_cases e:m.halt
 ·rw[hF.still inp m e];exact h
 ·obtain⟨m1,_,d,e⟩:=hF.step inp hi m h e;rw[e];exact d.2.1.eT
theorem fa.time{C:aB}{F:PJ->MV->MV}(hF:fa p C F){inp:PJ}(hi:∀x∈inp,cr x){m:MV}(h:MI p C m):(F inp m).time=m.time\/((F inp m).time=m.time+1/\(F inp m).status≠1/\¬m.halt):=by
 by_cases e:m.halt
 ·exact .inl (by rw[hF.still inp m e])
 ·obtain⟨m1,_,d,e'⟩:=hF.step inp hi m h e;rw[e'];unfold MV.eT;dsimp only;split
  ·exact .inl d.2.2
  ·rename_i QW;exact .inr ⟨by rw[d.2.2],QW,e⟩
end
section
variable {p:ab}{C:aB}{inp:PJ}
def Kw(m:MV)(v:aj):(m.ends v).in_=m.in_:=by unfold MV.ends;split<;>rfl
def NN(m:MV)(r:aj×Int):(m.dI r).in_=m.in_:=by unfold MV.dI;split<;>rfl
def Ox{c:Prop}[Decidable c]{a b:MV}{k:Int}(h:a.in_=k)(h':b.in_=k):(if c then a else b).in_=k:=by
 by_cases e:c
 ·rw[if_pos e];exact h
 ·rw[if_neg e];exact h'
def On(m:MV)(x:aq):(m.ins p C inp x).in_=m.in_\/(m.ins p C inp x).in_=m.in_+1:=by
 by_cases h:x.op=14
 ·rw[MV.gp _ _ _ _ _ h];split
  ·exact .inl rfl
  ·exact .inr rfl
 ·left
  unfold MV.ins;simp only[h,↓reduceIte];repeat' (first|rfl|exact Kw _ _|exact NN _ _|refine Ox ?_ ?_)
variable{m:MV}
def Mm(h0:0<=m.in_){x:aq}(hx:¬(x.op=14/\(inp.length:Int)<=m.in_))(y:PJ):m.ins p C (inp++y) x=m.ins p C inp x:=by
 by_cases h:x.op=14
 ·have PW:¬(inp.length:Int)<=m.in_:=fun h'=>hx ⟨h,h'⟩
  have e:nth (inp++y) m.in_.toNat=nth inp m.in_.toNat:=by unfold nth;rw[List.getD_eq_getElem?_getD,List.getElem?_append_left jB,List.getD_eq_getElem?_getD]
  rw[MV.gp _ _ _ _ _ h,MV.gp _ _ _ _ _ h,if_neg PW,if_neg (by rw[List.length_append];omega),e]
 ·unfold MV.ins;simp only[h,↓reduceIte]
def NX{n:Nat}{m':MV}(h:fj p C inp n m m'):0<=m.in_->m'.status≠1->∀y,fj p C (inp++y) n m m':=by
 induction h with|refl m=>intro _ _ y;exact .refl m|@step n m m' h0 h1 hok hg ih=>
  intro hi hs y;have Q2:0<=(m.one p C inp).in_:=by
   rcases On (p:=p) (C:=C) (inp:=inp) (m.aM (m.af.jump (m.af.at_+1))) (m.bc C)with e|e
   ·show 0<=((m.aM _).ins p C inp _).in_;rw[e];exact hi
   ·show 0<=((m.aM _).ins p C inp _).in_;rw[e];show 0<=m.in_+1;omega
  have key:¬((m.bc C).op=14/\(inp.length:Int)<=(m.aM (m.af.jump (m.af.at_+1))).in_):=fun⟨a,b⟩=>by
   have e:m.one p C inp=(m.aM (m.af.jump (m.af.at_+1))).stops 1 0:=by show(m.aM _).ins p C inp _=_;rw[MV.gp _ _ _ _ _ a,if_pos b]
   rw[e]at hg;cases hg with|refl=>exact hs rfl|step X2=>have X2:(1:Int)=0:=X2;omega
  have e:m.one p C (inp++y)=m.one p C inp:=Mm (m:=m.aM (m.af.jump (m.af.at_+1))) hi key y;exact .step h0 h1 hok (by rw[e];exact ih Q2 hs y)
def Ju{n:Nat}{a:MV}(h:fj p C inp n m a):∀{k b},fj p C inp k m b->a.eo C->b.eo C->a=b:=by
 induction h with|refl m=>
  (intro k b hb ha _;cases hb with|refl=>rfl|step h0 h1=>exact(ha.elim (fun h=>h h0) h1).elim)|@step n m m' h0 h1 hok hg ih=>
  intro k b hb ha QX;cases hb with|refl=>exact(QX.elim (fun h=>h h0) h1).elim|step _ _ _ Zd=>exact ih Zd ha QX
def tR(m:MV)(k:Nat)(v:aj):MV:=m.aM { m.af with slots:=m.af.slots.set k v }
def LM(h:MI p C m)(hs:¬m.halt)(k:Nat){v:aj}(hv:cr v.n):MI p C (tR m k v):=by
 obtain⟨h1,hf,P0,hm⟩:=h.af (fun e=>hs (.inl e));have ht:(tR m k v).af={ m.af with slots:=m.af.slots.set k v }:=MV.bh h1 _;have hl:(tR m k v).calls.length=m.calls.length:=MV.br _ _;refine⟨by rw[hl];exact h.dM,fun j hj=>?_,fun _=>?_,fun e=>(hs (.inl e)).elim,h.st,h.tr,h.cells,h.rg⟩
 ·rw[hl]at hj;rw[show nth (tR m k v).calls j=nth m.calls j from(Go.Gd.bI _ _ _ _ jB).trans (jN)];exact h.low j hj
 ·rw[hl,ht];exact⟨h1,⟨hf.f0,hf.f1,by show((m.af.slots.set k v).length:Int)=_;rw[List.length_set];exact hf.sl,yG hf.rg _ hv⟩,P0,hm⟩
def fa.more{F:PJ->MV->MV}(hF:fa p C F){y:PJ}(hi:∀x∈inp,cr x)(hy:∀x∈y,cr x)(h:MI p C m)(h0:0<=m.in_)(hw:(F inp m).status≠1):F (inp++y) m=F inp m:=by
 by_cases e:m.halt
 ·rw[hF.still _ m e,hF.still _ m e]
 ·obtain⟨m1,⟨n,g⟩,d,e1⟩:=hF.step inp hi m h e;obtain⟨m2,⟨k,g2⟩,d2,e2⟩:=hF.step (inp++y) (fun x hx=>(List.mem_append.1 hx).elim (hi x) (hy x)) m h e;rw[e1]at hw;have:=Ju (NX g h0 hw y) g2 d.1 d2.1;rw[e1,e2,this]
end
end Go.Proofs.YtghoellpinmenaaGreatDoor
namespace Go.Proofs.YtghoellpinmenaaGreatDoor
open Go Go.Gd Tryz Go.Gd.MV
section
variable {p:ab}{C:aB}{m:MV}{N:NM}{e:PG}
def EB(hR:bw p C m N e)(hs:¬(m.status=2\/m.status=3))(h1:1<=m.calls.length)(k:Nat)(hk:k<m.af.slots.length)(hl:m.af.slots.length<=1000)(v:aj):cw prog 25 [mP N,rI k,.agg (bG v)] e (rB true) (bf e (hn 1 N.af.c) (.aE 50 3 ((m.af.slots.set k v).map bG)))/\bw p C (tR m k v) N (bf e (hn 1 N.af.c) (.aE 50 3 ((m.af.slots.set k v).map bG))):=by
 have ht:=rK hR h1;have hT:=hR.af h1;have PV:=hR.ok.low;have Qz:=hR.ri h1 (m.af.slots.set k v) (List.length_set ..);have J':=hR.len;refine⟨⟨?_,hR.ok,Qz.ok,fun i hi=>?_,?_⟩,Qz⟩;rotate_left
 ·rw[bz];split
  ·simp
  ·exact hi
 ·simp only[aS,AV.all,fS hR.root,Bool.and_self,Bool.and_true,bG]
 have k2:=Qz.ok;have s2:¬m.status=2:=fun h=>hs (.inl h)
 have s3:¬m.status=3:=fun h=>hs (.inr h)
 have Q0:=hT.dv;have S1:(k:Int)<(m.af.slots.length:Int):=jB;have PX:¬(k:Int)<0:=jB;have Qg:¬(m.af.slots.length:Int)<=(k:Int):=jB;generalize hE:bf e (hn 1 N.af.c) (.aE 50 3 ((m.af.slots.set k v).map bG))=E at k2 ⊢;clear Qz;refine aQ (L:=ids e) func25 ntmps25 ?_ (hL:=rfl);generalize hB:ids e=B;refine dP ?_
 (have W:=jA PV (jA hR.root (jA hT.var (jA Q0 (jA s2 (jA s3 (jA S1 (jA hk (jA PX (Qg)))))))));repeat' (first|refine ax fun K hK=>?_|refine az ?_|(with_reducible refine gR 3 ?_);refine dC 3 ([],[34],[]) [] (aK 0 9) mixed ?_|(refine hK _ _ ?_;clear hK K)|(refine aw ?_ ?_<;>intro hc<;>try exact jz)|refine dL 9 ?_|refine mJ ht ?_|refine cT ht ?_|(refine fc ?_ ?_<;>intro hc<;>try exact jz)|refine ay ?_|exact jI|(clear hK K)))
 subst hE;refine dW (tl:=[(9,.var 50 (bG v))]) hB hR.ok k2 (fun i=>?_) (dD jC de) [.tmp 6];rw[List.map_set];rfl
def J5(hR:bw p C m N e)(hs:¬(m.status=2\/m.status=3))(h1:1<=m.calls.length)(k:Int)(hk:k<0\/(m.af.slots.length:Int)<=k)(v:aj):cw prog 25 [mP N,rI k,.agg (bG v)] e (rB false) e:=by
 have ht:=rK hR h1;have hT:=hR.af h1;have PV:=hR.ok.low;refine⟨?_,hR.ok,hR.ok,fun _ h=>h,?_⟩;rotate_left
 ·simp only[aS,AV.all,fS hR.root,Bool.and_self,Bool.and_true,bG]
 have s2:¬m.status=2:=fun h=>hs (.inl h)
 have s3:¬m.status=3:=fun h=>hs (.inr h)
 by_cases k0:k<0
 ·refine aQ (L:=ids e) func25 ntmps25 ?_ (hL:=rfl);generalize hB:ids e=B;refine dP ?_
  (have W:=jA PV (jA hR.root (jA s2 (jA s3 (k0))));repeat' (first|refine ax fun K hK=>?_|refine az ?_|(with_reducible refine gR 3 ?_);refine dQ 3 mixed ?_|(refine hK _ _ ?_;clear hK K)|(refine aw ?_ ?_<;>intro hc<;>try exact jz)|refine dL 9 ?_|(refine⟨.ip [.any,.any,.any,.any,.raw (.slice none 0 0)],?_⟩;refine S ?_)|(refine fc ?_ ?_<;>intro hc<;>try exact jz)|refine ay ?_|exact jI|(clear hK K)))
  exact dW hB hR.ok hR.ok (tl:=[(9,.var 50 (bG v))]) (fun _=>rfl) (dD jC de) [.tmp 6]
 ·have k1:(m.af.slots.length:Int)<=k:=jB;refine aQ (L:=ids e) func25 ntmps25 ?_ (hL:=rfl);generalize hB:ids e=B;refine dP ?_
  (have W:=jA PV (jA hR.root (jA hT.var (jA s2 (jA s3 (jA k0 (k1))))));repeat' (first|refine ax fun K hK=>?_|refine az ?_|(with_reducible refine gR 3 ?_);refine dQ 3 mixed ?_|(refine hK _ _ ?_;clear hK K)|(refine aw ?_ ?_<;>intro hc<;>try exact jz)|refine dL 9 ?_|refine mJ ht ?_|(refine fc ?_ ?_<;>intro hc<;>try exact jz)|refine ay ?_|exact jI|(clear hK K)))
  exact dW hB hR.ok hR.ok (tl:=[(9,.var 50 (bG v))]) (fun _=>rfl) (dD jC de) [.tmp 6]
end
section
variable {p:ab}{C:aB}{m:MV}{N:NM}{e:PG}(X:PK)
def JU(hR:bw p C m N e)(h1:1<=m.calls.length)(x:aq)(hx:¬(x.op=20\/x.op=21\/x.op=22)):cw prog 79 [mP N,cP N,.agg (cO x)] e (rB false) e:=by
 have PV:=hR.ok.low;refine⟨?_,hR.ok,hR.ok,fun _ h=>h,gC hR h1 rfl⟩;refine aQ (L:=ids e) func79 ntmps79 ?_ (hL:=rfl);generalize hB:ids e=B;refine dP ?_
 (have W:=PV;repeat' (first|refine ax fun K hK=>?_|refine az ?_|(with_reducible refine gR 4 ?_);refine dE 4 (aK 0 10) mixed ?_|(refine hK _ _ ?_;clear hK K)|(refine aw ?_ ?_<;>intro hc<;>try exact jz)|refine dL 9 ?_|refine ay ?_|exact jI|(clear hK K)))
 exact dW hB hR.ok hR.ok (fun _=>rfl) (dD jC de) [.tmp 6]
def Nl(h1:1<=m.calls.length)(b:Nat)(hd:∀k,k<m.calls.length->(nth m.calls k).stack.length<=1000):∀k,k<(m.cut b).calls.length->(nth (m.cut b).calls k).stack.length<=1000:=fun k hk=>by
 have hl:(m.cut b).calls.length=m.calls.length:=MV.br _ _;have e1:nth (m.cut b).calls k=if k=m.calls.length-1 then m.af.cut b else nth m.calls k:=Go.Gd.bI _ _ _ _ jB
 rw[e1];split
 ·show(m.af.stack.take _).length<=_;have:m.af.stack.length<=1000:=hd (m.calls.length-1) jB;rw[List.length_take];omega
 ·exact hd k jB
def qS(x:aj):jx (bG x)=true:=rfl
def Nv(hR:bw p C m N e)(inp:PJ)(x:aq)(hk:pe p C m x)(hx:x.op=20\/x.op=21\/x.op=22):j3 prog 79 [mP N,cP N,.agg (cO x)] e X (rB true) (fun N' l=>bw p C (m.ins p C inp x) N' l/\N'.k=N.k):=by
 have h1:=hk.calls;have PV:=hR.ok.low;have hT:=hR.af h1;have hl:=hR.len;by_cases Tx:x.op=22
 ·have ei:m.ins p C inp x=m.ends (vZ x.a):=Ej _ _ _ _ _ Tx;rw[ei];obtain⟨N',l,P2,hU,hp⟩:=Cy X hR h1 (vZ x.a) hk.deep;refine⟨N',l,P2,hU,⟨?_,hR.ok,hp.e2,hU.aT,gC hR h1 rfl⟩⟩;refine aQ (L:=ids e) func79 ntmps79 ?_ (hL:=rfl);generalize hB:ids e=B;refine dP ?_
  (have W:=PV;repeat' (first|refine ax fun K hK=>?_|refine az ?_|(with_reducible refine gR 4 ?_);refine dE 4 (aK 0 10) mixed ?_|(refine hK _ _ ?_;clear hK K)|(refine aw ?_ ?_<;>intro hc<;>try exact jz)|refine dL 9 ?_|refine cp (Bs _) ?_|refine cT hp ?_|refine ay ?_|exact jI|(clear hK K)))
  exact dW hB hR.ok hp.e2 (fun _=>rfl) (dD jC de) [.tmp 6]
 by_cases Ze:x.op=21
 ·have ei:m.ins p C inp x=(m.cut 1).ends m.af.last:=CO _ _ _ _ _ Ze;rw[ei];obtain⟨N1,l1,P2,Qh,QN⟩:=Em X hR h1 (hk.one jB);have Uf:1<=(m.cut 1).calls.length:=by rw[show(m.cut 1).calls.length=m.calls.length from MV.br _ _];exact h1
  obtain⟨N',l,QA,hU,hp⟩:=Cy X P2.1 Uf m.af.last (Nl h1 1 hk.deep);rw[show mP N1=mP N by unfold mP;rw[P2.2.1]]at hp;have Qf:=P2.1.ok.low;refine⟨N',l,⟨QA.1,QA.2.trans P2.2.1⟩,Qh.trans hU,⟨?_,hR.ok,hp.e2,(Qh.trans hU).aT,gC hR h1 rfl⟩⟩;refine aQ (L:=ids e) func79 ntmps79 ?_ (hL:=rfl);generalize hB:ids e=B;refine dP ?_
  (have W:=jA PV Qf;repeat' (first|refine ax fun K hK=>?_|refine az ?_|(with_reducible refine gR 4 ?_);refine dE 4 (aK 0 10) mixed ?_|(refine hK _ _ ?_;clear hK K)|(refine aw ?_ ?_<;>intro hc<;>try exact jz)|refine dL 9 ?_|refine cT QN ?_|refine cT hp ?_|refine ay ?_|exact jI|(clear hK K)))
  exact dW hB hR.ok hp.e2 (fun _=>rfl) (dD jC de) [.tmp 6]
 have SB:x.op=20:=jB;obtain⟨c1,c2,c3⟩:=hk.call SB;obtain⟨b,hb⟩:∃b:Nat,x.b=b:=⟨x.b.toNat,jB⟩;have VQ:x.b.toNat=b:=jB;rw[VQ]at c3;have RA:b<=m.af.stack.length:=jB;have Wn:=hk.af;have Qr:=hR.zY h1 b RA;have Qh:Up X e (bf e (hn 0 N.af.c) (.var 113 (MV.cE (m.af.cut b) ⟨N.af.c,N.af.v,m.af.stack.drop (m.af.stack.length-b)++N.af.jk⟩))):=Up.put _ (.inl (by rw[hT.var];simp));have eC:MV.cE (m.af.cut b) ⟨N.af.c,N.af.v,m.af.stack.drop (m.af.stack.length-b)++N.af.jk⟩=[.rs (hn 2 N.af.v) (m.af.stack.length+N.af.jk.length) 3 (m.af.stack.length-b),.raw (.int .i64 m.af.fn),.raw (.int .i64 m.af.at_),.raw (.int .i64 m.af.mark),.rs (hn 1 N.af.c) m.af.slots.length 3 m.af.slots.length]:=by
  have e1:(m.af.cut b).stack.length=m.af.stack.length-b:=by show(m.af.stack.take _).length=_;rw[List.length_take];omega
  unfold MV.cE;rw[e1,List.length_append,List.length_drop,show m.af.stack.length-b+(m.af.stack.length-(m.af.stack.length-b)+N.af.jk.length)=m.af.stack.length+N.af.jk.length from jB];rfl
 rw[eC]at Qr Qh;have P7:=wv (m.af.stack.drop (m.af.stack.length-b)) (by rw[List.length_drop];omega) 10;have R0:(m.cut b).calls.length=m.calls.length:=MV.br _ _;have Qf:=Qr.ok.low;by_cases h8:8<=m.calls.length
 ·have ei:m.ins p C inp x=(m.cut b).stops 3 3:=by rw[yT _ _ _ _ _ SB,if_pos h8,VQ]
  rw[ei];obtain⟨N',l,QA,hU,hp⟩:=vQ X Qr jB 3 3;refine⟨N',l,⟨QA.1,QA.2.1⟩,Qh.trans hU,⟨?_,hR.ok,hp.e2,(Qh.trans hU).aT,gC hR h1 rfl⟩⟩;clear eC Qh hU;refine aQ (L:=ids e) func79 ntmps79 ?_ (hL:=rfl);generalize hB:ids e=B;refine dP ?_
  (have W:=jA PV (jA hR.root (jA hT.var (hb)));repeat' (first|refine ax fun K hK=>?_|refine az ?_|(with_reducible refine gR 4 ?_);refine dE 4 (aK 0 10) mixed ?_|(refine hK _ _ ?_;clear hK K)|(refine aw ?_ ?_<;>intro hc<;>try exact jz)|refine dL 9 ?_|refine Bm 10 qS P7 (by show ak (tie _ _) _=_;rw[eD,PV _ jC];rfl) (DJ m.af.stack N.af.jk (by show ak (tie _ _) _=_;rw[eD,hT.cf];rfl) rfl jB jC) ?_|refine cT hp ?_|refine ay ?_|exact jI|(clear hK K)))
  exact dW hB hR.ok hp.e2 (fun _=>rfl) (dD jC de) [.tmp 6]
 ·have ei:m.ins p C inp x=(m.cut b).ci p C x.a (m.af.stack.drop (m.af.stack.length-b)):=by rw[yT _ _ _ _ _ SB,if_neg h8,VQ]
  rw[ei];obtain⟨f0,f1,f2,s0,s1,s2,b1,Zf⟩:=c3 jB;obtain⟨N',l,QA,hU,hp⟩:=B3 X Qr x.a (m.af.stack.drop (m.af.stack.length-b)) ⟨f0,f1,f2,s0,s1,s2,b1,by rw[R0];exact Zf⟩;refine⟨N',l,⟨QA.1,QA.2⟩,Qh.trans hU,⟨?_,hR.ok,hp.e2,(Qh.trans hU).aT,gC hR h1 rfl⟩⟩;clear eC Qh hU;refine aQ (L:=ids e) func79 ntmps79 ?_ (hL:=rfl);generalize hB:ids e=B;refine dP ?_
  (have W:=jA PV (jA hR.root (jA hT.var (hb)));repeat' (first|refine ax fun K hK=>?_|refine az ?_|(with_reducible refine gR 4 ?_);refine dE 4 (aK 0 10) mixed ?_|(refine hK _ _ ?_;clear hK K)|(refine aw ?_ ?_<;>intro hc<;>try exact jz)|refine dL 9 ?_|refine Bm 10 qS P7 (by show ak (tie _ _) _=_;rw[eD,PV _ jC];rfl) (DJ m.af.stack N.af.jk (by show ak (tie _ _) _=_;rw[eD,hT.cf];rfl) rfl jB jC) ?_|refine cT hp ?_|refine ay ?_|exact jI|(clear hK K)))
  exact dW hB hR.ok hp.e2 (fun _=>rfl) (dD jC de) [.tmp 6]
end
def LR{p:ab}{C:aB}{m:MV}{n:Nat}(h:Bd n m)(hn:n<=1000)(hok:m.fE p C)(hC:C.entry.length<=1000)(hP:p.size.length<=1000):pe p C (m.aM (m.af.jump (m.af.at_+1))) (m.bc C):=by
 have h1:=hok.calls;have ht:(m.aM (m.af.jump (m.af.at_+1))).af=m.af.jump (m.af.at_+1):=MV.bh h1 _;have hl:(m.aM (m.af.jump (m.af.at_+1))).calls.length=m.calls.length:=MV.br _ _;have P0:(m.af.jump (m.af.at_+1)).stack=m.af.stack:=rfl;have Q0:(m.af.jump (m.af.at_+1)).slots=m.af.slots:=rfl;have QZ:(m.af.jump (m.af.at_+1)).last=m.af.last:=rfl;refine⟨by rw[hl];exact h1,by rw[hl];exact hok.mw,?_,?_,?_,fun SB=>?_,?_,?_,fun k hk=>?_,?_,h.heap,h.outs,h.jw,by have:=h.jY;show m.in_<=1000;omega⟩
 ·rw[ht,P0];exact hok.one
 ·rw[ht,P0];exact hok.two
 ·rw[ht,Q0];exact hok.slot
 ·obtain⟨c1,c2,c3,c4,c5,c6,c7,c8,c9⟩:=hok.call SB;rw[ht,P0];refine⟨c1,c2,fun h8=>⟨c4,c5,c6,c7,c8,?_,⟨hC,hP⟩,hok.mw |> (by rw[hl];exact·)⟩⟩;rw[List.length_drop];omega
 ·rw[ht,QZ];exact hok.word
 ·rw[ht,P0];exact hok.jh
 ·rw[hl]at hk;have e:nth (m.aM (m.af.jump (m.af.at_+1))).calls k=if k=m.calls.length-1 then m.af.jump (m.af.at_+1)else nth m.calls k:=Go.Gd.bI _ _ _ _ jB
  rw[e];split
  ·exact hok.deep
  ·exact h.deep k jB
 ·rw[ht,Q0];exact h.af h1
def Ki{h:PI}{a i:Int}(hi:¬(i<0\/((MV.aV h a).length:Int)<=i)):(a-1).toNat<h.length/\i.toNat<(nth h (a-1).toNat).length:=by
 unfold MV.aV at hi;by_cases e:a<1\/(h.length:Int)<a
 ·rw[if_pos e]at hi;simp only[List.length_nil]at hi;omega
 ·rw[if_neg e]at hi;omega
def J8{p:ab}{C:aB}{m:MV}{inp:PJ}{x:aq}(h:Bd inp.length m)(hk:pe p C m x):Bd inp.length (m.ins p C inp x):=by
 have h1:=hk.calls;have UX:∀k,(m.cut k).calls.length=m.calls.length:=fun k=>MV.br _ _
 have hc:∀k,Bd inp.length (m.cut k):=fun k=>h.cut h1 k
 have Qk:∀k,1<=(m.cut k).calls.length:=fun k=>by rw[UX];exact h1
 by_cases a:x.op=2
 ·rw[Nj _ _ _ _ _ a];exact h.push h1 _
 by_cases a:x.op=3
 ·rw[Hz _ _ _ _ _ a];exact h.push h1 _
 by_cases a:x.op=4
 ·rw[OF _ _ _ _ _ a];exact h.push h1 _
 by_cases a:x.op=5
 ·rw[Hw _ _ _ _ _ a];exact h.push h1 _
 by_cases a:x.op=6
 ·rw[C8 _ _ _ _ _ a];refine h.aM ?_;show(m.af.slots.set _ _).length<=24;rw[List.length_set];exact hk.slots
 by_cases a:x.op=7
 ·rw[DF _ _ _ _ _ a];exact(hc 2).dI (Qk 2) _
 by_cases a:x.op=8
 ·rw[CQ _ _ _ _ _ a];exact(hc 1).push (Qk 1) _
 by_cases a:x.op=9
 ·rw[Dl _ _ _ _ _ a];exact(hc 1).push (Qk 1) _
 by_cases a:x.op=10
 ·rw[FM _ _ _ _ _ a];exact(hc 1).push (Qk 1) _
 by_cases a:x.op=11
 ·rw[FD _ _ _ _ _ a];split
  ·exact(hc 1).stops (Qk 1) _ _
  ·exact(hc 1).push (Qk 1) _
 by_cases a:x.op=12
 ·rw[BQ _ _ _ _ _ a];split
  ·exact(hc 2).stops (Qk 2) _ _
  ·rename_i hi;refine(hc 2).mR ?_;obtain⟨q1,q2⟩:=Ki hi;rw[AM _ _ _ q1 (by rw[List.length_set])];exact h.heap
 by_cases a:x.op=13
 ·rw[Fo _ _ _ _ _ a];split
  ·exact(hc 1).stops (Qk 1) _ _
  ·split
   ·exact(hc 1).stops (Qk 1) _ _
   ·refine((hc 1).push (Qk 1) _).mR ?_;rw[zz,List.length_replicate];omega
 by_cases a:x.op=14
 ·rw[gp _ _ _ _ _ a];split
  ·exact h.stops h1 _ _
  ·have:=h.push h1 (vI (nth inp m.in_.toNat));have h0:=h.jw;exact⟨this.deep,this.slots,this.heap,this.outs,by show 0<=m.in_+1;omega,by show m.in_+1<=_;omega⟩
 by_cases a:x.op=15
 ·rw[Fg _ _ _ _ _ a];split
  ·exact h.stops h1 _ _
  ·have:=hc 1;exact⟨this.deep,this.slots,this.heap,by show(m.aD++[_]).length<=24;rw[List.length_append,List.length_singleton];omega,this.jw,this.jY⟩
 by_cases a:x.op=16
 ·rw[IU _ _ _ _ _ a];exact h.aM hk.slots
 by_cases a:x.op=17
 ·rw[LS _ _ _ _ _ a];split
  ·exact h.aM hk.slots
  ·exact hc 1
 by_cases a:x.op=18\/x.op=19
 ·rw[M5 _ _ _ _ _ a];split
  ·exact h.aM hk.slots
  ·exact hc 1
 by_cases a:x.op=20
 ·rw[yT _ _ _ _ _ a];split
  ·exact(hc _).stops (Qk _) _ _
  ·rename_i h8;obtain⟨c1,c2,c3⟩:=hk.call a;have c3:=c3 jB;refine(hc _).ci (Qk _) ?_ c3.s1 c3.s2;rw[show(m.cut x.b.toNat).af=m.af.cut x.b.toNat from MV.bh h1 _];show(m.af.stack.take _).length<=1000;have:=hk.af;rw[List.length_take];omega
 by_cases a:x.op=21
 ·rw[CO _ _ _ _ _ a];exact(hc 1).ends _
 by_cases a:x.op=22
 ·rw[Ej _ _ _ _ _ a];exact h.ends _
 by_cases a:x.op=23
 ·rw[Fz _ _ _ _ _ a];exact hc 1
 ·rw[Lg _ _ _ _ _ jB];exact h
section
variable {p:ab}{C:aB}{m:MV}{N:NM}{e:PG}(X:PK)
def Jp(hR:bw p C m N e)(inp:PJ)(x:aq)(hk:pe p C m x)(QK:inp.length<=1000)(hx:x.op=14\/x.op=15):j3 prog 80 [mP N,cP N,.agg (cO x),aX eI 1 inp] e X (.ba []) (To p C (m.ins p C inp x) N):=by
 have h1:=hk.calls;have PV:=hR.ok.low;have Wn:=hk.af;have jw:=hk.jw;have jY:=hk.jY;have hou:=hk.outs;by_cases Zg:x.op=14
 ·rw[gp _ _ _ _ _ Zg];by_cases hw:(inp.length:Int)<=m.in_
  ·rw[if_pos hw];obtain⟨N',l,hT,hU,hp⟩:=vQ X hR h1 1 0;refine⟨N',l,hT,hU,⟨?_,hR.ok,hp.e2,hU.aT,gC hR h1 rfl⟩⟩;refine aQ (L:=ids e) func80 ntmps80 ?_ (hL:=rfl);generalize hB:ids e=B;refine dP ?_
   (have W:=jA PV (hR.root);repeat' (first|refine ax fun K hK=>?_|refine az ?_|(with_reducible refine gR 4 ?_);refine dE 4 (aK 0 12) mixed ?_|(with_reducible refine gR 9 ?_);refine dQ 9 mixed ?_|(refine hK _ _ ?_;clear hK K)|(refine aw ?_ ?_<;>intro hc<;>try exact jz)|refine dL 9 ?_|refine cT hp ?_|refine ay ?_|exact jI|(clear hK K)))
   exact dW hB hR.ok hp.e2 (fun _=>rfl) (dD jC de) []
  ·rw[if_neg hw];obtain⟨N1,l1,P2,Qh,QN⟩:=rH X hR h1 (vI (nth inp m.in_.toNat)) Wn;have Qz:=P2.1.lD (m':={ m.push (vI (nth inp m.in_.toNat))with in_:=m.in_+1 }) rfl rfl rfl;have Qf:=P2.1.ok.low;have RZ:=P2.1.root;rw[P2.2.1]at RZ;have Q2:(m.push (vI (nth inp m.in_.toNat))).in_=m.in_:=rfl;have QH:Up X l1 (bf l1 (hn 3 N1.k) (.var 105 (mE p C { m.push (vI (nth inp m.in_.toNat))with in_:=m.in_+1 } N1))):=Up.put _ (.inl (by rw[P2.2.1,RZ];simp));refine⟨N1,_,⟨Qz,P2.2.1,P2.2.2⟩,Qh.trans QH,⟨?_,hR.ok,Qz.ok,(Qh.trans QH).aT,gC hR h1 rfl⟩⟩;have k2:=Qz.ok;clear Qz Qh QH;generalize hE:bf l1 (hn 3 N1.k) (.var 105 (mE p C { m.push (vI (nth inp m.in_.toNat))with in_:=m.in_+1 } N1))=E at k2 ⊢;refine aQ (L:=ids e) func80 ntmps80 ?_ (hL:=rfl);generalize hB:ids e=B;refine dP ?_
   (have W:=jA PV (jA Qf (jA hR.root (jA RZ (jA P2.2.1 (Q2)))));repeat' (first|refine ax fun K hK=>?_|refine az ?_|(with_reducible refine gR 4 ?_);refine dE 4 (aK 0 12) mixed ?_|(with_reducible refine gR 9 ?_);refine dQ 9 mixed ?_|(refine hK _ _ ?_;clear hK K)|(refine aw ?_ ?_<;>intro hc<;>try exact jz)|refine dL 9 ?_|refine cp (sD _) ?_|refine cT QN ?_|refine ay ?_|exact jI|(clear hK K)))
   subst hE;refine dW (tl:=[(9,.var 118 (cO x))]) hB hR.ok k2 (fun i=>?_) (dD jC de) [];have:=P2.2.1;unfold mE;rw[this];rfl
 have X3:x.op=15:=jB;rw[Fg _ _ _ _ _ X3];by_cases ho:24<=m.aD.length
 ·rw[if_pos ho];obtain⟨N',l,hT,hU,hp⟩:=vQ X hR h1 3 5;refine⟨N',l,hT,hU,⟨?_,hR.ok,hp.e2,hU.aT,gC hR h1 rfl⟩⟩;refine aQ (L:=ids e) func80 ntmps80 ?_ (hL:=rfl);generalize hB:ids e=B;refine dP ?_
  (have W:=jA PV (hR.root);repeat' (first|refine ax fun K hK=>?_|refine az ?_|(with_reducible refine gR 4 ?_);refine dE 4 (aK 0 12) mixed ?_|(with_reducible refine gR 9 ?_);refine dQ 9 mixed ?_|(refine hK _ _ ?_;clear hK K)|(refine aw ?_ ?_<;>intro hc<;>try exact jz)|refine dL 9 ?_|refine cT hp ?_|refine ay ?_|exact jI|(clear hK K)))
  exact dW hB hR.ok hp.e2 (fun _=>rfl) (dD jC de) []
 ·rw[if_neg ho];have Ra:=hk.one jB;obtain⟨N1,l1,⟨P2,R2⟩,Qh,QN,RB⟩:=vA X hR h1 Ra;have Qz:=P2.1.A9 (m':={ m.cut 1 with aD:=m.aD++[kW m.af.last] }) rfl rfl;have Qf:=P2.1.ok.low;have RZ:=P2.1.root;have VV:=P2.1.outs;rw[P2.2.1]at RZ VV;have QH:Up X l1 (bf (bf l1 (hn 8 N1.k) (.aE 9 1 ((m.aD++[kW m.af.last]).map eS))) (hn 3 N1.k) (.var 105 (mE p C { m.cut 1 with aD:=m.aD++[kW m.af.last] } N1))):=by
   refine(Up.put _ (.inl ?_)).trans (Up.put _ (.inl ?_))
   ·rw[P2.2.1,VV];simp
   ·rw[bz,if_neg (cB jB jB jB),P2.2.1,RZ];simp
  have Zh:=Mo m.af.last (hk.word X3);refine⟨N1,_,⟨Qz,P2.2.1,P2.2.2⟩,Qh.trans QH,⟨?_,hR.ok,Qz.ok,(Qh.trans QH).aT,gC hR h1 rfl⟩⟩;have k2:=Qz.ok;clear Qz Qh QH;have VV:ak l1 (hn 8 N.k)=some (.aE 9 1 (m.aD.map eS)):=VV;show ai _ _ _ _ fun r l'=>r=_/\l'=bf (bf l1 (hn 8 N1.k) (.aE 9 1 ((m.aD++[kW m.af.last]).map eS))) (hn 3 N1.k) (.var 105 (mE p C { m.cut 1 with aD:=m.aD++[kW m.af.last] } N1))
  have k2:cZ 0 (bf (bf l1 (hn 8 N1.k) (.aE 9 1 ((m.aD++[kW m.af.last]).map eS))) (hn 3 N1.k) (.var 105 (mE p C { m.cut 1 with aD:=m.aD++[kW m.af.last] } N1))):=k2;generalize hE:bf (bf l1 (hn 8 N1.k) (.aE 9 1 ((m.aD++[kW m.af.last]).map eS))) (hn 3 N1.k) (.var 105 (mE p C { m.cut 1 with aD:=m.aD++[kW m.af.last] } N1))=E at k2 ⊢;refine aQ (L:=ids e) func80 ntmps80 ?_ (hL:=rfl);generalize hB:ids e=B;refine dP ?_
  (have W:=jA PV (jA Qf (jA hR.root (jA RZ (jA VV (P2.2.1)))));repeat' (first|refine ax fun K hK=>?_|refine az ?_|(with_reducible refine gR 4 ?_);refine dE 4 (aK 0 12) mixed ?_|(with_reducible refine gR 9 ?_);refine qn 9 [hn 2 N.af.v,hn 16 N.af.c] [73] [72,1000000] [] (aK 0 15) mixed ?_|(refine hK _ _ ?_;clear hK K)|(refine aw ?_ ?_<;>intro hc<;>try exact jz)|refine dL 9 ?_|refine oi QN (RB _ _) ?_|refine cq (Zh) ?_|refine cT QN ?_|refine ay ?_|exact jI|(clear hK K)))
  subst hE;refine dW (tl:=[(9,.var 118 (cO x))]) hB hR.ok k2 (fun i=>?_) (dD jC de) [];have:=P2.2.1;have e1:(m.aD++[kW m.af.last]).length=m.aD.length+1:=jE;unfold mE;dsimp only;rw[this,List.map_append,e1];rfl
end
section
variable {p:ab}{C:aB}(X:PK)
inductive qZ(inp:List Int)(N:NM)(x:aq)(e l:List (Nat×Row)):Prop
 |a (h:cw prog 75 [mP N,cP N,.agg (cO x)] e (rB true) l)
 |b (h1:cw prog 75 [mP N,cP N,.agg (cO x)] e (rB false) e) (h:cw prog 76 [mP N,cP N,.agg (cO x)] e (rB true) l)
 |c (h1:cw prog 75 [mP N,cP N,.agg (cO x)] e (rB false) e) (h2:cw prog 76 [mP N,cP N,.agg (cO x)] e (rB false) e) (h:cw prog 77 [mP N,cP N,.agg (cO x)] e (rB true) l)
 |d (h1:cw prog 75 [mP N,cP N,.agg (cO x)] e (rB false) e) (h2:cw prog 76 [mP N,cP N,.agg (cO x)] e (rB false) e) (h3:cw prog 77 [mP N,cP N,.agg (cO x)] e (rB false) e) (h:cw prog 78 [mP N,cP N,.agg (cO x)] e (rB true) l)
 |e (h1:cw prog 75 [mP N,cP N,.agg (cO x)] e (rB false) e) (h2:cw prog 76 [mP N,cP N,.agg (cO x)] e (rB false) e) (h3:cw prog 77 [mP N,cP N,.agg (cO x)] e (rB false) e) (h4:cw prog 78 [mP N,cP N,.agg (cO x)] e (rB false) e) (h:cw prog 79 [mP N,cP N,.agg (cO x)] e (rB true) l)
 |f (h1:cw prog 75 [mP N,cP N,.agg (cO x)] e (rB false) e) (h2:cw prog 76 [mP N,cP N,.agg (cO x)] e (rB false) e) (h3:cw prog 77 [mP N,cP N,.agg (cO x)] e (rB false) e) (h4:cw prog 78 [mP N,cP N,.agg (cO x)] e (rB false) e) (h5:cw prog 79 [mP N,cP N,.agg (cO x)] e (rB false) e) (h:cw prog 80 [mP N,cP N,.agg (cO x),aX eI 1 inp] e (.ba []) l)
variable{m:MV}
def JK{N:NM}{e:PG}(hR:bw p C m N e)(inp:PJ)(QK:inp.length<=1000)(x:aq)(hk:pe p C m x)(hx:2<=x.op/\x.op<=23):∃N' l,(bw p C (m.ins p C inp x) N' l/\N'.k=N.k)/\Up X e l/\qZ inp N x e l:=by
 have h1:=hk.calls;by_cases a:x.op=2\/x.op=3\/x.op=4\/x.op=5
 ·obtain⟨N',l,hT,hU,hp⟩:=Ma X hR inp x hk a;exact⟨N',l,⟨hT.1,hT.2.1⟩,hU,.a hp⟩
 have n1:=Mp hR h1 x a;by_cases b:x.op=7\/x.op=8\/x.op=9\/x.op=10
 ·obtain⟨N',l,hT,hU,hp⟩:=NO X hR inp x hk b;exact⟨N',l,⟨hT.1,hT.2.1⟩,hU,.b n1 hp⟩
 have n2:=Pz hR h1 x b;by_cases c:x.op=6\/x.op=23\/x.op=11\/x.op=12\/x.op=13
 ·obtain⟨N',l,hT,hU,hp⟩:=OK X hR inp x hk c;exact⟨N',l,⟨hT.1,hT.2.1⟩,hU,.c n1 n2 hp⟩
 have n3:=MK hR h1 x c;by_cases d:x.op=16\/x.op=17\/x.op=18\/x.op=19
 ·obtain⟨N',l,hT,hU,hp⟩:=KI X hR inp x hk d;exact⟨N',l,⟨hT.1,hT.2.1⟩,hU,.d n1 n2 n3 hp⟩
 have n4:=Mg hR h1 x d;by_cases g:x.op=20\/x.op=21\/x.op=22
 ·obtain⟨N',l,hT,hU,hp⟩:=Nv X hR inp x hk g;exact⟨N',l,hT,hU,.e n1 n2 n3 n4 hp⟩
 have n5:=JU hR h1 x g;obtain⟨N',l,hT,hU,hp⟩:=Jp X hR inp x hk QK jB;exact⟨N',l,⟨hT.1,hT.2.1⟩,hU,.f n1 n2 n3 n4 n5 hp⟩
structure MS where
 m:MV
 N:NM
 e:List (Nat×Row)
structure Round(p:ab)(C:aB)(inp:List Int)(X:List Nat)(a b:MS):Prop where
 rep:bw p C a.m a.N a.e
 st:a.m.status=0
 op:(a.m.bc C).op≠1
 calls:1<=a.m.calls.length
 a0:0<=a.m.af.at_
 a1:a.m.af.at_<C.ins.length
 up:Up X a.e b.e
 k:b.N.k=a.N.k
 lM:qZ inp a.N (a.m.bc C) (bf a.e (hn 0 a.N.af.c) (.var 113 (MV.cE (a.m.af.jump (a.m.af.at_+1)) a.N.af))) b.e
 ok:cZ 0 b.e
variable{inp:PJ}
def Mc{N:NM}{e:PG}(hR:bw p C m N e)(hb:Bd inp.length m)(QK:inp.length<=1000)(hC:C.entry.length<=1000)(hP:p.size.length<=1000)(h0:m.status=0)(h1:(m.bc C).op≠1)(hok:m.fE p C):∃N' e',Round p C inp X ⟨m,N,e⟩ ⟨m.one p C inp,N',e'⟩/\bw p C (m.one p C inp) N' e'/\Bd inp.length (m.one p C inp):=by have P7:=hok.calls;have hx:=LR hb QK hok hC hP;have hT:=hR.af P7;have Qr:=hR.jq P7 (c':=m.af.jump (m.af.at_+1)) rfl rfl;have Qh:Up X e (bf e (hn 0 N.af.c) (.var 113 (MV.cE (m.af.jump (m.af.at_+1)) N.af))):=Up.put _ (.inl (by rw[hT.var];simp));obtain⟨N',l,QA,QH,hd⟩:=JK X Qr inp QK (m.bc C) hx (by have:=hok.op;omega);have Ra:Bd inp.length (m.aM (m.af.jump (m.af.at_+1))):=hb.aM (hb.af P7);exact⟨N',l,⟨hR,h0,h1,P7,hok.a0,hok.a1,Qh.trans QH,QA.2,hd,QA.1.ok⟩,QA.1,J8 Ra hx⟩
def Oe(QK:inp.length<=1000)(hC:C.entry.length<=1000)(hP:p.size.length<=1000){n:Nat}{m':MV}(hg:fj p C inp n m m'):∀{N:NM} {e:PG},bw p C m N e->Bd inp.length m->∃f:Nat->MS,f 0=⟨m,N,e⟩/\(∀i,i<n->Round p C inp X (f i) (f (i+1)))/\(f n).m=m'/\bw p C m' (f n).N (f n).e/\Bd inp.length m':=by
 induction hg with
 |refl m=>intro N e hR hb;exact⟨fun _=>⟨m,N,e⟩,rfl,fun i hi=>jB,rfl,hR,hb⟩
 |@step n m m' h0 h1 hok _ ih=>
  intro N e hR hb;obtain⟨N1,e1,hr,Qr,Ra⟩:=Mc X hR hb QK hC hP h0 h1 hok;obtain⟨f,f0,f1,f2,f3,f4⟩:=ih Qr Ra;refine⟨fun i=>match i with|0=>⟨m,N,e⟩|i+1=>f i,rfl,fun i hi=>?_,f2,f3,f4⟩;match i with
  |0=>show Round p C inp X ⟨m,N,e⟩ (f 0);rw[f0];exact hr
  |i+1=>exact f1 i jB
def GW{m':MV}{N:NM}{e:PG}(hR:bw p C m N e)(hb:Bd inp.length m)(QK:inp.length<=1000)(hC:C.entry.length<=1000)(hP:p.size.length<=1000)(hI:C.ins.length<=1000000)(hg:bj p C inp m m')(P0:m'.eo C)(Qx:m'.status=0->1<=m'.calls.length/\0<=m'.af.at_/\m'.af.at_<C.ins.length) :
  j3 prog 45 [mP N,aX eI 1 inp] e X (.ba []) (fun N' l=>bw p C m' N' l/\N'.k=N.k/\Bd inp.length m'):=by
 obtain⟨n,hg⟩:=hg;obtain⟨f,f0,f1,f2,f3,f4⟩:=Oe X QK hC hP hg hR hb;have hk:∀i,i<=n->(f i).N.k=N.k/\Up X e (f i).e/\cZ 0 (f i).e:=fun i=>by
  induction i with
  |zero=>intro _;rw[f0];exact⟨rfl,Up.refl _ _,hR.ok⟩
  |succ i ih=> intro hi;obtain⟨a,b,c⟩:=ih jB;have:=f1 i jB;exact⟨this.k.trans a,b.trans this.up,this.ok⟩
 obtain⟨k1,k2,k3⟩:=hk n jl;refine⟨(f n).N,(f n).e,⟨f3,k1,f4⟩,k2,⟨?_,hR.ok,k3,k2.aT,ov hR rfl⟩⟩;refine aQ (L:=ids e) func45 ntmps45 ?_ (hL:=rfl);generalize hB:ids e=B;refine dP ?_
 (repeat' (first|(with_reducible refine gR 5 ?_);refine sS [43,50,57,64] ?_|refine ax fun K hK=>?_|refine az ?_|(with_reducible refine gR 2 ?_);refine dE 2 (aK 0 13) mixed ?_|(refine hK _ _ ?_;clear hK K)|(refine aw ?_ ?_<;>intro hc<;>try exact jz)|refine ay ?_|exact jI|(clear hK K)))
 refine dR (S:=Nat) [(4,68)] (fun i=>i<=n) (fun i=>[]) (fun i=>⟨B,tie (f i).e []⟩) (fun i=>n-i) 0 jB (dS (by rw[f0]) cc) ?_;rintro i hi Kr P3;by_cases PW:i<n
 ·have hr:=f1 i PW;have S1:=hk i hi;obtain⟨q1,q2,q3⟩:=hk (i+1) PW;obtain⟨r1,r2,r3,r4,r5,r6,r7,r8,r9,r10⟩:=hr;generalize QX:f (i+1)=b at*;generalize f i=a at*;obtain⟨am,aN,ae⟩:=a;obtain⟨bm,bN,be⟩:=b;simp only at*;have eM:mP aN=mP N:=by unfold mP;rw[S1.1]
  have ht:=rK r1 r4;rw[eM]at ht;have hT:=r1.af r4;have PV:=r1.ok.low;have RP:=r1.root;rw[S1.1]at RP;have SC:=r10.low;have Ro:∀i,i<1000->ak (bf ae (hn 0 aN.af.c) (.var 113 (MV.cE (am.af.jump (am.af.at_+1)) aN.af))) i=none:=fun i hi=>by rw[bz,if_neg (by have:=gA 0 aN.af.c;omega)];exact PV i hi
  have hx:nth C.ins am.af.at_.toNat=am.bc C:=rfl;have hxo:=r3;generalize am.bc C=x at*
  (refine S ?_;try exact jI)
  rcases r9 with h|⟨h1,h⟩|⟨h1,h2,h⟩|⟨h1,h2,h3,h⟩|⟨h1,h2,h3,h4,h⟩|⟨h1,h2,h3,h4,h5,h⟩
  all_goals
   simp only[eM]at*
   (have W:=jA PV (jA Ro (jA SC (jA RP (jA hT.var (jA r2 (hx))))));repeat' (first|(with_reducible refine gR 5 ?_);refine sS [43,50,57,64] ?_|refine ax fun K hK=>?_|refine az ?_|(with_reducible refine gR 2 ?_);refine dE 2 (aK 0 13) mixed ?_|(refine hK _ _ ?_;clear hK K)|(refine aw ?_ ?_<;>intro hc<;>try exact jz)|refine ld 9 ?_|refine cT ht ?_|refine cT h ?_|refine cT h1 ?_|refine cT h2 ?_|refine cT h3 ?_|refine cT h4 ?_|refine cT h5 ?_|refine ay ?_|exact jI|(clear hK K)))
  all_goals exact P3 _ _ (Be hB hR.ok r10 (dD jC de) (i+1) jB (by show n-(i+1)<n-i;omega) (by show _=Hp.mk B (tie (f (i+1)).e []);rw[QX]) j6)
 ·have Q2:i=n:=jB;subst Q2;have VW:(f i).m=m':=f2;generalize f i=a at*;obtain⟨am,aN,ae⟩:=a;simp only at*;subst VW;have eM:mP aN=mP N:=by unfold mP;rw[k1]
  have PV:=f3.ok.low;have RP:=f3.root;rw[k1]at RP;by_cases h0:am.status=0
  ·obtain⟨r4,r5,r6⟩:=Qx h0;have Ry:(am.bc C).op=1:=by
    rcases P0 with h|h
    ·exact(h h0).elim
    ·exact h
   have ht:=rK f3 r4;rw[eM]at ht;have hT:=f3.af r4;have hx:nth C.ins am.af.at_.toNat=am.bc C:=rfl;generalize am.bc C=x at*;refine S ?_
   (have W:=jA PV (jA RP (jA hT.var (jA h0 (hx))));repeat' (first|(with_reducible refine gR 5 ?_);refine sS [43,50,57,64] ?_|refine ax fun K hK=>?_|refine az ?_|(with_reducible refine gR 2 ?_);refine dE 2 (aK 0 13) mixed ?_|(refine hK _ _ ?_;clear hK K)|(refine aw ?_ ?_<;>intro hc<;>try exact jz)|refine ld 9 ?_|refine cT ht ?_|refine ay ?_|exact jI|(clear hK K)))
   exact dW hB hR.ok f3.ok (fun _=>rfl) (dD jC de) []
  ·(refine S ?_;try exact jI)
   (have W:=jA PV RP;repeat' (first|(with_reducible refine gR 5 ?_);refine sS [43,50,57,64] ?_|refine ax fun K hK=>?_|refine az ?_|(with_reducible refine gR 2 ?_);refine dE 2 (aK 0 13) mixed ?_|(refine hK _ _ ?_;clear hK K)|(refine aw ?_ ?_<;>intro hc<;>try exact jz)|refine ay ?_|exact jI|(clear hK K)))
   exact dW hB hR.ok f3.ok (tl:=[]) (fun _=>rfl) de []
end
attribute [local go_sem] HQ
section
variable {p:ab}{C:aB}(X:PK)
def N7{m:MV}{N:NM}{e:PG}(hR:bw p C m N e)(inp:PJ)(hs:m.status=2\/m.status=3):cw prog 23 [mP N,aX eI 1 inp] e (.ba []) e:=by
 have PV:=hR.ok.low;refine⟨?_,hR.ok,hR.ok,fun _ h=>h,ov hR rfl⟩;rcases hs with h|h
 all_goals
  refine aQ (L:=ids e) func23 ntmps23 ?_ (hL:=rfl);generalize hB:ids e=B;refine dP ?_
  (have W:=jA PV (jA hR.root (h));repeat' (first|refine ax fun K hK=>?_|refine az ?_|(refine hK _ _ ?_;clear hK K)|(refine aw ?_ ?_<;>intro hc<;>try exact jz)|refine ay ?_|exact jI|(clear hK K)))
  exact dW hB hR.ok hR.ok (tl:=[]) (fun _=>rfl) de []
def HB{inp:PJ}{m m1:MV}{N:NM}{e:PG}(hR:bw p C m N e)(h1:1<=m.calls.length)(hb:Bd inp.length m)(QK:inp.length<=1000)(hC:C.entry.length<=1000)(hP:p.size.length<=1000)(hI:C.ins.length<=1000000)(P0:¬(m.status=2\/m.status=3))(Qx:0<=m.af.at_/\m.af.at_<=1000000)(UM:0<=m.time/\m.time<=1000000)
  (hg:bj p C inp m.dJ m1) (W7:m1.eo C) (Xl:m1.status=0->1<=m1.calls.length/\0<=m1.af.at_/\m1.af.at_<C.ins.length) (Sk:-1<=m1.time/\m1.time<=1000000) :
  j3 prog 23 [mP N,aX eI 1 inp] e X (.ba []) (fun N' l=>bw p C m1.eT N' l/\N'.k=N.k/\Bd inp.length m1.eT):=by
 have PV:=hR.ok.low;have hT:=hR.af h1;have Te:=hR.lD (m':={ m with status:=0 }) rfl rfl rfl;have ht:=rK Te h1;have Qr:=I4 hR h1;have Ra:Bd inp.length m.dJ:=(hb.aM (c:={ m.af with mark:=m.af.at_,at_:=m.af.at_+1 }) (hb.af h1)).status 0 m.bs;have Qh:Up X e (bf (bf e (hn 3 N.k) (.var 105 (mE p C { m with status:=0 } N))) (hn 0 N.af.c) (.var 113 (MV.cE { m.af with mark:=m.af.at_,at_:=m.af.at_+1 } N.af))):=by
  refine(Up.put _ (.inl ?_)).trans (Up.put _ (.inl ?_))
  ·rw[hR.root];simp
  ·rw[bz,if_neg (cB jB jB jB),hT.var];simp
 obtain⟨N1,l1,⟨Qz,P1,RA⟩,QH,hp⟩:=GW X Qr Ra QK hC hP hI hg W7 Xl;have Qf:=Qz.ok.low;have SM:=Qz.root;rw[P1]at SM;by_cases hw:m1.status=1
 ·have et:m1.eT=m1:=by unfold MV.eT;rw[if_pos hw]
  rw[et];refine⟨N1,l1,⟨Qz,P1,RA⟩,Qh.trans QH,⟨?_,hR.ok,Qz.ok,(Qh.trans QH).aT,ov hR rfl⟩⟩;clear Qh QH Te Qr;refine aQ (L:=ids e) func23 ntmps23 ?_ (hL:=rfl);generalize hB:ids e=B;refine dP ?_
  (have W:=jA PV (jA Qf (jA hR.root (jA hT.var (SM))));repeat' (first|refine ax fun K hK=>?_|refine az ?_|(refine hK _ _ ?_;clear hK K)|(refine aw ?_ ?_<;>intro hc<;>try exact jz)|refine cT ht ?_|refine cT hp ?_|refine ay ?_|exact jI|(clear hK K)))
  exact dW hB hR.ok Qz.ok (tl:=[]) (fun _=>rfl) de []
 ·have et:m1.eT={ m1 with time:=m1.time+1 }:=by unfold MV.eT;rw[if_neg hw]
  rw[et];have TY:=Qz.lD (m':={ m1 with time:=m1.time+1 }) rfl rfl rfl;have Wo:Up X l1 (bf l1 (hn 3 N1.k) (.var 105 (mE p C { m1 with time:=m1.time+1 } N1))):=Up.put _ (.inl (by rw[Qz.root];simp));refine⟨N1,_,⟨TY,P1,⟨RA.deep,RA.slots,RA.heap,RA.outs,RA.jw,RA.jY⟩⟩,Qh.trans (QH.trans Wo),⟨?_,hR.ok,TY.ok,(Qh.trans (QH.trans Wo)).aT,ov hR rfl⟩⟩;have k2:=TY.ok;clear Qh QH Wo Te Qr TY;generalize hE:bf l1 (hn 3 N1.k) (.var 105 (mE p C { m1 with time:=m1.time+1 } N1))=E at k2 ⊢;refine aQ (L:=ids e) func23 ntmps23 ?_ (hL:=rfl);generalize hB:ids e=B;refine dP ?_
  (have W:=jA PV (jA Qf (jA hR.root (jA hT.var (SM))));repeat' (first|refine ax fun K hK=>?_|refine az ?_|(refine hK _ _ ?_;clear hK K)|(refine aw ?_ ?_<;>intro hc<;>try exact jz)|refine cT ht ?_|refine cT hp ?_|refine ay ?_|exact jI|(clear hK K)))
  subst hE;refine dW hB hR.ok k2 (tl:=[]) (fun i=>?_) de [];unfold mE;rw[P1];rfl
end
end Go.Proofs.YtghoellpinmenaaGreatDoor
namespace Go.Proofs.YtghoellpinmenaaGreatDoor
open Go Go.Gd Tryz
def xK(x:Int):jx (eI x)=true:=rfl
def zo(x:PL):jx (eS x)=true:=rfl
def N9(i:Nat):ai prog 42 [] [] (fun r l=>r=.pt i 0 0 0/\l=[(i,.var 162 [.raw (.slice none 0 0),.raw (.slice none 0 0)])]):=by
 refine aQ func42 ntmps42 ?_;refine S ?_
 (repeat' (first|refine ax fun K hK=>?_|refine az ?_|(refine hK _ _ ?_;clear hK K)|(refine aw ?_ ?_<;>intro hc<;>try exact jz)|refine dL i ?_|refine ay ?_|exact jI|(clear hK K)))
 (refine bQ [.tmp 0] ?_ ?_<;>(try simp only[go_sem]))
def Nn(h:PI)(hl:h.length<=1000)(hf:h.flatten.length<=1000):ai prog 50 [.pt 2 0 0 0] (gi h) (fun r l=>r=aX mS 1 h/\l=gi h):=by
 refine aQ func50 ntmps50 ?_;refine S ?_
 (repeat' (first|refine ax fun K hK=>?_|refine az ?_|(refine hK _ _ ?_;clear hK K)|(refine aw ?_ ?_<;>intro hc<;>try exact jz)|refine ay ?_|exact jI|(clear hK K)))
 refine gT (cU.nil 5 3 22 (sz:=1) rfl jC (Or.inl rfl)) ?_
 (refine S ?_;try exact jI)
 have PY:=hK;clear hK;refine dR (S:=Nat) [(3,2),(10,12)] (fun k=>k<=h.length) (fun k=>[(3,.rs 5 k 1 k),(10,rI k)])
  (fun k=>⟨[2,3,4],gi h++[(5,.aE 22 1 ((h.take k).map mS))]⟩) (fun k=>h.length-k) 0 jB (dS rfl cc) ?_
 rintro k hk Kr P3;by_cases PW:k<h.length
 ·have Qk:=vK h k ((k:Int)+1) rfl hl hf PW;have Qa:=qz h (k+1);have Va:=oZ PW;have P7:=xO (nth h k) jB 6;have etk:h.take (k+1)=h.take k++[nth h k]:=by rw[List.take_succ,List.getElem?_eq_getElem PW,dT PW];rfl
  refine S ?_
  (repeat' (first|refine ax fun K hK=>?_|refine az ?_|(refine hK _ _ ?_;clear hK K)|(refine aw ?_ ?_<;>intro hc<;>try exact jz)|refine cm (Qk) ?_|refine Bm 6 xK P7 rfl (fun w vs hw hv=>by have:=F2 (enc:=eI) h.flatten rfl rfl jB jC w vs hw hv;rw[Dv PW]at this;exact this) ?_|refine ay ?_|exact jI|(clear hK K)))
  refine P3 _ _ (dZ (k+1) jB (by show h.length-(k+1)<h.length-k;omega) (by rw[etk,List.map_append];rfl) cc)
 ·have RU:k=h.length:=jB;subst RU;refine S ?_
  (repeat' (first|refine ax fun K hK=>?_|refine az ?_|(refine hK _ _ ?_;clear hK K)|(refine aw ?_ ?_<;>intro hc<;>try exact jz)|refine PY _ _ ?_|refine ay ?_|exact jI|(clear hK K)))
  refine lE [.tmp 2] ?_;exact dz.row (enc:=mS) h rfl rfl rfl
end Go.Proofs.YtghoellpinmenaaGreatDoor
namespace Go.Proofs.YtghoellpinmenaaGreatDoor
open Go Go.Gd Tryz Go.Gd.MV
section
variable {p:ab}{C:aB}(X:PK)
def JY{m:MV}{N:NM}{e:PG}(hR:bw p C m N e)(hl:m.heap.length<=1000)(hf:m.heap.flatten.length<=1000):cw prog 50 [.pt (hn 5 N.k) 0 0 0] e (aX mS 1 m.heap) e:=
 hR.kn rfl rfl (Nn m.heap hl hf)
def zy{m:MV}{N:NM}{e:PG}(hR:bw p C m N e){k:Nat}(hk:k<m.calls.length):(List.map (fun j=>[AV.pt (hn 0 j) 0 0 0]) (List.map NC.c N.cs)++List.map (fun j=>[AV.pt (hn 0 j) 0 0 0]) N.cj).getD k []=[.pt (hn 0 (nth N.cs k).c) 0 0 0]:=by have hl:=hR.len;rw[<-List.map_append];rw[List.getD_eq_getElem?_getD,List.getElem?_map,List.getElem?_append_left (by rw[List.length_map];omega),List.getElem?_map,List.getElem?_eq_getElem jB,dT jB];rfl
structure sj(C:aB)(m:MV):Prop where
 calls:m.calls.length<=8
 sel:∀k,k<m.calls.length->0<=m.cQ k/\m.cQ k<C.ins.length
 slots:∀k,k<m.calls.length->(nth m.calls k).slots.length<=24
 heap:fv m.heap<=40
 outs:m.aD.length<=24
 ins:C.ins.length<=1000000
def Oh{m:MV}{N:NM}{e:PG}(hR:bw p C m N e)(hk:sj C m):cw prog 26 [mP N] e (.agg (ji (m.iC C))) e:=by
 obtain⟨s1,s2,s3,s4,s5,s6⟩:=hk;rw[pL]at s4;have PV:=hR.ok.low;have hl:=hR.len;have SX:=JY hR jB jB;have VX:=BC m.aD jB 8;refine⟨?_,hR.ok,hR.ok,fun _ h=>h,ov hR rfl⟩;refine aQ (L:=ids e) func26 ntmps26 ?_ (hL:=rfl);generalize hB:ids e=B;refine dP ?_
 (have W:=jA PV (hR.root);repeat' (first|refine ax fun K hK=>?_|refine az ?_|(with_reducible refine gR 1 ?_);refine dC 1 ([],[],[11,20]) [27] [0,1,2,3,5,6,7,8,9,10,11,12,14,15,16,17,18,19,20,21,22,23,24,25,4,13,26,27,28] mixed ?_|(with_reducible refine gR 8 ?_);refine dC 8 ([],[79],[]) [] (aK 0 25) mixed ?_|(refine hK _ _ ?_;clear hK K)|(refine aw ?_ ?_<;>intro hc<;>try exact jz)|refine ld 9 ?_|refine ld 10 ?_|refine oi SX (fun _ _ _=>.inl rfl) ?_|refine CI 8 zo VX (by show ak (tie _ _) _=_;rw[eD,PV _ jC];rfl) (pJ m.aD (by show ak (tie _ _) _=_;rw[eD,hR.outs];rfl) rfl) ?_|refine ay ?_|exact jI|(clear hK K)))
 refine gT (cU.fl 11 10 0 69 3 (by show ak (tie _ _) _=_;rw[eD,PV _ jC];rfl) jC (by show ak (tie _ _) _=_;rw[eD,PV _ jC];rfl) rfl) ?_
 (have W:=jA PV PV;refine S ?_;clear W;try exact jI)
 have PY:=hK;clear hK;refine dR (S:=Nat) [(4,3),(39,46)] (fun i=>i<=m.calls.length) (fun i=>[(39,rI i)])
  (fun i=>⟨B,tie e [(9,.var 65 [.raw (.slice none 0 0),.raw (.slice none 0 0),.raw (.int .i64 0),.raw (.slice none 0 0),.raw (.int .i64 0),.raw (.int .i64 0),.raw (.int .i64 0)]),
   (10,.var 65 [.rs 11 i 3 i,aX mS 1 m.heap,.raw (.int .i64 m.in_),aX eS 1 m.aD,.raw (.int .i64 m.status),.raw (.int .i64 m.bs),.raw (.int .i64 m.time)]),(11,.aE 69 3 (((List.range i).map (m.spot C)).map l7))]⟩)
  (fun i=>m.calls.length-i) 0 jB (dS rfl cc) ?_
 rintro i hi Kr P3;by_cases PW:i<m.calls.length
 ·have QE:=hR.call i PW;have Rp:=zy hR PW;have Q0:=s3 i PW;obtain⟨a1,a2⟩:=s2 i PW;have Sm:=wv (nth m.calls i).slots jB 8;have X4:List.range (i+1)=List.range i++[i]:=List.range_succ;have X5:((List.range i).map (m.spot C)).length=i:=jE;have key:∀a:Int,m.cQ i=a->nth C.ins a.toNat=nth C.ins (m.cQ i).toNat:=fun a ha=>by rw[ha]
  unfold MV.cQ at a1 a2;by_cases QZ:(i:Int)=(m.calls.length:Int)-1
  ·have Si:m.cQ i=(nth m.calls i).at_:=by unfold MV.cQ;rw[if_pos QZ]
   rw[if_pos QZ]at a1 a2;refine S ?_
   (have W:=jA PV (jA hR.root (jA hR.row (jA Rp (jA QE.var (hl)))));repeat' (first|refine ax fun K hK=>?_|refine az ?_|(with_reducible refine gR 1 ?_);refine dC 1 ([],[],[11,20]) [27] [0,1,2,3,5,6,7,8,9,10,11,12,14,15,16,17,18,19,20,21,22,23,24,25,4,13,26,27,28] mixed ?_|(with_reducible refine gR 8 ?_);refine dC 8 ([],[79],[]) [] (aK 0 25) mixed ?_|(refine hK _ _ ?_;clear hK K)|(refine aw ?_ ?_<;>intro hc<;>try exact jz)|refine Ex 8 qS Sm (by show ak (tie _ _) _=_;rw[eD,PV _ jC];rfl) (pJ (nth m.calls i).slots (by show ak (tie _ _) _=_;rw[eD,QE.dv];rfl) rfl) ?_|refine PY _ _ ?_|refine ay ?_|exact jI|(clear hK K)))
   refine P3 _ _ (dZ (i+1) jB (by show m.calls.length-(i+1)<m.calls.length-i;omega) ?_ cc);rw[X4,List.map_append,List.map_append,List.map_singleton,List.map_singleton];unfold MV.spot;rw[Si];rfl
  ·have Si:m.cQ i=(nth m.calls i).mark:=by unfold MV.cQ;rw[if_neg QZ]
   rw[if_neg QZ]at a1 a2;refine S ?_
   (have W:=jA PV (jA hR.root (jA hR.row (jA Rp (jA QE.var (hl)))));repeat' (first|refine ax fun K hK=>?_|refine az ?_|(with_reducible refine gR 1 ?_);refine dC 1 ([],[],[11,20]) [27] [0,1,2,3,5,6,7,8,9,10,11,12,14,15,16,17,18,19,20,21,22,23,24,25,4,13,26,27,28] mixed ?_|(with_reducible refine gR 8 ?_);refine dC 8 ([],[79],[]) [] (aK 0 25) mixed ?_|(refine hK _ _ ?_;clear hK K)|(refine aw ?_ ?_<;>intro hc<;>try exact jz)|refine Ex 8 qS Sm (by show ak (tie _ _) _=_;rw[eD,PV _ jC];rfl) (pJ (nth m.calls i).slots (by show ak (tie _ _) _=_;rw[eD,QE.dv];rfl) rfl) ?_|refine PY _ _ ?_|refine ay ?_|exact jI|(clear hK K)))
   refine P3 _ _ (dZ (i+1) jB (by show m.calls.length-(i+1)<m.calls.length-i;omega) ?_ cc);rw[X4,List.map_append,List.map_append,List.map_singleton,List.map_singleton];unfold MV.spot;rw[Si];rfl
 ·have Q2:i=m.calls.length:=jB;subst Q2;refine S ?_
  (have W:=jA PV hl;repeat' (first|refine ax fun K hK=>?_|refine az ?_|(with_reducible refine gR 1 ?_);refine dC 1 ([],[],[11,20]) [27] [0,1,2,3,5,6,7,8,9,10,11,12,14,15,16,17,18,19,20,21,22,23,24,25,4,13,26,27,28] mixed ?_|(with_reducible refine gR 8 ?_);refine dC 8 ([],[79],[]) [] (aK 0 25) mixed ?_|(refine hK _ _ ?_;clear hK K)|(refine aw ?_ ?_<;>intro hc<;>try exact jz)|refine PY _ _ ?_|refine ay ?_|exact jI|(clear hK K)))
  have h9:=PV 9 jC;have Uf:=PV 11 jC;refine HL hB hR.ok hR.ok rfl (dD jC (dD jC (dD jC de))) [.cell 2 65] ?_ (ho:=by simp(disch:=first|omega|assumption|fail) only[go_sem,↓reduceIte,h9];rfl) (hok:=by simp(disch:=first|omega|assumption|fail) only[go_sem,↓reduceIte,h9];first|done|decide|(repeat' (first|exact trivial|decide|(simp;done)|refine jA ?_ ?_)));have X5:((List.range m.calls.length).map (m.spot C)).length=m.calls.length:=jE;exact bT.agg (ds:=ji (m.iC C)) (jA (dz.row (enc:=l7) ((List.range m.calls.length).map (m.spot C)) rfl (by show ak (tie _ _) _=_;rw[eD,Uf];rfl) X5.symm) (jA (.same _ rfl) (jA (.same _ rfl) (jA (.same _ rfl) (jA (.same _ rfl) (jA (.same _ rfl) (jA (.same _ rfl) trivial)))))))
end
def K7{p:ab}(h:fG p):dO prog 44 [.agg (fD p)] (rI (iO p))/\o7 p (cC p) MV.lH (iO p) []:=by obtain⟨j,hj,S7,Qi,Xk⟩:=Dc h;have X6:=h.ok.aa.au;have hC:=sM h;have P5:=h.ok.size;have P7:=hC.len;rw[S7];refine⟨O0 j jB hj Qi fun i hi e=>(h.names.one i j hi hj (by rw[e,Qi])).elim,?_⟩;have X7:=h.au j hj;have hp:=X7.ww;have hh:=X7.hi;have ej:((j:Int)).toNat=j:=Int.toNat_natCast j;have h0:iO p=(j:Int):=S7;exact⟨jB,jB,jB,by rw[ej];omega,by rw[ej];omega,by rw[ej];show(0:Int)<=_;omega,⟨jB,jB⟩,jC⟩
def y0{p:ab}(hp:jj p)(X:PK){m1:MV}(hg:bj p (cC p) [] (pr p (cC p)) m1)(P0:m1.eo (cC p))(Qx:m1.status=0->1<=m1.calls.length/\0<=m1.af.at_/\m1.af.at_<(cC p).ins.length) :
  ∃N l,bw p (cC p) m1 N l/\(∀i,ak l i≠none->i ∉ X)/\Bd 0 m1/\ai prog 22 [.agg (fD p)] [] (fun r l'=>r=mP N/\l'=l):=by
 obtain⟨Wc,X8⟩:=K7 hp.ok;have Ve:=PC hp;have hC:=sM hp.ok;have X6:=hp.ok.ok.aa.au;have P7:=hC.len;have P5:=hp.ok.ok.size;have Rf:=hC.pu;generalize cC p=C at*;have hk:=fun a=>Ap X a 0
 generalize oK X+0=k at hk;have Te:=O4 p C k;obtain⟨N1,l1,⟨Qr,Qg⟩,Qh,QN⟩:=B3 X Te (iO p) [] X8;have e1:MV.lH.ci p C (iO p) []=pr p C:=rfl;rw[e1]at Qr;have Ra:Bd 0 (pr p C):=by
  refine⟨fun k hk=>?_,fun k hk=>?_,(by show fv []<=40;decide),(by show 0<=24;omega),(by show(0:Int)<=0;omega),(by show(0:Int)<=0;omega)⟩
  ·have:k+1<1:=hk;omega
  ·have:k<1:=hk;have:k=0:=jB;subst this;show(([]:List aj)++List.replicate _ v0).length<=24;have h1:=X8.s1;simp only[List.nil_append,List.length_replicate,List.length_nil];omega
 obtain⟨N2,l2,⟨Qz,P1,RA⟩,QH,Sb⟩:=GW (inp:=[]) X Qr Ra jC jB jB Rf hg P0 Qx;have eM:mP N1=mP ⟨k,[],[]⟩:=by unfold mP;rw[Qg]
 have eM2:mP N2=mP ⟨k,[],[]⟩:=by unfold mP;rw[P1,Qg]
 rw[eM]at Sb;rw[show aX bG 3 []=(.sl false 3 [] (bG default):AV) from rfl]at QN;have QN:=QN.args (args:=[mP ⟨k,[],[]⟩,rI (iO p),.raw (.slice none 0 0)]) (fun w vs hw hv=>sT hv (fun _ h=>h) fun us hu=>sT hu (fun _ h=>h) fun us hu=>sT hu (BE 3 _) (fun _ h=>h)) (ov Te rfl);have Sb:=Sb.args (args:=[mP ⟨k,[],[]⟩,.raw (.slice none 0 0)]) (fun w vs hw hv=>sT hv (fun _ h=>h) fun us hu=>sT hu (BE 1 _) (fun _ h=>h)) (by have:=ov (N:=N1) Qr (l:=[.raw (.slice none 0 0)]) rfl;rw[eM]at this;exact this);refine⟨N2,l2,Qz,fun i hi=>?_,RA,?_⟩
 ·rcases(Qh.trans QH).new i hi with h|h
  ·have hm:=(fO _ _).2 h;rw[zw]at hm;simp only[List.mem_cons,List.not_mem_nil,or_false]at hm;rcases hm with rfl|rfl|rfl|rfl|rfl|rfl<;>exact hk _
  ·exact h
 ·rw[eM2];have Zi:=N9 (hn 5 k);have eC:vC C=[aX cO 4 C.ins,aX eI 1 C.entry]:=rfl;rw[eC]at Ve;rw[BL]at Ve Wc ⊢;refine aQ func22 ntmps22 ?_;have UZ:=Te.ok.low;have Qf:=Qr.ok.low;have Ro:=Qz.ok.low
  (have W:=jA UZ (jA Qf (Ro));repeat' (first|(with_reducible refine gR 2 ?_);refine gT (Li p C k _) ?_|refine ax fun K hK=>?_|refine az ?_|(with_reducible refine gR 1 ?_);refine dC 1 ([],[6],[7]) [] (aK 0 7) mixed ?_|(refine hK _ _ ?_;clear hK K)|(refine aw ?_ ?_<;>intro hc<;>try exact jz)|refine dL 9 ?_|refine dL (hn 3 k) ?_|refine cq (Ve) ?_|refine cN Zi ?_|refine cp (Wc) ?_|refine cT QN ?_|refine cT Sb ?_|refine ay ?_|exact jI|(clear hK K)))
  exact dW (e:=[]) rfl ⟨fun _ _ _=>rfl,List.nodup_nil,fun i r h=>by cases h⟩ Qz.ok (fun _=>rfl) (dD jC de) [.tmp 2]
end Go.Proofs.YtghoellpinmenaaGreatDoor
/- Lemmas. No conditions. -/
import Derived.Test.YtbjookcdpondlaaGreatDoorCmG
set_option linter.all false
set_option maxHeartbeats 4000000
set_option maxRecDepth 10000
namespace Go.Gd
open Go
structure NC where
 c:Nat
 v:Nat
 jk:List ak
 deriving Inhabited
structure NM where
 k:Nat
 cs:List NC
 cj:List Nat
namespace MV
def cE(c:MC)(n:NC):SG:=[.rs (hn 2 n.v) (c.stack.length+n.jk.length) 3 c.stack.length,.raw (.int .i64 c.fn),.raw (.int .i64 c.at_),.raw (.int .i64 c.mark),.rs (hn 1 n.c) c.slots.length 3 c.slots.length]
def mE(p:ab)(C:aI)(m:MV)(N:NM):SG:=kH p++[bh du 4 C.ins,bh eI 1 C.entry,.rs (hn 4 N.k) (N.cs.length+N.cj.length) 1 N.cs.length,.pt (hn 5 N.k) 0 0 0,.rs (hn 8 N.k) m.aC.length 1 m.aC.length,.raw (.int .i64 m.in_),.raw (.int .i64 m.status),.raw (.int .i64 m.bp),.raw (.int .i64 m.time)]
structure ns(c:MC)(n:NC)(e:List (Nat×Row)):Prop where
 var:aD e (hn 0 n.c)=some (.var 89 (cE c n))
 cS:aD e (hn 2 n.v)=some (.aK 82 3 ((c.stack++n.jk).map bM))
 fp:aD e (hn 1 n.c)=some (.aK 82 3 (c.slots.map bM))
 bd:c.stack.length+n.jk.length<=2000
structure bU(p:ab)(C:aI)(m:MV)(N:NM)(e:List (Nat×Row)):Prop where
 ok:gZ 0 e
 root:aD e (hn 3 N.k)=some (.var 68 (mE p C m N))
 row:aD e (hn 4 N.k)=some (.aK 85 1 ((N.cs.map NC.c++N.cj).map fun j=>[.pt (hn 0 j) 0 0 0]))
 hp:aD e (hn 5 N.k)=some (.var 116 [.rs (hn 6 N.k) m.heap.flatten.length 1 m.heap.flatten.length,.rs (hn 7 N.k) m.heap.length 1 m.heap.length])
 cells:aD e (hn 6 N.k)=some (.aK 3 1 (m.heap.flatten.map eI))
 ends:aD e (hn 7 N.k)=some (.aK 3 1 ((l8 m.heap).map eI))
 outs:aD e (hn 8 N.k)=some (.aK 9 1 (m.aC.map eS))
 len:N.cs.length=m.calls.length
 call:∀k,k<m.calls.length->ns (nth m.calls k) (nth N.cs k) e
 nc:(N.cs.map NC.c).Nodup
 nv:(N.cs.map NC.v).Nodup
 bd:N.cs.length+N.cj.length<=1000
end MV
def NM.aj(N:NM):NC:=nth N.cs (N.cs.length-1)
def NM.aS(N:NM)(n:NC):NM:={ N with cs:=N.cs.set (N.cs.length-1) n }
attribute [go_sem] MV.cE MV.mE
variable{α:Type}
def s8{β:Type}[Inhabited α][Inhabited β](f:α->β)(l:List α)(k:Nat)(h:k<l.length):nth (l.map f) k=f (nth l k):=by rw[dV (by simpa using h),dV h];simp
def FF[Inhabited α]{l:List α}(h:l.Nodup){i j:Nat}(hi:i<l.length)(hj:j<l.length)(e:nth l i=nth l j):i=j:=by rw[dV hi,dV hj]at e;exact(List.getElem_inj h).1 e
def JD[Inhabited α]{l:List α}(h:l.Nodup){i:Nat}(hi:i<l.length){v:α}(hv:∀j,j<l.length->j≠i->nth l j≠v):(l.set i v).Nodup:=by
 unfold List.Nodup;rw[List.pairwise_iff_getElem];intro a b ha hb ZB e;rw[List.length_set]at ha hb;rw[List.getElem_set,List.getElem_set]at e;split at e<;>split at e
 ·omega
 ·rename_i h1 h2;exact hv b hb jB (by rw[dV hb];exact e.symm)
 ·rename_i h1 h2;exact hv a jB jB (by rw[dV jB];exact e)
 ·have:=(List.getElem_inj h).1 e;omega
namespace MV
variable {p:ab}{C:aI}{m:MV}{N:NM}{e:SF}
theorem bU.aj(h:bU p C m N e)(h1:1<=m.calls.length):ns m.aj N.aj e:=by have:=h.call (m.calls.length-1) jB;unfold NM.aj MV.aj;rw[h.len];exact this
def bU.ne{k j:Nat}(h:bU p C m N e)(hk:k<N.cs.length)(hj:j<N.cs.length)(hkj:k≠j):(nth N.cs k).c≠(nth N.cs j).c/\(nth N.cs k).v≠(nth N.cs j).v:=by
 constructor
 ·intro e';exact hkj (FF h.nc (by simpa using hk) (by simpa using hj) (by rw[s8 _ _ _ hk,s8 _ _ _ hj];exact e'))
 ·intro e';exact hkj (FF h.nv (by simpa using hk) (by simpa using hj) (by rw[s8 _ _ _ hk,s8 _ _ _ hj];exact e'))
theorem bU.aS(hR:bU p C m N e)(h1:1<=m.calls.length){c':MC}{n':NC}{e':SF}(hnc:n'.c=N.aj.c)(ok:gZ 0 e')(hc:ns c' n' e')(hv:n'.v=N.aj.v\/aD e (hn 2 n'.v)=none)
  (hs:∀j,aD e j≠none->j≠hn 0 N.aj.c->j≠hn 1 N.aj.c->j≠hn 2 N.aj.v->aD e' j=aD e j):bU p C (m.aS c') (N.aS n') e':=by
 have hl:=hR.len;have kind:∀(a k:Nat) (r:Row),2<a->a<32->aD e (hn a k)=some r->aD e' (hn a k)=some r:=fun a k r h2 U3 h=>by rw[hs _ (by rw[h];simp) (dq U3 jB jB) (dq U3 jB jB) (dq U3 jB jB)];exact h
 have cs:(N.aS n').cs.map NC.c=N.cs.map NC.c:=by show(N.cs.set _ n').map NC.c=_;rw[List.map_set,hnc];unfold NM.aj;rw[<-s8 NC.c N.cs _ jB,dV (by rw[List.length_map];omega),List.set_getElem_self]
 have ln:(N.aS n').cs.length=N.cs.length:=by show(N.cs.set _ n').length=_;simp
 have nu:∀k,nth (N.aS n').cs k=if k=N.cs.length-1 then n' else nth N.cs k:=fun k=>Go.Gd.aY _ _ _ _ jB
 have mu:∀k,nth (m.aS c').calls k=if k=m.calls.length-1 then c' else nth m.calls k:=fun k=>Go.Gd.aY _ _ _ _ jB
 have ml:(m.aS c').calls.length=m.calls.length:=by show(m.calls.set _ c').length=_;simp
 refine⟨ok,?_,?_,kind 5 _ _ jB jB hR.hp,kind 6 _ _ jB jB hR.cells,kind 7 _ _ jB jB hR.ends,kind 8 _ _ jB jB hR.outs,by rw[ln,ml];exact hl,fun k hk=>?_,by rw[cs];exact hR.nc,?_,by rw[ln];exact hR.bd⟩
 ·rw[show mE p C (m.aS c') (N.aS n')=mE p C m N by unfold mE;rw[ln];rfl];exact kind 3 _ _ jB jB hR.root
 ·rw[cs];exact kind 4 _ _ jB jB hR.row
 ·rw[ml]at hk;rw[nu,mu,hl];by_cases ek:k=m.calls.length-1
  ·rw[if_pos ek,if_pos ek];exact hc
  ·rw[if_neg ek,if_neg ek];have UO:=hR.call k hk;obtain⟨n1,n2⟩:=hR.ne (k:=k) (j:=N.cs.length-1) jB jB jB;have n1:(nth N.cs k).c≠N.aj.c:=n1;have n2:(nth N.cs k).v≠N.aj.v:=n2;exact⟨by rw[hs _ (by rw[UO.var];simp) (fun e=>n1 (xa jB jB e).2) (dq jB jB jB) (dq jB jB jB)];exact UO.var,
    by rw[hs _ (by rw[UO.cS];simp) (dq jB jB jB) (dq jB jB jB) (fun e=>n2 (xa jB jB e).2)];exact UO.cS,
    by rw[hs _ (by rw[UO.fp];simp) (dq jB jB jB) (fun e=>n1 (xa jB jB e).2) (dq jB jB jB)];exact UO.fp,UO.bd⟩
 ·show((N.cs.set _ n').map NC.v).Nodup;rw[List.map_set];refine JD hR.nv (by rw[List.length_map];omega) fun j hj VJ e'=>?_
  rw[List.length_map]at hj;rw[s8 _ _ _ hj]at e';rcases hv with hv|hv
  ·rw[hv]at e';exact(hR.ne hj jB VJ).2 e'
  ·have UO:=(hR.call j jB).cS;rw[e',hv]at UO;cases UO
def bU.mO(hR:bU p C m N e){m':MV}(h1:m'.calls=m.calls)(h2:m'.heap=m.heap)(h3:m'.aC=m.aC):bU p C m' N (bD e (hn 3 N.k) (.var 68 (mE p C m' N))):=by
 have kind:∀(a k:Nat) (r:Row),a≠3->a<32->aD e (hn a k)=some r->aD (bD e (hn 3 N.k) (.var 68 (mE p C m' N))) (hn a k)=some r:=fun a k r h3 U3 h=>by rw[cd,if_neg (dq U3 jB h3)];exact h
 refine⟨hR.ok.put (.inr (ja _ _)) ?_,by rw[cd,if_pos rfl],kind _ _ _ jB jB hR.row,?_,?_,?_,?_,by rw[h1];exact hR.len,fun k hk=>?_,hR.nc,hR.nv,hR.bd⟩
 ·have c4:=gq hR.row;have c5:=gq hR.hp;have c8:=gq hR.outs;have up:ba (fun j=>decide (j=hn 3 N.k) || (ids e).contains j) (kH p)=true:=fM (q:=cZ) (fun _ h=>by cases h) _ rfl;unfold mE;simp only[Row.cells];rw[um,up];simp only[ba,AV.all,c4,c5,c8,Bool.or_true,Bool.and_self,bh]
 ·rw[h2];exact kind _ _ _ jB jB hR.hp
 ·rw[h2];exact kind _ _ _ jB jB hR.cells
 ·rw[h2];exact kind _ _ _ jB jB hR.ends
 ·rw[h3];exact kind _ _ _ jB jB hR.outs
 ·rw[h1]at hk ⊢;have hc:=hR.call k hk;exact⟨kind _ _ _ jB jB hc.var,kind _ _ _ jB jB hc.cS,kind _ _ _ jB jB hc.fp,hc.bd⟩
end MV
def kE(fn at_ mark:Int)(vs jk slots:List ak):SF:=[(6,.var 89 [.rs 7 (vs.length+jk.length) 3 vs.length,.raw (.int .i64 fn),.raw (.int .i64 at_),.raw (.int .i64 mark),.rs 8 slots.length 3 slots.length]),(7,.aK 82 3 ((vs++jk).map bM)),(8,.aK 82 3 (slots.map bM))]
attribute [go_sem] kE
mutual
theorem xN{f:Nat->Nat}:∀a:AV,a.all cZ=true->a.ce f=a
 |.raw _,_=>by simp only[AV.ce]
 |.any,_=>by simp only[AV.ce]
 |.agg cs,h=>by simp only[AV.all]at h;simp only[AV.ce,tu cs h]
 |.bf cs,h=>by simp only[AV.all]at h;simp only[AV.ce,tu cs h]
 |.sl _ _ _ _,_=>by simp only[AV.ce]
 |.ip _,_=>by simp only[AV.ce]
 |.gd _ v,h=>by simp only[AV.all]at h;simp only[AV.ce,xN v h]
 |.fZ _ cs,h=>by simp only[AV.all]at h;simp only[AV.ce,tu cs h]
 |.pt _ _ _ _,h=>by simp only[AV.all]at h;cases h
 |.rs _ _ _ _,h=>by simp only[AV.all]at h;cases h
 |.rv _ _ _ _ _,h=>by simp only[AV.all]at h;cases h
 |.mr _,h=>by simp only[AV.all]at h;cases h
 |.bd _ fs,h=>by simp only[AV.all]at h;simp only[AV.ce,tu fs h]
 |.kZ _ v,h=>by simp only[AV.all]at h;simp only[AV.ce,xN v h]
theorem tu{f:Nat->Nat}:∀l:SG,ba cZ l=true->fm f l=l
 |[],_=>rfl
 |a::l,h=>by simp only[ba,Bool.and_eq_true]at h;simp only[fm,xN a h.1,tu l h.2]
end
variable{α:Type}{sz:Nat}
def uV{f:Nat->Nat}{enc:α->SG}[he:cc enc sz](l:List α):(l.map enc).map (fm f)=l.map enc:=by rw[List.map_map];exact List.map_congr_left fun x _=>tu _ (he.free x)
def pk(x y z a b c:Nat)(i:Nat):Nat:=if i=x then a else if i=y then b else if i=z then c else i+(a+b+c+1)
def xW(x y z a b c:Nat)(j:Nat):Nat:=if j=a then x else if j=b then y else if j=c then z else j-(a+b+c+1)
def D2{x y z a b c:Nat}(h1:a≠b)(h2:a≠c)(h3:b≠c)(i:Nat):xW x y z a b c (pk x y z a b c i)=i:=by
 unfold pk;split
 ·rename_i e;unfold xW;rw[if_pos rfl];exact e.symm
 ·split
  ·rename_i e;unfold xW;rw[if_neg (fun e=>h1 e.symm),if_pos rfl];exact e.symm
  ·split
   ·rename_i e;unfold xW;rw[if_neg (fun e=>h2 e.symm),if_neg (fun e=>h3 e.symm),if_pos rfl];exact e.symm
   ·unfold xW;rw[jN,jN,jN];omega
mutual
theorem C0{f:Nat->Nat}{q q':SP}(h:∀i,q i=true->q' (f i)=true):∀a:AV,a.all q=true->(a.ce f).all q'=true
 |.raw _,_=>by simp only[AV.ce,AV.all]
 |.any,_=>by simp only[AV.ce,AV.all]
 |.agg cs,k=>by simp only[AV.all]at k;simp only[AV.ce,AV.all];exact vC h cs k
 |.bf cs,k=>by simp only[AV.all]at k;simp only[AV.ce,AV.all];exact vC h cs k
 |.sl _ _ _ _,_=>by simp only[AV.ce,AV.all]
 |.ip _,_=>by simp only[AV.ce,AV.all]
 |.gd _ v,k=>by simp only[AV.all]at k;simp only[AV.ce,AV.all];exact C0 h v k
 |.fZ _ cs,k=>by simp only[AV.all]at k;simp only[AV.ce,AV.all];exact vC h cs k
 |.pt i _ _ _,k=>by simp only[AV.all]at k;simp only[AV.ce,AV.all];exact h i k
 |.rs i _ _ _,k=>by simp only[AV.all]at k;simp only[AV.ce,AV.all];exact h i k
 |.rv i _ _ _ _,k=>by simp only[AV.all]at k;simp only[AV.ce,AV.all];exact h i k
 |.mr i,k=>by simp only[AV.all]at k;simp only[AV.ce,AV.all];exact h i k
 |.bd _ fs,k=>by simp only[AV.all]at k;simp only[AV.ce,AV.all];exact vC h fs k
 |.kZ _ v,k=>by simp only[AV.all]at k;simp only[AV.ce,AV.all];exact C0 h v k
theorem vC{f:Nat->Nat}{q q':SP}(h:∀i,q i=true->q' (f i)=true):∀l:SG,ba q l=true->ba q' (fm f l)=true
 |[],_=>rfl
 |a::l,k=>by simp only[ba,Bool.and_eq_true]at k;simp only[fm,ba,Bool.and_eq_true];exact⟨C0 h a k.1,vC h l k.2⟩
end
variable{P:SQ}{f:FuncId}
def ai.at{args:SG}{s s' e:SF}{r0:AV}{ρ g:Nat->Nat}(hg:∀i,g (ρ i)=i)(hc:ai P f args s fun r l=>r=r0/\l=s')(hs:∀i r,aD s i=some r->aD e (ρ i)=some (r.ce ρ))(ha:ba (fun i=>(ids s).contains i) args=true)
  (S9:∀i r,aD s i=some r->ba (fun i=>(ids s).contains i) r.cells=true) (hn:(ids s').Nodup) (VT:∀i∈ids s',i∈ids s):ai P f (fm ρ args) e fun r l=>r=r0.ce ρ/\l=jR e (lg ρ s'):=by
 have mem:∀i,(ids s).contains i=true->(ids (lg ρ s)).contains (ρ i)=true:=fun i hi=>by rw[Ar,List.contains_iff_mem];exact List.mem_map_of_mem (List.contains_iff_mem.1 hi)
 have up:∀l:SG,ba (fun i=>(ids s).contains i) l=true->ba (fun i=>(ids (lg ρ s)).contains i) (fm ρ l)=true:=fun l h=>vC mem l h
 have:=ai.more (e:=e) (ai.ce hg hc) (fun i r hi=>?_) (up _ ha) (fun i r hi=>?_) (fun r l hR=>?_)
 ·refine this.mono fun r l ⟨l0,⟨r1,l1,e1,e2,e3,e4⟩,e5⟩=>?_
  rw[e1,e3,e5,e2,e4];exact⟨rfl,rfl⟩
 ·obtain⟨j,r0,rfl,rfl,h3⟩:=xH hg hi;exact hs j r0 h3
 ·obtain⟨j,r0,rfl,rfl,h3⟩:=xH hg hi;rw[Row.gG];exact up _ (S9 j r0 h3)
 ·obtain⟨r1,l1,e1,e2,e3,e4⟩:=hR;subst e2 e4;refine⟨?_,fun i hi=>.inl ?_⟩
  ·rw[Ar];exact hn.map _ (fun a b h1 h2=>h1 (by rw[<-hg a,<-hg b,h2]))
  ·obtain⟨r,hr⟩:=Option.ne_none_iff_exists'.1 hi;obtain⟨j,r0,rfl,rfl,h3⟩:=xH hg hr;obtain⟨x,hx⟩:=Option.ne_none_iff_exists'.1 ((kz _ _).1 (VT j ((kz _ _).2 (by rw[h3];simp))));rw[zR hg,hx];simp
def kU(P:SQ)(f:FuncId)(args:SG)(e:SF)(X:SJ)(r0:AV)(Q:NM->List SS->Prop):Prop:=∃N' l,Q N' l/\Up X e l/\eY P f args e r0 l
namespace MV
variable {p:ab}{C:aI}{m:MV}{N:NM}{e:SF}{P:SQ}{f:FuncId}{rest:SG}{r0:AV}{X:SJ}
def kL(N:NM)(c':MC)(jk':List ak)(e:SF):SF:=bD (bD (bD e (hn 0 N.aj.c) (.var 89 (cE c' ⟨N.aj.c,N.aj.v,jk'⟩))) (hn 2 N.aj.v) (.aK 82 3 ((c'.stack++jk').map bM))) (hn 1 N.aj.c) (.aK 82 3 (c'.slots.map bM))
def bU.nA(hR:bU p C m N e)(h1:1<=m.calls.length){c':MC}{jk':List ak}(hb:c'.stack.length+jk'.length<=2000)(Ti:ba cZ rest=true)(hr:r0.all cZ=true)
  (hc:ai P f (.pt 6 0 0 0::rest) (kE m.aj.fn m.aj.at_ m.aj.mark m.aj.stack N.aj.jk m.aj.slots) fun r l=>r=r0/\l=kE c'.fn c'.at_ c'.mark c'.stack jk' c'.slots) :
  (bU p C (m.aS c') (N.aS ⟨N.aj.c,N.aj.v,jk'⟩) (kL N c' jk' e)/\(N.aS ⟨N.aj.c,N.aj.v,jk'⟩).aj.c=N.aj.c)/\Up X e (kL N c' jk' e)/\eY P f (.pt (hn 0 N.aj.c) 0 0 0::rest) e r0 (kL N c' jk' e):=by
 have ht:=hR.aj h1;unfold kL;have a1:hn 0 N.aj.c≠hn 2 N.aj.v:=dq jB jB jB;have a2:hn 0 N.aj.c≠hn 1 N.aj.c:=dq jB jB jB;have a3:hn 2 N.aj.v≠hn 1 N.aj.c:=dq jB jB jB;have q6:pk 6 7 8 (hn 0 N.aj.c) (hn 2 N.aj.v) (hn 1 N.aj.c) 6=hn 0 N.aj.c:=rfl;have q7:pk 6 7 8 (hn 0 N.aj.c) (hn 2 N.aj.v) (hn 1 N.aj.c) 7=hn 2 N.aj.v:=rfl;have q8:pk 6 7 8 (hn 0 N.aj.c) (hn 2 N.aj.v) (hn 1 N.aj.c) 8=hn 1 N.aj.c:=rfl;have ea:fm (pk 6 7 8 (hn 0 N.aj.c) (hn 2 N.aj.v) (hn 1 N.aj.c)) (.pt 6 0 0 0::rest)=.pt (hn 0 N.aj.c) 0 0 0::rest:=by simp only[fm,AV.ce,q6,tu _ Ti]
 have el:jR e (lg (pk 6 7 8 (hn 0 N.aj.c) (hn 2 N.aj.v) (hn 1 N.aj.c)) (kE c'.fn c'.at_ c'.mark c'.stack jk' c'.slots))=bD (bD (bD e (hn 0 N.aj.c) (.var 89 (cE c' ⟨N.aj.c,N.aj.v,jk'⟩))) (hn 2 N.aj.v) (.aK 82 3 ((c'.stack++jk').map bM))) (hn 1 N.aj.c) (.aK 82 3 (c'.slots.map bM)):=by simp only[kE,lg,List.map_cons,List.map_nil,jR,q6,q7,q8,Row.ce,fm,AV.ce,uV (enc:=bM) (sz:=3),cE]
 have i0:=gq ht.var;have i1:=gq ht.fp;have i2:=gq ht.cS;have no:∀l:List ak,ba cZ ((l.map bM).flatten)=true:=fun l=>pq (jo (enc:=bM) (sz:=3) _)
 have hl:=hR.len;have Xh:bU p C (m.aS c') (N.aS ⟨N.aj.c,N.aj.v,jk'⟩) (bD (bD (bD e (hn 0 N.aj.c) (.var 89 (cE c' ⟨N.aj.c,N.aj.v,jk'⟩))) (hn 2 N.aj.v) (.aK 82 3 ((c'.stack++jk').map bM))) (hn 1 N.aj.c) (.aK 82 3 (c'.slots.map bM))):=by
  refine hR.aS h1 rfl ?_ ⟨?_,?_,?_,hb⟩ (.inl rfl) fun j hj n0 n1 n2=>?_
  ·refine((hR.ok.put (.inr (ja _ _)) ?_).put (.inr (ja _ _)) ?_).put (.inr (ja _ _)) ?_
   ·simp only[Row.cells,cE,ba,AV.all,i1,i2,Bool.or_true,Bool.and_self]
   ·exact fM (fun _ h=>by cases h) _ (no _)
   ·exact fM (fun _ h=>by cases h) _ (no _)
  ·rw[cd,if_neg a2,cd,if_neg a1,cd,if_pos rfl]
  ·rw[cd,if_neg a3,cd,if_pos rfl]
  ·rw[cd,if_pos rfl]
  ·rw[cd,if_neg n1,cd,if_neg n2,cd,if_neg n0]
 have ZY:Up X e (bD (bD (bD e (hn 0 N.aj.c) (.var 89 (cE c' ⟨N.aj.c,N.aj.v,jk'⟩))) (hn 2 N.aj.v) (.aK 82 3 ((c'.stack++jk').map bM))) (hn 1 N.aj.c) (.aK 82 3 (c'.slots.map bM))):=by
  refine((Up.put _ (.inl ?_)).trans (Up.put _ (.inl ?_))).trans (Up.put _ (.inl ?_))
  ·rw[ht.var];simp
  ·rw[cd,if_neg (fun e=>a1 e.symm),ht.cS];simp
  ·rw[cd,if_neg (fun e=>a3 e.symm),cd,if_neg (fun e=>a2 e.symm),ht.fp];simp
 refine⟨⟨Xh,?_⟩,ZY,⟨?_,hR.ok,Xh.ok,ZY.bj,?_⟩⟩
 ·show(nth (N.cs.set _ _) ((N.cs.set _ _).length-1)).c=_;rw[List.length_set,Go.Gd.aY _ _ _ _ jB,if_pos rfl]
 ·rw[<-ea,<-el];refine(ai.at (e:=e) (D2 a1 a2 a3) hc (fun i r h=>?_) ?_ (fun i r h=>?_) ?_ (fun i h=>h)).mono fun r l ⟨e1,e2⟩=>⟨by rw[e1,xN _ hr],e2⟩
  ·simp only[kE,aD]at h;split at h
   ·rename_i ei;subst ei;cases h;rw[q6,ht.var];simp only[cE,Row.ce,fm,AV.ce,q7,q8]
   ·split at h
    ·rename_i ei;subst ei;cases h;rw[q7,ht.cS];simp only[Row.ce,uV (enc:=bM) (sz:=3)]
    ·split at h
     ·rename_i ei;subst ei;cases h;rw[q8,ht.fp];simp only[Row.ce,uV (enc:=bM) (sz:=3)]
     ·cases h
  ·simp only[ba,Bool.and_eq_true];exact⟨rfl,fM (fun _ h=>by cases h) _ Ti⟩
  ·simp only[kE,aD]at h;split at h
   ·cases h;rfl
   ·split at h
    ·cases h;exact fM (q:=cZ) (fun _ h=>by cases h) _ (no _)
    ·split at h
     ·cases h;exact fM (q:=cZ) (fun _ h=>by cases h) _ (no _)
     ·cases h
  ·show([6,7,8]:SJ).Nodup;decide
 ·simp only[ba,Bool.and_eq_true];exact⟨i0,fM (fun _ h=>by cases h) _ Ti⟩
def bU.cW(hR:bU p C m N e)(h1:1<=m.calls.length){c':MC}{jk':List ak}(hb:c'.stack.length+jk'.length<=2000)(Ti:ba cZ rest=true)(hr:r0.all cZ=true)
  (hc:ai P f (.pt 6 0 0 0::rest) (kE m.aj.fn m.aj.at_ m.aj.mark m.aj.stack N.aj.jk m.aj.slots) fun r l=>r=r0/\l=kE c'.fn c'.at_ c'.mark c'.stack jk' c'.slots) :
  kU P f (.pt (hn 0 N.aj.c) 0 0 0::rest) e X r0 fun N' l=>bU p C (m.aS c') N' l/\N'.k=N.k/\N'.aj.c=N.aj.c:=by
 obtain⟨h2,h3,h4⟩:=hR.nA (X:=X) h1 hb Ti hr hc;exact⟨_,_,⟨h2.1,rfl,h2.2⟩,h3,h4⟩
def bU.tp(hR:bU p C m N e)(h1:1<=m.calls.length)(Ti:ba cZ rest=true)(hr:r0.all cZ=true)
  (hc:ai P f (.pt 6 0 0 0::rest) (kE m.aj.fn m.aj.at_ m.aj.mark m.aj.stack N.aj.jk m.aj.slots) fun r l=>r=r0/\l=kE m.aj.fn m.aj.at_ m.aj.mark m.aj.stack N.aj.jk m.aj.slots):eY P f (.pt (hn 0 N.aj.c) 0 0 0::rest) e r0 e:=by
 have ht:=hR.aj h1;obtain⟨h2,h3,h4⟩:=hR.nA (X:=[]) (c':=m.aj) (jk':=N.aj.jk) h1 ht.bd Ti hr hc;have el:kL N m.aj N.aj.jk e=e:=by unfold kL;have e0:(⟨N.aj.c,N.aj.v,N.aj.jk⟩:NC)=N.aj:=rfl;rw[e0,ua ht.var,ua ht.cS,ua ht.fp]
 rw[el]at h4;exact h4
variable{h':SH}
def bU.ob(hR:bU p C m N e){e':SF}(ok:gZ 0 e')(h1:aD e' (hn 5 N.k)=some (.var 116 [.rs (hn 6 N.k) h'.flatten.length 1 h'.flatten.length,.rs (hn 7 N.k) h'.length 1 h'.length]))
  (h2:aD e' (hn 6 N.k)=some (.aK 3 1 (h'.flatten.map eI))) (h3:aD e' (hn 7 N.k)=some (.aK 3 1 ((l8 h').map eI))) (hs:∀j,j≠hn 5 N.k->j≠hn 6 N.k->j≠hn 7 N.k->aD e' j=aD e j):bU p C { m with heap:=h' } N e':=by
 have kind:∀(a k:Nat) (r:Row),a≠5->a≠6->a≠7->a<32->aD e (hn a k)=some r->aD e' (hn a k)=some r:=fun a k r h5 h6 h7 U3 h=>by rw[hs _ (dq U3 jB h5) (dq U3 jB h6) (dq U3 jB h7)];exact h
 exact⟨ok,kind _ _ _ jB jB jB jB hR.root,kind _ _ _ jB jB jB jB hR.row,h1,h2,h3,kind _ _ _ jB jB jB jB hR.outs,hR.len,fun k hk=> ⟨kind _ _ _ jB jB jB jB (hR.call k hk).var,kind _ _ _ jB jB jB jB (hR.call k hk).cS,kind _ _ _ jB jB jB jB (hR.call k hk).fp,(hR.call k hk).bd⟩,hR.nc,hR.nv,hR.bd⟩
def hL(N:NM)(h':SH)(e:SF):SF:=bD (bD (bD e (hn 5 N.k) (.var 116 [.rs (hn 6 N.k) h'.flatten.length 1 h'.flatten.length,.rs (hn 7 N.k) h'.length 1 h'.length])) (hn 6 N.k) (.aK 3 1 (h'.flatten.map eI))) (hn 7 N.k) (.aK 3 1 ((l8 h').map eI))
def bU.pH(hR:bU p C m N e)(Ti:ba cZ rest=true)(hr:r0.all cZ=true)(hc:ai P f (.pt 2 0 0 0::rest) (gK m.heap) fun r l=>r=r0/\l=gK h') :
  bU p C { m with heap:=h' } N (hL N h' e)/\Up X e (hL N h' e)/\eY P f (.pt (hn 5 N.k) 0 0 0::rest) e r0 (hL N h' e):=by
 unfold hL;have a1:hn 5 N.k≠hn 6 N.k:=dq jB jB jB;have a2:hn 5 N.k≠hn 7 N.k:=dq jB jB jB;have a3:hn 6 N.k≠hn 7 N.k:=dq jB jB jB;have q6:pk 2 3 4 (hn 5 N.k) (hn 6 N.k) (hn 7 N.k) 2=hn 5 N.k:=rfl;have q7:pk 2 3 4 (hn 5 N.k) (hn 6 N.k) (hn 7 N.k) 3=hn 6 N.k:=rfl;have q8:pk 2 3 4 (hn 5 N.k) (hn 6 N.k) (hn 7 N.k) 4=hn 7 N.k:=rfl;have ea:fm (pk 2 3 4 (hn 5 N.k) (hn 6 N.k) (hn 7 N.k)) (.pt 2 0 0 0::rest)=.pt (hn 5 N.k) 0 0 0::rest:=by simp only[fm,AV.ce,q6,tu _ Ti]
 have el:jR e (lg (pk 2 3 4 (hn 5 N.k) (hn 6 N.k) (hn 7 N.k)) (gK h'))=bD (bD (bD e (hn 5 N.k) (.var 116 [.rs (hn 6 N.k) h'.flatten.length 1 h'.flatten.length,.rs (hn 7 N.k) h'.length 1 h'.length])) (hn 6 N.k) (.aK 3 1 (h'.flatten.map eI))) (hn 7 N.k) (.aK 3 1 ((l8 h').map eI)):=by simp only[gK,lg,List.map_cons,List.map_nil,jR,q6,q7,q8,Row.ce,fm,AV.ce,uV (enc:=eI) (sz:=1)]
 have i0:=gq hR.hp;have i1:=gq hR.cells;have i2:=gq hR.ends;have no:∀l:SI,ba cZ ((l.map eI).flatten)=true:=fun l=>pq (jo (enc:=eI) (sz:=1) _)
 have Xh:bU p C { m with heap:=h' } N (bD (bD (bD e (hn 5 N.k) (.var 116 [.rs (hn 6 N.k) h'.flatten.length 1 h'.flatten.length,.rs (hn 7 N.k) h'.length 1 h'.length])) (hn 6 N.k) (.aK 3 1 (h'.flatten.map eI))) (hn 7 N.k) (.aK 3 1 ((l8 h').map eI))):=by
  refine hR.ob ?_ ?_ ?_ ?_ fun j n0 n1 n2=>?_
  ·refine((hR.ok.put (.inr (ja _ _)) ?_).put (.inr (ja _ _)) ?_).put (.inr (ja _ _)) ?_
   ·simp only[Row.cells,ba,AV.all,i1,i2,Bool.or_true,Bool.and_self]
   ·exact fM (fun _ h=>by cases h) _ (no _)
   ·exact fM (fun _ h=>by cases h) _ (no _)
  ·rw[cd,if_neg a2,cd,if_neg a1,cd,if_pos rfl]
  ·rw[cd,if_neg a3,cd,if_pos rfl]
  ·rw[cd,if_pos rfl]
  ·rw[cd,if_neg n2,cd,if_neg n1,cd,if_neg n0]
 have ZY:Up X e (bD (bD (bD e (hn 5 N.k) (.var 116 [.rs (hn 6 N.k) h'.flatten.length 1 h'.flatten.length,.rs (hn 7 N.k) h'.length 1 h'.length])) (hn 6 N.k) (.aK 3 1 (h'.flatten.map eI))) (hn 7 N.k) (.aK 3 1 ((l8 h').map eI))):=by
  refine((Up.put _ (.inl ?_)).trans (Up.put _ (.inl ?_))).trans (Up.put _ (.inl ?_))
  ·rw[hR.hp];simp
  ·rw[cd,if_neg (fun e=>a1 e.symm),hR.cells];simp
  ·rw[cd,if_neg (fun e=>a3 e.symm),cd,if_neg (fun e=>a2 e.symm),hR.ends];simp
 refine⟨Xh,ZY,⟨?_,hR.ok,Xh.ok,ZY.bj,?_⟩⟩
 ·rw[<-ea,<-el];refine(ai.at (e:=e) (D2 a1 a2 a3) hc (fun i r h=>?_) ?_ (fun i r h=>?_) ?_ (fun i h=>h)).mono fun r l ⟨e1,e2⟩=>⟨by rw[e1,xN _ hr],e2⟩
  ·simp only[gK,aD]at h;split at h
   ·rename_i ei;subst ei;cases h;rw[q6,hR.hp];simp only[Row.ce,fm,AV.ce,q7,q8]
   ·split at h
    ·rename_i ei;subst ei;cases h;rw[q7,hR.cells];simp only[Row.ce,uV (enc:=eI) (sz:=1)]
    ·split at h
     ·rename_i ei;subst ei;cases h;rw[q8,hR.ends];simp only[Row.ce,uV (enc:=eI) (sz:=1)]
     ·cases h
  ·simp only[ba,Bool.and_eq_true];exact⟨rfl,fM (fun _ h=>by cases h) _ Ti⟩
  ·simp only[gK,aD]at h;split at h
   ·cases h;rfl
   ·split at h
    ·cases h;exact fM (q:=cZ) (fun _ h=>by cases h) _ (no _)
    ·split at h
     ·cases h;exact fM (q:=cZ) (fun _ h=>by cases h) _ (no _)
     ·cases h
  ·show([2,3,4]:SJ).Nodup;decide
 ·simp only[ba,Bool.and_eq_true];exact⟨i0,fM (fun _ h=>by cases h) _ Ti⟩
def bU.su(hR:bU p C m N e)(Ti:ba cZ rest=true)(hr:r0.all cZ=true)(hc:ai P f (.pt 2 0 0 0::rest) (gK m.heap) fun r l=>r=r0/\l=gK h') :
  kU P f (.pt (hn 5 N.k) 0 0 0::rest) e X r0 fun N' l=>bU p C { m with heap:=h' } N' l/\N'.k=N.k/\N'.aj.c=N.aj.c:=by
 obtain⟨h2,h3,h4⟩:=hR.pH (X:=X) Ti hr hc;exact⟨_,_,⟨h2,rfl,rfl⟩,h3,h4⟩
def bU.lD(hR:bU p C m N e)(Ti:ba cZ rest=true)(hr:r0.all cZ=true)(hc:ai P f (.pt 2 0 0 0::rest) (gK m.heap) fun r l=>r=r0/\l=gK m.heap):eY P f (.pt (hn 5 N.k) 0 0 0::rest) e r0 e:=by
 obtain⟨h2,h3,h4⟩:=hR.pH (X:=[]) (h':=m.heap) Ti hr hc;have el:hL N m.heap e=e:=by unfold hL;rw[ua hR.hp,ua hR.cells,ua hR.ends]
 rw[el]at h4;exact h4
end MV
variable{H:Hp}{t:SL}
def gT.fB{r:AV}(i j k:Nat)(e:SL)(sz:Nat){cs:SG}(hi:H.get i=none)(h0:0<sz)(hj:H.get j=some (.var t cs))(hk:cs[k]?=some (.raw (.slice none 0 0))):gT r H r ((H.put i (.aK e sz [])).put j (.var t (cs.set k (.rs i 0 sz 0)))):=fun w v h1 h2=>by
 obtain⟨a,b⟩:=xY h1 hi e h0;have Zd:j≠i:=fun e=>by subst e;rw[hi]at hj;cases hj
 obtain⟨a',b'⟩:=A4 (cs':=cs.set k (.rs i 0 sz 0)) a (j:=j) (t:=t) (cs:=cs) (by rw[Hp.bs,if_neg Zd];exact hj) jE fun n x x' v hx Tg hv=>by
  rw[List.getElem?_set]at Tg;by_cases hn:k=n
  ·subst hn;rw[if_pos rfl]at Tg;split at Tg
   ·cases Tg;rw[hk]at hx;cases hx;cases hv;exact .iV _ _ _ _ (NW.cw _ _ _ _)
   ·cases Tg
  ·rw[if_neg hn,hx]at Tg;cases Tg;exact hv
 exact⟨w.name i 0 .nil,rfl,a',h2.ext b,(b.trans b').qC⟩
abbrev mP(N:NM):AV:=.pt (hn 3 N.k) 0 0 0
abbrev cP(N:NM):AV:=.pt (hn 0 N.aj.c) 0 0 0
def To(p:ab)(C:aI)(m':MV)(N:NM)(N':NM)(l:SF):Prop:=MV.bU p C m' N' l/\N'.k=N.k/\N'.aj.c=N.aj.c
def NM.pop(N:NM):NM:={ N with cs:=N.cs.take (N.cs.length-1),cj:=N.aj.c::N.cj }
def NM.og(N:NM)(j:Nat):NM:={ N with cs:=N.cs++[⟨j,j,[]⟩],cj:=N.cj.drop 1 }
namespace MV
variable {p:ab}{C:aI}{m:MV}{N:NM}{e:SF}
def bU.gz(hR:bU p C m N e){e':SF}(h:∀j,j∈ids e->j∈ids e')(m':MV)(N':NM)(hk:N'.k=N.k):ba (fun j=>(ids e').contains j) (mE p C m' N')=true:=by have c4:=List.contains_iff_mem.2 (h _ (List.contains_iff_mem.1 (gq hR.row)));have c5:=List.contains_iff_mem.2 (h _ (List.contains_iff_mem.1 (gq hR.hp)));have c8:=List.contains_iff_mem.2 (h _ (List.contains_iff_mem.1 (gq hR.outs)));have up:ba (fun j=>(ids e').contains j) (kH p)=true:=fM (q:=cZ) (fun _ h=>by cases h) _ rfl;unfold mE;rw[um,up,hk];simp only[ba,AV.all,c4,c5,c8,Bool.and_self,bh]
def OJ(h1:1<=N.cs.length):N.pop.cs.map NC.c++N.pop.cj=N.cs.map NC.c++N.cj:=by
 show(N.cs.take (N.cs.length-1)).map NC.c++(N.aj.c::N.cj)=_;have e1:N.cs.take (N.cs.length-1)++[N.aj]=N.cs:=by unfold NM.aj;rw[dV jB,List.take_append_getElem,show N.cs.length-1+1=N.cs.length from jB,List.take_length]
 have:(N.cs.take (N.cs.length-1)).map NC.c++(N.aj.c::N.cj)=((N.cs.take (N.cs.length-1)++[N.aj]).map NC.c)++N.cj:=jE;rw[this,e1]
def bU.wH(hR:bU p C m N e)(h1:1<=m.calls.length){m':MV}(hc:m'.calls=m.calls.take (m.calls.length-1))(h2:m'.heap=m.heap)(h3:m'.aC=m.aC):bU p C m' N.pop (bD e (hn 3 N.k) (.var 68 (mE p C m' N.pop))):=by
 have hl:=hR.len;have kind:∀(a k:Nat) (r:Row),a≠3->a<32->aD e (hn a k)=some r->aD (bD e (hn 3 N.k) (.var 68 (mE p C m' N.pop))) (hn a k)=some r:=fun a k r h3 U3 h=>by rw[cd,if_neg (dq U3 jB h3)];exact h
 have lt:(N.cs.take (N.cs.length-1)).length=N.cs.length-1:=by rw[List.length_take];omega
 have ml:m'.calls.length=m.calls.length-1:=by rw[hc,List.length_take];omega
 refine⟨hR.ok.put (.inr (ja _ _)) ?_,by show aD _ (hn 3 N.k)=_;rw[cd,if_pos rfl],?_,?_,?_,?_,?_,by rw[ml,<-hl];exact lt,fun k hk=>?_,?_,?_,?_⟩
 ·exact fM (fun j hj=>by rw[Bool.or_eq_true];exact .inr hj) _ (hR.gz (fun _ h=>h) m' N.pop rfl)
 ·rw[OJ jB];exact kind _ _ _ jB jB hR.row
 ·rw[h2];exact kind _ _ _ jB jB hR.hp
 ·rw[h2];exact kind _ _ _ jB jB hR.cells
 ·rw[h2];exact kind _ _ _ jB jB hR.ends
 ·rw[h3];exact kind _ _ _ jB jB hR.outs
 ·rw[ml]at hk;have UO:=hR.call k jB;have e1:nth m'.calls k=nth m.calls k:=by
   rw[hc];unfold nth;rw[List.getD_eq_getElem?_getD,List.getElem?_take,if_pos hk,List.getD_eq_getElem?_getD]
  have e2:nth N.pop.cs k=nth N.cs k:=by show nth (N.cs.take _) k=_;unfold nth;rw[List.getD_eq_getElem?_getD,List.getElem?_take,jP,List.getD_eq_getElem?_getD]
  rw[e1,e2];exact⟨kind _ _ _ jB jB UO.var,kind _ _ _ jB jB UO.cS,kind _ _ _ jB jB UO.fp,UO.bd⟩
 ·show((N.cs.take _).map NC.c).Nodup;rw[List.map_take];exact(List.take_sublist _ _).nodup hR.nc
 ·show((N.cs.take _).map NC.v).Nodup;rw[List.map_take];exact(List.take_sublist _ _).nodup hR.nv
 ·show(N.cs.take _).length+(N.aj.c::N.cj).length<=1000;have:=hR.bd;rw[lt,List.length_cons];omega
def nX(p:ab)(C:aI)(m':MV)(N:NM)(c':MC)(j:Nat)(e:SF):SF:=
 bD (bD (bD (bD (bD e (hn 1 j) (.aK 82 3 (c'.slots.map bM))) (hn 2 j) (.aK 82 3 (c'.stack.map bM))) (hn 0 j) (.var 89 (cE c' ⟨j,j,[]⟩))) (hn 4 N.k) (.aK 85 1 (((N.og j).cs.map NC.c++(N.og j).cj).map fun j=>[.pt (hn 0 j) 0 0 0]))) (hn 3 N.k) (.var 68 (mE p C m' (N.og j)))
def bU.Ds(hR:bU p C m N e)(h8:m.calls.length<=100){m':MV}{c':MC}{j:Nat}(hc:m'.calls=m.calls++[c'])(h2:m'.heap=m.heap)(h3:m'.aC=m.aC)(j0:aD e (hn 0 j)=none)(j1:aD e (hn 1 j)=none)(j2:aD e (hn 2 j)=none)(hb:c'.stack.length<=2000) :
  bU p C m' (N.og j) (nX p C m' N c' j e):=by
 have hl:=hR.len;have no:∀l:List ak,ba cZ ((l.map bM).flatten)=true:=fun l=>pq (jo (enc:=bM) (sz:=3) _)
 have kind:∀(a k:Nat) (r:Row),a<32->(hn a k≠hn 1 j)->(hn a k≠hn 2 j)->(hn a k≠hn 0 j)->a≠4->a≠3->aD e (hn a k)=some r->aD (nX p C m' N c' j e) (hn a k)=some r:=fun a k r U3 n1 n2 n0 h4 h3 h=>by unfold nX;rw[cd,if_neg (dq U3 jB h3),cd,if_neg (dq U3 jB h4),cd,if_neg n0,cd,if_neg n2,cd,if_neg n1];exact h
 have rZ:∀(a k:Nat) (r:Row),a<32->4<a->aD e (hn a k)=some r->aD (nX p C m' N c' j e) (hn a k)=some r:=fun a k r U3 h4 h=>kind a k r U3 (dq U3 jB jB) (dq U3 jB jB) (dq U3 jB jB) jB jB h
 have ml:m'.calls.length=m.calls.length+1:=by rw[hc];simp
 have nl:(N.og j).cs.length=N.cs.length+1:=by show(N.cs++[_]).length=_;simp
 refine⟨?_,by show aD _ (hn 3 N.k)=_;unfold nX;rw[cd,if_pos rfl],by show aD _ (hn 4 N.k)=_;unfold nX;rw[cd,if_neg (dq jB jB jB),cd,if_pos rfl],by rw[h2];exact rZ 5 _ _ jB jB hR.hp,by rw[h2];exact rZ 6 _ _ jB jB hR.cells,by rw[h2];exact rZ 7 _ _ jB jB hR.ends,by rw[h3];exact rZ 8 _ _ jB jB hR.outs,by rw[nl,ml,hl],fun k hk=>?_,?_,?_,?_⟩
 ·unfold nX;have k1:=((hR.ok.put (i:=hn 1 j) (r:=.aK 82 3 (c'.slots.map bM)) (.inr (ja _ _)) (fM (fun _ h=>by cases h) _ (no _))).put (i:=hn 2 j) (r:=.aK 82 3 (c'.stack.map bM)) (.inr (ja _ _)) (fM (fun _ h=>by cases h) _ (no _)));have m1:∀x,x∈ids e->x∈ids (bD (bD e (hn 1 j) (.aK 82 3 (c'.slots.map bM))) (hn 2 j) (.aK 82 3 (c'.stack.map bM))):=fun x hx=>(o5 _ _ _ _).2 (.inr ((o5 _ _ _ _).2 (.inr hx)))
  have i1:hn 1 j∈ids (bD (bD e (hn 1 j) (.aK 82 3 (c'.slots.map bM))) (hn 2 j) (.aK 82 3 (c'.stack.map bM))):=(o5 _ _ _ _).2 (.inr ((o5 _ _ _ _).2 (.inl rfl)));have i2:hn 2 j∈ids (bD (bD e (hn 1 j) (.aK 82 3 (c'.slots.map bM))) (hn 2 j) (.aK 82 3 (c'.stack.map bM))):=(o5 _ _ _ _).2 (.inl rfl);generalize bD (bD e (hn 1 j) (.aK 82 3 (c'.slots.map bM))) (hn 2 j) (.aK 82 3 (c'.stack.map bM))=e1 at k1 m1 i1 i2;rw[<-List.contains_iff_mem]at i1 i2;have k2:=k1.put (i:=hn 0 j) (r:=.var 89 (cE c' ⟨j,j,[]⟩)) (.inr (ja _ _)) (by simp only[Row.cells,cE,ba,AV.all,i1,i2,Bool.or_true,Bool.and_self]);have m2:∀x,x∈ids e->x∈ids (bD e1 (hn 0 j) (.var 89 (cE c' ⟨j,j,[]⟩))):=fun x hx=>(o5 _ _ _ _).2 (.inr (m1 x hx))
  have i0:hn 0 j∈ids (bD e1 (hn 0 j) (.var 89 (cE c' ⟨j,j,[]⟩))):=(o5 _ _ _ _).2 (.inl rfl);generalize bD e1 (hn 0 j) (.var 89 (cE c' ⟨j,j,[]⟩))=e2 at k2 m2 i0;have hold:∀x∈N.cs.map NC.c++N.cj,hn 0 x∈ids e:=fun x hx=>by have:=B4 (hR.ok.closed _ _ hR.row) [.pt (hn 0 x) 0 0 0] (List.mem_map.2 ⟨x,hx,rfl⟩);simp only[ba,AV.all,Bool.and_true]at this;exact List.contains_iff_mem.1 this
  have X4:∀x∈(N.og j).cs.map NC.c++(N.og j).cj,hn 0 x∈ids e2:=fun x hx=>by
   have hx:x∈(N.cs++[(⟨j,j,[]⟩:NC)]).map NC.c++N.cj.drop 1:=hx;rw[List.map_append]at hx;simp only[List.mem_append,List.map_cons,List.map_nil,List.mem_singleton]at hx;rcases hx with(hx|rfl)|hx
   ·exact m2 _ (hold x (List.mem_append_left _ hx))
   ·exact i0
   ·exact m2 _ (hold x (List.mem_append_right _ (List.mem_of_mem_drop hx)))
  have k3:=k2.put (i:=hn 4 N.k) (r:=.aK 85 1 (((N.og j).cs.map NC.c++(N.og j).cj).map fun j=>[.pt (hn 0 j) 0 0 0])) (.inr (ja _ _)) (pq fun y hy=>by obtain⟨x,hx,rfl⟩:=List.mem_map.1 hy;have:=List.contains_iff_mem.2 (X4 x hx);simp only[ba,AV.all,this,Bool.or_true,Bool.and_self])
  refine k3.put (.inr (ja _ _)) ?_;exact fM (fun j hj=>by rw[Bool.or_eq_true];exact .inr hj) _ (hR.gz (fun x hx=>(o5 _ _ _ _).2 (.inr (m2 x hx))) m' (N.og j) rfl)
 ·rw[ml]at hk;by_cases S5:k<m.calls.length
  ·have UO:=hR.call k S5;have e1:nth m'.calls k=nth m.calls k:=by rw[hc,lM S5]
   have e2:nth (N.og j).cs k=nth N.cs k:=by show nth (N.cs++_) k=_;rw[lM jB]
   have q0:hn 0 (nth N.cs k).c≠hn 0 j:=fun e'=>by rw[<-e',UO.var]at j0;cases j0
   have q1:hn 1 (nth N.cs k).c≠hn 1 j:=fun e'=>by rw[<-e',UO.fp]at j1;cases j1
   have q2:hn 2 (nth N.cs k).v≠hn 2 j:=fun e'=>by rw[<-e',UO.cS]at j2;cases j2
   rw[e1,e2];exact⟨kind _ _ _ jB (dq jB jB jB) (dq jB jB jB) q0 jB jB UO.var,kind _ _ _ jB (dq jB jB jB) q2 (dq jB jB jB) jB jB UO.cS,kind _ _ _ jB q1 (dq jB jB jB) (dq jB jB jB) jB jB UO.fp,UO.bd⟩
  ·have ek:k=m.calls.length:=jB;subst ek;have e1:nth m'.calls m.calls.length=c':=by rw[hc,mn]
   have e2:nth (N.og j).cs m.calls.length=⟨j,j,[]⟩:=by show nth (N.cs++[_]) _=_;rw[<-hl,mn]
   rw[e1,e2];refine⟨?_,?_,?_,by show c'.stack.length+0<=2000;omega⟩
   ·unfold nX;rw[cd,if_neg (dq jB jB jB),cd,if_neg (dq jB jB jB),cd,if_pos rfl]
   ·unfold nX;rw[cd,if_neg (dq jB jB jB),cd,if_neg (dq jB jB jB),cd,if_neg (dq jB jB jB),cd,if_pos rfl,List.append_nil]
   ·unfold nX;rw[cd,if_neg (dq jB jB jB),cd,if_neg (dq jB jB jB),cd,if_neg (dq jB jB jB),cd,if_neg (dq jB jB jB),cd,if_pos rfl]
 ·show((N.cs++[(⟨j,j,[]⟩:NC)]).map NC.c).Nodup;rw[List.map_append,List.nodup_append];refine⟨hR.nc,jE,fun a ha b hb e'=>?_⟩;have hb:b=j:=by simpa using hb
  obtain⟨x,hx,rfl⟩:=List.mem_map.1 ha;obtain⟨k,hk,rfl⟩:=List.getElem_of_mem hx;have:=(hR.call k jB).var;rw[dV jB,e',hb,j0]at this;cases this
 ·show((N.cs++[(⟨j,j,[]⟩:NC)]).map NC.v).Nodup;rw[List.map_append,List.nodup_append];refine⟨hR.nv,jE,fun a ha b hb e'=>?_⟩;have hb:b=j:=by simpa using hb
  obtain⟨x,hx,rfl⟩:=List.mem_map.1 ha;obtain⟨k,hk,rfl⟩:=List.getElem_of_mem hx;have:=(hR.call k jB).cS;rw[dV jB,e',hb,j2]at this;cases this
 ·show(N.cs++[_]).length+(N.cj.drop 1).length<=1000;have:=hR.bd;rw[List.length_append,List.length_drop,List.length_singleton];omega
end MV
namespace MV
variable {p:ab}{C:aI}{m:MV}{N:NM}{e:SF}
def IC(h:1<=N.cs.length):N.aS N.aj=N:=by unfold NM.aS NM.aj;rw[dV jB,List.set_getElem_self]
def bU.j5(hR:bU p C m N e)(h1:1<=m.calls.length){c':MC}(hs:c'.stack=m.aj.stack)(hl:c'.slots=m.aj.slots):bU p C (m.aS c') N (bD e (hn 0 N.aj.c) (.var 89 (MV.cE c' N.aj))):=by
 have ht:=hR.aj h1;have D':=hR.len;have h:=hR.aS (e':=bD e (hn 0 N.aj.c) (.var 89 (MV.cE c' N.aj))) h1 (c':=c') (n':=N.aj) rfl ?_ ⟨?_,?_,?_,by rw[hs];exact ht.bd⟩ (.inl rfl) fun j hj n0 n1 n2=>by rw[cd,if_neg n0]
 ·rw[IC jB]at h;exact h
 ·refine hR.ok.put (.inr (ja _ _)) ?_;have i1:=gq ht.fp;have i2:=gq ht.cS;simp only[Row.cells,MV.cE,ba,AV.all,i1,i2,Bool.or_true,Bool.and_self]
 ·rw[cd,if_pos rfl]
 ·rw[cd,if_neg (dq jB jB jB),hs];exact ht.cS
 ·rw[cd,if_neg (dq jB jB jB),hl];exact ht.fp
end MV
namespace MV
structure Bd(n:Nat)(m:MV):Prop where
 deep:∀k,k+1<m.calls.length->(nth m.calls k).stack.length<=1000
 slots:∀k,k<m.calls.length->(nth m.calls k).slots.length<=24
 heap:fF m.heap<=40
 outs:m.aC.length<=24
 gV:0<=m.in_
 hZ:m.in_<=n
variable {n:Nat}{m:MV}
theorem Bd.aj(h:Bd n m)(h1:1<=m.calls.length):m.aj.slots.length<=24:=h.slots (m.calls.length-1) jB
theorem Bd.aS(h:Bd n m){c:MC}(hc:c.slots.length<=24):Bd n (m.aS c):=by
 have hl:(m.aS c).calls.length=m.calls.length:=aO _ _;have e:∀k,k<m.calls.length->nth (m.aS c).calls k=if k=m.calls.length-1 then c else nth m.calls k:=fun k hk=>Go.Gd.aY _ _ _ _ jB
 refine⟨fun k hk=>?_,fun k hk=>?_,h.heap,h.outs,h.gV,h.hZ⟩
 ·rw[hl]at hk;rw[e k jB,jN];exact h.deep k hk
 ·rw[hl]at hk;rw[e k hk];split
  ·exact hc
  ·exact h.slots k hk
theorem Bd.status(h:Bd n m)(s t:Int):Bd n { m with status:=s,bp:=t }:=⟨h.deep,h.slots,h.heap,h.outs,h.gV,h.hZ⟩
theorem Bd.push(h:Bd n m)(h1:1<=m.calls.length)(v:ak):Bd n (m.push v):=h.aS (h.aj h1)
theorem Bd.cut(h:Bd n m)(h1:1<=m.calls.length)(k:Nat):Bd n (m.cut k):=h.aS (h.aj h1)
theorem Bd.stops(h:Bd n m)(h1:1<=m.calls.length)(s t:Int):Bd n (m.stops s t):=(h.aS (c:=m.aj.back) (h.aj h1)).status s t
theorem Bd.eK(h:Bd n m)(h1:1<=m.calls.length)(r:ak×Int):Bd n (m.eK r):=by
 unfold MV.eK;split
 ·exact h.stops h1 _ _
 ·exact h.push h1 _
def cu{α:Type}[Inhabited α]{l:List α}{n k:Nat}(h:k<n):nth (l.take n) k=nth l k:=by unfold nth;rw[List.getD_eq_getElem?_getD,List.getElem?_take,if_pos h,List.getD_eq_getElem?_getD]
theorem Bd.pop(h:Bd n m):Bd n m.pop:=by
 have hl:m.pop.calls.length=m.calls.length-1:=by show(m.calls.take _).length=_;rw[List.length_take];omega
 have e:∀k,k<m.calls.length-1->nth m.pop.calls k=nth m.calls k:=fun k hk=>cu hk
 refine⟨fun k hk=>?_,fun k hk=>?_,h.heap,h.outs,h.gV,h.hZ⟩
 ·rw[hl]at hk;rw[e k jB];exact h.deep k jB
 ·rw[hl]at hk;rw[e k hk];exact h.slots k jB
theorem Bd.ends(h:Bd n m)(v:ak):Bd n (m.ends v):=by
 unfold MV.ends;split
 ·exact h.pop.status 2 m.pop.bp
 ·rename_i h2;refine h.pop.push ?_ v;show 1<=(m.calls.take _).length;rw[List.length_take];omega
theorem Bd.cV{p:ab}{C:aI}(h:Bd n m)(h1:1<=m.calls.length)(hd:m.aj.stack.length<=1000){fn:Int}{args:List ak}(s1:nth p.size fn.toNat<=24)(s2:(args.length:Int)<=nth p.size fn.toNat):Bd n (m.cV p C fn args):=by
 have hl:(m.cV p C fn args).calls.length=m.calls.length+1:=by show(m.calls++[_]).length=_;simp
 have e:∀k,k<m.calls.length->nth (m.cV p C fn args).calls k=nth m.calls k:=fun k hk=>lM hk
 refine⟨fun k hk=>?_,fun k hk=>?_,h.heap,h.outs,h.gV,h.hZ⟩
 ·rw[hl]at hk;rw[e k jB];by_cases S5:k=m.calls.length-1
  ·subst S5;exact hd
  ·exact h.deep k jB
 ·rw[hl]at hk;by_cases S5:k<m.calls.length
  ·rw[e k S5];exact h.slots k S5
  ·have:k=m.calls.length:=jB;subst this;have:nth (m.cV p C fn args).calls m.calls.length=iw p C fn args:=mn _ _;rw[this];show(args++List.replicate _ v0).length<=24;rw[List.length_append,List.length_replicate];omega
def Bd.ob(h:Bd n m){h':SH}(hc:fF h'<=40):Bd n { m with heap:=h' }:=⟨h.deep,h.slots,hc,h.outs,h.gV,h.hZ⟩
end MV
namespace MV
variable (m:MV)(p:ab)(C:aI)(inp:SI)(x:av)
def Qn(h:x.op=2):m.ins p C inp x=m.push (vI x.a):=by unfold MV.ins;dsimp only;rw[if_pos h]
def Kh(h:x.op=3):m.ins p C inp x=m.push (vB (decide (x.a=1))):=by unfold MV.ins;dsimp only;rw[jN,if_pos h]
def M0(h:x.op=4):m.ins p C inp x=m.push (vT x.s):=by unfold MV.ins;dsimp only;rw[jN,jN,if_pos h]
def Kq(h:x.op=5):m.ins p C inp x=m.push (di m.aj.slots x.a x.b):=by unfold MV.ins;dsimp only;rw[jN,jN,jN,if_pos h]
def EM(h:x.op=6):m.ins p C inp x=m.aS { m.aj.cut 1 with slots:=m.aj.slots.set x.a.toNat m.aj.last }:=by unfold MV.ins;dsimp only;rw[jN,jN,jN,jN,if_pos h]
def Ep(h:x.op=7):m.ins p C inp x=(m.cut 2).eK (jq x.s (m.aj.cut 1).last m.aj.last):=by unfold MV.ins;dsimp only;rw[jN,jN,jN,jN,jN,if_pos h]
def Gb(h:x.op=8):m.ins p C inp x=(m.cut 1).push (jX (⟨#[45]⟩:SK) m.aj.last):=by unfold MV.ins;dsimp only;rw[jN,jN,jN,jN,jN,jN,if_pos h]
def Iq(h:x.op=9):m.ins p C inp x=(m.cut 1).push (jX (⟨#[33]⟩:SK) m.aj.last):=by unfold MV.ins;dsimp only;rw[jN,jN,jN,jN,jN,jN,jN,if_pos h]
def D3(h:x.op=10):m.ins p C inp x=(m.cut 1).push (vI (if m.aj.last.ty=4 then((bE m.heap m.aj.last.n).length:Int)else(m.aj.last.s.size:Int))):=by unfold MV.ins;dsimp only;rw[jN,jN,jN,jN,jN,jN,jN,jN,if_pos h]
def Es(h:x.op=11):m.ins p C inp x=if m.aj.last.n<0\/((bE m.heap (di m.aj.slots x.a 4).n).length:Int)<=m.aj.last.n then(m.cut 1).stops 3 2 else(m.cut 1).push (vI (nth (bE m.heap (di m.aj.slots x.a 4).n) m.aj.last.n.toNat)):=by unfold MV.ins;dsimp only;rw[jN,jN,jN,jN,jN,jN,jN,jN,jN,if_pos h]
def IE(h:x.op=12):m.ins p C inp x=if(m.aj.cut 1).last.n<0\/((bE m.heap (di m.aj.slots x.a 4).n).length:Int)<=(m.aj.cut 1).last.n then(m.cut 2).stops 3 2 else{ m.cut 2 with heap:=m.heap.set ((di m.aj.slots x.a 4).n-1).toNat ((nth m.heap ((di m.aj.slots x.a 4).n-1).toNat).set (m.aj.cut 1).last.n.toNat m.aj.last.n) }:=by unfold MV.ins;dsimp only;rw[jN,jN,jN,jN,jN,jN,jN,jN,jN,jN,if_pos h]
def EF(h:x.op=13):m.ins p C inp x=if m.aj.last.n<0\/16<m.aj.last.n then(m.cut 1).stops 3 7 else if 40<fF m.heap+m.aj.last.n+1 then(m.cut 1).stops 3 4 else{ (m.cut 1).push ⟨4,m.heap.length+1,sE⟩with heap:=m.heap++[List.replicate m.aj.last.n.toNat 0] }:=by unfold MV.ins;dsimp only;rw[jN,jN,jN,jN,jN,jN,jN,jN,jN,jN,jN,if_pos h]
def GM(h:x.op=14):m.ins p C inp x=if(inp.length:Int)<=m.in_ then m.stops 1 0 else{ m.push (vI (nth inp m.in_.toNat))with in_:=m.in_+1 }:=by unfold MV.ins;dsimp only;rw[jN,jN,jN,jN,jN,jN,jN,jN,jN,jN,jN,jN,if_pos h]
def IB(h:x.op=15):m.ins p C inp x=if 24<=m.aC.length then m.stops 3 5 else{ m.cut 1 with aC:=m.aC++[iN m.aj.last] }:=by unfold MV.ins;dsimp only;rw[jN,jN,jN,jN,jN,jN,jN,jN,jN,jN,jN,jN,jN,if_pos h]
def JS(h:x.op=16):m.ins p C inp x=m.aS (m.aj.jump x.a):=by unfold MV.ins;dsimp only;rw[jN,jN,jN,jN,jN,jN,jN,jN,jN,jN,jN,jN,jN,jN,if_pos h]
def JC(h:x.op=17):m.ins p C inp x=if m.aj.last.n=0 then m.aS ((m.aj.cut 1).jump x.a)else m.cut 1:=by unfold MV.ins;dsimp only;rw[jN,jN,jN,jN,jN,jN,jN,jN,jN,jN,jN,jN,jN,jN,jN,if_pos h]
def Ni(h:x.op=18\/x.op=19):m.ins p C inp x=if(m.aj.last.n=1<->x.op=19)then m.aS (m.aj.jump x.a)else m.cut 1:=by unfold MV.ins;dsimp only;rw[jN,jN,jN,jN,jN,jN,jN,jN,jN,jN,jN,jN,jN,jN,jN,jN,if_pos h]
def BJ(h:x.op=20):m.ins p C inp x=if 8<=m.calls.length then(m.cut x.b.toNat).stops 3 3 else(m.cut x.b.toNat).cV p C x.a (m.aj.stack.drop (m.aj.stack.length-x.b.toNat)):=by unfold MV.ins;dsimp only;rw[jN,jN,jN,jN,jN,jN,jN,jN,jN,jN,jN,jN,jN,jN,jN,jN,jN,if_pos h]
def HM(h:x.op=21):m.ins p C inp x=(m.cut 1).ends m.aj.last:=by unfold MV.ins;dsimp only;rw[jN,jN,jN,jN,jN,jN,jN,jN,jN,jN,jN,jN,jN,jN,jN,jN,jN,jN,if_pos h]
def EY(h:x.op=22):m.ins p C inp x=m.ends (vZ x.a):=by unfold MV.ins;dsimp only;rw[jN,jN,jN,jN,jN,jN,jN,jN,jN,jN,jN,jN,jN,jN,jN,jN,jN,jN,jN,if_pos h]
def EA(h:x.op=23):m.ins p C inp x=m.cut 1:=by unfold MV.ins;dsimp only;rw[jN,jN,jN,jN,jN,jN,jN,jN,jN,jN,jN,jN,jN,jN,jN,jN,jN,jN,jN,jN,if_pos h]
def Nl(h:x.op<2\/23<x.op):m.ins p C inp x=m:=by unfold MV.ins;dsimp only;rw[jN,jN,jN,jN,jN,jN,jN,jN,jN,jN,jN,jN,jN,jN,jN,jN,jN,jN,jN,jN,jN]
end MV
namespace MV
variable {p:ab}{C:aI}{m:MV}{N:NM}{e:SF}
def bU.wC(hR:bU p C m N e)(h1:1<=m.calls.length)(l:List ak)(hl:l.length=m.aj.slots.length):bU p C (m.aS { m.aj with slots:=l }) N (bD e (hn 1 N.aj.c) (.aK 82 3 (l.map bM))):=by
 have ht:=hR.aj h1;have D':=hR.len;have h:=hR.aS (e':=bD e (hn 1 N.aj.c) (.aK 82 3 (l.map bM))) h1 (c':={ m.aj with slots:=l }) (n':=N.aj) rfl ?_ ⟨?_,?_,?_,ht.bd⟩ (.inl rfl) fun j hj n0 n1 n2=>by rw[cd,if_neg n1]
 ·rw[IC jB]at h;exact h
 ·exact hR.ok.put (.inr (ja _ _)) (fM (q:=cZ) (fun _ h=>by cases h) _ (pq (jo (enc:=bM) (sz:=3) _)))
 ·rw[cd,if_neg (dq jB jB jB),ht.var];unfold MV.cE;rw[<-hl]
 ·rw[cd,if_neg (dq jB jB jB)];exact ht.cS
 ·rw[cd,if_pos rfl]
end MV
theorem gT.nil{r:AV}{H:Hp}(i:Nat)(e:SL){sz:Nat}(hi:H.get i=none)(h0:0<sz)(hs:r=.raw (.slice none 0 0)):gT r H (.rs i 0 sz 0) (H.put i (.aK e sz [])):=fun w v h1 h2=>by
 obtain⟨w',e,a,b,c⟩:=dJ.nil (F:=[r]) i 0 e hi h0 (.inl (by rw[hs];rfl)) w #[v] h1 ⟨rfl,fun k a x ha hx=>by
  match k with
  |0=>cases ha;cases hx;exact h2
  |k+1=>simp at ha⟩
 exact⟨w',e,a,b.2 0 _ v rfl rfl,c⟩
variable{F:SG}
def BN{fn:Func}{out:SG}{e:Exit}(i:Nat)(t:SL)(sz:Nat)(h0:0<sz)(rs:List ResultVar)(haC:iG out=.raw (.slice none 0 0))(ho:iC P ⟨[],[]⟩ F rs=some out)(hok:jb P ⟨[],[]⟩ F rs)(UI:fn.results.toList=rs:=by rfl)(he:e=.normal\/e=.ret:=by first|exact Or.inr rfl|exact Or.inl rfl|fail) :
  ju P fn (fun r l=>r=.rs i 0 sz 0/\l=[(i,.aK t sz [])]) e F ⟨[],[]⟩:=by
 subst UI;exact rG he ho hok _ _ (gT.nil i t rfl h0 haC) ⟨rfl,rfl⟩
variable{args':SG}{q:Prop}
def Ca{args:SG}{K:SD}[Inhabited α]{enc:α->SG}[he:cc enc sz]{xs:List α}(i:Nat)(Uk:∀x,lH (enc x)=true)
  (hc:ai P f args' [] fun r l=>r=.rs i xs.length sz xs.length/\l=[(i,.aK t sz (xs.map enc))]) (hi:H.get i=none) (hv:∀w vs,aT w H->bC w args vs->bC (w.cQ fun _=>true) args' vs) (k:q) (h0:bn P f=true:=by exact dT) (e:K (bh enc sz xs) H=q:=by exact fq):fz P (.raw (.func (.func f) #[] #[])) args H K:=
 mZ h0 (AF Uk hi hc hv (e ▸ k))
def I5{w w':NW}{a b:AV}{vs:SN}(h:bC w [a] vs)(ZB:∀v,aB w a v->aB w' b v):bC w' [b] vs:=⟨h.1,fun i x v hx hv=>by
 match i with
 |0=>cases hx;exact ZB v (h.2 0 a v rfl hv)
 |i+1=>simp at hx⟩
variable{i n:Nat}
def Eh{m o:Nat}[Inhabited α]{enc:α->SG}[he:cc enc sz](l more:List α)(hi:H.get i=some (.aK t sz ((l++more).map enc)))(hm:m=l.length+more.length)(hn:o+n=l.length)(h0:0<sz):∀w vs,aT w H->bC w [.rv i m sz o n] vs->bC (w.cQ fun _=>true) [bh enc sz (l.drop o)] vs:=fun w vs hw hv=>
 I5 hv fun v h=>by
  have:=DM (d:=enc default) hw hi (by rw[List.length_map,List.length_append];exact hm) jB h0 (jo (enc:=enc) (sz:=sz) _) h;have e:(((l++more).map enc).drop o).take n=(l.drop o).map enc:=by rw[<-List.map_drop,<-List.map_take,List.drop_append_of_le_length jB,List.take_append_of_le_length (by rw[List.length_drop];omega),List.take_of_length_le (by rw[List.length_drop];omega)]
  rw[e]at this;exact this
namespace MV
variable {p:ab}{C:aI}{m:MV}{N:NM}{e:SF}
def bU.A3(hR:bU p C m N e)(h1:1<=m.calls.length)(b:Nat)(hb:b<=m.aj.stack.length):bU p C (m.cut b) (N.aS ⟨N.aj.c,N.aj.v,m.aj.stack.drop (m.aj.stack.length-b)++N.aj.jk⟩) (bD e (hn 0 N.aj.c) (.var 89 (MV.cE (m.aj.cut b) ⟨N.aj.c,N.aj.v,m.aj.stack.drop (m.aj.stack.length-b)++N.aj.jk⟩))):=by
 have ht:=hR.aj h1;have ZW:=ht.bd;refine hR.aS h1 (c':=m.aj.cut b) rfl ?_ ⟨?_,?_,?_,?_⟩ (.inl rfl) fun j hj n0 n1 n2=>by rw[cd,if_neg n0]
 ·refine hR.ok.put (.inr (ja _ _)) ?_;have i1:=gq ht.fp;have i2:=gq ht.cS;simp only[Row.cells,MV.cE,ba,AV.all,i1,i2,Bool.or_true,Bool.and_self]
 ·rw[cd,if_pos rfl]
 ·rw[cd,if_neg (dq jB jB jB)];show _=some (Row.aK _ 3 ((m.aj.stack.take (m.aj.stack.length-b)++(m.aj.stack.drop (m.aj.stack.length-b)++N.aj.jk)).map bM));rw[<-List.append_assoc,List.take_append_drop];exact ht.cS
 ·rw[cd,if_neg (dq jB jB jB)];exact ht.fp
 ·show(m.aj.stack.take (m.aj.stack.length-b)).length+(m.aj.stack.drop (m.aj.stack.length-b)++N.aj.jk).length<=2000;rw[List.length_take,List.length_append,List.length_drop];omega
end MV
namespace MV
variable {p:ab}{C:aI}{m:MV}{N:NM}{e:SF}
def bU.CW(hR:bU p C m N e){m':MV}(h1:m'.calls=m.calls)(h2:m'.heap=m.heap):bU p C m' N (bD (bD e (hn 8 N.k) (.aK 9 1 (m'.aC.map eS))) (hn 3 N.k) (.var 68 (mE p C m' N))):=by
 have kind:∀(a k:Nat) (r:Row),a≠3->a≠8->a<32->aD e (hn a k)=some r->aD (bD (bD e (hn 8 N.k) (.aK 9 1 (m'.aC.map eS))) (hn 3 N.k) (.var 68 (mE p C m' N))) (hn a k)=some r:=fun a k r h3 h8 U3 h=>by rw[cd,if_neg (dq U3 jB h3),cd,if_neg (dq U3 jB h8)];exact h
 refine⟨?_,by rw[cd,if_pos rfl],kind _ _ _ jB jB jB hR.row,?_,?_,?_,?_,by rw[h1];exact hR.len,fun k hk=>?_,hR.nc,hR.nv,hR.bd⟩
 ·refine(hR.ok.put (.inr (ja _ _)) (fM (q:=cZ) (fun _ h=>by cases h) _ (pq (jo (enc:=eS) (sz:=1) _)))).put (.inr (ja _ _)) ?_;exact fM (fun j hj=>by rw[Bool.or_eq_true];exact .inr hj) _ (hR.gz (fun _ h=>(o5 _ _ _ _).2 (.inr h)) m' N rfl)
 ·rw[h2];exact kind _ _ _ jB jB jB hR.hp
 ·rw[h2];exact kind _ _ _ jB jB jB hR.cells
 ·rw[h2];exact kind _ _ _ jB jB jB hR.ends
 ·rw[cd,if_neg (dq jB jB jB),cd,if_pos rfl]
 ·rw[h1]at hk ⊢;have hc:=hR.call k hk;exact⟨kind _ _ _ jB jB jB hc.var,kind _ _ _ jB jB jB hc.cS,kind _ _ _ jB jB jB hc.fp,hc.bd⟩
end MV
variable{l tl:SF}
def L4{S:Type}{W:List (Nat×Nat)}{ok:S->Prop}{J:S->List (Nat×AV)}{G:S->Hp}{μ:S->Nat}{F₀:SG}{B:SJ}{e0:SF}(hB:ids e0=B)(k1:gZ 0 e0)(k2:gZ 0 l)(hl:oq 0 tl)(s:S)(h1:ok s)(h2:μ s<n)(hG:(⟨B,tie l []⟩:Hp)=G s)(h3:bK (fR 0) ⟨B,tie l tl⟩ F (mg (J s) (mT W F₀))):Next n W ok J G μ F₀ F ⟨B,tie l tl⟩:=by obtain⟨a1,a2,a3⟩:=k1.free k2 hB hl;refine Bk (fR 0) s h1 h2 a1 a2 ?_ h3;rw[<-hG];show(Hp.mk B (eP (fR 0) (l++tl)))=_;rw[a3,<-D1]
theorem eY.args{P:SQ}{f:FuncId}{args args':SG}{e l:SF}{r0:AV}(h:eY P f args' e r0 l)(hv:∀w vs,aT w (entry e)->bC w args vs->bC w args' vs)(ha:ba (fun i=>(ids e).contains i) args=true):eY P f args e r0 l:=⟨h.c.args hv,h.e1,h.e2,h.bj,ha⟩
theorem Hc:∀(l:SF) (i:Nat) (r r':Row),bD (bD l i r) i r'=bD l i r'
 |[],i,r,r'=>by simp[bD]
 |(j,s)::l,i,r,r'=>by
  show bD (if i=j then(i,r)::l else(j,s)::bD l i r) i r'=(if i=j then(i,r')::l else(j,s)::bD l i r');by_cases e:i=j
  ·subst e;rw[if_pos rfl,if_pos rfl];simp[bD]
  ·rw[if_neg e,if_neg e];show(if i=j then _ else(j,s)::bD (bD l i r) i r')=_;rw[if_neg e,Hc l i r r']
def JO(l:SF)(a k:Nat)(r r':Row):bD (bD l (hn a k) r) (hn a k) r'=bD l (hn a k) r':=Hc _ _ _ _
namespace MV
variable {p:ab}{C:aI}{m:MV}{N:NM}{e:SF}
def Oh(hR:bU p C m N e)(h1:1<=m.calls.length):bU p C m.iQ N (bD (bD e (hn 3 N.k) (.var 68 (mE p C { m with status:=0 } N))) (hn 0 N.aj.c) (.var 89 (MV.cE { m.aj with mark:=m.aj.at_,at_:=m.aj.at_+1 } N.aj))):=
 (hR.mO (m':={ m with status:=0 }) rfl rfl rfl).j5 h1 (c':={ m.aj with mark:=m.aj.at_,at_:=m.aj.at_+1 }) rfl rfl
end MV
def K7{m o:Nat}[Inhabited α]{enc:α->SG}[he:cc enc sz](l:List α)(hi:H.get i=some (.aK t sz (l.map enc)))(hm:m=l.length)(hn:o+n<=l.length)(h0:0<sz):∀w vs,aT w H->bC w [.rv i m sz o n] vs->bC (w.cQ fun _=>true) [bh enc sz ((l.drop o).take n)] vs:=fun w vs hw hv=>
 I5 hv fun v h=>by have:=DM (d:=enc default) hw hi (by rw[List.length_map];exact hm) jB h0 (jo (enc:=enc) (sz:=sz) _) h;rw[<-List.map_drop,<-List.map_take]at this;exact this
def KB{h:SH}{k:Nat}(hk:k<h.length):(h.flatten.drop (kJ h k)).take (nth h k).length=nth h k:=by
 have e:h.flatten=(h.take k).flatten++(nth h k++(h.drop (k+1)).flatten):=by rw[dV hk,<-List.flatten_cons,List.getElem_cons_drop,<-List.flatten_append,List.take_append_drop]
 rw[e];unfold kJ;rw[List.drop_left,List.take_left]
def Nv{fn:Func}{B:SJ}{L:SF}{out:SG}{ex:Exit}{r0:AV}{e:SF}(hB:ids e=B)(k1:gZ 0 e)(k2:gZ 0 l)(hp:L=tie l tl)(hl:oq 0 tl)(rs:List ResultVar)(hv:dM (fR 0) ⟨B,tie l tl⟩ (iG out) r0)
  (UI:fn.results.toList=rs:=by rfl) (he:ex=.normal\/ex=.ret:=by first|exact Or.inr rfl|exact Or.inl rfl|fail) (ho:iC P ⟨B,L⟩ F rs=some out:=by first|rfl|(simp(disch:=first|omega|fail) only[go_sem,↓reduceIte,Nat.reduceEqDiff,Nat.reduceLeDiff,Nat.reduceSub,Nat.reduceAdd];rfl)) (hok:jb P ⟨B,L⟩ F rs:=by first|exact jI|(simp(disch:=first|omega|fail) only[go_sem,↓reduceIte,Nat.reduceEqDiff,Nat.reduceLeDiff,Nat.reduceSub,Nat.reduceAdd])):ju P fn (fun r l'=>r=r0/\l'=l) ex F ⟨B,L⟩:=by
 subst UI hp;obtain⟨h1,h2,h3⟩:=k1.free k2 hB hl;have:=gT.free (r:=iG out) (r':=r0) (H:=⟨B,l++tl⟩) (Go.Gd.fR 0) h1 h2 hv;rw[show(Hp.mk B (l++tl)).l=l++tl from rfl,h3]at this;exact rG he ho hok r0 ⟨B,l⟩ this ⟨rfl,rfl⟩
def Hm{args:SG}{R:AV->Prop}[Inhabited α]{enc:α->SG}[he:cc enc sz]{xs:List α}(i:Nat)(Uk:∀x,lH (enc x)=true)
  (hc:ai P f args' [] fun r l=>r=.rs i xs.length sz xs.length/\l=[(i,.aK t sz (xs.map enc))]) (hi:H.get i=none) (hv:∀w vs,aT w H->bC w args vs->bC (w.cQ fun _=>true) args' vs) (k:q) (h0:bn P f=true:=by exact dT) (e:R (bh enc sz xs)=q:=by exact fq):∃r,(fz P (.raw (.func (.func f) #[] #[])) args H fun r' H'=>r'=r/\H'=H)/\R r:=
 ⟨_,mZ h0 (AF (K:=fun r' H'=>r'=bh enc sz xs/\H'=H) Uk hi hc hv ⟨rfl,rfl⟩),e ▸ k⟩
def L3{A:AS}{args:SG}{g:SD}{d:io fun r H'=>eO A H H'/\g r H'}[Inhabited α]{enc:α->SG}[he:cc enc sz]{xs:List α}(i:Nat)(Uk:∀x,lH (enc x)=true)
  (hc:ai P f args' [] fun r l=>r=.rs i xs.length sz xs.length/\l=[(i,.aK t sz (xs.map enc))]) (hi:H.get i=none) (hv:∀w vs,aT w H->bC w args vs->bC (w.cQ fun _=>true) args' vs) (k:q) (h0:bn P f=true:=by exact dT) (e:g (bh enc sz xs) H=q:=by exact fq):fz P (.raw (.func (.func f) #[] #[])) args H (AP (fun r H'=>eO A H H'/\g r H') d):=
 mZ h0 (AF (K:=AP (fun r H'=>eO A H H'/\g r H') d) Uk hi hc hv ⟨eO.refl _ _,e ▸ k⟩)
def C4[Inhabited α]{enc:α->SG}[he:cc enc sz](l:List α)(hi:H.get i=some (.aK t sz (l.map enc)))(hn:n=l.length):∀w vs,aT w H->bC w [.rs i n sz n] vs->bC (w.cQ fun _=>true) [bh enc sz l] vs:=
 Nz ⟨dM.row (dd:=enc default) l rfl hi hn,trivial⟩
namespace MV
def fS(m:MV)(k:Nat):Int:=if(k:Int)=(m.calls.length:Int)-1 then(nth m.calls k).at_ else(nth m.calls k).mark
def spot(C:aI)(m:MV)(k:Nat):lh:=⟨(nth m.calls k).fn,(nth C.ins (m.fS k).toNat).a,(nth m.calls k).slots⟩
def rj(C:aI)(m:MV):ld:=⟨(List.range m.calls.length).map (m.spot C),m.heap,m.in_,m.aC,m.status,m.bp,m.time⟩
end MV
def MV.mw:MV:=⟨[],0,[],0,[],0,0,0⟩
def ww(p:ab)(C:aI)(k:Nat):SF:=
 [(hn 5 k,.var 116 [.rs (hn 6 k) 0 1 0,.rs (hn 7 k) 0 1 0]),(hn 3 k,.var 68 (MV.mE p C MV.mw ⟨k,[],[]⟩)),(hn 4 k,.aK 85 1 []),(hn 8 k,.aK 9 1 []),(hn 6 k,.aK 3 1 []),(hn 7 k,.aK 3 1 [])]
def y6(p:ab)(C:aI)(k i:Nat):aD (ww p C k) i=if i=hn 5 k then some (.var 116 [.rs (hn 6 k) 0 1 0,.rs (hn 7 k) 0 1 0])else if i=hn 3 k then some (.var 68 (MV.mE p C MV.mw ⟨k,[],[]⟩))else if i=hn 4 k then some (.aK 85 1 [])else if i=hn 8 k then some (.aK 9 1 [])else if i=hn 6 k then some (.aK 3 1 [])else if i=hn 7 k then some (.aK 3 1 [])else none:=rfl
def BD(p:ab)(C:aI)(k:Nat):ids (ww p C k)=[hn 5 k,hn 3 k,hn 4 k,hn 8 k,hn 6 k,hn 7 k]:=rfl
def LA(p:ab)(C:aI)(k:Nat):MV.bU p C MV.mw ⟨k,[],[]⟩ (ww p C k):=by
 have nd:∀a b:Nat,a<32->b<32->a≠b->hn a k≠hn b k:=fun a b ha hb h=>dq ha hb h
 have ok:gZ 0 (ww p C k):=by
  refine⟨fun i _ hi=>?_,?_,fun i r hi=>?_⟩
  ·rw[y6];have g:=fun a=>ja a k
   rw[if_neg (by have:=g 5;omega),if_neg (by have:=g 3;omega),if_neg (by have:=g 4;omega),if_neg (by have:=g 8;omega),if_neg (by have:=g 6;omega),if_neg (by have:=g 7;omega)]
  ·rw[BD];simp[hn]
  ·rw[BD];rw[y6]at hi;have up:ba (fun j=>[hn 5 k,hn 3 k,hn 4 k,hn 8 k,hn 6 k,hn 7 k].contains j) (kH p)=true:=fM (q:=cZ) (fun _ h=>by cases h) _ rfl;split at hi
   ·cases hi;simp[Row.cells,ba,AV.all]
   ·split at hi
    ·cases hi;show ba _ (MV.mE _ _ _ _)=true;unfold MV.mE;rw[um,up];simp[ba,AV.all,bh]
    ·split at hi
     ·cases hi;rfl
     ·split at hi
      ·cases hi;rfl
      ·split at hi
       ·cases hi;rfl
       ·split at hi
        ·cases hi;rfl
        ·cases hi
 refine⟨ok,?_,?_,?_,?_,?_,?_,rfl,(fun k hk=>by cases hk),List.nodup_nil,List.nodup_nil,by show 0+0<=1000;omega⟩;all_goals rw[y6]
 ·rw[if_neg (nd 3 5 jB jB jB),if_pos rfl]
 ·rw[if_neg (nd 4 5 jB jB jB),if_neg (nd 4 3 jB jB jB),if_pos rfl];rfl
 ·rw[if_pos rfl];rfl
 ·rw[if_neg (nd 6 5 jB jB jB),if_neg (nd 6 3 jB jB jB),if_neg (nd 6 4 jB jB jB),if_neg (nd 6 8 jB jB jB),if_pos rfl];rfl
 ·rw[if_neg (nd 7 5 jB jB jB),if_neg (nd 7 3 jB jB jB),if_neg (nd 7 4 jB jB jB),if_neg (nd 7 8 jB jB jB),if_neg (nd 7 6 jB jB jB),if_pos rfl];rfl
 ·rw[if_neg (nd 8 5 jB jB jB),if_neg (nd 8 3 jB jB jB),if_neg (nd 8 4 jB jB jB),if_pos rfl];rfl
def MA(p:ab)(C:aI)(k:Nat)(r9:Row):dJ F ⟨[],[(9,r9),(hn 5 k,.var 116 [.raw (.slice none 0 0),.raw (.slice none 0 0)]),(hn 3 k,.var 68 (kH p++[bh du 4 C.ins,bh eI 1 C.entry,.raw (.slice none 0 0),.pt (hn 5 k) 0 0 0,.raw (.slice none 0 0),.raw (.int .i64 0),.raw (.int .i64 0),.raw (.int .i64 0),.raw (.int .i64 0)]))]⟩ F ⟨[],tie (ww p C k) [(9,r9)]⟩:=by
 have n9:∀a,hn a k≠9:=fun a e=>by have:=ja a k;omega
 have nd:∀a b:Nat,a<32->b<32->a≠b->hn a k≠hn b k:=fun a b ha hb h=>dq ha hb h
 have s1:=dJ.fB (F:=F) (H:=⟨[],[(9,r9),(hn 5 k,.var 116 [.raw (.slice none 0 0),.raw (.slice none 0 0)]),(hn 3 k,.var 68 (kH p++[bh du 4 C.ins,bh eI 1 C.entry,.raw (.slice none 0 0),.pt (hn 5 k) 0 0 0,.raw (.slice none 0 0),.raw (.int .i64 0),.raw (.int .i64 0),.raw (.int .i64 0),.raw (.int .i64 0)]))]⟩) (hn 4 k) (hn 3 k) 8 85 1 (t:=68) (cs:=kH p++[bh du 4 C.ins,bh eI 1 C.entry,.raw (.slice none 0 0),.pt (hn 5 k) 0 0 0,.raw (.slice none 0 0),.raw (.int .i64 0),.raw (.int .i64 0),.raw (.int .i64 0),.raw (.int .i64 0)])
  (by show aD _ _=_;simp only[aD,if_neg (n9 4),if_neg (nd 4 5 jB jB jB),if_neg (nd 4 3 jB jB jB)]) jC (by show aD _ _=_;simp only[aD,if_neg (n9 3),if_neg (nd 3 5 jB jB jB),if_pos]) rfl
 have s2:=dJ.fB (F:=F) (H:=(((⟨[],[(9,r9),(hn 5 k,.var 116 [.raw (.slice none 0 0),.raw (.slice none 0 0)]),(hn 3 k,.var 68 (kH p++[bh du 4 C.ins,bh eI 1 C.entry,.raw (.slice none 0 0),.pt (hn 5 k) 0 0 0,.raw (.slice none 0 0),.raw (.int .i64 0),.raw (.int .i64 0),.raw (.int .i64 0),.raw (.int .i64 0)]))]⟩:Hp).put (hn 4 k) (.aK 85 1 [])).put (hn 3 k) (.var 68 (kH p++[bh du 4 C.ins,bh eI 1 C.entry,.rs (hn 4 k) 0 1 0,.pt (hn 5 k) 0 0 0,.raw (.slice none 0 0),.raw (.int .i64 0),.raw (.int .i64 0),.raw (.int .i64 0),.raw (.int .i64 0)])))) (hn 8 k) (hn 3 k) 10 9 1 (t:=68) (cs:=kH p++[bh du 4 C.ins,bh eI 1 C.entry,.rs (hn 4 k) 0 1 0,.pt (hn 5 k) 0 0 0,.raw (.slice none 0 0),.raw (.int .i64 0),.raw (.int .i64 0),.raw (.int .i64 0),.raw (.int .i64 0)])
  (by rw[Hp.bs,if_neg (nd 8 3 jB jB jB),Hp.bs,if_neg (nd 8 4 jB jB jB)];show aD _ _=_;simp only[aD,if_neg (n9 8),if_neg (nd 8 5 jB jB jB),if_neg (nd 8 3 jB jB jB)]) jC (by rw[Hp.bs,if_pos rfl]) rfl
 have s3:=dJ.fB (F:=F) (H:=((((((⟨[],[(9,r9),(hn 5 k,.var 116 [.raw (.slice none 0 0),.raw (.slice none 0 0)]),(hn 3 k,.var 68 (kH p++[bh du 4 C.ins,bh eI 1 C.entry,.raw (.slice none 0 0),.pt (hn 5 k) 0 0 0,.raw (.slice none 0 0),.raw (.int .i64 0),.raw (.int .i64 0),.raw (.int .i64 0),.raw (.int .i64 0)]))]⟩:Hp).put (hn 4 k) (.aK 85 1 [])).put (hn 3 k) (.var 68 (kH p++[bh du 4 C.ins,bh eI 1 C.entry,.rs (hn 4 k) 0 1 0,.pt (hn 5 k) 0 0 0,.raw (.slice none 0 0),.raw (.int .i64 0),.raw (.int .i64 0),.raw (.int .i64 0),.raw (.int .i64 0)])))).put (hn 8 k) (.aK 9 1 [])).put (hn 3 k) (.var 68 (kH p++[bh du 4 C.ins,bh eI 1 C.entry,.rs (hn 4 k) 0 1 0,.pt (hn 5 k) 0 0 0,.rs (hn 8 k) 0 1 0,.raw (.int .i64 0),.raw (.int .i64 0),.raw (.int .i64 0),.raw (.int .i64 0)]))))
  (hn 6 k) (hn 5 k) 0 3 1 (t:=116) (cs:=[.raw (.slice none 0 0),.raw (.slice none 0 0)])
  (by rw[Hp.bs,if_neg (nd 6 3 jB jB jB),Hp.bs,if_neg (nd 6 8 jB jB jB),Hp.bs,if_neg (nd 6 3 jB jB jB),Hp.bs,if_neg (nd 6 4 jB jB jB)];show aD _ _=_;simp only[aD,if_neg (n9 6),if_neg (nd 6 5 jB jB jB),if_neg (nd 6 3 jB jB jB)]) jC
  (by rw[Hp.bs,if_neg (nd 5 3 jB jB jB),Hp.bs,if_neg (nd 5 8 jB jB jB),Hp.bs,if_neg (nd 5 3 jB jB jB),Hp.bs,if_neg (nd 5 4 jB jB jB)];show aD _ _=_;simp only[aD,if_neg (n9 5),if_pos]) rfl
 refine s1.trans (s2.trans (s3.trans ?_));refine dJ.trans (dJ.fB (hn 7 k) (hn 5 k) 1 3 1 (t:=116) (cs:=[.rs (hn 6 k) 0 1 0,.raw (.slice none 0 0)]) ?_ jC ?_ rfl) (dJ.perm _ fun i=>?_)
 ·simp only[Hp.bs,if_neg (nd 7 5 jB jB jB),if_neg (nd 7 6 jB jB jB),if_neg (nd 7 3 jB jB jB),if_neg (nd 7 8 jB jB jB),if_neg (nd 7 4 jB jB jB)];show aD _ _=_;simp only[aD,if_neg (n9 7),if_neg (nd 7 5 jB jB jB),if_neg (nd 7 3 jB jB jB)]
 ·rw[Hp.bs,if_pos rfl];rfl
 ·simp only[Hp.put,cd,l7,y6];by_cases a5:i=hn 5 k
  ·simp only[if_pos a5];rfl
  simp only[if_neg a5];by_cases a7:i=hn 7 k
  ·subst a7;simp(disch:=omega) only[go_sem,↓reduceIte]
  simp only[if_neg a7];by_cases a6:i=hn 6 k
  ·subst a6;simp(disch:=omega) only[go_sem,↓reduceIte]
  simp only[if_neg a6];by_cases a3:i=hn 3 k
  ·simp only[if_pos a3];rfl
  simp only[if_neg a3];by_cases a8:i=hn 8 k
  ·subst a8;simp(disch:=omega) only[go_sem,↓reduceIte]
  simp only[if_neg a8];by_cases a4:i=hn 4 k
  ·subst a4;simp(disch:=omega) only[go_sem,↓reduceIte]
  simp only[if_neg a4,aD,if_neg a5,if_neg a3,Option.none_or]
end Go.Gd
namespace Go.Proofs.YtbjookcdpondlaaGreatDoor
open Go Go.Gd Tryz
def QU(fn at_ mark:Int)(vs jk slots:List ak)(v:ak)(hL:¬(100000<vs.length+jk.length)):ai prog 74 [.pt 6 0 0 0,rV v] (kE fn at_ mark vs jk slots) (fun r l=>r=.bf []/\l=kE fn at_ mark (vs++[v]) (jk.drop 1) slots):=by
 refine aU func74 ntmps74 ?_;refine S ?_
 (repeat' (first|refine aA fun K hK=>?_|refine ax ?_|(with_reducible refine gR 1 ?_);refine dE 1 (bo 0 11) mixed ?_|(refine hK _ _ ?_;clear hK K)|(refine az ?_ ?_<;>intro hc<;>try exact jz)|refine cz 9 ?_|refine sP vs jk [v] ?_|refine ay ?_|exact jI|(clear hK K)))
 (refine bG [] ?_;try simp only[go_sem])
def G6(fn at_ mark:Int)(vs jk slots:List ak)(h1:1<=vs.length)(hL:¬(100000<vs.length+jk.length)):ai prog 88 [.pt 6 0 0 0] (kE fn at_ mark vs jk slots) (fun r l=>r=rV (nth vs (vs.length-1))/\l=kE fn at_ mark vs jk slots):=by
 refine aU func88 ntmps88 ?_;refine S ?_
 (repeat' (first|refine aA fun K hK=>?_|refine ax ?_|(with_reducible refine gR 1 ?_);refine dE 1 (bo 0 13) mixed ?_|(refine hK _ _ ?_;clear hK K)|(refine az ?_ ?_<;>intro hc<;>try exact jz)|refine al 9 ?_|refine ay ?_|exact jI|(clear hK K)))
 (refine bG [.cell 2 82] ?_;try simp only[go_sem])
def Iv(fn at_ mark:Int)(vs jk slots:List ak)(v:ak)(hL:¬(100000<vs.length+1+jk.length)):ai prog 79 [.pt 6 0 0 0] (kE fn at_ mark (vs++[v]) jk slots) (fun r l=>r=rV v/\l=kE fn at_ mark vs (v::jk) slots):=by
 have S6:=G6 fn at_ mark (vs++[v]) jk slots jE (by rw[List.length_append,List.length_singleton];omega);rw[show nth (vs++[v]) ((vs++[v]).length-1)=v by simp[nth]]at S6;have e:(vs++[v])++jk=vs++(v::jk):=jE;have e2:((vs++[v]).length:Int)-1=vs.length:=jE;have e3:(vs++[v]).length=vs.length+1:=jE;have e4:vs.length+(v::jk).length=vs.length+1+jk.length:=by simp only[List.length_cons];omega
 unfold kE at S6 ⊢;rw[e,e3]at S6 ⊢;rw[e4];refine aU func79 ntmps79 ?_;refine S ?_
 (repeat' (first|refine aA fun K hK=>?_|refine ax ?_|(with_reducible refine gR 2 ?_);refine dE 2 (bo 0 15) mixed ?_|(refine hK _ _ ?_;clear hK K)|(refine az ?_ ?_<;>intro hc<;>try exact jz)|refine al 9 ?_|refine al 10 ?_|refine cm (S6) ?_|refine ay ?_|exact jI|(clear hK K)))
 refine bG [.cell 2 82] rfl (h2:=?_);simp[eP,mR]
def Sx(fn at_ mark:Int)(vs jk slots:List ak)(k t:Int)(hk:0<=k/\k<slots.length)(hL:¬(100000<slots.length)):ai prog 78 [.pt 6 0 0 0,rI k,rI t] (kE fn at_ mark vs jk slots) (fun r l=>r=rV (di slots k t)/\l=kE fn at_ mark vs jk slots):=by
 refine aU func78 ntmps78 ?_;refine S ?_
 (repeat' (first|refine aA fun K hK=>?_|refine ax ?_|(refine hK _ _ ?_;clear hK K)|(refine az ?_ ?_<;>intro hc<;>try exact jz)|refine al 9 ?_|refine al 10 ?_|refine cp (CV _) ?_|(first|refine cg (Jq _) ?_|refine yY (Jq _) ?_)|refine ay ?_|exact jI|(clear hK K)))
 all_goals(refine bG [.cell 6 82] ?_;try simp only[go_sem])
 all_goals(unfold di;(repeat' split)<;>first|rfl|omega|(exfalso;simp_all;done)|(simp_all;done)|skip)
end Go.Proofs.YtbjookcdpondlaaGreatDoor
namespace Go.Proofs.YtbjookcdpondlaaGreatDoor
open Go Go.Gd Tryz Go.Gd.MV
section
variable {p:ab}{C:aI}{m:MV}{N:NM}{e:SF}(X:SJ)
def te(hR:bU p C m N e)(h1:1<=m.calls.length)(v:ak)(hb:m.aj.stack.length<=1000):kU prog 74 [cP N,rV v] e X (.bf []) (To p C (m.push v) N):=by have Us:=(hR.aj h1).bd;exact hR.cW h1 (c':=m.aj.push v) (jk':=N.aj.jk.drop 1) (by show(m.aj.stack++[v]).length+_<=_;rw[List.length_append,List.length_drop,List.length_singleton];omega) rfl rfl (QU _ _ _ _ _ _ v jB)
def Et(hR:bU p C m N e)(h1:1<=m.calls.length)(hb:1<=m.aj.stack.length):kU prog 79 [cP N] e X (rV m.aj.last) (To p C (m.cut 1) N):=by
 have Us:=(hR.aj h1).bd;have e1:m.aj.stack.take (m.aj.stack.length-1)++[m.aj.last]=m.aj.stack:=by unfold MC.last;rw[dV jB,List.take_append_getElem,show m.aj.stack.length-1+1=m.aj.stack.length from jB,List.take_length]
 have SX:(m.aj.stack.take (m.aj.stack.length-1)).length=m.aj.stack.length-1:=by rw[List.length_take];omega
 have hc:=Iv m.aj.fn m.aj.at_ m.aj.mark (m.aj.stack.take (m.aj.stack.length-1)) N.aj.jk m.aj.slots m.aj.last (by rw[SX];omega);rw[e1]at hc;have hb3:(m.aj.cut 1).stack.length+(m.aj.last::N.aj.jk).length<=2000:=by show(m.aj.stack.take (m.aj.stack.length-1)).length+_<=_;rw[SX,List.length_cons];omega
 exact hR.cW h1 (c':=m.aj.cut 1) hb3 rfl rfl hc
def QX(hR:bU p C m N e)(h1:1<=m.calls.length)(hb:1<=m.aj.stack.length):eY prog 88 [cP N] e (rV m.aj.last) e:=by have Us:=(hR.aj h1).bd;exact hR.tp h1 rfl rfl (G6 _ _ _ _ _ _ hb jB)
def BG(hR:bU p C m N e)(h1:1<=m.calls.length)(k t:Int)(hk:0<=k/\k<m.aj.slots.length)(hb:m.aj.slots.length<=1000):eY prog 78 [cP N,rI k,rI t] e (rV (di m.aj.slots k t)) e:=
 hR.tp h1 rfl rfl (Sx _ _ _ _ _ _ k t hk jB)
def Qi(hR:bU p C m N e)(a i:Int)(hl:m.heap.length<=1000)(hf:m.heap.flatten.length<=1000):eY prog 84 [.pt (hn 5 N.k) 0 0 0,rI a,rI i] e (.bf [rI (if i<0\/((MV.bE m.heap a).length:Int)<=i then 0 else nth (MV.bE m.heap a) i.toNat),rI (if i<0\/((MV.bE m.heap a).length:Int)<=i then 2 else 0)]) e:=
 hR.lD rfl rfl (NS m.heap a i hl hf)
def Ki(hR:bU p C m N e)(a:Int)(hl:m.heap.length<=1000)(hf:m.heap.flatten.length<=1000):eY prog 83 [.pt (hn 5 N.k) 0 0 0,rI a] e (rI (MV.bE m.heap a).length) e:=
 hR.lD rfl rfl (ME m.heap a hl hf)
def Ro(hR:bU p C m N e)(a i n:Int)(hl:m.heap.length<=1000)(hf:m.heap.flatten.length<=1000)(hi:¬(i<0\/((MV.bE m.heap a).length:Int)<=i)):kU prog 85 [.pt (hn 5 N.k) 0 0 0,rI a,rI i,rI n] e X (rI 0) (To p C { m with heap:=m.heap.set (a-1).toNat ((nth m.heap (a-1).toNat).set i.toNat n) } N):=
 hR.su rfl rfl (Lj m.heap a i n hl hf hi)
def ON(hR:bU p C m N e)(a i n:Int)(hl:m.heap.length<=1000)(hf:m.heap.flatten.length<=1000)(hi:i<0\/((MV.bE m.heap a).length:Int)<=i):eY prog 85 [.pt (hn 5 N.k) 0 0 0,rI a,rI i,rI n] e (rI 2) e:=
 hR.lD rfl rfl (Qc m.heap a i n hl hf hi)
def Pg(hR:bU p C m N e)(n:Int)(h0:0<=n/\n<=16)(hc:fF m.heap+n+1<=40)(WC:fF m.heap=m.heap.length+m.heap.flatten.length):kU prog 87 [.pt (hn 5 N.k) 0 0 0,rI n] e X (.bf [rI (m.heap.length+1:Nat),rI 0]) (To p C { m with heap:=m.heap++[List.replicate n.toNat 0] } N):=by obtain⟨k,rfl⟩:∃k:Nat,n=k:=⟨n.toNat,jB⟩;rw[Int.toNat_natCast];exact hR.su rfl rfl (NN m.heap k jB jB)
def Qw(hR:bU p C m N e)(n:Int)(h0:n<0\/16<n)(hl:m.heap.length<=40)(hf:m.heap.flatten.length<=40):eY prog 87 [.pt (hn 5 N.k) 0 0 0,rI n] e (.bf [rI 0,rI 7]) e:=
 hR.lD rfl rfl (PH m.heap n h0 hl hf)
def RW(hR:bU p C m N e)(n:Int)(h0:0<=n/\n<=16)(hc:40<(m.heap.length:Int)+m.heap.flatten.length+n+1)(hl:m.heap.length<=40)(hf:m.heap.flatten.length<=40):eY prog 87 [.pt (hn 5 N.k) 0 0 0,rI n] e (.bf [rI 0,rI 4]) e:=
 hR.lD rfl rfl (Ka m.heap n h0 hc hl hf)
def QT(hR:bU p C m N e)(h1:1<=m.calls.length):(List.map (fun j=>[AV.pt (hn 0 j) 0 0 0]) (List.map NC.c N.cs)++List.map (fun j=>[AV.pt (hn 0 j) 0 0 0]) N.cj).getD (N.cs.length-1) []=[cP N]:=by have hl:=hR.len;rw[<-List.map_append];rw[List.getD_eq_getElem?_getD,List.getElem?_map,List.getElem?_append_left (by rw[List.length_map];omega),List.getElem?_map,List.getElem?_eq_getElem jB];unfold cP NM.aj;rw[dV jB];rfl
def wm(hR:bU p C m N e)(h1:1<=m.calls.length):eY prog 28 [mP N] e (cP N) e:=by
 have SU:=hR.ok.low;have hl:=hR.len;have hb:=hR.bd;have hg:=QT hR h1;refine⟨?_,hR.ok,hR.ok,fun _ h=>h,by simp only[ba,AV.all,gq hR.root,Bool.and_self]⟩;refine aU (L:=ids e) func28 ntmps28 ?_ (hL:=rfl);generalize hB:ids e=B;refine fK ?_
 (have W:=jA SU (jA hR.root (jA hR.row (hg)));repeat' (first|refine aA fun K hK=>?_|refine ax ?_|(with_reducible refine gR 1 ?_);refine dE 1 (bo 0 13) mixed ?_|(refine hK _ _ ?_;clear hK K)|(refine az ?_ ?_<;>intro hc<;>try exact jz)|refine ay ?_|exact jI|(clear hK K)))
 exact fL hB hR.ok hR.ok (tl:=[]) (fun _=>rfl) fg [.tmp 2]
def FK{N:NM}{n:NC}(h:1<=N.cs.length):(N.aS n).aj=n:=by show nth (N.cs.set _ n) ((N.cs.set _ n).length-1)=n;rw[List.length_set,Go.Gd.aY _ _ _ _ jB,if_pos rfl]
def xp(hR:bU p C m N e)(h1:1<=m.calls.length)(s t:Int):kU prog 86 [mP N,rI s,rI t] e X (.bf []) (To p C (m.stops s t) N):=by
 have ht:=wm hR h1;have hT:=hR.aj h1;have SU:=hR.ok.low;have hl:=hR.len;have VC:bU p C { m with status:=s,bp:=t } N (bD e (hn 3 N.k) (.var 68 (mE p C { m with status:=s,bp:=t } N))):=hR.mO rfl rfl rfl;have TH:=yt e X 2 0;have hnX:=yU e X 2 0;generalize ru (ids e++X)+0=k at TH hnX;have XA:aD (bD e (hn 3 N.k) (.var 68 (mE p C { m with status:=s,bp:=t } N))) (hn 2 k)=none:=by rw[cd,if_neg (dq jB jB jB)];exact TH
 have i1:=gq hT.fp;have T7:bU p C (m.stops s t) (N.aS ⟨N.aj.c,k,[]⟩) (bD (bD (bD e (hn 3 N.k) (.var 68 (mE p C { m with status:=s,bp:=t } N))) (hn 2 k) (.aK 82 3 [])) (hn 0 N.aj.c) (.var 89 (MV.cE m.aj.back ⟨N.aj.c,k,[]⟩))):=by
  refine VC.aS (c':=m.aj.back) (n':=⟨N.aj.c,k,[]⟩) h1 rfl ?_ ⟨?_,?_,?_,by show 0+0<=2000;omega⟩ (.inr XA) fun j hj n0 n1 n2=>?_
  ·refine(VC.ok.put (.inr (ja _ _)) rfl).put (.inr (ja _ _)) ?_;have j1:=gq (VC.aj h1).fp;have q1:=(o5 (bD e (hn 3 N.k) (.var 68 (mE p C { m with status:=s,bp:=t } N))) (hn 2 k) (hn 2 k) (.aK 82 3 [])).2 (.inl rfl);have q2:=(o5 (bD e (hn 3 N.k) (.var 68 (mE p C { m with status:=s,bp:=t } N))) (hn 2 k) (hn 1 N.aj.c) (.aK 82 3 [])).2 (.inr (List.contains_iff_mem.1 j1));rw[<-List.contains_iff_mem]at q1 q2;simp only[Row.cells,MV.cE,ba,AV.all,q1,q2,Bool.or_true,Bool.and_self]
  ·rw[cd,if_pos rfl]
  ·rw[cd,if_neg (dq jB jB jB),cd,if_pos rfl];rfl
  ·rw[cd,if_neg (dq jB jB jB),cd,if_neg (dq jB jB jB)];exact(VC.aj h1).fp
  ·rw[cd,if_neg n0,cd,if_neg (fun e'=>by subst e';exact hj XA)]
 have hU:Up X e (bD (bD (bD e (hn 3 N.k) (.var 68 (mE p C { m with status:=s,bp:=t } N))) (hn 2 k) (.aK 82 3 [])) (hn 0 N.aj.c) (.var 89 (MV.cE m.aj.back ⟨N.aj.c,k,[]⟩))):=by
  refine((Up.put _ (.inl ?_)).trans (Up.put _ (.inr hnX))).trans (Up.put _ (.inl ?_))
  ·rw[hR.root];simp
  ·rw[cd,if_neg (dq jB jB jB),cd,if_neg (dq jB jB jB),hT.var];simp
 refine⟨_,_,⟨T7,rfl,by rw[FK jB]⟩,hU,⟨?_,hR.ok,T7.ok,hU.bj,by simp only[ba,AV.all,gq hR.root,Bool.and_self]⟩⟩;have k2:=T7.ok;clear T7 hU;generalize hE:bD (bD (bD e (hn 3 N.k) (.var 68 (mE p C { m with status:=s,bp:=t } N))) (hn 2 k) (.aK 82 3 [])) (hn 0 N.aj.c) (.var 89 (MV.cE m.aj.back ⟨N.aj.c,k,[]⟩))=E at k2 ⊢;refine aU (L:=ids e) func86 ntmps86 ?_ (hL:=rfl);generalize hB:ids e=B;refine fK ?_
 (have W:=jA SU (jA hR.root (hT.var));repeat' (first|refine aA fun K hK=>?_|refine ax ?_|(refine hK _ _ ?_;clear hK K)|(refine az ?_ ?_<;>intro hc<;>try exact jz)|refine cT ht ?_|refine ay ?_|exact jI|(clear hK K)))
 refine F2 hB hR.ok k2 (gT.fB (t:=89) (cs:=[.raw (.slice none 0 0),rI m.aj.fn,rI m.aj.mark,rI m.aj.mark,.rs (hn 1 N.aj.c) m.aj.slots.length 3 m.aj.slots.length]) (hn 2 k) (hn 0 N.aj.c) 0 82 3 ?_ jC ?_ rfl) (tl:=[]) (fun i=>?_) fg []
 ·show aD (tie _ []) _=_;simp(disch:=first|omega|assumption|fail) only[go_sem,↓reduceIte,TH]
 ·show aD (tie _ []) _=_;simp(disch:=first|omega|assumption|fail) only[go_sem,↓reduceIte,hT.var]
 ·subst hE;simp only[Hp.put,l7,cd,aD,Option.or_none];by_cases a:i=hn 0 N.aj.c
  ·rw[if_pos a,if_pos a];rfl
  ·simp only[if_neg a];by_cases b:i=hn 2 k
   ·simp only[if_pos b]
   ·simp only[if_neg b];by_cases c:i=hn 3 N.k
    ·simp only[if_pos c];rfl
    ·simp only[if_neg c]
def xR(hR:bU p C m N e)(h1:1<=m.calls.length)(r:ak×Int)(hb:m.aj.stack.length<=1000):kU prog 80 [mP N,rV r.1,rI r.2] e X (.bf []) (To p C (m.eK r) N):=by
 have ht:=wm hR h1;have SU:=hR.ok.low;have ha:∀v t:AV,v.all cZ=true->t.all cZ=true->ba (fun i=>(ids e).contains i) [mP N,v,t]=true:=fun v t h h'=>by simp only[ba,AV.all,gq hR.root,Bool.true_and,Bool.and_true];exact Bool.and_eq_true _ _ ▸ ⟨qB (fun _ h=>by cases h) _ h,qB (fun _ h=>by cases h) _ h'⟩
 unfold MV.eK;by_cases h0:r.2≠0
 ·rw[if_pos h0];obtain⟨N',l,hT,hU,hp⟩:=xp X hR h1 3 r.2;refine⟨N',l,hT,hU,⟨?_,hR.ok,hp.e2,hU.bj,ha _ _ rfl rfl⟩⟩;refine aU (L:=ids e) func80 ntmps80 ?_ (hL:=rfl);generalize hB:ids e=B;refine fK ?_
  (have W:=SU;repeat' (first|refine aA fun K hK=>?_|refine ax ?_|(refine hK _ _ ?_;clear hK K)|(refine az ?_ ?_<;>intro hc<;>try exact jz)|refine cz 9 ?_|refine cT hp ?_|refine ay ?_|exact jI|(clear hK K)))
  exact fL hB hR.ok hp.e2 (fun _=>rfl) (fk jC fg) []
 ·rw[if_neg h0];have h0:r.2=0:=jB;obtain⟨N',l,hT,hU,hp⟩:=te X hR h1 r.1 hb;refine⟨N',l,hT,hU,⟨?_,hR.ok,hp.e2,hU.bj,ha _ _ rfl rfl⟩⟩;refine aU (L:=ids e) func80 ntmps80 ?_ (hL:=rfl);generalize hB:ids e=B;refine fK ?_
  (have W:=jA SU h0;repeat' (first|refine aA fun K hK=>?_|refine ax ?_|(with_reducible refine gR 3 ?_);refine dC 3 ([],[12],[]) [] (bo 0 6) mixed ?_|(refine hK _ _ ?_;clear hK K)|(refine az ?_ ?_<;>intro hc<;>try exact jz)|refine cz 9 ?_|refine qd ht ?_|refine cT hp ?_|refine ay ?_|exact jI|(clear hK K)))
  exact fL hB hR.ok hp.e2 (fun _=>rfl) (fk jC fg) []
end
section
variable {p:ab}{C:aI}{m:MV}{N:NM}{e:SF}(X:SJ)
def pO(hR:bU p C m N e){l:SG}(h:ba cZ l=true):ba (fun i=>(ids e).contains i) (mP N::l)=true:=by simp only[ba,AV.all,gq hR.root,Bool.true_and];exact fM (fun _ h=>by cases h) _ h
def DK(hR:bU p C m N e)(h1:1<=m.calls.length)(v:ak)(hb:∀k,k<m.calls.length->(nth m.calls k).stack.length<=1000):kU prog 89 [mP N,rV v] e X (.bf []) (fun N' l=>bU p C (m.ends v) N' l/\N'.k=N.k):=by
 have SU:=hR.ok.low;have hl:=hR.len;have ZW:=hR.bd;unfold MV.ends;by_cases h2:m.calls.length<=1
 ·rw[if_pos h2];have T7:bU p C { m.pop with status:=2 } N.pop (bD e (hn 3 N.k) (.var 68 (mE p C { m.pop with status:=2 } N.pop))):=hR.wH h1 rfl rfl rfl;have hU:Up X e (bD e (hn 3 N.k) (.var 68 (mE p C { m.pop with status:=2 } N.pop))):=Up.put _ (.inl (by rw[hR.root];simp));refine⟨_,_,⟨T7,rfl⟩,hU,⟨?_,hR.ok,T7.ok,hU.bj,pO hR rfl⟩⟩;have k2:=T7.ok;clear T7 hU;generalize hE:bD e (hn 3 N.k) (.var 68 (mE p C { m.pop with status:=2 } N.pop))=E at k2 ⊢;refine aU (L:=ids e) func89 ntmps89 ?_ (hL:=rfl);generalize hB:ids e=B;refine fK ?_
  (have W:=jA SU (hR.root);repeat' (first|refine aA fun K hK=>?_|refine ax ?_|(with_reducible refine gR 1 ?_);refine dE 1 (bo 0 15) mixed ?_|(refine hK _ _ ?_;clear hK K)|(refine az ?_ ?_<;>intro hc<;>try exact jz)|refine cz 9 ?_|refine ay ?_|exact jI|(clear hK K)))
  refine fL (tl:=[(9,.var 82 (bM v))]) hB hR.ok k2 (fun i=>?_) (fk jC fg) [];subst hE;have e1:N.cs.length=1:=jB;simp only[l7,cd];by_cases a:i=hn 3 N.k
  ·simp only[if_pos a,Option.some_or];unfold mE NM.pop;simp[MV.pop,kH,e1,Nat.add_comm]
  ·simp only[if_neg a]
 ·rw[if_neg h2];have T7:bU p C m.pop N.pop (bD e (hn 3 N.k) (.var 68 (mE p C m.pop N.pop))):=hR.wH h1 rfl rfl rfl;have eE:bD e (hn 3 N.k) (.var 68 (mE p C m.pop N.pop))=bD e (hn 3 N.k) (.var 68 (kH p++[bh du 4 C.ins,bh eI 1 C.entry,.rs (hn 4 N.k) (N.cs.length+N.cj.length) 1 (N.cs.length-1),.pt (hn 5 N.k) 0 0 0,.rs (hn 8 N.k) m.aC.length 1 m.aC.length,.raw (.int .i64 m.in_),.raw (.int .i64 m.status),.raw (.int .i64 m.bp),.raw (.int .i64 m.time)])):=by
   unfold mE NM.pop;have:N.cs.length-1+(N.cj.length+1)=N.cs.length+N.cj.length:=jB;simp[MV.pop,this]
  rw[eE]at T7;have hU:Up X e (bD e (hn 3 N.k) (.var 68 (kH p++[bh du 4 C.ins,bh eI 1 C.entry,.rs (hn 4 N.k) (N.cs.length+N.cj.length) 1 (N.cs.length-1),.pt (hn 5 N.k) 0 0 0,.rs (hn 8 N.k) m.aC.length 1 m.aC.length,.raw (.int .i64 m.in_),.raw (.int .i64 m.status),.raw (.int .i64 m.bp),.raw (.int .i64 m.time)]))):=Up.put _ (.inl (by rw[hR.root];simp));have p1:1<=m.pop.calls.length:=by show 1<=(m.calls.take _).length;rw[List.length_take];omega
  have ht:=wm T7 p1;have ZZ:m.pop.aj.stack.length<=1000:=by have:m.pop.aj=nth m.calls (m.calls.length-1-1):=MV.nU jB;rw[this];exact hb _ jB
  obtain⟨N',l,hT,TY,hp⟩:=te X T7 p1 v ZZ;refine⟨N',l,⟨hT.1,hT.2.1⟩,hU.trans TY,⟨?_,hR.ok,hp.e2,(hU.trans TY).bj,pO hR rfl⟩⟩;clear hU TY eE;refine aU (L:=ids e) func89 ntmps89 ?_ (hL:=rfl);generalize hB:ids e=B;refine fK ?_
  (have W:=jA SU (hR.root);repeat' (first|refine aA fun K hK=>?_|refine ax ?_|(with_reducible refine gR 1 ?_);refine dE 1 (bo 0 15) mixed ?_|(with_reducible refine gR 4 ?_);refine dC 4 ([],[28],[]) [] (bo 0 6) mixed ?_|(refine hK _ _ ?_;clear hK K)|(refine az ?_ ?_<;>intro hc<;>try exact jz)|refine cz 9 ?_|refine qd ht ?_|refine cT hp ?_|refine ay ?_|exact jI|(clear hK K)))
  exact fL hB hR.ok hp.e2 (fun _=>rfl) (fk jC fg) []
structure qp(p:ab)(C:aI)(m:MV)(fn:Int)(args:List ak):Prop where
 f0:0<=fn
 f1:fn<C.entry.length
 f2:fn<p.size.length
 s0:0<=nth p.size fn.toNat
 s1:nth p.size fn.toNat<=24
 s2:(args.length:Int)<=nth p.size fn.toNat
 rZ:C.entry.length<=1000/\p.size.length<=1000
 calls:m.calls.length<=8
def Jm(hR:bU p C m N e)(fn:Int)(args:List ak)(hk:qp p C m fn args):kU prog 19 [mP N,rI fn,bh bM 3 args] e X (.bf []) (fun N' l=>bU p C (m.cV p C fn args) N' l/\N'.k=N.k):=by
 have SU:=hR.ok.low;have hl:=hR.len;have ZW:=hR.bd;obtain⟨f0,f1,f2,s0,s1,s2,⟨b1,b2⟩,h8⟩:=hk;have n0:=yt e X 0 0;have n1:=yt e X 1 0;have n2:=yt e X 2 0;have x0:=yU e X 0 0;have x1:=yU e X 1 0;have x2:=yU e X 2 0;generalize ru (ids e++X)+0=k at n0 n1 n2 x0 x1 x2;have T7:=hR.Ds (m':=m.cV p C fn args) (c':=iw p C fn args) (j:=k) jB rfl rfl rfl n0 n1 n2 (by show 0<=2000;omega);have hU:Up X e (nX p C (m.cV p C fn args) N (iw p C fn args) k e):=by
  unfold nX;refine((((Up.put _ (.inr x1)).trans (Up.put _ (.inr x2))).trans (Up.put _ (.inr x0))).trans (Up.put _ (.inl ?_))).trans (Up.put _ (.inl ?_))
  ·rw[cd,if_neg (dq jB jB jB),cd,if_neg (dq jB jB jB),cd,if_neg (dq jB jB jB),hR.row];simp
  ·rw[cd,if_neg (dq jB jB jB),cd,if_neg (dq jB jB jB),cd,if_neg (dq jB jB jB),cd,if_neg (dq jB jB jB),hR.root];simp
 obtain⟨n,Zi⟩:∃n:Nat,nth p.size fn.toNat=(n:Int):=⟨(nth p.size fn.toNat).toNat,jB⟩;refine⟨_,_,⟨T7,rfl⟩,hU,⟨?_,hR.ok,T7.ok,hU.bj,pO hR rfl⟩⟩;have k2:=T7.ok;clear T7 hU;generalize hE:nX p C (m.cV p C fn args) N (iw p C fn args) k e=E at k2 ⊢;have han:args.length<=n:=jB;refine aU (L:=ids e) func19 ntmps19 ?_ (hL:=rfl);generalize hB:ids e=B;refine fK ?_
 (have W:=jA SU (jA hR.root (jA hR.row (jA Zi (jA n0 (n1)))));repeat' (first|refine aA fun K hK=>?_|refine ax ?_|(with_reducible refine gR 0 ?_);refine dC 0 ([],[],[32]) [] (bo 0 29) mixed ?_|(refine hK _ _ ?_;clear hK K)|(refine az ?_ ?_<;>intro hc<;>try exact jz)|refine cz (hn 0 k) ?_|refine GF (n:=n) (hn 1 k) ?_|refine Pm ?_ (hd:=by(show aD (tie _ _) _=_;rw[l7,n1,Option.none_or];exact if_pos rfl))|refine pm 10 ?_|refine sP (enc:=fun j=>[.pt (hn 0 j) 0 0 0]) (N.cs.map NC.c) N.cj [k] ?_ (hm:=by rw[List.length_map]) (hn:=by rw[List.length_map])|refine ay ?_|exact jI|(clear hK K)))
 refine F2 (tl:=[(10,.aK 85 1 [[.pt (hn 0 k) 0 0 0]])]) hB hR.ok k2 (gT.fB (t:=89) (cs:=[.raw (.slice none 0 0),rI fn,rI (nth C.entry fn.toNat),rI (nth C.entry fn.toNat),.rs (hn 1 k) n 3 n]) (hn 2 k) (hn 0 k) 0 82 3 ?_ jC ?_ rfl) (fun i=>?_) (fk jC fg) []
 ·show aD (tie _ _) _=_;simp(disch:=first|omega|assumption|fail) only[go_sem,↓reduceIte,n2]
 ·show aD (tie _ _) _=_;simp(disch:=first|omega|assumption|fail) only[go_sem,↓reduceIte,n0]
 ·subst hE;have en:((nth p.size fn.toNat)-(args.length:Int)).toNat=n-args.length:=jB;have es:(iw p C fn args).slots.map bM=iK (List.replicate n (bM v0)) 0 (args.map bM):=by
   show(args++List.replicate _ v0).map bM=_;unfold iK;rw[en,List.map_append,List.map_replicate];simp
  have el:(iw p C fn args).slots.length=n:=by show(args++List.replicate _ v0).length=n;rw[en,List.length_append,List.length_replicate];omega
  have q4:hn 4 N.k≠hn 3 N.k:=dq jB jB jB;simp only[nX,Hp.put,l7,cd,es];by_cases a:i=hn 3 N.k
  ·subst a;simp(disch:=first|omega|assumption|fail) only[go_sem,↓reduceIte,NM.og,List.length_append,List.length_drop,List.length_singleton,MV.cV]
  simp only[if_neg a];by_cases b:i=hn 4 N.k
  ·subst b;simp(disch:=first|omega|assumption|fail) only[go_sem,↓reduceIte,NM.og,List.map_append,List.append_assoc]
  simp only[if_neg b];by_cases c:i=hn 0 k
  ·subst c;simp(disch:=first|omega|assumption|fail) only[go_sem,↓reduceIte,el];rfl
  simp only[if_neg c];by_cases d:i=hn 2 k
  ·subst d;simp(disch:=first|omega|assumption|fail) only[go_sem,↓reduceIte];rfl
  simp only[if_neg d];by_cases f:i=hn 1 k
  ·subst f;simp(disch:=first|omega|assumption|fail) only[go_sem,↓reduceIte,n1];rfl
  simp only[if_neg f,aD,if_neg c]
end
structure p7(p:ab)(C:aI)(m:MV)(x:av):Prop where
 calls:1<=m.calls.length
 nn:m.calls.length<=8
 one:x.op=6\/x.op=8\/x.op=9\/x.op=10\/x.op=11\/x.op=13\/x.op=15\/x.op=17\/x.op=18\/x.op=19\/x.op=21\/x.op=23->1<=m.aj.stack.length
 two:x.op=7\/x.op=12->2<=m.aj.stack.length
 slot:x.op=5\/x.op=6\/x.op=11\/x.op=12->0<=x.a/\x.a<m.aj.slots.length
 bool:x.op=17\/x.op=18\/x.op=19->m.aj.last.n=0\/m.aj.last.n=1
 len:x.op=10->m.aj.last.ty=3\/m.aj.last.ty=4
 call:x.op=20->0<=x.b/\x.b<=m.aj.stack.length/\(m.calls.length<8->qp p C m x.a (m.aj.stack.drop (m.aj.stack.length-x.b.toNat)))
 word:x.op=15->dr m.aj.last.n
 ko:∀v∈m.aj.stack,v.s.size<=40
 deep:∀k,k<m.calls.length->(nth m.calls k).stack.length<=1000
 slots:m.aj.slots.length<=24
 heap:fF m.heap<=40
 outs:m.aC.length<=24
 gV:0<=m.in_
 hZ:m.in_<=1000
theorem p7.aj{p:ab}{C:aI}{m:MV}{x:av}(h:p7 p C m x):m.aj.stack.length<=1000:=h.deep (m.calls.length-1) (by have:=h.calls;omega)
section
variable {p:ab}{C:aI}{m:MV}{N:NM}{e:SF}(X:SJ)
def ig(hR:bU p C m N e)(h1:1<=m.calls.length){l:SG}(h:ba cZ l=true):ba (fun i=>(ids e).contains i) (mP N::cP N::l)=true:=by simp only[ba,AV.all,gq hR.root,gq (hR.aj h1).var,Bool.true_and];exact fM (fun _ h=>by cases h) _ h
def Sw(hR:bU p C m N e)(h1:1<=m.calls.length)(x:av)(hx:¬(x.op=2\/x.op=3\/x.op=4\/x.op=5)):eY prog 41 [mP N,cP N,.agg (du x)] e (rB false) e:=by
 have SU:=hR.ok.low;refine⟨?_,hR.ok,hR.ok,fun _ h=>h,ig hR h1 rfl⟩;refine aU (L:=ids e) func41 ntmps41 ?_ (hL:=rfl);generalize hB:ids e=B;refine fK ?_
 (have W:=SU;repeat' (first|refine aA fun K hK=>?_|refine ax ?_|(refine hK _ _ ?_;clear hK K)|(refine az ?_ ?_<;>intro hc<;>try exact jz)|refine cz 9 ?_|refine ay ?_|exact jI|(clear hK K)))
 exact fL hB hR.ok hR.ok (fun _=>rfl) (fk jC fg) [.tmp 6]
def MR(hR:bU p C m N e)(inp:SI)(x:av)(hk:p7 p C m x)(hx:x.op=2\/x.op=3\/x.op=4\/x.op=5):kU prog 41 [mP N,cP N,.agg (du x)] e X (rB true) (To p C (m.ins p C inp x) N):=by
 have h1:=hk.calls;have SU:=hR.ok.low;have h5:x.op=5->eY prog 78 [cP N,rI x.a,rI x.b] e (rV (di m.aj.slots x.a x.b)) e:=fun h=>BG hR h1 x.a x.b (hk.slot (.inl h)) (by have:=hk.slots;omega)
 have key:∀v:ak,((x.op=2/\v=vI x.a)\/(x.op=3/\v=vB (decide (x.a=1)))\/(x.op=4/\v=vT x.s)\/(x.op=5/\v=di m.aj.slots x.a x.b))->kU prog 41 [mP N,cP N,.agg (du x)] e X (rB true) (To p C (m.push v) N):=fun v hv=>by
  obtain⟨N',l,hT,hU,hp⟩:=te X hR h1 v hk.aj;refine⟨N',l,hT,hU,⟨?_,hR.ok,hp.e2,hU.bj,ig hR h1 rfl⟩⟩;refine aU (L:=ids e) func41 ntmps41 ?_ (hL:=rfl);generalize hB:ids e=B;refine fK ?_;rcases hv with⟨h,rfl⟩|⟨h,rfl⟩|⟨h,rfl⟩|⟨h,rfl⟩
  all_goals
   (have W:=SU;repeat' (first|refine aA fun K hK=>?_|refine ax ?_|(with_reducible refine gR 4 ?_);refine dE 4 (bo 0 7) mixed ?_|(with_reducible refine gR 6 ?_);refine dE 6 (bo 0 8) mixed ?_|(with_reducible refine gR 8 ?_);refine dE 8 (bo 0 7) mixed ?_|(with_reducible refine gR 10 ?_);refine dC 10 ([],[47],[]) [] (bo 0 10) mixed ?_|(refine hK _ _ ?_;clear hK K)|(refine az ?_ ?_<;>intro hc<;>try exact jz)|refine cz 9 ?_|refine cp (tR _) ?_|refine cp (xG _) ?_|refine cp (EQ _) ?_|refine qd (h5 h) ?_|refine cT hp ?_|refine ay ?_|exact jI|(clear hK K)))
  all_goals exact fL hB hR.ok hp.e2 (fun _=>rfl) (fk jC fg) [.tmp 6]
 unfold MV.ins;rcases hx with h|h|h|h
 ·have:=key (vI x.a) (.inl ⟨h,rfl⟩);simpa[h]using this
 ·have:=key (vB (decide (x.a=1))) (.inr (.inl ⟨h,rfl⟩));simpa[h]using this
 ·have:=key (vT x.s) (.inr (.inr (.inl ⟨h,rfl⟩)));simpa[h]using this
 ·have:=key (di m.aj.slots x.a x.b) (.inr (.inr (.inr ⟨h,rfl⟩)));simpa[h]using this
end
section
variable {p:ab}{C:aI}{m:MV}{N:NM}{e:SF}(X:SJ)
def PJ(hR:bU p C m N e)(h1:1<=m.calls.length)(x:av)(hx:¬(x.op=16\/x.op=17\/x.op=18\/x.op=19)):eY prog 44 [mP N,cP N,.agg (du x)] e (rB false) e:=by
 have SU:=hR.ok.low;refine⟨?_,hR.ok,hR.ok,fun _ h=>h,ig hR h1 rfl⟩;refine aU (L:=ids e) func44 ntmps44 ?_ (hL:=rfl);generalize hB:ids e=B;refine fK ?_
 (have W:=SU;repeat' (first|refine aA fun K hK=>?_|refine ax ?_|(refine hK _ _ ?_;clear hK K)|(refine az ?_ ?_<;>intro hc<;>try exact jz)|refine cz 9 ?_|refine ay ?_|exact jI|(clear hK K)))
 exact fL hB hR.ok hR.ok (fun _=>rfl) (fk jC fg) [.tmp 6]
def Mp(hR:bU p C m N e)(inp:SI)(x:av)(hk:p7 p C m x)(hx:x.op=16\/x.op=17\/x.op=18\/x.op=19):kU prog 44 [mP N,cP N,.agg (du x)] e X (rB true) (To p C (m.ins p C inp x) N):=by
 have h1:=hk.calls;have SU:=hR.ok.low;have hT:=hR.aj h1;by_cases U3:x.op=16
 ·have ei:m.ins p C inp x=m.aS (m.aj.jump x.a):=by unfold MV.ins;simp[U3]
  rw[ei];have T7:=hR.j5 h1 (c':=m.aj.jump x.a) rfl rfl;have hU:Up X e (bD e (hn 0 N.aj.c) (.var 89 (MV.cE (m.aj.jump x.a) N.aj))):=Up.put _ (.inl (by rw[hT.var];simp));refine⟨_,_,⟨T7,rfl,rfl⟩,hU,⟨?_,hR.ok,T7.ok,hU.bj,ig hR h1 rfl⟩⟩;have k2:=T7.ok;clear T7 hU;generalize hE:bD e (hn 0 N.aj.c) (.var 89 (MV.cE (m.aj.jump x.a) N.aj))=E at k2 ⊢;refine aU (L:=ids e) func44 ntmps44 ?_ (hL:=rfl);generalize hB:ids e=B;refine fK ?_
  (have W:=jA SU (hT.var);repeat' (first|refine aA fun K hK=>?_|refine ax ?_|(refine hK _ _ ?_;clear hK K)|(refine az ?_ ?_<;>intro hc<;>try exact jz)|refine cz 9 ?_|refine ay ?_|exact jI|(clear hK K)))
  subst hE;exact fL hB hR.ok k2 (fun _=>rfl) (fk jC fg) [.tmp 6]
 have UP:=hk.one jB;have hbool:=hk.bool jB;obtain⟨N1,l1,S0,Ts,TW⟩:=Et X hR h1 UP;have X2:1<=(m.cut 1).calls.length:=by rw[show(m.cut 1).calls.length=m.calls.length from MV.aO _ _];exact h1
 have TC:=S0.1.ok.low;have UJ:=(S0.1.aj X2).var;rw[S0.2.2]at UJ;have TO:=S0.1.j5 X2 (c':=(m.cut 1).aj.jump x.a) rfl rfl;have TY:Up X l1 (bD l1 (hn 0 N1.aj.c) (.var 89 (MV.cE ((m.cut 1).aj.jump x.a) N1.aj))):=Up.put _ (.inl (by rw[S0.2.2,UJ];simp));by_cases Xp:x.op=17
 ·by_cases hz:m.aj.last.n=0
  ·have ei:m.ins p C inp x=(m.cut 1).aS ((m.cut 1).aj.jump x.a):=by
    unfold MV.ins;simp only[Xp,hz];unfold MV.cut;rw[MV.dm,MV.bc h1];rfl
   rw[ei];refine⟨_,_,⟨TO,S0.2.1,S0.2.2⟩,Ts.trans TY,⟨?_,hR.ok,TO.ok,(Ts.trans TY).bj,ig hR h1 rfl⟩⟩;have k2:=TO.ok;clear TO Ts TY;generalize hE:bD l1 (hn 0 N1.aj.c) (.var 89 (MV.cE ((m.cut 1).aj.jump x.a) N1.aj))=E at k2 ⊢;refine aU (L:=ids e) func44 ntmps44 ?_ (hL:=rfl);generalize hB:ids e=B;refine fK ?_
   (have W:=jA SU (jA TC (jA UJ (hz)));repeat' (first|refine aA fun K hK=>?_|refine ax ?_|(refine hK _ _ ?_;clear hK K)|(refine az ?_ ?_<;>intro hc<;>try exact jz)|refine cz 9 ?_|refine cT TW ?_|refine ay ?_|exact jI|(clear hK K)))
   subst hE;refine fL (tl:=[(9,.var 91 (du x))]) hB hR.ok k2 (fun i=>?_) (fk jC fg) [.tmp 6];have:=S0.2.2;unfold MV.cE;rw[this];rfl
  ·have ei:m.ins p C inp x=m.cut 1:=by unfold MV.ins;simp only[Xp];simp[hz]
   rw[ei];refine⟨_,_,S0,Ts,⟨?_,hR.ok,TW.e2,Ts.bj,ig hR h1 rfl⟩⟩;refine aU (L:=ids e) func44 ntmps44 ?_ (hL:=rfl);generalize hB:ids e=B;refine fK ?_
   (have W:=jA SU TC;repeat' (first|refine aA fun K hK=>?_|refine ax ?_|(refine hK _ _ ?_;clear hK K)|(refine az ?_ ?_<;>intro hc<;>try exact jz)|refine cz 9 ?_|refine cT TW ?_|refine ay ?_|exact jI|(clear hK K)))
   exact fL hB hR.ok TW.e2 (fun _=>rfl) (fk jC fg) [.tmp 6]
 have S6:=QX hR h1 UP;have h2:x.op=18\/x.op=19:=jB;have Wp:m.ins p C inp x=if(m.aj.last.n=1<->x.op=19)then m.aS (m.aj.jump x.a)else m.cut 1:=by unfold MV.ins;rcases h2 with h|h<;>simp only[h]<;>rfl
 by_cases hj:(m.aj.last.n=1<->x.op=19)
 ·have ei:m.ins p C inp x=m.aS (m.aj.jump x.a):=by rw[Wp,if_pos hj]
  rw[ei];have XJ:=hR.j5 h1 (c':=m.aj.jump x.a) rfl rfl;have hU:Up X e (bD e (hn 0 N.aj.c) (.var 89 (MV.cE (m.aj.jump x.a) N.aj))):=Up.put _ (.inl (by rw[hT.var];simp));refine⟨_,_,⟨XJ,rfl,rfl⟩,hU,⟨?_,hR.ok,XJ.ok,hU.bj,ig hR h1 rfl⟩⟩;have k2:=XJ.ok;clear XJ hU TO TY Ts;generalize hE:bD e (hn 0 N.aj.c) (.var 89 (MV.cE (m.aj.jump x.a) N.aj))=E at k2 ⊢;have XF:(decide (m.aj.last.n=1) == decide (x.op=19))=true:=by by_cases a:m.aj.last.n=1<;>by_cases b:x.op=19<;>simp[a,b]at hj ⊢
  refine aU (L:=ids e) func44 ntmps44 ?_ (hL:=rfl);generalize hB:ids e=B;refine fK ?_;rcases h2 with h|h
  all_goals
   (have W:=jA SU (jA hT.var (XF));repeat' (first|refine aA fun K hK=>?_|refine ax ?_|(with_reducible refine gR 10 ?_);refine dC 10 ([],[35],[]) [] (bo 0 10) mixed ?_|(refine hK _ _ ?_;clear hK K)|(refine az ?_ ?_<;>intro hc<;>try exact jz)|refine cz 9 ?_|refine qd S6 ?_|refine ay ?_|exact jI|(clear hK K)))
  all_goals
   subst hE;exact fL hB hR.ok k2 (fun _=>rfl) (fk jC fg) [.tmp 6]
 ·have ei:m.ins p C inp x=m.cut 1:=by rw[Wp,if_neg hj]
  rw[ei];refine⟨_,_,S0,Ts,⟨?_,hR.ok,TW.e2,Ts.bj,ig hR h1 rfl⟩⟩;have XF:(decide (m.aj.last.n=1) == decide (x.op=19))=false:=by by_cases a:m.aj.last.n=1<;>by_cases b:x.op=19<;>simp[a,b]at hj ⊢
  refine aU (L:=ids e) func44 ntmps44 ?_ (hL:=rfl);generalize hB:ids e=B;refine fK ?_;rcases h2 with h|h
  all_goals
   (have W:=jA SU (XF);repeat' (first|refine aA fun K hK=>?_|refine ax ?_|(with_reducible refine gR 10 ?_);refine dC 10 ([],[35],[]) [] (bo 0 10) mixed ?_|(refine hK _ _ ?_;clear hK K)|(refine az ?_ ?_<;>intro hc<;>try exact jz)|refine cz 9 ?_|refine qd S6 ?_|refine cT TW ?_|refine ay ?_|exact jI|(clear hK K)))
  all_goals exact fL hB hR.ok TW.e2 (fun _=>rfl) (fk jC fg) [.tmp 6]
end
end Go.Proofs.YtbjookcdpondlaaGreatDoor
namespace Go.Proofs.YtbjookcdpondlaaGreatDoor
open Go Go.Gd Tryz
theorem IZ:∀h:SH,h.foldl iR (0:Int)=(h.flatten.length:Int)
 |[]=>rfl
 |x::h=>by show h.foldl iR (iR 0 x)=_;rw[mz,IZ h,List.flatten_cons,List.length_append];show(0:Int)+(x.length:Int)+_=_;omega
def wv(h:SH):fF h=h.length+h.flatten.length:=by unfold fF;rw[mz,IZ]
end Go.Proofs.YtbjookcdpondlaaGreatDoor
namespace Go.Proofs.YtbjookcdpondlaaGreatDoor
open Go Go.Gd Tryz Go.Gd.MV
section
variable {p:ab}{C:aI}{m:MV}{N:NM}{e:SF}(X:SJ)
def xU(hR:bU p C m N e)(h1:1<=m.calls.length)(hb:1<=m.aj.stack.length):∃N' l,(To p C (m.cut 1) N N' l/\N'.aj.v=N.aj.v)/\Up X e l/\eY prog 79 [cP N] e (rV m.aj.last) l/\∀C D,IF ([hn 2 N.aj.v,hn 16 N.aj.c],C,D) e l:=by
 have ht:=hR.aj h1;have Us:=ht.bd;have hl:=hR.len;have e1:m.aj.stack.take (m.aj.stack.length-1)++[m.aj.last]=m.aj.stack:=by unfold MC.last;rw[dV jB,List.take_append_getElem,show m.aj.stack.length-1+1=m.aj.stack.length from jB,List.take_length]
 have SX:(m.aj.stack.take (m.aj.stack.length-1)).length=m.aj.stack.length-1:=by rw[List.length_take];omega
 have hc:=Iv m.aj.fn m.aj.at_ m.aj.mark (m.aj.stack.take (m.aj.stack.length-1)) N.aj.jk m.aj.slots m.aj.last (by rw[SX];omega);rw[e1]at hc;have hb3:(m.aj.cut 1).stack.length+(m.aj.last::N.aj.jk).length<=2000:=by show(m.aj.stack.take (m.aj.stack.length-1)).length+_<=_;rw[SX,List.length_cons];omega
 obtain⟨⟨h2,h3⟩,h4,h5⟩:=hR.nA (X:=X) h1 (c':=m.aj.cut 1) hb3 rfl rfl hc;refine⟨_,_,⟨⟨h2,rfl,h3⟩,by rw[FK jB]⟩,h4,h5,fun C D j hj hje=>?_⟩;have VJ:j≠hn 2 N.aj.v:=fun e'=>by subst e';simp at hj
 unfold kL;by_cases h0:j=hn 0 N.aj.c
 ·right
  subst h0;refine⟨by rw[NY];simp,89,_,.rs (hn 2 N.aj.v) ((m.aj.cut 1).stack.length+(m.aj.last::N.aj.jk).length) 3 (m.aj.cut 1).stack.length,_,ht.var,?_⟩;rw[cd,if_neg (dq jB jB jB),cd,if_neg (dq jB jB jB),cd,if_pos rfl];rfl
 ·left
  rw[cd];by_cases WM:j=hn 1 N.aj.c
  ·rw[if_pos WM];subst WM;rw[ht.fp];rfl
  ·rw[if_neg WM,cd,if_neg VJ,cd,if_neg h0]
def Sq(hR:bU p C m N e)(h1:1<=m.calls.length)(x:av)(hx:¬(x.op=7\/x.op=8\/x.op=9\/x.op=10)):eY prog 42 [mP N,cP N,.agg (du x)] e (rB false) e:=by
 have SU:=hR.ok.low;refine⟨?_,hR.ok,hR.ok,fun _ h=>h,ig hR h1 rfl⟩;refine aU (L:=ids e) func42 ntmps42 ?_ (hL:=rfl);generalize hB:ids e=B;refine fK ?_
 (have W:=SU;repeat' (first|refine aA fun K hK=>?_|refine ax ?_|(refine hK _ _ ?_;clear hK K)|(refine az ?_ ?_<;>intro hc<;>try exact jz)|refine cz 9 ?_|refine ay ?_|exact jI|(clear hK K)))
 exact fL hB hR.ok hR.ok (fun _=>rfl) (fk jC fg) [.tmp 6]
def DU(h1:1<=m.calls.length)(a b:Nat)(ZB:a+b<=m.aj.stack.length):(m.cut a).cut b=m.cut (a+b):=by
 unfold MV.cut;rw[MV.dm,MV.bc h1];congr 1
 unfold MC.cut;simp only[List.length_take];rw[Nat.min_eq_left jB,List.take_take,Nat.min_eq_left jB];congr 1
 ·congr 1;omega
 ·omega
def HX(hb:1<=m.aj.stack.length):m.aj.last∈m.aj.stack:=by unfold MC.last;rw[dV jB];exact List.getElem_mem _
def Ra(hb:2<=m.aj.stack.length):(m.aj.cut 1).last∈m.aj.stack:=by unfold MC.last MC.cut;simp only[List.length_take];rw[Nat.min_eq_left jB,Go.Gd.MV.cu jB,dV jB];exact List.getElem_mem _
def KF(hR:bU p C m N e)(inp:SI)(x:av)(hk:p7 p C m x)(hx:x.op=7\/x.op=8\/x.op=9\/x.op=10):kU prog 42 [mP N,cP N,.agg (du x)] e X (rB true) (To p C (m.ins p C inp x) N):=by
 have h1:=hk.calls;have SU:=hR.ok.low;have Ww:=hk.aj;have U1:1<=m.aj.stack.length:=by
  by_cases h7:x.op=7
  ·have:=hk.two (.inl h7);omega
  ·exact hk.one jB
 obtain⟨N1,l1,⟨S0,UJ⟩,Ts,TW,UD⟩:=xU X hR h1 U1;have Ty:(m.cut 1).calls.length=m.calls.length:=MV.aO _ _;have WA:(m.cut 1).aj=m.aj.cut 1:=MV.bc h1 _;have Yt:(m.cut 1).aj.stack.length=m.aj.stack.length-1:=by rw[WA];show(m.aj.stack.take _).length=_;rw[List.length_take];omega
 have TC:=S0.1.ok.low;have eN1:cP N1=cP N:=by unfold cP;rw[S0.2.2]
 have eM1:mP N1=mP N:=by unfold mP;rw[S0.2.1]
 by_cases h7:x.op=7
 ·have h2:=hk.two (.inl h7);rw[Ep _ _ _ _ _ h7];obtain⟨N2,l2,⟨TE,WU⟩,TY,Wz,YC⟩:=xU X S0.1 jB jB;rw[eN1,WA]at Wz;rw[UJ,S0.2.2]at YC;have ecc:(m.cut 1).cut 1=m.cut 2:=DU h1 1 1 jB;rw[ecc]at TE;have Vm:=TE.1.ok.low;have Vr:(m.cut 2).calls.length=m.calls.length:=MV.aO _ _;have YS:(m.cut 2).aj.stack.length<=1000:=by rw[show(m.cut 2).aj=m.aj.cut 2 from MV.bc h1 _];show(m.aj.stack.take _).length<=_;rw[List.length_take];omega
  obtain⟨N',l,hT,hU,hp⟩:=xR X TE.1 jB (jq x.s (m.aj.cut 1).last m.aj.last) YS;rw[show mP N2=mP N by unfold mP;rw[TE.2.1,S0.2.1]]at hp;have haD:=hk.ko _ (HX U1);have hsz2:=hk.ko _ (Ra h2);have hbn:=Ob x.s (m.aj.cut 1).last m.aj.last jB jB;refine⟨N',l,⟨hT.1,hT.2.1.trans (TE.2.1.trans S0.2.1),hT.2.2.trans (TE.2.2.trans S0.2.2)⟩,Ts.trans (TY.trans hU),⟨?_,hR.ok,hp.e2,(Ts.trans (TY.trans hU)).bj,ig hR h1 rfl⟩⟩;refine aU (L:=ids e) func42 ntmps42 ?_ (hL:=rfl);generalize hB:ids e=B;refine fK ?_
  (have W:=jA SU (jA TC (Vm));repeat' (first|refine aA fun K hK=>?_|refine ax ?_|(with_reducible refine gR 5 ?_);refine rO 5 [hn 2 N.aj.v,hn 16 N.aj.c] [] [24] [] [0,1,2,3,4,5,7,6,8,9,10,11] mixed ?_|(refine hK _ _ ?_;clear hK K)|(refine az ?_ ?_<;>intro hc<;>try exact jz)|refine cz 9 ?_|refine cM 10 ?_|refine cT TW ?_|refine qW Wz (YC _ _) ?_|refine cp (hbn) ?_|refine cT hp ?_|refine ay ?_|exact jI|(clear hK K)))
  exact fL hB hR.ok hp.e2 (fun _=>rfl) (fk jC (fk jC fg)) [.tmp 6]
 by_cases h10:x.op=10
 ·rw[D3 _ _ _ _ _ h10];have haD:=hk.ko _ (HX U1);have WC:=hk.heap;rw[wv]at WC;have Ta:=Ki S0.1 m.aj.last.n (by show m.heap.length<=1000;omega) (by show m.heap.flatten.length<=1000;omega);have Y0:=S0.1.root;rw[S0.2.1]at Y0 Ta;by_cases Uc:m.aj.last.ty=4
  ·rw[if_pos Uc];obtain⟨N',l,hT,hU,hp⟩:=te X S0.1 jB (vI (bE m.heap m.aj.last.n).length) jB;rw[eN1]at hp;refine⟨N',l,⟨hT.1,hT.2.1.trans S0.2.1,hT.2.2.trans S0.2.2⟩,Ts.trans hU,⟨?_,hR.ok,hp.e2,(Ts.trans hU).bj,ig hR h1 rfl⟩⟩;refine aU (L:=ids e) func42 ntmps42 ?_ (hL:=rfl);generalize hB:ids e=B;refine fK ?_
   (have W:=jA SU (jA TC (jA Y0 (S0.2.1)));repeat' (first|refine aA fun K hK=>?_|refine ax ?_|(with_reducible refine gR 14 ?_);refine dC 14 ([],[70],[]) [] (bo 0 8) mixed ?_|(with_reducible refine gR 15 ?_);refine dE 15 (bo 0 6) mixed ?_|(refine hK _ _ ?_;clear hK K)|(refine az ?_ ?_<;>intro hc<;>try exact jz)|refine cz 9 ?_|refine cM 10 ?_|refine qd Ta ?_|refine cT TW ?_|refine cp (tR _) ?_|refine cT hp ?_|refine ay ?_|exact jI|(clear hK K)))
   exact fL hB hR.ok hp.e2 (fun _=>rfl) (fk jC (fk jC fg)) [.tmp 6]
  ·rw[if_neg Uc];obtain⟨N',l,hT,hU,hp⟩:=te X S0.1 jB (vI m.aj.last.s.size) jB;rw[eN1]at hp;refine⟨N',l,⟨hT.1,hT.2.1.trans S0.2.1,hT.2.2.trans S0.2.2⟩,Ts.trans hU,⟨?_,hR.ok,hp.e2,(Ts.trans hU).bj,ig hR h1 rfl⟩⟩;refine aU (L:=ids e) func42 ntmps42 ?_ (hL:=rfl);generalize hB:ids e=B;refine fK ?_
   (have W:=jA SU TC;repeat' (first|refine aA fun K hK=>?_|refine ax ?_|(with_reducible refine gR 15 ?_);refine dE 15 (bo 0 6) mixed ?_|(refine hK _ _ ?_;clear hK K)|(refine az ?_ ?_<;>intro hc<;>try exact jz)|refine cz 9 ?_|refine cM 10 ?_|refine cT TW ?_|refine cp (tR _) ?_|refine cT hp ?_|refine ay ?_|exact jI|(clear hK K)))
   exact fL hB hR.ok hp.e2 (fun _=>rfl) (fk jC (fk jC fg)) [.tmp 6]
 have key:∀g:SK,((x.op=8/\g=(⟨#[45]⟩:SK))\/(x.op=9/\g=(⟨#[33]⟩:SK)))->kU prog 42 [mP N,cP N,.agg (du x)] e X (rB true) (To p C ((m.cut 1).push (jX g m.aj.last)) N):=fun g hg=>by
  obtain⟨N',l,hT,hU,hp⟩:=te X S0.1 jB (jX g m.aj.last) jB;rw[eN1]at hp;refine⟨N',l,⟨hT.1,hT.2.1.trans S0.2.1,hT.2.2.trans S0.2.2⟩,Ts.trans hU,⟨?_,hR.ok,hp.e2,(Ts.trans hU).bj,ig hR h1 rfl⟩⟩;refine aU (L:=ids e) func42 ntmps42 ?_ (hL:=rfl);generalize hB:ids e=B;refine fK ?_;rcases hg with⟨h,rfl⟩|⟨h,rfl⟩
  all_goals
   (have W:=jA SU TC;repeat' (first|refine aA fun K hK=>?_|refine ax ?_|(with_reducible refine gR 7 ?_);refine dE 7 (bo 0 9) mixed ?_|(with_reducible refine gR 9 ?_);refine dE 9 (bo 0 9) mixed ?_|(refine hK _ _ ?_;clear hK K)|(refine az ?_ ?_<;>intro hc<;>try exact jz)|refine cz 9 ?_|refine cT TW ?_|refine cp (MY _ _) ?_|refine cT hp ?_|refine ay ?_|exact jI|(clear hK K)))
  all_goals exact fL hB hR.ok hp.e2 (fun _=>rfl) (fk jC fg) [.tmp 6]
 by_cases h8:x.op=8
 ·rw[Gb _ _ _ _ _ h8];exact key _ (.inl ⟨h8,rfl⟩)
 ·have h9:x.op=9:=jB;rw[Iq _ _ _ _ _ h9];exact key _ (.inr ⟨h9,rfl⟩)
end
section
variable {p:ab}{C:aI}{m:MV}{N:NM}{e:SF}(X:SJ)
def Mo(hR:bU p C m N e)(h1:1<=m.calls.length)(x:av)(hx:¬(x.op=6\/x.op=23\/x.op=11\/x.op=12\/x.op=13)):eY prog 43 [mP N,cP N,.agg (du x)] e (rB false) e:=by
 have SU:=hR.ok.low;refine⟨?_,hR.ok,hR.ok,fun _ h=>h,ig hR h1 rfl⟩;refine aU (L:=ids e) func43 ntmps43 ?_ (hL:=rfl);generalize hB:ids e=B;refine fK ?_
 (have W:=SU;repeat' (first|refine aA fun K hK=>?_|refine ax ?_|(refine hK _ _ ?_;clear hK K)|(refine az ?_ ?_<;>intro hc<;>try exact jz)|refine cz 9 ?_|refine ay ?_|exact jI|(clear hK K)))
 exact fL hB hR.ok hR.ok (fun _=>rfl) (fk jC fg) [.tmp 6]
def JP(hR:bU p C m N e)(inp:SI)(x:av)(hk:p7 p C m x)(hx:x.op=6\/x.op=23\/x.op=11\/x.op=12\/x.op=13):kU prog 43 [mP N,cP N,.agg (du x)] e X (rB true) (To p C (m.ins p C inp x) N):=by
 have h1:=hk.calls;have SU:=hR.ok.low;have Ww:=hk.aj;have hT:=hR.aj h1;have U1:1<=m.aj.stack.length:=by
  by_cases VL:x.op=12
  ·have:=hk.two (.inr VL);omega
  ·exact hk.one jB
 obtain⟨N1,l1,⟨S0,UJ⟩,Ts,TW,UD⟩:=xU X hR h1 U1;have Ty:(m.cut 1).calls.length=m.calls.length:=MV.aO _ _;have WA:(m.cut 1).aj=m.aj.cut 1:=MV.bc h1 _;have Yt:(m.cut 1).aj.stack.length=m.aj.stack.length-1:=by rw[WA];show(m.aj.stack.take _).length=_;rw[List.length_take];omega
 have TC:=S0.1.ok.low;have eN1:cP N1=cP N:=by unfold cP;rw[S0.2.2]
 have eM1:mP N1=mP N:=by unfold mP;rw[S0.2.1]
 have WC:=hk.heap;rw[wv]at WC;have Y0:=S0.1.root;rw[S0.2.1]at Y0;by_cases ZR:x.op=23
 ·rw[EA _ _ _ _ _ ZR];refine⟨N1,l1,S0,Ts,⟨?_,hR.ok,TW.e2,Ts.bj,ig hR h1 rfl⟩⟩;refine aU (L:=ids e) func43 ntmps43 ?_ (hL:=rfl);generalize hB:ids e=B;refine fK ?_
  (have W:=jA SU TC;repeat' (first|refine aA fun K hK=>?_|refine ax ?_|(refine hK _ _ ?_;clear hK K)|(refine az ?_ ?_<;>intro hc<;>try exact jz)|refine cz 9 ?_|refine cT TW ?_|refine ay ?_|exact jI|(clear hK K)))
  exact fL hB hR.ok TW.e2 (fun _=>rfl) (fk jC fg) [.tmp 6]
 by_cases h6:x.op=6
 ·rw[EM _ _ _ _ _ h6];have Tr:=hk.slot jB;have hss:=hk.slots;have TO:=S0.1.wC jB (m.aj.slots.set x.a.toNat m.aj.last) (by rw[List.length_set,WA];rfl);have em:(m.cut 1).aS { (m.cut 1).aj with slots:=m.aj.slots.set x.a.toNat m.aj.last }=m.aS { m.aj.cut 1 with slots:=m.aj.slots.set x.a.toNat m.aj.last }:=by
   rw[WA];unfold MV.cut;rw[MV.dm]
  rw[em]at TO;have Xi:=(S0.1.aj jB).fp;rw[S0.2.2,WA]at Xi;have Xi:aD l1 (hn 1 N.aj.c)=some (.aK 82 3 (m.aj.slots.map bM)):=Xi;rw[S0.2.2]at TO;have TY:Up X l1 (bD l1 (hn 1 N.aj.c) (.aK 82 3 ((m.aj.slots.set x.a.toNat m.aj.last).map bM))):=Up.put _ (.inl (by rw[Xi];simp));refine⟨N1,_,⟨TO,S0.2.1,S0.2.2⟩,Ts.trans TY,⟨?_,hR.ok,TO.ok,(Ts.trans TY).bj,ig hR h1 rfl⟩⟩;have k2:=TO.ok;clear TO TY Ts em;generalize hE:bD l1 (hn 1 N.aj.c) (.aK 82 3 ((m.aj.slots.set x.a.toNat m.aj.last).map bM))=E at k2 ⊢;refine aU (L:=ids e) func43 ntmps43 ?_ (hL:=rfl);generalize hB:ids e=B;refine fK ?_
  (have W:=jA SU (jA TC (jA hT.var (Xi)));repeat' (first|refine aA fun K hK=>?_|refine ax ?_|(with_reducible refine gR 4 ?_);refine rO 4 [hn 2 N.aj.v,hn 16 N.aj.c] [] [26,1000000] [] (bo 0 12) mixed ?_|(refine hK _ _ ?_;clear hK K)|(refine az ?_ ?_<;>intro hc<;>try exact jz)|refine cz 9 ?_|refine qW TW (UD _ _) ?_|refine ay ?_|exact jI|(clear hK K)))
  subst hE;refine fL (tl:=[(9,.var 91 (du x))]) hB hR.ok k2 (fun i=>?_) (fk jC fg) [.tmp 6];rw[List.map_set];rfl
 by_cases X2:x.op=11
 ·rw[Es _ _ _ _ _ X2];have Tr:=hk.slot jB;have U8:=BG hR h1 x.a 4 Tr (by have:=hk.slots;omega);have Y1:=Qi S0.1 (di m.aj.slots x.a 4).n m.aj.last.n (by show m.heap.length<=1000;omega) (by show m.heap.flatten.length<=1000;omega);rw[S0.2.1]at Y1;have Y1:eY prog 84 [.pt (hn 5 N.k) 0 0 0,rI (di m.aj.slots x.a 4).n,rI m.aj.last.n] l1 (.bf [rI (if m.aj.last.n<0\/((bE m.heap (di m.aj.slots x.a 4).n).length:Int)<=m.aj.last.n then 0 else nth (bE m.heap (di m.aj.slots x.a 4).n) m.aj.last.n.toNat),rI (if m.aj.last.n<0\/((bE m.heap (di m.aj.slots x.a 4).n).length:Int)<=m.aj.last.n then 2 else 0)]) l1:=Y1;have eg:(if m.aj.last.n<0\/((bE m.heap (di m.aj.slots x.a 4).n).length:Int)<=m.aj.last.n then(m.cut 1).stops 3 2 else(m.cut 1).push (vI (nth (bE m.heap (di m.aj.slots x.a 4).n) m.aj.last.n.toNat)))=(m.cut 1).eK (vI (if m.aj.last.n<0\/((bE m.heap (di m.aj.slots x.a 4).n).length:Int)<=m.aj.last.n then 0 else nth (bE m.heap (di m.aj.slots x.a 4).n) m.aj.last.n.toNat),if m.aj.last.n<0\/((bE m.heap (di m.aj.slots x.a 4).n).length:Int)<=m.aj.last.n then 2 else 0):=by
   unfold MV.eK;split
   ·rename_i h;simp only[if_pos h];rfl
   ·rename_i h;simp only[if_neg h];rfl
  rw[eg];generalize (if m.aj.last.n<0\/((bE m.heap (di m.aj.slots x.a 4).n).length:Int)<=m.aj.last.n then(0:Int)else nth (bE m.heap (di m.aj.slots x.a 4).n) m.aj.last.n.toNat)=gn at Y1 ⊢;generalize (if m.aj.last.n<0\/((bE m.heap (di m.aj.slots x.a 4).n).length:Int)<=m.aj.last.n then(2:Int)else 0)=gt at Y1 ⊢;obtain⟨N',l,TE,hU,hp⟩:=xR X S0.1 jB (vI gn,gt) jB;rw[eM1]at hp;refine⟨N',l,⟨TE.1,TE.2.1.trans S0.2.1,TE.2.2.trans S0.2.2⟩,Ts.trans hU,⟨?_,hR.ok,hp.e2,(Ts.trans hU).bj,ig hR h1 rfl⟩⟩;refine aU (L:=ids e) func43 ntmps43 ?_ (hL:=rfl);generalize hB:ids e=B;refine fK ?_
  (have W:=jA SU (jA TC (hR.root));repeat' (first|refine aA fun K hK=>?_|refine ax ?_|(with_reducible refine gR 8 ?_);refine rO 8 [hn 2 N.aj.v,hn 16 N.aj.c] [44,51] [49] [] (bo 0 20) mixed ?_|(refine hK _ _ ?_;clear hK K)|(refine az ?_ ?_<;>intro hc<;>try exact jz)|refine cz 9 ?_|refine qd U8 ?_|refine qW TW (UD _ _) ?_|refine qd Y1 ?_|refine cp (tR _) ?_|refine cT hp ?_|refine ay ?_|exact jI|(clear hK K)))
  exact fL hB hR.ok hp.e2 (fun _=>rfl) (fk jC fg) [.tmp 6]
 by_cases h13:x.op=13
 ·rw[EF _ _ _ _ _ h13];by_cases c1:m.aj.last.n<0\/16<m.aj.last.n
  ·rw[if_pos c1];have Wl:=Qw S0.1 m.aj.last.n c1 (by show m.heap.length<=40;omega) (by show m.heap.flatten.length<=40;omega);rw[S0.2.1]at Wl;obtain⟨N',l,TE,hU,hp⟩:=xR X S0.1 jB (⟨4,0,sE⟩,7) jB;rw[eM1]at hp;refine⟨N',l,⟨TE.1,TE.2.1.trans S0.2.1,TE.2.2.trans S0.2.2⟩,Ts.trans hU,⟨?_,hR.ok,hp.e2,(Ts.trans hU).bj,ig hR h1 rfl⟩⟩;refine aU (L:=ids e) func43 ntmps43 ?_ (hL:=rfl);generalize hB:ids e=B;refine fK ?_
   (have W:=jA SU (jA TC (hR.root));repeat' (first|refine aA fun K hK=>?_|refine ax ?_|(with_reducible refine gR 16 ?_);refine rO 16 [hn 2 N.aj.v,hn 16 N.aj.c] [] [97] [] (bo 0 15) mixed ?_|(refine hK _ _ ?_;clear hK K)|(refine az ?_ ?_<;>intro hc<;>try exact jz)|refine cz 9 ?_|refine qW TW (UD _ _) ?_|refine cT Wl ?_|refine cT hp ?_|refine ay ?_|exact jI|(clear hK K)))
   exact fL hB hR.ok hp.e2 (fun _=>rfl) (fk jC fg) [.tmp 6]
  rw[if_neg c1];by_cases c2:40<fF m.heap+m.aj.last.n+1
  ·rw[if_pos c2];have Wl:=RW S0.1 m.aj.last.n jB (by show 40<(m.heap.length:Int)+m.heap.flatten.length+m.aj.last.n+1;rw[wv]at c2;omega) (by show m.heap.length<=40;omega) (by show m.heap.flatten.length<=40;omega);rw[S0.2.1]at Wl;obtain⟨N',l,TE,hU,hp⟩:=xR X S0.1 jB (⟨4,0,sE⟩,4) jB;rw[eM1]at hp;refine⟨N',l,⟨TE.1,TE.2.1.trans S0.2.1,TE.2.2.trans S0.2.2⟩,Ts.trans hU,⟨?_,hR.ok,hp.e2,(Ts.trans hU).bj,ig hR h1 rfl⟩⟩;refine aU (L:=ids e) func43 ntmps43 ?_ (hL:=rfl);generalize hB:ids e=B;refine fK ?_
   (have W:=jA SU (jA TC (hR.root));repeat' (first|refine aA fun K hK=>?_|refine ax ?_|(with_reducible refine gR 16 ?_);refine rO 16 [hn 2 N.aj.v,hn 16 N.aj.c] [] [97] [] (bo 0 15) mixed ?_|(refine hK _ _ ?_;clear hK K)|(refine az ?_ ?_<;>intro hc<;>try exact jz)|refine cz 9 ?_|refine qW TW (UD _ _) ?_|refine cT Wl ?_|refine cT hp ?_|refine ay ?_|exact jI|(clear hK K)))
   exact fL hB hR.ok hp.e2 (fun _=>rfl) (fk jC fg) [.tmp 6]
  rw[if_neg c2];obtain⟨N2,l2,TE,TY,Wl⟩:=Pg X S0.1 m.aj.last.n jB (by show fF m.heap+_+1<=40;omega) (wv _);rw[S0.2.1]at Wl;have Wl:eY prog 87 [.pt (hn 5 N.k) 0 0 0,rI m.aj.last.n] l1 (.bf [rI (m.heap.length+1:Nat),rI 0]) l2:=Wl;obtain⟨N',l,X3,hU3,hp⟩:=te X TE.1 (by show 1<=(m.cut 1).calls.length;omega) ⟨4,m.heap.length+1,sE⟩ (by show(m.cut 1).aj.stack.length<=1000;omega);obtain⟨N'',l',hT4,hU4,hp4⟩:=xR X TE.1 (by show 1<=(m.cut 1).calls.length;omega) (⟨4,m.heap.length+1,sE⟩,0) (by show(m.cut 1).aj.stack.length<=1000;omega);rw[show mP N2=mP N by unfold mP;rw[TE.2.1,S0.2.1]]at hp4;have Vm:=TE.1.ok.low;refine⟨N'',l',⟨hT4.1,hT4.2.1.trans (TE.2.1.trans S0.2.1),hT4.2.2.trans (TE.2.2.trans S0.2.2)⟩,Ts.trans (TY.trans hU4),⟨?_,hR.ok,hp4.e2,(Ts.trans (TY.trans hU4)).bj,ig hR h1 rfl⟩⟩;refine aU (L:=ids e) func43 ntmps43 ?_ (hL:=rfl);generalize hB:ids e=B;refine fK ?_
  (have W:=jA SU (jA TC (jA Vm (hR.root)));repeat' (first|refine aA fun K hK=>?_|refine ax ?_|(with_reducible refine gR 16 ?_);refine rO 16 [hn 2 N.aj.v,hn 16 N.aj.c] [] [97] [] (bo 0 15) mixed ?_|(refine hK _ _ ?_;clear hK K)|(refine az ?_ ?_<;>intro hc<;>try exact jz)|refine cz 9 ?_|refine qW TW (UD _ _) ?_|refine cT Wl ?_|refine cT hp4 ?_|refine ay ?_|exact jI|(clear hK K)))
  exact fL hB hR.ok hp4.e2 (fun _=>rfl) (fk jC fg) [.tmp 6]
 have VL:x.op=12:=jB;rw[IE _ _ _ _ _ VL];have h2:=hk.two (.inr VL);have Tr:=hk.slot jB;have U8:=BG S0.1 jB x.a 4 (by rw[WA];exact Tr) (by rw[WA];have:=hk.slots;show m.aj.slots.length<=1000;omega);rw[eN1,WA]at U8;have U8:eY prog 78 [cP N,rI x.a,rI 4] l1 (rV (di m.aj.slots x.a 4)) l1:=U8;obtain⟨N2,l2,⟨TE,WU⟩,TY,Wz,YC⟩:=xU X S0.1 jB jB;rw[eN1,WA]at Wz;rw[UJ,S0.2.2]at YC;have ecc:(m.cut 1).cut 1=m.cut 2:=DU h1 1 1 jB;rw[ecc]at TE;have Vm:=TE.1.ok.low;have Vr:(m.cut 2).calls.length=m.calls.length:=MV.aO _ _;have ek:N2.k=N.k:=TE.2.1.trans S0.2.1;by_cases hi:(m.aj.cut 1).last.n<0\/((bE m.heap (di m.aj.slots x.a 4).n).length:Int)<=(m.aj.cut 1).last.n
 ·rw[if_pos hi];have WK:=ON TE.1 (di m.aj.slots x.a 4).n (m.aj.cut 1).last.n m.aj.last.n (by show m.heap.length<=1000;omega) (by show m.heap.flatten.length<=1000;omega) hi;rw[ek]at WK;obtain⟨N',l,X3,hU,hp⟩:=xp X TE.1 jB 3 2;rw[show mP N2=mP N by unfold mP;rw[ek]]at hp;refine⟨N',l,⟨X3.1,X3.2.1.trans ek,X3.2.2.trans (TE.2.2.trans S0.2.2)⟩,Ts.trans (TY.trans hU),⟨?_,hR.ok,hp.e2,(Ts.trans (TY.trans hU)).bj,ig hR h1 rfl⟩⟩;refine aU (L:=ids e) func43 ntmps43 ?_ (hL:=rfl);generalize hB:ids e=B;refine fK ?_
  (have W:=jA SU (jA TC (jA Vm (jA Y0 (S0.2.1))));repeat' (first|refine aA fun K hK=>?_|refine ax ?_|(with_reducible refine gR 12 ?_);refine rO 12 [hn 2 N.aj.v,hn 16 N.aj.c] [73] [78] [] [0,1,2,3,4,5,6,7,8,9,10,11,14,12,13,15,16] mixed ?_|(refine hK _ _ ?_;clear hK K)|(refine az ?_ ?_<;>intro hc<;>try exact jz)|refine cz 9 ?_|refine cT TW ?_|refine qd U8 ?_|refine qW Wz (YC _ _) ?_|refine cT WK ?_|refine cT hp ?_|refine ay ?_|exact jI|(clear hK K)))
  exact fL hB hR.ok hp.e2 (fun _=>rfl) (fk jC fg) [.tmp 6]
 ·rw[if_neg hi];obtain⟨N',l,X3,hU,hp⟩:=Ro X TE.1 (di m.aj.slots x.a 4).n (m.aj.cut 1).last.n m.aj.last.n (by show m.heap.length<=1000;omega) (by show m.heap.flatten.length<=1000;omega) hi;rw[ek]at hp;refine⟨N',l,⟨X3.1,X3.2.1.trans ek,X3.2.2.trans (TE.2.2.trans S0.2.2)⟩,Ts.trans (TY.trans hU),⟨?_,hR.ok,hp.e2,(Ts.trans (TY.trans hU)).bj,ig hR h1 rfl⟩⟩;refine aU (L:=ids e) func43 ntmps43 ?_ (hL:=rfl);generalize hB:ids e=B;refine fK ?_
  (have W:=jA SU (jA TC (jA Vm (jA Y0 (S0.2.1))));repeat' (first|refine aA fun K hK=>?_|refine ax ?_|(with_reducible refine gR 12 ?_);refine rO 12 [hn 2 N.aj.v,hn 16 N.aj.c] [73] [78] [] [0,1,2,3,4,5,6,7,8,9,10,11,14,12,13,15,16] mixed ?_|(refine hK _ _ ?_;clear hK K)|(refine az ?_ ?_<;>intro hc<;>try exact jz)|refine cz 9 ?_|refine cT TW ?_|refine qd U8 ?_|refine qW Wz (YC _ _) ?_|refine cT hp ?_|refine ay ?_|exact jI|(clear hK K)))
  exact fL hB hR.ok hp.e2 (fun _=>rfl) (fk jC fg) [.tmp 6]
end
end Go.Proofs.YtbjookcdpondlaaGreatDoor
namespace Go.Proofs.YtbjookcdpondlaaGreatDoor
open Go Go.Gd Tryz
def KP(l:List SK)(hl:l.length<=1000)(i:Nat):ai prog 26 [bh eS 1 l] [] (fun r l'=>r=.rs i l.length 1 l.length/\l'=[(i,.aK 9 1 (l.map eS))]):=by
 refine aU func26 ntmps26 ?_
 (repeat' (first|refine aA fun K hK=>?_|refine ax ?_|(refine hK _ _ ?_;clear hK K)|(refine az ?_ ?_<;>intro hc<;>try exact jz)|(with_reducible refine fun(b:Bool) hb=>?_)|refine pm i ?_|refine ay ?_|exact jI|(clear hK K)))
 ·have Ul:l=[]:=by simpa using hb hc
  subst Ul;exact BN i 9 1 jC [.tmp 2] rfl rfl trivial
 ·(refine cr [.tmp 2] ?_ ?_<;>(try simp only[go_sem]))
def FR(l:List (ak))(hl:l.length<=1000)(i:Nat):ai prog 27 [bh bM 3 l] [] (fun r l'=>r=.rs i l.length 3 l.length/\l'=[(i,.aK 82 3 (l.map bM))]):=by
 refine aU func27 ntmps27 ?_
 (repeat' (first|refine aA fun K hK=>?_|refine ax ?_|(refine hK _ _ ?_;clear hK K)|(refine az ?_ ?_<;>intro hc<;>try exact jz)|(with_reducible refine fun(b:Bool) hb=>?_)|refine pm i ?_|refine ay ?_|exact jI|(clear hK K)))
 ·have Ul:l=[]:=by simpa using hb hc
  subst Ul;exact BN i 82 3 jC [.tmp 2] rfl rfl trivial
 ·(refine cr [.tmp 2] ?_ ?_<;>(try simp only[go_sem]))
def Lk(l:List (Int))(hl:l.length<=1000)(i:Nat):ai prog 50 [bh eI 1 l] [] (fun r l'=>r=.rs i l.length 1 l.length/\l'=[(i,.aK 3 1 (l.map eI))]):=by
 refine aU func50 ntmps50 ?_
 (repeat' (first|refine aA fun K hK=>?_|refine ax ?_|(refine hK _ _ ?_;clear hK K)|(refine az ?_ ?_<;>intro hc<;>try exact jz)|(with_reducible refine fun(b:Bool) hb=>?_)|refine pm i ?_|refine ay ?_|exact jI|(clear hK K)))
 ·have Ul:l=[]:=by simpa using hb hc
  subst Ul;exact BN i 3 1 jC [.tmp 2] rfl rfl trivial
 ·(refine cr [.tmp 2] ?_ ?_<;>(try simp only[go_sem]))
end Go.Proofs.YtbjookcdpondlaaGreatDoor
namespace Go.Proofs.YtbjookcdpondlaaGreatDoor
open Go Go.Gd Tryz Go.Gd.MV
section
variable {p:ab}{C:aI}{m:MV}{N:NM}{e:SF}(X:SJ)
def JT(hR:bU p C m N e)(h1:1<=m.calls.length)(x:av)(hx:¬(x.op=20\/x.op=21\/x.op=22)):eY prog 45 [mP N,cP N,.agg (du x)] e (rB false) e:=by
 have SU:=hR.ok.low;refine⟨?_,hR.ok,hR.ok,fun _ h=>h,ig hR h1 rfl⟩;refine aU (L:=ids e) func45 ntmps45 ?_ (hL:=rfl);generalize hB:ids e=B;refine fK ?_
 (have W:=SU;repeat' (first|refine aA fun K hK=>?_|refine ax ?_|(refine hK _ _ ?_;clear hK K)|(refine az ?_ ?_<;>intro hc<;>try exact jz)|refine cz 9 ?_|refine ay ?_|exact jI|(clear hK K)))
 exact fL hB hR.ok hR.ok (fun _=>rfl) (fk jC fg) [.tmp 6]
def OY(h1:1<=m.calls.length)(b:Nat)(hd:∀k,k<m.calls.length->(nth m.calls k).stack.length<=1000):∀k,k<(m.cut b).calls.length->(nth (m.cut b).calls k).stack.length<=1000:=fun k hk=>by
 have hl:(m.cut b).calls.length=m.calls.length:=MV.aO _ _;have e1:nth (m.cut b).calls k=if k=m.calls.length-1 then m.aj.cut b else nth m.calls k:=Go.Gd.aY _ _ _ _ jB
 rw[e1];split
 ·show(m.aj.stack.take _).length<=_;have:m.aj.stack.length<=1000:=hd (m.calls.length-1) jB;rw[List.length_take];omega
 ·exact hd k jB
def zm(x:ak):lH (bM x)=true:=rfl
def JF(hR:bU p C m N e)(inp:SI)(x:av)(hk:p7 p C m x)(hx:x.op=20\/x.op=21\/x.op=22):kU prog 45 [mP N,cP N,.agg (du x)] e X (rB true) (fun N' l=>bU p C (m.ins p C inp x) N' l/\N'.k=N.k):=by
 have h1:=hk.calls;have SU:=hR.ok.low;have hT:=hR.aj h1;have hl:=hR.len;by_cases YZ:x.op=22
 ·have ei:m.ins p C inp x=m.ends (vZ x.a):=EY _ _ _ _ _ YZ;rw[ei];obtain⟨N',l,S0,hU,hp⟩:=DK X hR h1 (vZ x.a) hk.deep;refine⟨N',l,S0,hU,⟨?_,hR.ok,hp.e2,hU.bj,ig hR h1 rfl⟩⟩;refine aU (L:=ids e) func45 ntmps45 ?_ (hL:=rfl);generalize hB:ids e=B;refine fK ?_
  (have W:=SU;repeat' (first|refine aA fun K hK=>?_|refine ax ?_|(refine hK _ _ ?_;clear hK K)|(refine az ?_ ?_<;>intro hc<;>try exact jz)|refine cz 9 ?_|refine cp (CV _) ?_|refine cT hp ?_|refine ay ?_|exact jI|(clear hK K)))
  exact fL hB hR.ok hp.e2 (fun _=>rfl) (fk jC fg) [.tmp 6]
 by_cases ZS:x.op=21
 ·have ei:m.ins p C inp x=(m.cut 1).ends m.aj.last:=HM _ _ _ _ _ ZS;rw[ei];obtain⟨N1,l1,S0,Ts,TW⟩:=Et X hR h1 (hk.one jB);have X2:1<=(m.cut 1).calls.length:=by rw[show(m.cut 1).calls.length=m.calls.length from MV.aO _ _];exact h1
  obtain⟨N',l,TE,hU,hp⟩:=DK X S0.1 X2 m.aj.last (OY h1 1 hk.deep);rw[show mP N1=mP N by unfold mP;rw[S0.2.1]]at hp;have TC:=S0.1.ok.low;refine⟨N',l,⟨TE.1,TE.2.trans S0.2.1⟩,Ts.trans hU,⟨?_,hR.ok,hp.e2,(Ts.trans hU).bj,ig hR h1 rfl⟩⟩;refine aU (L:=ids e) func45 ntmps45 ?_ (hL:=rfl);generalize hB:ids e=B;refine fK ?_
  (have W:=jA SU TC;repeat' (first|refine aA fun K hK=>?_|refine ax ?_|(refine hK _ _ ?_;clear hK K)|(refine az ?_ ?_<;>intro hc<;>try exact jz)|refine cz 9 ?_|refine cT TW ?_|refine cT hp ?_|refine ay ?_|exact jI|(clear hK K)))
  exact fL hB hR.ok hp.e2 (fun _=>rfl) (fk jC fg) [.tmp 6]
 have Z0:x.op=20:=jB;obtain⟨c1,c2,c3⟩:=hk.call Z0;obtain⟨b,hb⟩:∃b:Nat,x.b=b:=⟨x.b.toNat,jB⟩;have ZZ:x.b.toNat=b:=jB;rw[ZZ]at c3;have Us:b<=m.aj.stack.length:=jB;have Ww:=hk.aj;have T7:=hR.A3 h1 b Us;have Ts:Up X e (bD e (hn 0 N.aj.c) (.var 89 (MV.cE (m.aj.cut b) ⟨N.aj.c,N.aj.v,m.aj.stack.drop (m.aj.stack.length-b)++N.aj.jk⟩))):=Up.put _ (.inl (by rw[hT.var];simp));have eC:MV.cE (m.aj.cut b) ⟨N.aj.c,N.aj.v,m.aj.stack.drop (m.aj.stack.length-b)++N.aj.jk⟩=[.rs (hn 2 N.aj.v) (m.aj.stack.length+N.aj.jk.length) 3 (m.aj.stack.length-b),.raw (.int .i64 m.aj.fn),.raw (.int .i64 m.aj.at_),.raw (.int .i64 m.aj.mark),.rs (hn 1 N.aj.c) m.aj.slots.length 3 m.aj.slots.length]:=by
  have e1:(m.aj.cut b).stack.length=m.aj.stack.length-b:=by show(m.aj.stack.take _).length=_;rw[List.length_take];omega
  unfold MV.cE;rw[e1,List.length_append,List.length_drop,show m.aj.stack.length-b+(m.aj.stack.length-(m.aj.stack.length-b)+N.aj.jk.length)=m.aj.stack.length+N.aj.jk.length from jB];rfl
 rw[eC]at T7 Ts;have S9:=FR (m.aj.stack.drop (m.aj.stack.length-b)) (by rw[List.length_drop];omega) 10;have VE:(m.cut b).calls.length=m.calls.length:=MV.aO _ _;have TC:=T7.ok.low;by_cases h8:8<=m.calls.length
 ·have ei:m.ins p C inp x=(m.cut b).stops 3 3:=by rw[BJ _ _ _ _ _ Z0,if_pos h8,ZZ]
  rw[ei];obtain⟨N',l,TE,hU,hp⟩:=xp X T7 jB 3 3;refine⟨N',l,⟨TE.1,TE.2.1⟩,Ts.trans hU,⟨?_,hR.ok,hp.e2,(Ts.trans hU).bj,ig hR h1 rfl⟩⟩;clear eC Ts hU;refine aU (L:=ids e) func45 ntmps45 ?_ (hL:=rfl);generalize hB:ids e=B;refine fK ?_
  (have W:=jA SU (jA hR.root (jA hT.var (hb)));repeat' (first|refine aA fun K hK=>?_|refine ax ?_|(with_reducible refine gR 4 ?_);refine dE 4 (bo 0 10) mixed ?_|(refine hK _ _ ?_;clear hK K)|(refine az ?_ ?_<;>intro hc<;>try exact jz)|refine cz 9 ?_|refine Ca 10 zm S9 (by show aD (tie _ _) _=_;rw[l7,SU _ jC];rfl) (Eh m.aj.stack N.aj.jk (by show aD (tie _ _) _=_;rw[l7,hT.cS];rfl) rfl jB jC) ?_|refine cT hp ?_|refine ay ?_|exact jI|(clear hK K)))
  exact fL hB hR.ok hp.e2 (fun _=>rfl) (fk jC fg) [.tmp 6]
 ·have ei:m.ins p C inp x=(m.cut b).cV p C x.a (m.aj.stack.drop (m.aj.stack.length-b)):=by rw[BJ _ _ _ _ _ Z0,if_neg h8,ZZ]
  rw[ei];obtain⟨f0,f1,f2,s0,s1,s2,b1,h8'⟩:=c3 jB;obtain⟨N',l,TE,hU,hp⟩:=Jm X T7 x.a (m.aj.stack.drop (m.aj.stack.length-b)) ⟨f0,f1,f2,s0,s1,s2,b1,by rw[VE];exact h8'⟩;refine⟨N',l,⟨TE.1,TE.2⟩,Ts.trans hU,⟨?_,hR.ok,hp.e2,(Ts.trans hU).bj,ig hR h1 rfl⟩⟩;clear eC Ts hU;refine aU (L:=ids e) func45 ntmps45 ?_ (hL:=rfl);generalize hB:ids e=B;refine fK ?_
  (have W:=jA SU (jA hR.root (jA hT.var (hb)));repeat' (first|refine aA fun K hK=>?_|refine ax ?_|(with_reducible refine gR 4 ?_);refine dE 4 (bo 0 10) mixed ?_|(refine hK _ _ ?_;clear hK K)|(refine az ?_ ?_<;>intro hc<;>try exact jz)|refine cz 9 ?_|refine Ca 10 zm S9 (by show aD (tie _ _) _=_;rw[l7,SU _ jC];rfl) (Eh m.aj.stack N.aj.jk (by show aD (tie _ _) _=_;rw[l7,hT.cS];rfl) rfl jB jC) ?_|refine cT hp ?_|refine ay ?_|exact jI|(clear hK K)))
  exact fL hB hR.ok hp.e2 (fun _=>rfl) (fk jC fg) [.tmp 6]
end
def Li{p:ab}{C:aI}{m:MV}{n:Nat}(h:Bd n m)(hn:n<=1000)(hok:m.cX p C)(hC:C.entry.length<=1000)(hP:p.size.length<=1000):p7 p C (m.aS (m.aj.jump (m.aj.at_+1))) (m.br C):=by
 have h1:=hok.calls;have ht:(m.aS (m.aj.jump (m.aj.at_+1))).aj=m.aj.jump (m.aj.at_+1):=MV.bc h1 _;have hl:(m.aS (m.aj.jump (m.aj.at_+1))).calls.length=m.calls.length:=MV.aO _ _;have P':(m.aj.jump (m.aj.at_+1)).stack=m.aj.stack:=rfl;have Tr:(m.aj.jump (m.aj.at_+1)).slots=m.aj.slots:=rfl;have S6:(m.aj.jump (m.aj.at_+1)).last=m.aj.last:=rfl;refine⟨by rw[hl];exact h1,by rw[hl];exact hok.nn,?_,?_,?_,?_,?_,fun Z0=>?_,?_,?_,fun k hk=>?_,?_,h.heap,h.outs,h.gV,by have:=h.hZ;show m.in_<=1000;omega⟩
 ·rw[ht,P'];exact hok.one
 ·rw[ht,P'];exact hok.two
 ·rw[ht,Tr];exact hok.slot
 ·rw[ht,S6];exact hok.bool
 ·rw[ht,S6];exact hok.len
 ·obtain⟨c1,c2,c3,c4,c5,c6,c7,c8,c9⟩:=hok.call Z0;rw[ht,P'];refine⟨c1,c2,fun h8=>⟨c4,c5,c6,c7,c8,?_,⟨hC,hP⟩,hok.nn |> (by rw[hl];exact·)⟩⟩;rw[List.length_drop];omega
 ·rw[ht,S6];exact hok.word
 ·rw[ht,P'];exact hok.ko
 ·rw[hl]at hk;have e:nth (m.aS (m.aj.jump (m.aj.at_+1))).calls k=if k=m.calls.length-1 then m.aj.jump (m.aj.at_+1)else nth m.calls k:=Go.Gd.aY _ _ _ _ jB
  rw[e];split
  ·exact hok.deep
  ·exact h.deep k jB
 ·rw[ht,Tr];exact h.aj h1
def OA{h:SH}{a i:Int}(hi:¬(i<0\/((MV.bE h a).length:Int)<=i)):(a-1).toNat<h.length/\i.toNat<(nth h (a-1).toNat).length:=by
 unfold MV.bE at hi;by_cases e:a<1\/(h.length:Int)<a
 ·rw[if_pos e]at hi;simp only[List.length_nil]at hi;omega
 ·rw[if_neg e]at hi;omega
def Pb{p:ab}{C:aI}{m:MV}{inp:SI}{x:av}(h:Bd inp.length m)(hk:p7 p C m x):Bd inp.length (m.ins p C inp x):=by
 have h1:=hk.calls;have YF:∀k,(m.cut k).calls.length=m.calls.length:=fun k=>MV.aO _ _
 have hc:∀k,Bd inp.length (m.cut k):=fun k=>h.cut h1 k
 have Ty:∀k,1<=(m.cut k).calls.length:=fun k=>by rw[YF];exact h1
 by_cases a:x.op=2
 ·rw[Qn _ _ _ _ _ a];exact h.push h1 _
 by_cases a:x.op=3
 ·rw[Kh _ _ _ _ _ a];exact h.push h1 _
 by_cases a:x.op=4
 ·rw[M0 _ _ _ _ _ a];exact h.push h1 _
 by_cases a:x.op=5
 ·rw[Kq _ _ _ _ _ a];exact h.push h1 _
 by_cases a:x.op=6
 ·rw[EM _ _ _ _ _ a];refine h.aS ?_;show(m.aj.slots.set _ _).length<=24;rw[List.length_set];exact hk.slots
 by_cases a:x.op=7
 ·rw[Ep _ _ _ _ _ a];exact(hc 2).eK (Ty 2) _
 by_cases a:x.op=8
 ·rw[Gb _ _ _ _ _ a];exact(hc 1).push (Ty 1) _
 by_cases a:x.op=9
 ·rw[Iq _ _ _ _ _ a];exact(hc 1).push (Ty 1) _
 by_cases a:x.op=10
 ·rw[D3 _ _ _ _ _ a];exact(hc 1).push (Ty 1) _
 by_cases a:x.op=11
 ·rw[Es _ _ _ _ _ a];split
  ·exact(hc 1).stops (Ty 1) _ _
  ·exact(hc 1).push (Ty 1) _
 by_cases a:x.op=12
 ·rw[IE _ _ _ _ _ a];split
  ·exact(hc 2).stops (Ty 2) _ _
  ·rename_i hi;refine(hc 2).ob ?_;obtain⟨q1,q2⟩:=OA hi;rw[Cq _ _ _ q1 (by rw[List.length_set])];exact h.heap
 by_cases a:x.op=13
 ·rw[EF _ _ _ _ _ a];split
  ·exact(hc 1).stops (Ty 1) _ _
  ·split
   ·exact(hc 1).stops (Ty 1) _ _
   ·refine((hc 1).push (Ty 1) _).ob ?_;rw[D9,List.length_replicate];omega
 by_cases a:x.op=14
 ·rw[GM _ _ _ _ _ a];split
  ·exact h.stops h1 _ _
  ·have:=h.push h1 (vI (nth inp m.in_.toNat));have h0:=h.gV;exact⟨this.deep,this.slots,this.heap,this.outs,by show 0<=m.in_+1;omega,by show m.in_+1<=_;omega⟩
 by_cases a:x.op=15
 ·rw[IB _ _ _ _ _ a];split
  ·exact h.stops h1 _ _
  ·have:=hc 1;exact⟨this.deep,this.slots,this.heap,by show(m.aC++[_]).length<=24;rw[List.length_append,List.length_singleton];omega,this.gV,this.hZ⟩
 by_cases a:x.op=16
 ·rw[JS _ _ _ _ _ a];exact h.aS hk.slots
 by_cases a:x.op=17
 ·rw[JC _ _ _ _ _ a];split
  ·exact h.aS hk.slots
  ·exact hc 1
 by_cases a:x.op=18\/x.op=19
 ·rw[Ni _ _ _ _ _ a];split
  ·exact h.aS hk.slots
  ·exact hc 1
 by_cases a:x.op=20
 ·rw[BJ _ _ _ _ _ a];split
  ·exact(hc _).stops (Ty _) _ _
  ·rename_i h8;obtain⟨c1,c2,c3⟩:=hk.call a;have c3:=c3 jB;refine(hc _).cV (Ty _) ?_ c3.s1 c3.s2;rw[show(m.cut x.b.toNat).aj=m.aj.cut x.b.toNat from MV.bc h1 _];show(m.aj.stack.take _).length<=1000;have:=hk.aj;rw[List.length_take];omega
 by_cases a:x.op=21
 ·rw[HM _ _ _ _ _ a];exact(hc 1).ends _
 by_cases a:x.op=22
 ·rw[EY _ _ _ _ _ a];exact h.ends _
 by_cases a:x.op=23
 ·rw[EA _ _ _ _ _ a];exact hc 1
 ·rw[Nl _ _ _ _ _ jB];exact h
section
variable {p:ab}{C:aI}{m:MV}{N:NM}{e:SF}(X:SJ)
def OC(hR:bU p C m N e)(inp:SI)(x:av)(hk:p7 p C m x)(TH:inp.length<=1000)(hx:x.op=14\/x.op=15):kU prog 46 [mP N,cP N,.agg (du x),bh eI 1 inp] e X (.bf []) (To p C (m.ins p C inp x) N):=by
 have h1:=hk.calls;have SU:=hR.ok.low;have Ww:=hk.aj;have gV:=hk.gV;have hZ:=hk.hZ;have hou:=hk.outs;by_cases YX:x.op=14
 ·rw[GM _ _ _ _ _ YX];by_cases hw:(inp.length:Int)<=m.in_
  ·rw[if_pos hw];obtain⟨N',l,hT,hU,hp⟩:=xp X hR h1 1 0;refine⟨N',l,hT,hU,⟨?_,hR.ok,hp.e2,hU.bj,ig hR h1 rfl⟩⟩;refine aU (L:=ids e) func46 ntmps46 ?_ (hL:=rfl);generalize hB:ids e=B;refine fK ?_
   (have W:=jA SU (hR.root);repeat' (first|refine aA fun K hK=>?_|refine ax ?_|(refine hK _ _ ?_;clear hK K)|(refine az ?_ ?_<;>intro hc<;>try exact jz)|refine cz 9 ?_|refine cT hp ?_|refine ay ?_|exact jI|(clear hK K)))
   exact fL hB hR.ok hp.e2 (fun _=>rfl) (fk jC fg) []
  ·rw[if_neg hw];obtain⟨N1,l1,S0,Ts,TW⟩:=te X hR h1 (vI (nth inp m.in_.toNat)) Ww;have TO:=S0.1.mO (m':={ m.push (vI (nth inp m.in_.toNat))with in_:=m.in_+1 }) rfl rfl rfl;have TC:=S0.1.ok.low;have VD:=S0.1.root;rw[S0.2.1]at VD;have TP:(m.push (vI (nth inp m.in_.toNat))).in_=m.in_:=rfl;have TY:Up X l1 (bD l1 (hn 3 N1.k) (.var 68 (mE p C { m.push (vI (nth inp m.in_.toNat))with in_:=m.in_+1 } N1))):=Up.put _ (.inl (by rw[S0.2.1,VD];simp));refine⟨N1,_,⟨TO,S0.2.1,S0.2.2⟩,Ts.trans TY,⟨?_,hR.ok,TO.ok,(Ts.trans TY).bj,ig hR h1 rfl⟩⟩;have k2:=TO.ok;clear TO Ts TY;generalize hE:bD l1 (hn 3 N1.k) (.var 68 (mE p C { m.push (vI (nth inp m.in_.toNat))with in_:=m.in_+1 } N1))=E at k2 ⊢;refine aU (L:=ids e) func46 ntmps46 ?_ (hL:=rfl);generalize hB:ids e=B;refine fK ?_
   (have W:=jA SU (jA TC (jA hR.root (jA VD (jA S0.2.1 (TP)))));repeat' (first|refine aA fun K hK=>?_|refine ax ?_|(with_reducible refine gR 4 ?_);refine dE 4 (bo 0 12) mixed ?_|(refine hK _ _ ?_;clear hK K)|(refine az ?_ ?_<;>intro hc<;>try exact jz)|refine cz 9 ?_|refine cp (tR _) ?_|refine cT TW ?_|refine ay ?_|exact jI|(clear hK K)))
   subst hE;refine fL (tl:=[(9,.var 91 (du x))]) hB hR.ok k2 (fun i=>?_) (fk jC fg) [];have:=S0.2.1;unfold mE;rw[this];rfl
 have YY:x.op=15:=jB;rw[IB _ _ _ _ _ YY];by_cases ho:24<=m.aC.length
 ·rw[if_pos ho];obtain⟨N',l,hT,hU,hp⟩:=xp X hR h1 3 5;refine⟨N',l,hT,hU,⟨?_,hR.ok,hp.e2,hU.bj,ig hR h1 rfl⟩⟩;refine aU (L:=ids e) func46 ntmps46 ?_ (hL:=rfl);generalize hB:ids e=B;refine fK ?_
  (have W:=jA SU (hR.root);repeat' (first|refine aA fun K hK=>?_|refine ax ?_|(refine hK _ _ ?_;clear hK K)|(refine az ?_ ?_<;>intro hc<;>try exact jz)|refine cz 9 ?_|refine cT hp ?_|refine ay ?_|exact jI|(clear hK K)))
  exact fL hB hR.ok hp.e2 (fun _=>rfl) (fk jC fg) []
 ·rw[if_neg ho];have U1:=hk.one jB;obtain⟨N1,l1,⟨S0,UJ⟩,Ts,TW,UD⟩:=xU X hR h1 U1;have TO:=S0.1.CW (m':={ m.cut 1 with aC:=m.aC++[iN m.aj.last] }) rfl rfl;have TC:=S0.1.ok.low;have VD:=S0.1.root;have Z1:=S0.1.outs;rw[S0.2.1]at VD Z1;have TY:Up X l1 (bD (bD l1 (hn 8 N1.k) (.aK 9 1 ((m.aC++[iN m.aj.last]).map eS))) (hn 3 N1.k) (.var 68 (mE p C { m.cut 1 with aC:=m.aC++[iN m.aj.last] } N1))):=by
   refine(Up.put _ (.inl ?_)).trans (Up.put _ (.inl ?_))
   ·rw[S0.2.1,Z1];simp
   ·rw[cd,if_neg (dq jB jB jB),S0.2.1,VD];simp
  have hwd:=Rf m.aj.last (hk.word YY);refine⟨N1,_,⟨TO,S0.2.1,S0.2.2⟩,Ts.trans TY,⟨?_,hR.ok,TO.ok,(Ts.trans TY).bj,ig hR h1 rfl⟩⟩;have k2:=TO.ok;clear TO Ts TY;have Z1:aD l1 (hn 8 N.k)=some (.aK 9 1 (m.aC.map eS)):=Z1;show ai _ _ _ _ fun r l'=>r=_/\l'=bD (bD l1 (hn 8 N1.k) (.aK 9 1 ((m.aC++[iN m.aj.last]).map eS))) (hn 3 N1.k) (.var 68 (mE p C { m.cut 1 with aC:=m.aC++[iN m.aj.last] } N1))
  have k2:gZ 0 (bD (bD l1 (hn 8 N1.k) (.aK 9 1 ((m.aC++[iN m.aj.last]).map eS))) (hn 3 N1.k) (.var 68 (mE p C { m.cut 1 with aC:=m.aC++[iN m.aj.last] } N1))):=k2;generalize hE:bD (bD l1 (hn 8 N1.k) (.aK 9 1 ((m.aC++[iN m.aj.last]).map eS))) (hn 3 N1.k) (.var 68 (mE p C { m.cut 1 with aC:=m.aC++[iN m.aj.last] } N1))=E at k2 ⊢;refine aU (L:=ids e) func46 ntmps46 ?_ (hL:=rfl);generalize hB:ids e=B;refine fK ?_
  (have W:=jA SU (jA TC (jA hR.root (jA VD (jA Z1 (S0.2.1)))));repeat' (first|refine aA fun K hK=>?_|refine ax ?_|(with_reducible refine gR 9 ?_);refine rO 9 [hn 2 N.aj.v,hn 16 N.aj.c] [73] [72,1000000] [] (bo 0 15) mixed ?_|(refine hK _ _ ?_;clear hK K)|(refine az ?_ ?_<;>intro hc<;>try exact jz)|refine cz 9 ?_|refine qW TW (UD _ _) ?_|refine cq (hwd) ?_|refine ay ?_|exact jI|(clear hK K)))
  subst hE;refine fL (tl:=[(9,.var 91 (du x))]) hB hR.ok k2 (fun i=>?_) (fk jC fg) [];have:=S0.2.1;have e1:(m.aC++[iN m.aj.last]).length=m.aC.length+1:=jE;unfold mE;dsimp only;rw[this,List.map_append,e1];rfl
end
section
variable {p:ab}{C:aI}(X:SJ)
inductive tG(inp:List Int)(N:NM)(x:av)(e l:List (Nat×Row)):Prop
 |a (h:eY prog 41 [mP N,cP N,.agg (du x)] e (rB true) l)
 |b (h1:eY prog 41 [mP N,cP N,.agg (du x)] e (rB false) e) (h:eY prog 42 [mP N,cP N,.agg (du x)] e (rB true) l)
 |c (h1:eY prog 41 [mP N,cP N,.agg (du x)] e (rB false) e) (h2:eY prog 42 [mP N,cP N,.agg (du x)] e (rB false) e) (h:eY prog 43 [mP N,cP N,.agg (du x)] e (rB true) l)
 |d (h1:eY prog 41 [mP N,cP N,.agg (du x)] e (rB false) e) (h2:eY prog 42 [mP N,cP N,.agg (du x)] e (rB false) e) (h3:eY prog 43 [mP N,cP N,.agg (du x)] e (rB false) e) (h:eY prog 44 [mP N,cP N,.agg (du x)] e (rB true) l)
 |e (h1:eY prog 41 [mP N,cP N,.agg (du x)] e (rB false) e) (h2:eY prog 42 [mP N,cP N,.agg (du x)] e (rB false) e) (h3:eY prog 43 [mP N,cP N,.agg (du x)] e (rB false) e) (h4:eY prog 44 [mP N,cP N,.agg (du x)] e (rB false) e) (h:eY prog 45 [mP N,cP N,.agg (du x)] e (rB true) l)
 |f (h1:eY prog 41 [mP N,cP N,.agg (du x)] e (rB false) e) (h2:eY prog 42 [mP N,cP N,.agg (du x)] e (rB false) e) (h3:eY prog 43 [mP N,cP N,.agg (du x)] e (rB false) e) (h4:eY prog 44 [mP N,cP N,.agg (du x)] e (rB false) e) (h5:eY prog 45 [mP N,cP N,.agg (du x)] e (rB false) e) (h:eY prog 46 [mP N,cP N,.agg (du x),bh eI 1 inp] e (.bf []) l)
variable{m:MV}
def Nq{N:NM}{e:SF}(hR:bU p C m N e)(inp:SI)(TH:inp.length<=1000)(x:av)(hk:p7 p C m x)(hx:2<=x.op/\x.op<=23):∃N' l,(bU p C (m.ins p C inp x) N' l/\N'.k=N.k)/\Up X e l/\tG inp N x e l:=by
 have h1:=hk.calls;by_cases a:x.op=2\/x.op=3\/x.op=4\/x.op=5
 ·obtain⟨N',l,hT,hU,hp⟩:=MR X hR inp x hk a;exact⟨N',l,⟨hT.1,hT.2.1⟩,hU,.a hp⟩
 have n1:=Sw hR h1 x a;by_cases b:x.op=7\/x.op=8\/x.op=9\/x.op=10
 ·obtain⟨N',l,hT,hU,hp⟩:=KF X hR inp x hk b;exact⟨N',l,⟨hT.1,hT.2.1⟩,hU,.b n1 hp⟩
 have n2:=Sq hR h1 x b;by_cases c:x.op=6\/x.op=23\/x.op=11\/x.op=12\/x.op=13
 ·obtain⟨N',l,hT,hU,hp⟩:=JP X hR inp x hk c;exact⟨N',l,⟨hT.1,hT.2.1⟩,hU,.c n1 n2 hp⟩
 have n3:=Mo hR h1 x c;by_cases d:x.op=16\/x.op=17\/x.op=18\/x.op=19
 ·obtain⟨N',l,hT,hU,hp⟩:=Mp X hR inp x hk d;exact⟨N',l,⟨hT.1,hT.2.1⟩,hU,.d n1 n2 n3 hp⟩
 have n4:=PJ hR h1 x d;by_cases g:x.op=20\/x.op=21\/x.op=22
 ·obtain⟨N',l,hT,hU,hp⟩:=JF X hR inp x hk g;exact⟨N',l,hT,hU,.e n1 n2 n3 n4 hp⟩
 have n5:=JT hR h1 x g;obtain⟨N',l,hT,hU,hp⟩:=OC X hR inp x hk TH jB;exact⟨N',l,⟨hT.1,hT.2.1⟩,hU,.f n1 n2 n3 n4 n5 hp⟩
structure MS where
 m:MV
 N:NM
 e:List (Nat×Row)
structure Round(p:ab)(C:aI)(inp:List Int)(X:List Nat)(a b:MS):Prop where
 rep:bU p C a.m a.N a.e
 st:a.m.status=0
 op:(a.m.br C).op≠1
 calls:1<=a.m.calls.length
 a0:0<=a.m.aj.at_
 a1:a.m.aj.at_<C.ins.length
 up:Up X a.e b.e
 k:b.N.k=a.N.k
 bO:tG inp a.N (a.m.br C) (bD a.e (hn 0 a.N.aj.c) (.var 89 (MV.cE (a.m.aj.jump (a.m.aj.at_+1)) a.N.aj))) b.e
 ok:gZ 0 b.e
variable{inp:SI}
def KG{N:NM}{e:SF}(hR:bU p C m N e)(hb:Bd inp.length m)(TH:inp.length<=1000)(hC:C.entry.length<=1000)(hP:p.size.length<=1000)(h0:m.status=0)(h1:(m.br C).op≠1)(hok:m.cX p C):∃N' e',Round p C inp X ⟨m,N,e⟩ ⟨m.one p C inp,N',e'⟩/\bU p C (m.one p C inp) N' e'/\Bd inp.length (m.one p C inp):=by have S9:=hok.calls;have hx:=Li hb TH hok hC hP;have hT:=hR.aj S9;have T7:=hR.j5 S9 (c':=m.aj.jump (m.aj.at_+1)) rfl rfl;have Ts:Up X e (bD e (hn 0 N.aj.c) (.var 89 (MV.cE (m.aj.jump (m.aj.at_+1)) N.aj))):=Up.put _ (.inl (by rw[hT.var];simp));obtain⟨N',l,TE,TY,hd⟩:=Nq X T7 inp TH (m.br C) hx (by have:=hok.op;omega);have U1:Bd inp.length (m.aS (m.aj.jump (m.aj.at_+1))):=hb.aS (hb.aj S9);exact⟨N',l,⟨hR,h0,h1,S9,hok.a0,hok.a1,Ts.trans TY,TE.2,hd,TE.1.ok⟩,TE.1,Pb U1 hx⟩
def MN(TH:inp.length<=1000)(hC:C.entry.length<=1000)(hP:p.size.length<=1000){n:Nat}{m':MV}(hg:iv p C inp n m m'):∀{N:NM} {e:SF},bU p C m N e->Bd inp.length m->∃f:Nat->MS,f 0=⟨m,N,e⟩/\(∀i,i<n->Round p C inp X (f i) (f (i+1)))/\(f n).m=m'/\bU p C m' (f n).N (f n).e/\Bd inp.length m':=by
 induction hg with
 |refl m=>intro N e hR hb;exact⟨fun _=>⟨m,N,e⟩,rfl,fun i hi=>jB,rfl,hR,hb⟩
 |@step n m m' h0 h1 hok _ ih=>
  intro N e hR hb;obtain⟨N1,e1,hr,T7,U1⟩:=KG X hR hb TH hC hP h0 h1 hok;obtain⟨f,f0,f1,f2,f3,f4⟩:=ih T7 U1;refine⟨fun i=>match i with|0=>⟨m,N,e⟩|i+1=>f i,rfl,fun i hi=>?_,f2,f3,f4⟩;match i with
  |0=>show Round p C inp X ⟨m,N,e⟩ (f 0);rw[f0];exact hr
  |i+1=>exact f1 i jB
def Jn{m':MV}{N:NM}{e:SF}(hR:bU p C m N e)(hb:Bd inp.length m)(TH:inp.length<=1000)(hC:C.entry.length<=1000)(hP:p.size.length<=1000)(hI:C.ins.length<=1000000)(hg:aW p C inp m m')(P':m'.lc C)(Tf:m'.status=0->1<=m'.calls.length/\0<=m'.aj.at_/\m'.aj.at_<C.ins.length) :
  kU prog 21 [mP N,bh eI 1 inp] e X (.bf []) (fun N' l=>bU p C m' N' l/\N'.k=N.k/\Bd inp.length m'):=by
 obtain⟨n,hg⟩:=hg;obtain⟨f,f0,f1,f2,f3,f4⟩:=MN X TH hC hP hg hR hb;have hk:∀i,i<=n->(f i).N.k=N.k/\Up X e (f i).e/\gZ 0 (f i).e:=fun i=>by
  induction i with
  |zero=>intro _;rw[f0];exact⟨rfl,Up.refl _ _,hR.ok⟩
  |succ i ih=> intro hi;obtain⟨a,b,c⟩:=ih jB;have:=f1 i jB;exact⟨this.k.trans a,b.trans this.up,this.ok⟩
 obtain⟨k1,k2,k3⟩:=hk n jl;refine⟨(f n).N,(f n).e,⟨f3,k1,f4⟩,k2,⟨?_,hR.ok,k3,k2.bj,pO hR rfl⟩⟩;refine aU (L:=ids e) func21 ntmps21 ?_ (hL:=rfl);generalize hB:ids e=B;refine fK ?_
 (repeat' (first|refine aA fun K hK=>?_|refine ax ?_|(refine hK _ _ ?_;clear hK K)|(refine az ?_ ?_<;>intro hc<;>try exact jz)|refine ay ?_|exact jI|(clear hK K)))
 refine fa (S:=Nat) [(4,68)] (fun i=>i<=n) (fun i=>[]) (fun i=>⟨B,tie (f i).e []⟩) (fun i=>n-i) 0 jB (fb (by rw[f0]) cI) ?_;rintro i hi Kr S8;by_cases SX:i<n
 ·have hr:=f1 i SX;have VU:=hk i hi;obtain⟨q1,q2,q3⟩:=hk (i+1) SX;obtain⟨r1,r2,r3,r4,r5,r6,r7,r8,r9,r10⟩:=hr;generalize Ul:f (i+1)=b at*;generalize f i=a at*;obtain⟨am,aN,ae⟩:=a;obtain⟨bm,bN,be⟩:=b;simp only at*;have eM:mP aN=mP N:=by unfold mP;rw[VU.1]
  have ht:=wm r1 r4;rw[eM]at ht;have hT:=r1.aj r4;have SU:=r1.ok.low;have Vu:=r1.root;rw[VU.1]at Vu;have haE:=r10.low;have Vm:∀i,i<1000->aD (bD ae (hn 0 aN.aj.c) (.var 89 (MV.cE (am.aj.jump (am.aj.at_+1)) aN.aj))) i=none:=fun i hi=>by rw[cd,if_neg (by have:=ja 0 aN.aj.c;omega)];exact SU i hi
  have hx:nth C.ins am.aj.at_.toNat=am.br C:=rfl;have hxo:=r3;generalize am.br C=x at*
  (refine S ?_;try exact jI)
  rcases r9 with h|⟨h1,h⟩|⟨h1,h2,h⟩|⟨h1,h2,h3,h⟩|⟨h1,h2,h3,h4,h⟩|⟨h1,h2,h3,h4,h5,h⟩
  all_goals
   simp only[eM]at*
   (have W:=jA SU (jA Vm (jA haE (jA Vu (jA hT.var (jA r2 (hx))))));repeat' (first|(with_reducible refine gR 5 ?_);refine sS [43,50,57,64] ?_|refine aA fun K hK=>?_|refine ax ?_|(with_reducible refine gR 2 ?_);refine dE 2 (bo 0 13) mixed ?_|(refine hK _ _ ?_;clear hK K)|(refine az ?_ ?_<;>intro hc<;>try exact jz)|refine cM 9 ?_|refine cT ht ?_|refine cT h ?_|refine cT h1 ?_|refine cT h2 ?_|refine cT h3 ?_|refine cT h4 ?_|refine cT h5 ?_|refine ay ?_|exact jI|(clear hK K)))
  all_goals exact S8 _ _ (L4 hB hR.ok r10 (fk jC fg) (i+1) jB (by show n-(i+1)<n-i;omega) (by show _=Hp.mk B (tie (f (i+1)).e []);rw[Ul]) lU)
 ·have TP:i=n:=jB;subst TP;have Yz:(f i).m=m':=f2;generalize f i=a at*;obtain⟨am,aN,ae⟩:=a;simp only at*;subst Yz;have eM:mP aN=mP N:=by unfold mP;rw[k1]
  have SU:=f3.ok.low;have Vu:=f3.root;rw[k1]at Vu;by_cases h0:am.status=0
  ·obtain⟨r4,r5,r6⟩:=Tf h0;have UZ:(am.br C).op=1:=by
    rcases P' with h|h
    ·exact(h h0).elim
    ·exact h
   have ht:=wm f3 r4;rw[eM]at ht;have hT:=f3.aj r4;have hx:nth C.ins am.aj.at_.toNat=am.br C:=rfl;generalize am.br C=x at*;refine S ?_
   (have W:=jA SU (jA Vu (jA hT.var (jA h0 (hx))));repeat' (first|refine aA fun K hK=>?_|refine ax ?_|(with_reducible refine gR 2 ?_);refine dE 2 (bo 0 13) mixed ?_|(refine hK _ _ ?_;clear hK K)|(refine az ?_ ?_<;>intro hc<;>try exact jz)|refine cM 9 ?_|refine cT ht ?_|refine ay ?_|exact jI|(clear hK K)))
   exact fL hB hR.ok f3.ok (fun _=>rfl) (fk jC fg) []
  ·(refine S ?_;try exact jI)
   (have W:=jA SU Vu;repeat' (first|refine aA fun K hK=>?_|refine ax ?_|(refine hK _ _ ?_;clear hK K)|(refine az ?_ ?_<;>intro hc<;>try exact jz)|refine ay ?_|exact jI|(clear hK K)))
   exact fL hB hR.ok f3.ok (tl:=[]) (fun _=>rfl) fg []
end
attribute [local go_sem] JO
section
variable {p:ab}{C:aI}(X:SJ)
def Me{m:MV}{N:NM}{e:SF}(hR:bU p C m N e)(inp:SI)(hs:m.status=2\/m.status=3):eY prog 13 [mP N,bh eI 1 inp] e (.bf []) e:=by
 have SU:=hR.ok.low;refine⟨?_,hR.ok,hR.ok,fun _ h=>h,pO hR rfl⟩;rcases hs with h|h
 all_goals
  refine aU (L:=ids e) func13 ntmps13 ?_ (hL:=rfl);generalize hB:ids e=B;refine fK ?_
  (have W:=jA SU (jA hR.root (h));repeat' (first|refine aA fun K hK=>?_|refine ax ?_|(refine hK _ _ ?_;clear hK K)|(refine az ?_ ?_<;>intro hc<;>try exact jz)|refine ay ?_|exact jI|(clear hK K)))
  exact fL hB hR.ok hR.ok (tl:=[]) (fun _=>rfl) fg []
def NL{inp:SI}{m m1:MV}{N:NM}{e:SF}(hR:bU p C m N e)(h1:1<=m.calls.length)(hb:Bd inp.length m)(TH:inp.length<=1000)(hC:C.entry.length<=1000)(hP:p.size.length<=1000)(hI:C.ins.length<=1000000)(P':¬(m.status=2\/m.status=3))(Tf:0<=m.aj.at_/\m.aj.at_<=1000000)(Zo:0<=m.time/\m.time<=1000000)
  (hg:aW p C inp m.iQ m1) (Yt:m1.lc C) (YE:m1.status=0->1<=m1.calls.length/\0<=m1.aj.at_/\m1.aj.at_<C.ins.length) (WA:-1<=m1.time/\m1.time<=1000000) :
  kU prog 13 [mP N,bh eI 1 inp] e X (.bf []) (fun N' l=>bU p C m1.iF N' l/\N'.k=N.k/\Bd inp.length m1.iF):=by
 have SU:=hR.ok.low;have hT:=hR.aj h1;have VC:=hR.mO (m':={ m with status:=0 }) rfl rfl rfl;have ht:=wm VC h1;have T7:=Oh hR h1;have U1:Bd inp.length m.iQ:=(hb.aS (c:={ m.aj with mark:=m.aj.at_,at_:=m.aj.at_+1 }) (hb.aj h1)).status 0 m.bp;have Ts:Up X e (bD (bD e (hn 3 N.k) (.var 68 (mE p C { m with status:=0 } N))) (hn 0 N.aj.c) (.var 89 (MV.cE { m.aj with mark:=m.aj.at_,at_:=m.aj.at_+1 } N.aj))):=by
  refine(Up.put _ (.inl ?_)).trans (Up.put _ (.inl ?_))
  ·rw[hR.root];simp
  ·rw[cd,if_neg (dq jB jB jB),hT.var];simp
 obtain⟨N1,l1,⟨TO,S5,Us⟩,TY,hp⟩:=Jn X T7 U1 TH hC hP hI hg Yt YE;have TC:=TO.ok.low;have WG:=TO.root;rw[S5]at WG;by_cases hw:m1.status=1
 ·have et:m1.iF=m1:=by unfold MV.iF;rw[if_pos hw]
  rw[et];refine⟨N1,l1,⟨TO,S5,Us⟩,Ts.trans TY,⟨?_,hR.ok,TO.ok,(Ts.trans TY).bj,pO hR rfl⟩⟩;clear Ts TY VC T7;refine aU (L:=ids e) func13 ntmps13 ?_ (hL:=rfl);generalize hB:ids e=B;refine fK ?_
  (have W:=jA SU (jA TC (jA hR.root (jA hT.var (WG))));repeat' (first|refine aA fun K hK=>?_|refine ax ?_|(refine hK _ _ ?_;clear hK K)|(refine az ?_ ?_<;>intro hc<;>try exact jz)|refine cT ht ?_|refine cT hp ?_|refine ay ?_|exact jI|(clear hK K)))
  exact fL hB hR.ok TO.ok (tl:=[]) (fun _=>rfl) fg []
 ·have et:m1.iF={ m1 with time:=m1.time+1 }:=by unfold MV.iF;rw[if_neg hw]
  rw[et];have XJ:=TO.mO (m':={ m1 with time:=m1.time+1 }) rfl rfl rfl;have hU3:Up X l1 (bD l1 (hn 3 N1.k) (.var 68 (mE p C { m1 with time:=m1.time+1 } N1))):=Up.put _ (.inl (by rw[TO.root];simp));refine⟨N1,_,⟨XJ,S5,⟨Us.deep,Us.slots,Us.heap,Us.outs,Us.gV,Us.hZ⟩⟩,Ts.trans (TY.trans hU3),⟨?_,hR.ok,XJ.ok,(Ts.trans (TY.trans hU3)).bj,pO hR rfl⟩⟩;have k2:=XJ.ok;clear Ts TY hU3 VC T7 XJ;generalize hE:bD l1 (hn 3 N1.k) (.var 68 (mE p C { m1 with time:=m1.time+1 } N1))=E at k2 ⊢;refine aU (L:=ids e) func13 ntmps13 ?_ (hL:=rfl);generalize hB:ids e=B;refine fK ?_
  (have W:=jA SU (jA TC (jA hR.root (jA hT.var (WG))));repeat' (first|refine aA fun K hK=>?_|refine ax ?_|(refine hK _ _ ?_;clear hK K)|(refine az ?_ ?_<;>intro hc<;>try exact jz)|refine cT ht ?_|refine cT hp ?_|refine ay ?_|exact jI|(clear hK K)))
  subst hE;refine fL hB hR.ok k2 (tl:=[]) (fun i=>?_) fg [];unfold mE;rw[S5];rfl
end
end Go.Proofs.YtbjookcdpondlaaGreatDoor
namespace Go.Proofs.YtbjookcdpondlaaGreatDoor
open Go Go.Gd Tryz
def R3(x:Int):lH (eI x)=true:=rfl
def JI(x:SK):lH (eS x)=true:=rfl
def Sf(i:Nat):ai prog 18 [] [] (fun r l=>r=.pt i 0 0 0/\l=[(i,.var 116 [.raw (.slice none 0 0),.raw (.slice none 0 0)])]):=by
 refine aU func18 ntmps18 ?_;refine S ?_
 (repeat' (first|refine aA fun K hK=>?_|refine ax ?_|(refine hK _ _ ?_;clear hK K)|(refine az ?_ ?_<;>intro hc<;>try exact jz)|refine cz i ?_|refine ay ?_|exact jI|(clear hK K)))
 (refine cr [.tmp 0] ?_ ?_<;>(try simp only[go_sem]))
def Qg(h:SH)(hl:h.length<=1000)(hf:h.flatten.length<=1000):ai prog 25 [.pt 2 0 0 0] (gK h) (fun r l=>r=bh kg 1 h/\l=gK h):=by
 refine aU func25 ntmps25 ?_;refine S ?_
 (repeat' (first|refine aA fun K hK=>?_|refine ax ?_|(refine hK _ _ ?_;clear hK K)|(refine az ?_ ?_<;>intro hc<;>try exact jz)|refine ay ?_|exact jI|(clear hK K)))
 refine iJ (dJ.nil 5 3 22 (sz:=1) rfl jC (Or.inl rfl)) ?_
 (refine S ?_;try exact jI)
 have Tc:=hK;clear hK;refine fa (S:=Nat) [(3,2),(10,12)] (fun k=>k<=h.length) (fun k=>[(3,.rs 5 k 1 k),(10,rI k)])
  (fun k=>⟨[2,3,4],gK h++[(5,.aK 22 1 ((h.take k).map kg))]⟩) (fun k=>h.length-k) 0 jB (fb rfl cI) ?_
 rintro k hk Kr S8;by_cases SX:k<h.length
 ·have Ty:=xc h k ((k:Int)+1) rfl hl hf SX;have Ta:=wQ h (k+1);have hof:=uP SX;have S9:=Lk (nth h k) jB 6;have etk:h.take (k+1)=h.take k++[nth h k]:=by rw[List.take_succ,List.getElem?_eq_getElem SX,dV SX];rfl
  refine S ?_
  (repeat' (first|refine aA fun K hK=>?_|refine ax ?_|(refine hK _ _ ?_;clear hK K)|(refine az ?_ ?_<;>intro hc<;>try exact jz)|refine cm (Ty) ?_|refine Ca 6 R3 S9 rfl (fun w vs hw hv=>by have:=K7 (enc:=eI) h.flatten rfl rfl jB jC w vs hw hv;rw[KB SX]at this;exact this) ?_|refine ay ?_|exact jI|(clear hK K)))
  refine S8 _ _ (fc (k+1) jB (by show h.length-(k+1)<h.length-k;omega) (by rw[etk,List.map_append];rfl) cI)
 ·have Vw:k=h.length:=jB;subst Vw;refine S ?_
  (repeat' (first|refine aA fun K hK=>?_|refine ax ?_|(refine hK _ _ ?_;clear hK K)|(refine az ?_ ?_<;>intro hc<;>try exact jz)|refine Tc _ _ ?_|refine ay ?_|exact jI|(clear hK K)))
  refine lW [.tmp 2] ?_;exact dM.row (enc:=kg) h rfl rfl rfl
end Go.Proofs.YtbjookcdpondlaaGreatDoor
namespace Go.Proofs.YtbjookcdpondlaaGreatDoor
open Go Go.Gd Tryz Go.Gd.MV
section
variable {p:ab}{C:aI}(X:SJ)
def JG{m:MV}{N:NM}{e:SF}(hR:bU p C m N e)(hl:m.heap.length<=1000)(hf:m.heap.flatten.length<=1000):eY prog 25 [.pt (hn 5 N.k) 0 0 0] e (bh kg 1 m.heap) e:=
 hR.lD rfl rfl (Qg m.heap hl hf)
def Jy{m:MV}{N:NM}{e:SF}(hR:bU p C m N e){k:Nat}(hk:k<m.calls.length):(List.map (fun j=>[AV.pt (hn 0 j) 0 0 0]) (List.map NC.c N.cs)++List.map (fun j=>[AV.pt (hn 0 j) 0 0 0]) N.cj).getD k []=[.pt (hn 0 (nth N.cs k).c) 0 0 0]:=by have hl:=hR.len;rw[<-List.map_append];rw[List.getD_eq_getElem?_getD,List.getElem?_map,List.getElem?_append_left (by rw[List.length_map];omega),List.getElem?_map,List.getElem?_eq_getElem jB,dV jB];rfl
structure yf(C:aI)(m:MV):Prop where
 calls:m.calls.length<=8
 sel:∀k,k<m.calls.length->0<=m.fS k/\m.fS k<C.ins.length
 slots:∀k,k<m.calls.length->(nth m.calls k).slots.length<=24
 heap:fF m.heap<=40
 outs:m.aC.length<=24
 ins:C.ins.length<=1000000
def EK{m:MV}{N:NM}{e:SF}(hR:bU p C m N e)(hk:yf C m):eY prog 11 [mP N] e (.agg (jU (m.rj C))) e:=by
 obtain⟨s1,s2,s3,s4,s5,s6⟩:=hk;rw[wv]at s4;have SU:=hR.ok.low;have hl:=hR.len;have TK:=JG hR jB jB;have hco:=KP m.aC jB 8;refine⟨?_,hR.ok,hR.ok,fun _ h=>h,pO hR rfl⟩;refine aU (L:=ids e) func11 ntmps11 ?_ (hL:=rfl);generalize hB:ids e=B;refine fK ?_
 (have W:=jA SU (hR.root);repeat' (first|refine aA fun K hK=>?_|refine ax ?_|(with_reducible refine gR 1 ?_);refine dC 1 ([],[],[11,20]) [27] [0,1,2,3,5,6,7,8,9,10,11,12,14,15,16,17,18,19,20,21,22,23,24,25,4,13,26,27,28] mixed ?_|(refine hK _ _ ?_;clear hK K)|(refine az ?_ ?_<;>intro hc<;>try exact jz)|refine cM 9 ?_|refine cM 10 ?_|refine qW TK (fun _ _ _=>.inl rfl) ?_|refine L3 8 JI hco (by show aD (tie _ _) _=_;rw[l7,SU _ jC];rfl) (C4 m.aC (by show aD (tie _ _) _=_;rw[l7,hR.outs];rfl) rfl) ?_|refine ay ?_|exact jI|(clear hK K)))
 refine iJ (dJ.fB 11 10 0 54 3 (by show aD (tie _ _) _=_;rw[l7,SU _ jC];rfl) jC (by show aD (tie _ _) _=_;rw[l7,SU _ jC];rfl) rfl) ?_
 (have W:=jA SU SU;refine S ?_;clear W;try exact jI)
 have Tc:=hK;clear hK;refine fa (S:=Nat) [(4,3),(39,46)] (fun i=>i<=m.calls.length) (fun i=>[(39,rI i)])
  (fun i=>⟨B,tie e [(9,.var 46 [.raw (.slice none 0 0),.raw (.slice none 0 0),.raw (.int .i64 0),.raw (.slice none 0 0),.raw (.int .i64 0),.raw (.int .i64 0),.raw (.int .i64 0)]),
   (10,.var 46 [.rs 11 i 3 i,bh kg 1 m.heap,.raw (.int .i64 m.in_),bh eS 1 m.aC,.raw (.int .i64 m.status),.raw (.int .i64 m.bp),.raw (.int .i64 m.time)]),(11,.aK 54 3 (((List.range i).map (m.spot C)).map mo))]⟩)
  (fun i=>m.calls.length-i) 0 jB (fb rfl cI) ?_
 rintro i hi Kr S8;by_cases SX:i<m.calls.length
 ·have UO:=hR.call i SX;have Vy:=Jy hR SX;have Tr:=s3 i SX;obtain⟨a1,a2⟩:=s2 i SX;have WC:=FR (nth m.calls i).slots jB 8;have Xo:List.range (i+1)=List.range i++[i]:=List.range_succ;have hlr:((List.range i).map (m.spot C)).length=i:=jE;have key:∀a:Int,m.fS i=a->nth C.ins a.toNat=nth C.ins (m.fS i).toNat:=fun a ha=>by rw[ha]
  unfold MV.fS at a1 a2;by_cases S6:(i:Int)=(m.calls.length:Int)-1
  ·have VF:m.fS i=(nth m.calls i).at_:=by unfold MV.fS;rw[if_pos S6]
   rw[if_pos S6]at a1 a2;refine S ?_
   (have W:=jA SU (jA hR.root (jA hR.row (jA Vy (jA UO.var (hl)))));repeat' (first|refine aA fun K hK=>?_|refine ax ?_|(with_reducible refine gR 8 ?_);refine dC 8 ([],[79],[]) [] (bo 0 25) mixed ?_|(refine hK _ _ ?_;clear hK K)|(refine az ?_ ?_<;>intro hc<;>try exact jz)|refine Hm 8 zm WC (by show aD (tie _ _) _=_;rw[l7,SU _ jC];rfl) (C4 (nth m.calls i).slots (by show aD (tie _ _) _=_;rw[l7,UO.fp];rfl) rfl) ?_|refine ay ?_|exact jI|(clear hK K)))
   refine S8 _ _ (fc (i+1) jB (by show m.calls.length-(i+1)<m.calls.length-i;omega) ?_ cI);rw[Xo,List.map_append,List.map_append,List.map_singleton,List.map_singleton];unfold MV.spot;rw[VF];rfl
  ·have VF:m.fS i=(nth m.calls i).mark:=by unfold MV.fS;rw[if_neg S6]
   rw[if_neg S6]at a1 a2;refine S ?_
   (have W:=jA SU (jA hR.root (jA hR.row (jA Vy (jA UO.var (hl)))));repeat' (first|refine aA fun K hK=>?_|refine ax ?_|(with_reducible refine gR 8 ?_);refine dC 8 ([],[79],[]) [] (bo 0 25) mixed ?_|(refine hK _ _ ?_;clear hK K)|(refine az ?_ ?_<;>intro hc<;>try exact jz)|refine Hm 8 zm WC (by show aD (tie _ _) _=_;rw[l7,SU _ jC];rfl) (C4 (nth m.calls i).slots (by show aD (tie _ _) _=_;rw[l7,UO.fp];rfl) rfl) ?_|refine ay ?_|exact jI|(clear hK K)))
   refine S8 _ _ (fc (i+1) jB (by show m.calls.length-(i+1)<m.calls.length-i;omega) ?_ cI);rw[Xo,List.map_append,List.map_append,List.map_singleton,List.map_singleton];unfold MV.spot;rw[VF];rfl
 ·have TP:i=m.calls.length:=jB;subst TP;refine S ?_
  (have W:=jA SU hl;repeat' (first|refine aA fun K hK=>?_|refine ax ?_|(refine hK _ _ ?_;clear hK K)|(refine az ?_ ?_<;>intro hc<;>try exact jz)|refine Tc _ _ ?_|refine ay ?_|exact jI|(clear hK K)))
  have h9:=SU 9 jC;have X2:=SU 11 jC;refine Nv hB hR.ok hR.ok rfl (fk jC (fk jC (fk jC fg))) [.cell 2 46] ?_ (ho:=by simp(disch:=first|omega|assumption|fail) only[go_sem,↓reduceIte,h9];rfl) (hok:=by simp(disch:=first|omega|assumption|fail) only[go_sem,↓reduceIte,h9];first|done|decide|(repeat' (first|exact trivial|decide|(simp;done)|refine jA ?_ ?_)));have hlr:((List.range m.calls.length).map (m.spot C)).length=m.calls.length:=jE;exact bK.agg (ds:=jU (m.rj C)) (jA (dM.row (enc:=mo) ((List.range m.calls.length).map (m.spot C)) rfl (by show aD (tie _ _) _=_;rw[l7,X2];rfl) hlr.symm) (jA (.same _ rfl) (jA (.same _ rfl) (jA (.same _ rfl) (jA (.same _ rfl) (jA (.same _ rfl) (jA (.same _ rfl) trivial)))))))
end
def Lb{p:ab}(h:cY p):aP prog 20 [.agg (bV p)] (rI (kD p))/\qp p (kN p) MV.mw (kD p) []:=by obtain⟨j,hj,Vl,Tm,VB⟩:=xP h;have hf:=(yH h hj (args:=[]) (by rw[VB];rfl)).1;have hfs:=h.ok.aa.aq;have hC:=sV h;have SY:=h.ok.size;have S9:=hC.len;rw[Vl];refine⟨Pz j jB hj Tm fun i hi e=>(h.names.one i j hi hj (by rw[e,Tm])).elim,?_⟩;have hfj:=h.aq j hj;have hp:=hfj.vz;have hh:=hfj.hi;have ej:((j:Int)).toNat=j:=Int.toNat_natCast j;have h0:kD p=(j:Int):=Vl;exact⟨jB,jB,jB,by rw[ej];omega,by rw[ej];omega,by rw[ej];show(0:Int)<=_;omega,⟨jB,jB⟩,jC⟩
def KH{p:ab}(hp:kj p)(X:SJ){m1:MV}(hg:aW p (kN p) [] (xm p (kN p)) m1)(P':m1.lc (kN p))(Tf:m1.status=0->1<=m1.calls.length/\0<=m1.aj.at_/\m1.aj.at_<(kN p).ins.length) :
  ∃N l,bU p (kN p) m1 N l/\(∀i,aD l i≠none->i ∉ X)/\Bd 0 m1/\ai prog 8 [.agg (bV p)] [] (fun r l'=>r=mP N/\l'=l):=by
 obtain⟨hmn,hbo⟩:=Lb hp.ok;have WI:=Mw hp;have hC:=sV hp.ok;have hfs:=hp.ok.ok.aa.aq;have S9:=hC.len;have SY:=hp.ok.ok.size;have UH:=hC.rZ;generalize kN p=C at*;have hk:=fun a=>A1 X a 0
 generalize ru X+0=k at hk;have VC:=LA p C k;obtain⟨N1,l1,⟨T7,Te⟩,Ts,TW⟩:=Jm X VC (kD p) [] hbo;have e1:MV.mw.cV p C (kD p) []=xm p C:=rfl;rw[e1]at T7;have U1:Bd 0 (xm p C):=by
  refine⟨fun k hk=>?_,fun k hk=>?_,(by show fF []<=40;decide),(by show 0<=24;omega),(by show(0:Int)<=0;omega),(by show(0:Int)<=0;omega)⟩
  ·have:k+1<1:=hk;omega
  ·have:k<1:=hk;have:k=0:=jB;subst this;show(([]:List ak)++List.replicate _ v0).length<=24;have h1:=hbo.s1;simp only[List.nil_append,List.length_replicate,List.length_nil];omega
 obtain⟨N2,l2,⟨TO,S5,Us⟩,TY,Wz⟩:=Jn (inp:=[]) X T7 U1 jC jB jB UH hg P' Tf;have eM:mP N1=mP ⟨k,[],[]⟩:=by unfold mP;rw[Te]
 have eM2:mP N2=mP ⟨k,[],[]⟩:=by unfold mP;rw[S5,Te]
 rw[eM]at Wz;rw[show bh bM 3 []=(.sl false 3 [] (bM default):AV) from rfl]at TW;have TW:=TW.args (args:=[mP ⟨k,[],[]⟩,rI (kD p),.raw (.slice none 0 0)]) (fun w vs hw hv=>uJ hv (fun _ h=>h) fun us hu=>uJ hu (fun _ h=>h) fun us hu=>uJ hu (Bi 3 _) (fun _ h=>h)) (pO VC rfl);have Wz:=Wz.args (args:=[mP ⟨k,[],[]⟩,.raw (.slice none 0 0)]) (fun w vs hw hv=>uJ hv (fun _ h=>h) fun us hu=>uJ hu (Bi 1 _) (fun _ h=>h)) (by have:=pO (N:=N1) T7 (l:=[.raw (.slice none 0 0)]) rfl;rw[eM]at this;exact this);refine⟨N2,l2,TO,fun i hi=>?_,Us,?_⟩
 ·rcases(Ts.trans TY).new i hi with h|h
  ·have hm:=(kz _ _).2 h;rw[BD]at hm;simp only[List.mem_cons,List.not_mem_nil,or_false]at hm;rcases hm with rfl|rfl|rfl|rfl|rfl|rfl<;>exact hk _
  ·exact h
 ·rw[eM2];have hhn:=Sf (hn 5 k);have eC:yg C=[bh du 4 C.ins,bh eI 1 C.entry]:=rfl;rw[eC]at WI;rw[BF]at WI hmn ⊢;refine aU func8 ntmps8 ?_;have YK:=VC.ok.low;have TC:=T7.ok.low;have Vm:=TO.ok.low
  (have W:=jA YK (jA TC (Vm));repeat' (first|(with_reducible refine gR 2 ?_);refine iJ (MA p C k _) ?_|refine aA fun K hK=>?_|refine ax ?_|(with_reducible refine gR 1 ?_);refine dC 1 ([],[6],[7]) [] (bo 0 7) mixed ?_|(refine hK _ _ ?_;clear hK K)|(refine az ?_ ?_<;>intro hc<;>try exact jz)|refine cz 9 ?_|refine cz (hn 3 k) ?_|refine cq (WI) ?_|refine cN hhn ?_|refine cp (hmn) ?_|refine cT TW ?_|refine cT Wz ?_|refine ay ?_|exact jI|(clear hK K)))
  exact fL (e:=[]) rfl ⟨fun _ _ _=>rfl,List.nodup_nil,fun i r h=>by cases h⟩ TO.ok (fun _=>rfl) (fk jC fg) [.tmp 2]
end Go.Proofs.YtbjookcdpondlaaGreatDoor
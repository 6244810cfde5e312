/- Lemmas. No conditions. -/
import Derived.Test.YtijdhbokcdpklaaGreatDoorRpA
import Derived.Test.YtijdhbokcdpklaaGreatDoorCmG
set_option linter.all false
set_option maxHeartbeats 4000000
set_option maxRecDepth 10000
namespace Go.Gd
open Go
structure NC where
 c:Nat
 v:Nat
 jk:List aj
 deriving Inhabited
structure NM where
 k:Nat
 cs:List NC
 cj:List Nat
namespace MV
def cE(c:MC)(n:NC):UM:=[.rs (hn 2 n.v) (c.stack.length+n.jk.length) 3 c.stack.length,.raw (.int .i64 c.fn),.raw (.int .i64 c.at_),.raw (.int .i64 c.mark),.rs (hn 1 n.c) c.slots.length 3 c.slots.length]
def mE(p:af)(C:aI)(m:MV)(N:NM):UM:=km p++[aM du 4 C.ins,aM eI 1 C.entry,.rs (hn 4 N.k) (N.cs.length+N.cj.length) 1 N.cs.length,.pt (hn 5 N.k) 0 0 0,.rs (hn 8 N.k) m.bC.length 1 m.bC.length,.raw (.int .i64 m.in_),.raw (.int .i64 m.status),.raw (.int .i64 m.dn),.raw (.int .i64 m.time)]
structure iX(c:MC)(n:NC)(e:List (Nat×Row)):Prop where
 var:aC e (hn 0 n.c)=some (.var 174 (cE c n))
 cO:aC e (hn 2 n.v)=some (.aG 42 3 ((c.stack++n.jk).map bW))
 eZ:aC e (hn 1 n.c)=some (.aG 42 3 (c.slots.map bW))
 bd:c.stack.length+n.jk.length<=2000
structure bL(p:af)(C:aI)(m:MV)(N:NM)(e:List (Nat×Row)):Prop where
 ok:fO 0 e
 root:aC e (hn 3 N.k)=some (.var 166 (mE p C m N))
 row:aC e (hn 4 N.k)=some (.aG 169 1 ((N.cs.map NC.c++N.cj).map fun j=>[.pt (hn 0 j) 0 0 0]))
 hp:aC e (hn 5 N.k)=some (.var 196 [.rs (hn 6 N.k) m.heap.flatten.length 1 m.heap.flatten.length,.rs (hn 7 N.k) m.heap.length 1 m.heap.length])
 cells:aC e (hn 6 N.k)=some (.aG 3 1 (m.heap.flatten.map eI))
 ends:aC e (hn 7 N.k)=some (.aG 3 1 ((lT m.heap).map eI))
 outs:aC e (hn 8 N.k)=some (.aG 9 1 (m.bC.map eS))
 len:N.cs.length=m.calls.length
 call:∀k,k<m.calls.length->iX (nth m.calls k) (nth N.cs k) e
 nc:(N.cs.map NC.c).Nodup
 nv:(N.cs.map NC.v).Nodup
 bd:N.cs.length+N.cj.length<=1000
end MV
def NM.ah(N:NM):NC:=nth N.cs (N.cs.length-1)
def NM.aX(N:NM)(n:NC):NM:={ N with cs:=N.cs.set (N.cs.length-1) n }
attribute [go_sem] MV.cE MV.mE
variable{α:Type}
def vF{β:Type}[Inhabited α][Inhabited β](f:α->β)(l:List α)(k:Nat)(h:k<l.length):nth (l.map f) k=f (nth l k):=by rw[fM (by simpa using h),fM h];simp
def GH[Inhabited α]{l:List α}(h:l.Nodup){i j:Nat}(hi:i<l.length)(hj:j<l.length)(e:nth l i=nth l j):i=j:=by rw[fM hi,fM hj]at e;exact(List.getElem_inj h).1 e
def Tn[Inhabited α]{l:List α}(h:l.Nodup){i:Nat}(hi:i<l.length){v:α}(hv:∀j,j<l.length->j≠i->nth l j≠v):(l.set i v).Nodup:=by
 unfold List.Nodup;rw[List.pairwise_iff_getElem];intro a b ha hb hab e;rw[List.length_set]at ha hb;rw[List.getElem_set,List.getElem_set]at e;split at e<;>split at e
 ·omega
 ·rename_i h1 h2;exact hv b hb jB (by rw[fM hb];exact e.symm)
 ·rename_i h1 h2;exact hv a jB jB (by rw[fM jB];exact e)
 ·have:=(List.getElem_inj h).1 e;omega
namespace MV
variable {p:af}{C:aI}{m:MV}{N:NM}{e:UL}
theorem bL.ah(h:bL p C m N e)(h1:1<=m.calls.length):iX m.ah N.ah e:=by have:=h.call (m.calls.length-1) jB;unfold NM.ah MV.ah;rw[h.len];exact this
def bL.ne{k j:Nat}(h:bL p C m N e)(hk:k<N.cs.length)(hj:j<N.cs.length)(hkj:k≠j):(nth N.cs k).c≠(nth N.cs j).c/\(nth N.cs k).v≠(nth N.cs j).v:=by
 constructor
 ·intro e';exact hkj (GH h.nc (by simpa using hk) (by simpa using hj) (by rw[vF _ _ _ hk,vF _ _ _ hj];exact e'))
 ·intro e';exact hkj (GH h.nv (by simpa using hk) (by simpa using hj) (by rw[vF _ _ _ hk,vF _ _ _ hj];exact e'))
theorem bL.aX(hR:bL p C m N e)(h1:1<=m.calls.length){c':MC}{n':NC}{e':UL}(hnc:n'.c=N.ah.c)(ok:fO 0 e')(hc:iX c' n' e')(hv:n'.v=N.ah.v\/aC e (hn 2 n'.v)=none)
  (hs:∀j,aC e j≠none->j≠hn 0 N.ah.c->j≠hn 1 N.ah.c->j≠hn 2 N.ah.v->aC e' j=aC e j):bL p C (m.aX c') (N.aX n') e':=by
 have hl:=hR.len;have kind:∀(a k:Nat) (r:Row),2<a->a<32->aC e (hn a k)=some r->aC e' (hn a k)=some r:=fun a k r h2 WX h=>by rw[hs _ (by rw[h];simp) (dj WX jB jB) (dj WX jB jB) (dj WX jB jB)];exact h
 have cs:(N.aX n').cs.map NC.c=N.cs.map NC.c:=by show(N.cs.set _ n').map NC.c=_;rw[List.map_set,hnc];unfold NM.ah;rw[<-vF NC.c N.cs _ jB,fM (by rw[List.length_map];omega),List.set_getElem_self]
 have ln:(N.aX n').cs.length=N.cs.length:=by show(N.cs.set _ n').length=_;simp
 have nu:∀k,nth (N.aX n').cs k=if k=N.cs.length-1 then n' else nth N.cs k:=fun k=>Go.Gd.dG _ _ _ _ jB
 have mu:∀k,nth (m.aX c').calls k=if k=m.calls.length-1 then c' else nth m.calls k:=fun k=>Go.Gd.dG _ _ _ _ jB
 have ml:(m.aX c').calls.length=m.calls.length:=by show(m.calls.set _ c').length=_;simp
 refine⟨ok,?_,?_,kind 5 _ _ jB jB hR.hp,kind 6 _ _ jB jB hR.cells,kind 7 _ _ jB jB hR.ends,kind 8 _ _ jB jB hR.outs,by rw[ln,ml];exact hl,fun k hk=>?_,by rw[cs];exact hR.nc,?_,by rw[ln];exact hR.bd⟩
 ·rw[show mE p C (m.aX c') (N.aX n')=mE p C m N by unfold mE;rw[ln];rfl];exact kind 3 _ _ jB jB hR.root
 ·rw[cs];exact kind 4 _ _ jB jB hR.row
 ·rw[ml]at hk;rw[nu,mu,hl];by_cases ek:k=m.calls.length-1
  ·rw[if_pos ek,if_pos ek];exact hc
  ·rw[if_neg ek,if_neg ek];have Wj:=hR.call k hk;obtain⟨n1,n2⟩:=hR.ne (k:=k) (j:=N.cs.length-1) jB jB jB;have n1:(nth N.cs k).c≠N.ah.c:=n1;have n2:(nth N.cs k).v≠N.ah.v:=n2;exact⟨by rw[hs _ (by rw[Wj.var];simp) (fun e=>n1 (xu jB jB e).2) (dj jB jB jB) (dj jB jB jB)];exact Wj.var,
    by rw[hs _ (by rw[Wj.cO];simp) (dj jB jB jB) (dj jB jB jB) (fun e=>n2 (xu jB jB e).2)];exact Wj.cO,
    by rw[hs _ (by rw[Wj.eZ];simp) (dj jB jB jB) (fun e=>n1 (xu jB jB e).2) (dj jB jB jB)];exact Wj.eZ,Wj.bd⟩
 ·show((N.cs.set _ n').map NC.v).Nodup;rw[List.map_set];refine Tn hR.nv (by rw[List.length_map];omega) fun j hj XD e'=>?_
  rw[List.length_map]at hj;rw[vF _ _ _ hj]at e';rcases hv with hv|hv
  ·rw[hv]at e';exact(hR.ne hj jB XD).2 e'
  ·have Wj:=(hR.call j jB).cO;rw[e',hv]at Wj;cases Wj
def bL.mJ(hR:bL p C m N e){m':MV}(h1:m'.calls=m.calls)(h2:m'.heap=m.heap)(h3:m'.bC=m.bC):bL p C m' N (bg e (hn 3 N.k) (.var 166 (mE p C m' N))):=by
 have kind:∀(a k:Nat) (r:Row),a≠3->a<32->aC e (hn a k)=some r->aC (bg e (hn 3 N.k) (.var 166 (mE p C m' N))) (hn a k)=some r:=fun a k r h3 WX h=>by rw[bS,if_neg (dj WX jB h3)];exact h
 refine⟨hR.ok.put (.inr (iK _ _)) ?_,by rw[bS,if_pos rfl],kind _ _ _ jB jB hR.row,?_,?_,?_,?_,by rw[h1];exact hR.len,fun k hk=>?_,hR.nc,hR.nv,hR.bd⟩
 ·have c4:=gf hR.row;have c5:=gf hR.hp;have c8:=gf hR.outs;have up:aZ (fun j=>decide (j=hn 3 N.k) || (ids e).contains j) (km p)=true:=fX (q:=eJ) (fun _ h=>by cases h) _ rfl;unfold mE;simp only[Row.cells];rw[tE,up];simp only[aZ,AV.all,c4,c5,c8,Bool.or_true,Bool.and_self,aM]
 ·rw[h2];exact kind _ _ _ jB jB hR.hp
 ·rw[h2];exact kind _ _ _ jB jB hR.cells
 ·rw[h2];exact kind _ _ _ jB jB hR.ends
 ·rw[h3];exact kind _ _ _ jB jB hR.outs
 ·rw[h1]at hk ⊢;have hc:=hR.call k hk;exact⟨kind _ _ _ jB jB hc.var,kind _ _ _ jB jB hc.cO,kind _ _ _ jB jB hc.eZ,hc.bd⟩
end MV
def kE(fn at_ mark:Int)(vs jk slots:List aj):UL:=[(6,.var 174 [.rs 7 (vs.length+jk.length) 3 vs.length,.raw (.int .i64 fn),.raw (.int .i64 at_),.raw (.int .i64 mark),.rs 8 slots.length 3 slots.length]),(7,.aG 42 3 ((vs++jk).map bW)),(8,.aG 42 3 (slots.map bW))]
attribute [go_sem] kE
mutual
theorem wB{f:Nat->Nat}:∀a:AV,a.all eJ=true->a.bT f=a
 |.raw _,_=>by simp only[AV.bT]
 |.any,_=>by simp only[AV.bT]
 |.agg cs,h=>by simp only[AV.all]at h;simp only[AV.bT,sQ cs h]
 |.aQ cs,h=>by simp only[AV.all]at h;simp only[AV.bT,sQ cs h]
 |.sl _ _ _ _,_=>by simp only[AV.bT]
 |.ip _,_=>by simp only[AV.bT]
 |.gd _ v,h=>by simp only[AV.all]at h;simp only[AV.bT,wB v h]
 |.dW _ cs,h=>by simp only[AV.all]at h;simp only[AV.bT,sQ cs h]
 |.pt _ _ _ _,h=>by simp only[AV.all]at h;cases h
 |.rs _ _ _ _,h=>by simp only[AV.all]at h;cases h
 |.rc _ _ _ _,h=>by simp only[AV.all]at h;cases h
 |.rv _ _ _ _ _,h=>by simp only[AV.all]at h;cases h
 |.mr _,h=>by simp only[AV.all]at h;cases h
 |.bd _ fs,h=>by simp only[AV.all]at h;simp only[AV.bT,sQ fs h]
 |.iQ _ v,h=>by simp only[AV.all]at h;simp only[AV.bT,wB v h]
 |.mv _ v,h=>by simp only[AV.all]at h;simp only[AV.bT,wB v h]
theorem sQ{f:Nat->Nat}:∀l:UM,aZ eJ l=true->fj f l=l
 |[],_=>rfl
 |a::l,h=>by simp only[aZ,Bool.and_eq_true]at h;simp only[fj,wB a h.1,sQ l h.2]
end
variable{α:Type}{sz:Nat}
def wo{f:Nat->Nat}{enc:α->UM}[he:bK enc sz](l:List α):(l.map enc).map (fj f)=l.map enc:=by rw[List.map_map];exact List.map_congr_left fun x _=>sQ _ (he.free x)
def pr(x y z a b c:Nat)(i:Nat):Nat:=if i=x then a else if i=y then b else if i=z then c else i+(a+b+c+1)
def wQ(x y z a b c:Nat)(j:Nat):Nat:=if j=a then x else if j=b then y else if j=c then z else j-(a+b+c+1)
def Gy{x y z a b c:Nat}(h1:a≠b)(h2:a≠c)(h3:b≠c)(i:Nat):wQ x y z a b c (pr x y z a b c i)=i:=by
 unfold pr;split
 ·rename_i e;unfold wQ;rw[if_pos rfl];exact e.symm
 ·split
  ·rename_i e;unfold wQ;rw[if_neg (fun e=>h1 e.symm),if_pos rfl];exact e.symm
  ·split
   ·rename_i e;unfold wQ;rw[if_neg (fun e=>h2 e.symm),if_neg (fun e=>h3 e.symm),if_pos rfl];exact e.symm
   ·unfold wQ;rw[jN,jN,jN];omega
mutual
theorem y7{f:Nat->Nat}{q q':UX}(h:∀i,q i=true->q' (f i)=true):∀a:AV,a.all q=true->(a.bT f).all q'=true
 |.raw _,_=>by simp only[AV.bT,AV.all]
 |.any,_=>by simp only[AV.bT,AV.all]
 |.agg cs,k=>by simp only[AV.all]at k;simp only[AV.bT,AV.all];exact vW h cs k
 |.aQ cs,k=>by simp only[AV.all]at k;simp only[AV.bT,AV.all];exact vW h cs k
 |.sl _ _ _ _,_=>by simp only[AV.bT,AV.all]
 |.ip _,_=>by simp only[AV.bT,AV.all]
 |.gd _ v,k=>by simp only[AV.all]at k;simp only[AV.bT,AV.all];exact y7 h v k
 |.dW _ cs,k=>by simp only[AV.all]at k;simp only[AV.bT,AV.all];exact vW h cs k
 |.pt i _ _ _,k=>by simp only[AV.all]at k;simp only[AV.bT,AV.all];exact h i k
 |.rs i _ _ _,k=>by simp only[AV.all]at k;simp only[AV.bT,AV.all];exact h i k
 |.rc i _ _ _,k=>by simp only[AV.all]at k;simp only[AV.bT,AV.all];exact h i k
 |.rv i _ _ _ _,k=>by simp only[AV.all]at k;simp only[AV.bT,AV.all];exact h i k
 |.mr i,k=>by simp only[AV.all]at k;simp only[AV.bT,AV.all];exact h i k
 |.bd _ fs,k=>by simp only[AV.all]at k;simp only[AV.bT,AV.all];exact vW h fs k
 |.iQ _ v,k=>by simp only[AV.all]at k;simp only[AV.bT,AV.all];exact y7 h v k
 |.mv _ v,k=>by simp only[AV.all]at k;simp only[AV.bT,AV.all];exact y7 h v k
theorem vW{f:Nat->Nat}{q q':UX}(h:∀i,q i=true->q' (f i)=true):∀l:UM,aZ q l=true->aZ q' (fj f l)=true
 |[],_=>rfl
 |a::l,k=>by simp only[aZ,Bool.and_eq_true]at k;simp only[fj,aZ,Bool.and_eq_true];exact⟨y7 h a k.1,vW h l k.2⟩
end
variable{P:UY}{f:FuncId}
def ab.at{args:UM}{s s' e:UL}{r0:AV}{ρ g:Nat->Nat}(hg:∀i,g (ρ i)=i)(hc:ab P f args s fun r l=>r=r0/\l=s')(hs:∀i r,aC s i=some r->aC e (ρ i)=some (r.bT ρ))(ha:aZ (fun i=>(ids s).contains i) args=true)
  (U4:∀i r,aC s i=some r->aZ (fun i=>(ids s).contains i) r.cells=true) (hn:(ids s').Nodup) (Yl:∀i∈ids s',i∈ids s):ab P f (fj ρ args) e fun r l=>r=r0.bT ρ/\l=gx e (lp ρ s'):=by
 have mem:∀i,(ids s).contains i=true->(ids (lp ρ s)).contains (ρ i)=true:=fun i hi=>by rw[zC,List.contains_iff_mem];exact List.mem_map_of_mem (List.contains_iff_mem.1 hi)
 have up:∀l:UM,aZ (fun i=>(ids s).contains i) l=true->aZ (fun i=>(ids (lp ρ s)).contains i) (fj ρ l)=true:=fun l h=>vW mem l h
 have:=ab.more (e:=e) (ab.bT hg hc) (fun i r hi=>?_) (up _ ha) (fun i r hi=>?_) (fun r l hR=>?_)
 ·refine this.mono fun r l ⟨l0,⟨r1,l1,e1,e2,e3,e4⟩,e5⟩=>?_
  rw[e1,e3,e5,e2,e4];exact⟨rfl,rfl⟩
 ·obtain⟨j,r0,rfl,rfl,h3⟩:=wL hg hi;exact hs j r0 h3
 ·obtain⟨j,r0,rfl,rfl,h3⟩:=wL hg hi;rw[Row.gT];exact up _ (U4 j r0 h3)
 ·obtain⟨r1,l1,e1,e2,e3,e4⟩:=hR;subst e2 e4;refine⟨?_,fun i hi=>.inl ?_⟩
  ·rw[zC];exact hn.map _ (fun a b h1 h2=>h1 (by rw[<-hg a,<-hg b,h2]))
  ·obtain⟨r,hr⟩:=Option.ne_none_iff_exists'.1 hi;obtain⟨j,r0,rfl,rfl,h3⟩:=wL hg hr;obtain⟨x,hx⟩:=Option.ne_none_iff_exists'.1 ((lH _ _).1 (Yl j ((lH _ _).2 (by rw[h3];simp))));rw[Al hg,hx];simp
def kY(P:UY)(f:FuncId)(args:UM)(e:UL)(X:UQ)(r0:AV)(Q:NM->List U0->Prop):Prop:=∃N' l,Q N' l/\Up X e l/\cW P f args e r0 l
namespace MV
variable {p:af}{C:aI}{m:MV}{N:NM}{e:UL}{P:UY}{f:FuncId}{rest:UM}{r0:AV}{X:UQ}
def kL(N:NM)(c':MC)(jk':List aj)(e:UL):UL:=bg (bg (bg e (hn 0 N.ah.c) (.var 174 (cE c' ⟨N.ah.c,N.ah.v,jk'⟩))) (hn 2 N.ah.v) (.aG 42 3 ((c'.stack++jk').map bW))) (hn 1 N.ah.c) (.aG 42 3 (c'.slots.map bW))
def bL.nI(hR:bL p C m N e)(h1:1<=m.calls.length){c':MC}{jk':List aj}(hb:c'.stack.length+jk'.length<=2000)(Vl:aZ eJ rest=true)(hr:r0.all eJ=true)
  (hc:ab P f (.pt 6 0 0 0::rest) (kE m.ah.fn m.ah.at_ m.ah.mark m.ah.stack N.ah.jk m.ah.slots) fun r l=>r=r0/\l=kE c'.fn c'.at_ c'.mark c'.stack jk' c'.slots) :
  (bL p C (m.aX c') (N.aX ⟨N.ah.c,N.ah.v,jk'⟩) (kL N c' jk' e)/\(N.aX ⟨N.ah.c,N.ah.v,jk'⟩).ah.c=N.ah.c)/\Up X e (kL N c' jk' e)/\cW P f (.pt (hn 0 N.ah.c) 0 0 0::rest) e r0 (kL N c' jk' e):=by
 have ht:=hR.ah h1;unfold kL;have a1:hn 0 N.ah.c≠hn 2 N.ah.v:=dj jB jB jB;have a2:hn 0 N.ah.c≠hn 1 N.ah.c:=dj jB jB jB;have a3:hn 2 N.ah.v≠hn 1 N.ah.c:=dj jB jB jB;have q6:pr 6 7 8 (hn 0 N.ah.c) (hn 2 N.ah.v) (hn 1 N.ah.c) 6=hn 0 N.ah.c:=rfl;have q7:pr 6 7 8 (hn 0 N.ah.c) (hn 2 N.ah.v) (hn 1 N.ah.c) 7=hn 2 N.ah.v:=rfl;have q8:pr 6 7 8 (hn 0 N.ah.c) (hn 2 N.ah.v) (hn 1 N.ah.c) 8=hn 1 N.ah.c:=rfl;have ea:fj (pr 6 7 8 (hn 0 N.ah.c) (hn 2 N.ah.v) (hn 1 N.ah.c)) (.pt 6 0 0 0::rest)=.pt (hn 0 N.ah.c) 0 0 0::rest:=by simp only[fj,AV.bT,q6,sQ _ Vl]
 have el:gx e (lp (pr 6 7 8 (hn 0 N.ah.c) (hn 2 N.ah.v) (hn 1 N.ah.c)) (kE c'.fn c'.at_ c'.mark c'.stack jk' c'.slots))=bg (bg (bg e (hn 0 N.ah.c) (.var 174 (cE c' ⟨N.ah.c,N.ah.v,jk'⟩))) (hn 2 N.ah.v) (.aG 42 3 ((c'.stack++jk').map bW))) (hn 1 N.ah.c) (.aG 42 3 (c'.slots.map bW)):=by simp only[kE,lp,List.map_cons,List.map_nil,gx,q6,q7,q8,Row.bT,fj,AV.bT,wo (enc:=bW) (sz:=3),cE]
 have i0:=gf ht.var;have i1:=gf ht.eZ;have i2:=gf ht.cO;have no:∀l:List aj,aZ eJ ((l.map bW).flatten)=true:=fun l=>pj (nM (enc:=bW) (sz:=3) _)
 have hl:=hR.len;have Y8:bL p C (m.aX c') (N.aX ⟨N.ah.c,N.ah.v,jk'⟩) (bg (bg (bg e (hn 0 N.ah.c) (.var 174 (cE c' ⟨N.ah.c,N.ah.v,jk'⟩))) (hn 2 N.ah.v) (.aG 42 3 ((c'.stack++jk').map bW))) (hn 1 N.ah.c) (.aG 42 3 (c'.slots.map bW))):=by
  refine hR.aX h1 rfl ?_ ⟨?_,?_,?_,hb⟩ (.inl rfl) fun j hj n0 n1 n2=>?_
  ·refine((hR.ok.put (.inr (iK _ _)) ?_).put (.inr (iK _ _)) ?_).put (.inr (iK _ _)) ?_
   ·simp only[Row.cells,cE,aZ,AV.all,i1,i2,Bool.or_true,Bool.and_self]
   ·exact fX (fun _ h=>by cases h) _ (no _)
   ·exact fX (fun _ h=>by cases h) _ (no _)
  ·rw[bS,if_neg a2,bS,if_neg a1,bS,if_pos rfl]
  ·rw[bS,if_neg a3,bS,if_pos rfl]
  ·rw[bS,if_pos rfl]
  ·rw[bS,if_neg n1,bS,if_neg n2,bS,if_neg n0]
 have hup:Up X e (bg (bg (bg e (hn 0 N.ah.c) (.var 174 (cE c' ⟨N.ah.c,N.ah.v,jk'⟩))) (hn 2 N.ah.v) (.aG 42 3 ((c'.stack++jk').map bW))) (hn 1 N.ah.c) (.aG 42 3 (c'.slots.map bW))):=by
  refine((Up.put _ (.inl ?_)).trans (Up.put _ (.inl ?_))).trans (Up.put _ (.inl ?_))
  ·rw[ht.var];simp
  ·rw[bS,if_neg (fun e=>a1 e.symm),ht.cO];simp
  ·rw[bS,if_neg (fun e=>a3 e.symm),bS,if_neg (fun e=>a2 e.symm),ht.eZ];simp
 refine⟨⟨Y8,?_⟩,hup,⟨?_,hR.ok,Y8.ok,hup.aY,?_⟩⟩
 ·show(nth (N.cs.set _ _) ((N.cs.set _ _).length-1)).c=_;rw[List.length_set,Go.Gd.dG _ _ _ _ jB,if_pos rfl]
 ·rw[<-ea,<-el];refine(ab.at (e:=e) (Gy a1 a2 a3) hc (fun i r h=>?_) ?_ (fun i r h=>?_) ?_ (fun i h=>h)).mono fun r l ⟨e1,e2⟩=>⟨by rw[e1,wB _ hr],e2⟩
  ·simp only[kE,aC]at h;split at h
   ·rename_i ei;subst ei;cases h;rw[q6,ht.var];simp only[cE,Row.bT,fj,AV.bT,q7,q8]
   ·split at h
    ·rename_i ei;subst ei;cases h;rw[q7,ht.cO];simp only[Row.bT,wo (enc:=bW) (sz:=3)]
    ·split at h
     ·rename_i ei;subst ei;cases h;rw[q8,ht.eZ];simp only[Row.bT,wo (enc:=bW) (sz:=3)]
     ·cases h
  ·simp only[aZ,Bool.and_eq_true];exact⟨rfl,fX (fun _ h=>by cases h) _ Vl⟩
  ·simp only[kE,aC]at h;split at h
   ·cases h;rfl
   ·split at h
    ·cases h;exact fX (q:=eJ) (fun _ h=>by cases h) _ (no _)
    ·split at h
     ·cases h;exact fX (q:=eJ) (fun _ h=>by cases h) _ (no _)
     ·cases h
  ·show([6,7,8]:UQ).Nodup;decide
 ·simp only[aZ,Bool.and_eq_true];exact⟨i0,fX (fun _ h=>by cases h) _ Vl⟩
def bL.cI(hR:bL p C m N e)(h1:1<=m.calls.length){c':MC}{jk':List aj}(hb:c'.stack.length+jk'.length<=2000)(Vl:aZ eJ rest=true)(hr:r0.all eJ=true)
  (hc:ab P f (.pt 6 0 0 0::rest) (kE m.ah.fn m.ah.at_ m.ah.mark m.ah.stack N.ah.jk m.ah.slots) fun r l=>r=r0/\l=kE c'.fn c'.at_ c'.mark c'.stack jk' c'.slots) :
  kY P f (.pt (hn 0 N.ah.c) 0 0 0::rest) e X r0 fun N' l=>bL p C (m.aX c') N' l/\N'.k=N.k/\N'.ah.c=N.ah.c:=by
 obtain⟨h2,h3,h4⟩:=hR.nI (X:=X) h1 hb Vl hr hc;exact⟨_,_,⟨h2.1,rfl,h2.2⟩,h3,h4⟩
def bL.tB(hR:bL p C m N e)(h1:1<=m.calls.length)(Vl:aZ eJ rest=true)(hr:r0.all eJ=true)
  (hc:ab P f (.pt 6 0 0 0::rest) (kE m.ah.fn m.ah.at_ m.ah.mark m.ah.stack N.ah.jk m.ah.slots) fun r l=>r=r0/\l=kE m.ah.fn m.ah.at_ m.ah.mark m.ah.stack N.ah.jk m.ah.slots):cW P f (.pt (hn 0 N.ah.c) 0 0 0::rest) e r0 e:=by
 have ht:=hR.ah h1;obtain⟨h2,h3,h4⟩:=hR.nI (X:=[]) (c':=m.ah) (jk':=N.ah.jk) h1 ht.bd Vl hr hc;have el:kL N m.ah N.ah.jk e=e:=by unfold kL;have e0:(⟨N.ah.c,N.ah.v,N.ah.jk⟩:NC)=N.ah:=rfl;rw[e0,uI ht.var,uI ht.cO,uI ht.eZ]
 rw[el]at h4;exact h4
variable{h':UO}
def bL.n8(hR:bL p C m N e){e':UL}(ok:fO 0 e')(h1:aC e' (hn 5 N.k)=some (.var 196 [.rs (hn 6 N.k) h'.flatten.length 1 h'.flatten.length,.rs (hn 7 N.k) h'.length 1 h'.length]))
  (h2:aC e' (hn 6 N.k)=some (.aG 3 1 (h'.flatten.map eI))) (h3:aC e' (hn 7 N.k)=some (.aG 3 1 ((lT h').map eI))) (hs:∀j,j≠hn 5 N.k->j≠hn 6 N.k->j≠hn 7 N.k->aC e' j=aC e j):bL p C { m with heap:=h' } N e':=by
 have kind:∀(a k:Nat) (r:Row),a≠5->a≠6->a≠7->a<32->aC e (hn a k)=some r->aC e' (hn a k)=some r:=fun a k r h5 h6 h7 WX h=>by rw[hs _ (dj WX jB h5) (dj WX jB h6) (dj WX jB h7)];exact h
 exact⟨ok,kind _ _ _ jB jB jB jB hR.root,kind _ _ _ jB jB jB jB hR.row,h1,h2,h3,kind _ _ _ jB jB jB jB hR.outs,hR.len,fun k hk=> ⟨kind _ _ _ jB jB jB jB (hR.call k hk).var,kind _ _ _ jB jB jB jB (hR.call k hk).cO,kind _ _ _ jB jB jB jB (hR.call k hk).eZ,(hR.call k hk).bd⟩,hR.nc,hR.nv,hR.bd⟩
def hL(N:NM)(h':UO)(e:UL):UL:=bg (bg (bg e (hn 5 N.k) (.var 196 [.rs (hn 6 N.k) h'.flatten.length 1 h'.flatten.length,.rs (hn 7 N.k) h'.length 1 h'.length])) (hn 6 N.k) (.aG 3 1 (h'.flatten.map eI))) (hn 7 N.k) (.aG 3 1 ((lT h').map eI))
def bL.pW(hR:bL p C m N e)(Vl:aZ eJ rest=true)(hr:r0.all eJ=true)(hc:ab P f (.pt 2 0 0 0::rest) (gS m.heap) fun r l=>r=r0/\l=gS h') :
  bL p C { m with heap:=h' } N (hL N h' e)/\Up X e (hL N h' e)/\cW P f (.pt (hn 5 N.k) 0 0 0::rest) e r0 (hL N h' e):=by
 unfold hL;have a1:hn 5 N.k≠hn 6 N.k:=dj jB jB jB;have a2:hn 5 N.k≠hn 7 N.k:=dj jB jB jB;have a3:hn 6 N.k≠hn 7 N.k:=dj jB jB jB;have q6:pr 2 3 4 (hn 5 N.k) (hn 6 N.k) (hn 7 N.k) 2=hn 5 N.k:=rfl;have q7:pr 2 3 4 (hn 5 N.k) (hn 6 N.k) (hn 7 N.k) 3=hn 6 N.k:=rfl;have q8:pr 2 3 4 (hn 5 N.k) (hn 6 N.k) (hn 7 N.k) 4=hn 7 N.k:=rfl;have ea:fj (pr 2 3 4 (hn 5 N.k) (hn 6 N.k) (hn 7 N.k)) (.pt 2 0 0 0::rest)=.pt (hn 5 N.k) 0 0 0::rest:=by simp only[fj,AV.bT,q6,sQ _ Vl]
 have el:gx e (lp (pr 2 3 4 (hn 5 N.k) (hn 6 N.k) (hn 7 N.k)) (gS h'))=bg (bg (bg e (hn 5 N.k) (.var 196 [.rs (hn 6 N.k) h'.flatten.length 1 h'.flatten.length,.rs (hn 7 N.k) h'.length 1 h'.length])) (hn 6 N.k) (.aG 3 1 (h'.flatten.map eI))) (hn 7 N.k) (.aG 3 1 ((lT h').map eI)):=by simp only[gS,lp,List.map_cons,List.map_nil,gx,q6,q7,q8,Row.bT,fj,AV.bT,wo (enc:=eI) (sz:=1)]
 have i0:=gf hR.hp;have i1:=gf hR.cells;have i2:=gf hR.ends;have no:∀l:UP,aZ eJ ((l.map eI).flatten)=true:=fun l=>pj (nM (enc:=eI) (sz:=1) _)
 have Y8:bL p C { m with heap:=h' } N (bg (bg (bg e (hn 5 N.k) (.var 196 [.rs (hn 6 N.k) h'.flatten.length 1 h'.flatten.length,.rs (hn 7 N.k) h'.length 1 h'.length])) (hn 6 N.k) (.aG 3 1 (h'.flatten.map eI))) (hn 7 N.k) (.aG 3 1 ((lT h').map eI))):=by
  refine hR.n8 ?_ ?_ ?_ ?_ fun j n0 n1 n2=>?_
  ·refine((hR.ok.put (.inr (iK _ _)) ?_).put (.inr (iK _ _)) ?_).put (.inr (iK _ _)) ?_
   ·simp only[Row.cells,aZ,AV.all,i1,i2,Bool.or_true,Bool.and_self]
   ·exact fX (fun _ h=>by cases h) _ (no _)
   ·exact fX (fun _ h=>by cases h) _ (no _)
  ·rw[bS,if_neg a2,bS,if_neg a1,bS,if_pos rfl]
  ·rw[bS,if_neg a3,bS,if_pos rfl]
  ·rw[bS,if_pos rfl]
  ·rw[bS,if_neg n2,bS,if_neg n1,bS,if_neg n0]
 have hup:Up X e (bg (bg (bg e (hn 5 N.k) (.var 196 [.rs (hn 6 N.k) h'.flatten.length 1 h'.flatten.length,.rs (hn 7 N.k) h'.length 1 h'.length])) (hn 6 N.k) (.aG 3 1 (h'.flatten.map eI))) (hn 7 N.k) (.aG 3 1 ((lT h').map eI))):=by
  refine((Up.put _ (.inl ?_)).trans (Up.put _ (.inl ?_))).trans (Up.put _ (.inl ?_))
  ·rw[hR.hp];simp
  ·rw[bS,if_neg (fun e=>a1 e.symm),hR.cells];simp
  ·rw[bS,if_neg (fun e=>a3 e.symm),bS,if_neg (fun e=>a2 e.symm),hR.ends];simp
 refine⟨Y8,hup,⟨?_,hR.ok,Y8.ok,hup.aY,?_⟩⟩
 ·rw[<-ea,<-el];refine(ab.at (e:=e) (Gy a1 a2 a3) hc (fun i r h=>?_) ?_ (fun i r h=>?_) ?_ (fun i h=>h)).mono fun r l ⟨e1,e2⟩=>⟨by rw[e1,wB _ hr],e2⟩
  ·simp only[gS,aC]at h;split at h
   ·rename_i ei;subst ei;cases h;rw[q6,hR.hp];simp only[Row.bT,fj,AV.bT,q7,q8]
   ·split at h
    ·rename_i ei;subst ei;cases h;rw[q7,hR.cells];simp only[Row.bT,wo (enc:=eI) (sz:=1)]
    ·split at h
     ·rename_i ei;subst ei;cases h;rw[q8,hR.ends];simp only[Row.bT,wo (enc:=eI) (sz:=1)]
     ·cases h
  ·simp only[aZ,Bool.and_eq_true];exact⟨rfl,fX (fun _ h=>by cases h) _ Vl⟩
  ·simp only[gS,aC]at h;split at h
   ·cases h;rfl
   ·split at h
    ·cases h;exact fX (q:=eJ) (fun _ h=>by cases h) _ (no _)
    ·split at h
     ·cases h;exact fX (q:=eJ) (fun _ h=>by cases h) _ (no _)
     ·cases h
  ·show([2,3,4]:UQ).Nodup;decide
 ·simp only[aZ,Bool.and_eq_true];exact⟨i0,fX (fun _ h=>by cases h) _ Vl⟩
def bL.sY(hR:bL p C m N e)(Vl:aZ eJ rest=true)(hr:r0.all eJ=true)(hc:ab P f (.pt 2 0 0 0::rest) (gS m.heap) fun r l=>r=r0/\l=gS h') :
  kY P f (.pt (hn 5 N.k) 0 0 0::rest) e X r0 fun N' l=>bL p C { m with heap:=h' } N' l/\N'.k=N.k/\N'.ah.c=N.ah.c:=by
 obtain⟨h2,h3,h4⟩:=hR.pW (X:=X) Vl hr hc;exact⟨_,_,⟨h2,rfl,rfl⟩,h3,h4⟩
def bL.lf(hR:bL p C m N e)(Vl:aZ eJ rest=true)(hr:r0.all eJ=true)(hc:ab P f (.pt 2 0 0 0::rest) (gS m.heap) fun r l=>r=r0/\l=gS m.heap):cW P f (.pt (hn 5 N.k) 0 0 0::rest) e r0 e:=by
 obtain⟨h2,h3,h4⟩:=hR.pW (X:=[]) (h':=m.heap) Vl hr hc;have el:hL N m.heap e=e:=by unfold hL;rw[uI hR.hp,uI hR.cells,uI hR.ends]
 rw[el]at h4;exact h4
end MV
variable{H:Hp}{t:US}
def iD.gl{r:AV}(i j k:Nat)(e:US)(sz:Nat){cs:UM}(hi:H.get i=none)(h0:0<sz)(hj:H.get j=some (.var t cs))(hk:cs[k]?=some (.raw (.slice none 0 0))):iD r H r ((H.put i (.aG e sz [])).put j (.var t (cs.set k (.rs i 0 sz 0)))):=fun w v h1 h2=>by
 obtain⟨a,b⟩:=wP h1 hi e h0;have hij:j≠i:=fun e=>by subst e;rw[hi]at hj;cases hj
 obtain⟨a',b'⟩:=AN (cs':=cs.set k (.rs i 0 sz 0)) a (j:=j) (t:=t) (cs:=cs) (by rw[Hp.bk,if_neg hij];exact hj) jE fun n x x' v hx Vx hv=>by
  rw[List.getElem?_set]at Vx;by_cases hn:k=n
  ·subst hn;rw[if_pos rfl]at Vx;split at Vx
   ·cases Vx;rw[hk]at hx;cases hx;cases hv;exact .iN _ _ _ _ (NW.cA _ _ _ _)
   ·cases Vx
  ·rw[if_neg hn,hx]at Vx;cases Vx;exact hv
 exact⟨w.name i 0 .nil,rfl,a',h2.ext b,(b.trans b').pU⟩
abbrev mP(N:NM):AV:=.pt (hn 3 N.k) 0 0 0
abbrev cP(N:NM):AV:=.pt (hn 0 N.ah.c) 0 0 0
def To(p:af)(C:aI)(m':MV)(N:NM)(N':NM)(l:UL):Prop:=MV.bL p C m' N' l/\N'.k=N.k/\N'.ah.c=N.ah.c
def NM.pop(N:NM):NM:={ N with cs:=N.cs.take (N.cs.length-1),cj:=N.ah.c::N.cj }
def NM.nU(N:NM)(j:Nat):NM:={ N with cs:=N.cs++[⟨j,j,[]⟩],cj:=N.cj.drop 1 }
namespace MV
variable {p:af}{C:aI}{m:MV}{N:NM}{e:UL}
def bL.gH(hR:bL p C m N e){e':UL}(h:∀j,j∈ids e->j∈ids e')(m':MV)(N':NM)(hk:N'.k=N.k):aZ (fun j=>(ids e').contains j) (mE p C m' N')=true:=by have c4:=List.contains_iff_mem.2 (h _ (List.contains_iff_mem.1 (gf hR.row)));have c5:=List.contains_iff_mem.2 (h _ (List.contains_iff_mem.1 (gf hR.hp)));have c8:=List.contains_iff_mem.2 (h _ (List.contains_iff_mem.1 (gf hR.outs)));have up:aZ (fun j=>(ids e').contains j) (km p)=true:=fX (q:=eJ) (fun _ h=>by cases h) _ rfl;unfold mE;rw[tE,up,hk];simp only[aZ,AV.all,c4,c5,c8,Bool.and_self,aM]
def Qw(h1:1<=N.cs.length):N.pop.cs.map NC.c++N.pop.cj=N.cs.map NC.c++N.cj:=by
 show(N.cs.take (N.cs.length-1)).map NC.c++(N.ah.c::N.cj)=_;have e1:N.cs.take (N.cs.length-1)++[N.ah]=N.cs:=by unfold NM.ah;rw[fM jB,List.take_append_getElem,show N.cs.length-1+1=N.cs.length from jB,List.take_length]
 have:(N.cs.take (N.cs.length-1)).map NC.c++(N.ah.c::N.cj)=((N.cs.take (N.cs.length-1)++[N.ah]).map NC.c)++N.cj:=jE;rw[this,e1]
def bL.wD(hR:bL p C m N e)(h1:1<=m.calls.length){m':MV}(hc:m'.calls=m.calls.take (m.calls.length-1))(h2:m'.heap=m.heap)(h3:m'.bC=m.bC):bL p C m' N.pop (bg e (hn 3 N.k) (.var 166 (mE p C m' N.pop))):=by
 have hl:=hR.len;have kind:∀(a k:Nat) (r:Row),a≠3->a<32->aC e (hn a k)=some r->aC (bg e (hn 3 N.k) (.var 166 (mE p C m' N.pop))) (hn a k)=some r:=fun a k r h3 WX h=>by rw[bS,if_neg (dj WX jB h3)];exact h
 have lt:(N.cs.take (N.cs.length-1)).length=N.cs.length-1:=by rw[List.length_take];omega
 have ml:m'.calls.length=m.calls.length-1:=by rw[hc,List.length_take];omega
 refine⟨hR.ok.put (.inr (iK _ _)) ?_,by show aC _ (hn 3 N.k)=_;rw[bS,if_pos rfl],?_,?_,?_,?_,?_,by rw[ml,<-hl];exact lt,fun k hk=>?_,?_,?_,?_⟩
 ·exact fX (fun j hj=>by rw[Bool.or_eq_true];exact .inr hj) _ (hR.gH (fun _ h=>h) m' N.pop rfl)
 ·rw[Qw jB];exact kind _ _ _ jB jB hR.row
 ·rw[h2];exact kind _ _ _ jB jB hR.hp
 ·rw[h2];exact kind _ _ _ jB jB hR.cells
 ·rw[h2];exact kind _ _ _ jB jB hR.ends
 ·rw[h3];exact kind _ _ _ jB jB hR.outs
 ·rw[ml]at hk;have Wj:=hR.call k jB;have e1:nth m'.calls k=nth m.calls k:=by
   rw[hc];unfold nth;rw[List.getD_eq_getElem?_getD,List.getElem?_take,if_pos hk,List.getD_eq_getElem?_getD]
  have e2:nth N.pop.cs k=nth N.cs k:=by show nth (N.cs.take _) k=_;unfold nth;rw[List.getD_eq_getElem?_getD,List.getElem?_take,jP,List.getD_eq_getElem?_getD]
  rw[e1,e2];exact⟨kind _ _ _ jB jB Wj.var,kind _ _ _ jB jB Wj.cO,kind _ _ _ jB jB Wj.eZ,Wj.bd⟩
 ·show((N.cs.take _).map NC.c).Nodup;rw[List.map_take];exact(List.take_sublist _ _).nodup hR.nc
 ·show((N.cs.take _).map NC.v).Nodup;rw[List.map_take];exact(List.take_sublist _ _).nodup hR.nv
 ·show(N.cs.take _).length+(N.ah.c::N.cj).length<=1000;have:=hR.bd;rw[lt,List.length_cons];omega
def nV(p:af)(C:aI)(m':MV)(N:NM)(c':MC)(j:Nat)(e:UL):UL:=
 bg (bg (bg (bg (bg e (hn 1 j) (.aG 42 3 (c'.slots.map bW))) (hn 2 j) (.aG 42 3 (c'.stack.map bW))) (hn 0 j) (.var 174 (cE c' ⟨j,j,[]⟩))) (hn 4 N.k) (.aG 169 1 (((N.nU j).cs.map NC.c++(N.nU j).cj).map fun j=>[.pt (hn 0 j) 0 0 0]))) (hn 3 N.k) (.var 166 (mE p C m' (N.nU j)))
def bL.Bb(hR:bL p C m N e)(h8:m.calls.length<=100){m':MV}{c':MC}{j:Nat}(hc:m'.calls=m.calls++[c'])(h2:m'.heap=m.heap)(h3:m'.bC=m.bC)(j0:aC e (hn 0 j)=none)(j1:aC e (hn 1 j)=none)(j2:aC e (hn 2 j)=none)(hb:c'.stack.length<=2000) :
  bL p C m' (N.nU j) (nV p C m' N c' j e):=by
 have hl:=hR.len;have no:∀l:List aj,aZ eJ ((l.map bW).flatten)=true:=fun l=>pj (nM (enc:=bW) (sz:=3) _)
 have kind:∀(a k:Nat) (r:Row),a<32->(hn a k≠hn 1 j)->(hn a k≠hn 2 j)->(hn a k≠hn 0 j)->a≠4->a≠3->aC e (hn a k)=some r->aC (nV p C m' N c' j e) (hn a k)=some r:=fun a k r WX n1 n2 n0 h4 h3 h=>by unfold nV;rw[bS,if_neg (dj WX jB h3),bS,if_neg (dj WX jB h4),bS,if_neg n0,bS,if_neg n2,bS,if_neg n1];exact h
 have px:∀(a k:Nat) (r:Row),a<32->4<a->aC e (hn a k)=some r->aC (nV p C m' N c' j e) (hn a k)=some r:=fun a k r WX h4 h=>kind a k r WX (dj WX jB jB) (dj WX jB jB) (dj WX jB jB) jB jB h
 have ml:m'.calls.length=m.calls.length+1:=by rw[hc];simp
 have nl:(N.nU j).cs.length=N.cs.length+1:=by show(N.cs++[_]).length=_;simp
 refine⟨?_,by show aC _ (hn 3 N.k)=_;unfold nV;rw[bS,if_pos rfl],by show aC _ (hn 4 N.k)=_;unfold nV;rw[bS,if_neg (dj jB jB jB),bS,if_pos rfl],by rw[h2];exact px 5 _ _ jB jB hR.hp,by rw[h2];exact px 6 _ _ jB jB hR.cells,by rw[h2];exact px 7 _ _ jB jB hR.ends,by rw[h3];exact px 8 _ _ jB jB hR.outs,by rw[nl,ml,hl],fun k hk=>?_,?_,?_,?_⟩
 ·unfold nV;have k1:=((hR.ok.put (i:=hn 1 j) (r:=.aG 42 3 (c'.slots.map bW)) (.inr (iK _ _)) (fX (fun _ h=>by cases h) _ (no _))).put (i:=hn 2 j) (r:=.aG 42 3 (c'.stack.map bW)) (.inr (iK _ _)) (fX (fun _ h=>by cases h) _ (no _)));have m1:∀x,x∈ids e->x∈ids (bg (bg e (hn 1 j) (.aG 42 3 (c'.slots.map bW))) (hn 2 j) (.aG 42 3 (c'.stack.map bW))):=fun x hx=>(oQ _ _ _ _).2 (.inr ((oQ _ _ _ _).2 (.inr hx)))
  have i1:hn 1 j∈ids (bg (bg e (hn 1 j) (.aG 42 3 (c'.slots.map bW))) (hn 2 j) (.aG 42 3 (c'.stack.map bW))):=(oQ _ _ _ _).2 (.inr ((oQ _ _ _ _).2 (.inl rfl)));have i2:hn 2 j∈ids (bg (bg e (hn 1 j) (.aG 42 3 (c'.slots.map bW))) (hn 2 j) (.aG 42 3 (c'.stack.map bW))):=(oQ _ _ _ _).2 (.inl rfl);generalize bg (bg e (hn 1 j) (.aG 42 3 (c'.slots.map bW))) (hn 2 j) (.aG 42 3 (c'.stack.map bW))=e1 at k1 m1 i1 i2;rw[<-List.contains_iff_mem]at i1 i2;have k2:=k1.put (i:=hn 0 j) (r:=.var 174 (cE c' ⟨j,j,[]⟩)) (.inr (iK _ _)) (by simp only[Row.cells,cE,aZ,AV.all,i1,i2,Bool.or_true,Bool.and_self]);have m2:∀x,x∈ids e->x∈ids (bg e1 (hn 0 j) (.var 174 (cE c' ⟨j,j,[]⟩))):=fun x hx=>(oQ _ _ _ _).2 (.inr (m1 x hx))
  have i0:hn 0 j∈ids (bg e1 (hn 0 j) (.var 174 (cE c' ⟨j,j,[]⟩))):=(oQ _ _ _ _).2 (.inl rfl);generalize bg e1 (hn 0 j) (.var 174 (cE c' ⟨j,j,[]⟩))=e2 at k2 m2 i0;have hold:∀x∈N.cs.map NC.c++N.cj,hn 0 x∈ids e:=fun x hx=>by have:=BB (hR.ok.closed _ _ hR.row) [.pt (hn 0 x) 0 0 0] (List.mem_map.2 ⟨x,hx,rfl⟩);simp only[aZ,AV.all,Bool.and_true]at this;exact List.contains_iff_mem.1 this
  have Yi:∀x∈(N.nU j).cs.map NC.c++(N.nU j).cj,hn 0 x∈ids e2:=fun x hx=>by
   have hx:x∈(N.cs++[(⟨j,j,[]⟩:NC)]).map NC.c++N.cj.drop 1:=hx;rw[List.map_append]at hx;simp only[List.mem_append,List.map_cons,List.map_nil,List.mem_singleton]at hx;rcases hx with(hx|rfl)|hx
   ·exact m2 _ (hold x (List.mem_append_left _ hx))
   ·exact i0
   ·exact m2 _ (hold x (List.mem_append_right _ (List.mem_of_mem_drop hx)))
  have k3:=k2.put (i:=hn 4 N.k) (r:=.aG 169 1 (((N.nU j).cs.map NC.c++(N.nU j).cj).map fun j=>[.pt (hn 0 j) 0 0 0])) (.inr (iK _ _)) (pj fun y hy=>by obtain⟨x,hx,rfl⟩:=List.mem_map.1 hy;have:=List.contains_iff_mem.2 (Yi x hx);simp only[aZ,AV.all,this,Bool.or_true,Bool.and_self])
  refine k3.put (.inr (iK _ _)) ?_;exact fX (fun j hj=>by rw[Bool.or_eq_true];exact .inr hj) _ (hR.gH (fun x hx=>(oQ _ _ _ _).2 (.inr (m2 x hx))) m' (N.nU j) rfl)
 ·rw[ml]at hk;by_cases Vc:k<m.calls.length
  ·have Wj:=hR.call k Vc;have e1:nth m'.calls k=nth m.calls k:=by rw[hc,pK Vc]
   have e2:nth (N.nU j).cs k=nth N.cs k:=by show nth (N.cs++_) k=_;rw[pK jB]
   have q0:hn 0 (nth N.cs k).c≠hn 0 j:=fun e'=>by rw[<-e',Wj.var]at j0;cases j0
   have q1:hn 1 (nth N.cs k).c≠hn 1 j:=fun e'=>by rw[<-e',Wj.eZ]at j1;cases j1
   have q2:hn 2 (nth N.cs k).v≠hn 2 j:=fun e'=>by rw[<-e',Wj.cO]at j2;cases j2
   rw[e1,e2];exact⟨kind _ _ _ jB (dj jB jB jB) (dj jB jB jB) q0 jB jB Wj.var,kind _ _ _ jB (dj jB jB jB) q2 (dj jB jB jB) jB jB Wj.cO,kind _ _ _ jB q1 (dj jB jB jB) (dj jB jB jB) jB jB Wj.eZ,Wj.bd⟩
  ·have ek:k=m.calls.length:=jB;subst ek;have e1:nth m'.calls m.calls.length=c':=by rw[hc,qL]
   have e2:nth (N.nU j).cs m.calls.length=⟨j,j,[]⟩:=by show nth (N.cs++[_]) _=_;rw[<-hl,qL]
   rw[e1,e2];refine⟨?_,?_,?_,by show c'.stack.length+0<=2000;omega⟩
   ·unfold nV;rw[bS,if_neg (dj jB jB jB),bS,if_neg (dj jB jB jB),bS,if_pos rfl]
   ·unfold nV;rw[bS,if_neg (dj jB jB jB),bS,if_neg (dj jB jB jB),bS,if_neg (dj jB jB jB),bS,if_pos rfl,List.append_nil]
   ·unfold nV;rw[bS,if_neg (dj jB jB jB),bS,if_neg (dj jB jB jB),bS,if_neg (dj jB jB jB),bS,if_neg (dj jB jB jB),bS,if_pos rfl]
 ·show((N.cs++[(⟨j,j,[]⟩:NC)]).map NC.c).Nodup;rw[List.map_append,List.nodup_append];refine⟨hR.nc,jE,fun a ha b hb e'=>?_⟩;have hb:b=j:=by simpa using hb
  obtain⟨x,hx,rfl⟩:=List.mem_map.1 ha;obtain⟨k,hk,rfl⟩:=List.getElem_of_mem hx;have:=(hR.call k jB).var;rw[fM jB,e',hb,j0]at this;cases this
 ·show((N.cs++[(⟨j,j,[]⟩:NC)]).map NC.v).Nodup;rw[List.map_append,List.nodup_append];refine⟨hR.nv,jE,fun a ha b hb e'=>?_⟩;have hb:b=j:=by simpa using hb
  obtain⟨x,hx,rfl⟩:=List.mem_map.1 ha;obtain⟨k,hk,rfl⟩:=List.getElem_of_mem hx;have:=(hR.call k jB).cO;rw[fM jB,e',hb,j2]at this;cases this
 ·show(N.cs++[_]).length+(N.cj.drop 1).length<=1000;have:=hR.bd;rw[List.length_append,List.length_drop,List.length_singleton];omega
end MV
namespace MV
variable {p:af}{C:aI}{m:MV}{N:NM}{e:UL}
def Il(h:1<=N.cs.length):N.aX N.ah=N:=by unfold NM.aX NM.ah;rw[fM jB,List.set_getElem_self]
def bL.j5(hR:bL p C m N e)(h1:1<=m.calls.length){c':MC}(hs:c'.stack=m.ah.stack)(hl:c'.slots=m.ah.slots):bL p C (m.aX c') N (bg e (hn 0 N.ah.c) (.var 174 (MV.cE c' N.ah))):=by
 have ht:=hR.ah h1;have O':=hR.len;have h:=hR.aX (e':=bg e (hn 0 N.ah.c) (.var 174 (MV.cE c' N.ah))) h1 (c':=c') (n':=N.ah) rfl ?_ ⟨?_,?_,?_,by rw[hs];exact ht.bd⟩ (.inl rfl) fun j hj n0 n1 n2=>by rw[bS,if_neg n0]
 ·rw[Il jB]at h;exact h
 ·refine hR.ok.put (.inr (iK _ _)) ?_;have i1:=gf ht.eZ;have i2:=gf ht.cO;simp only[Row.cells,MV.cE,aZ,AV.all,i1,i2,Bool.or_true,Bool.and_self]
 ·rw[bS,if_pos rfl]
 ·rw[bS,if_neg (dj jB jB jB),hs];exact ht.cO
 ·rw[bS,if_neg (dj jB jB jB),hl];exact ht.eZ
end MV
namespace MV
structure Bd(n:Nat)(m:MV):Prop where
 deep:∀k,k+1<m.calls.length->(nth m.calls k).stack.length<=1000
 slots:∀k,k<m.calls.length->(nth m.calls k).slots.length<=24
 heap:gw m.heap<=40
 outs:m.bC.length<=24
 od:0<=m.in_
 oF:m.in_<=n
variable {n:Nat}{m:MV}
theorem Bd.ah(h:Bd n m)(h1:1<=m.calls.length):m.ah.slots.length<=24:=h.slots (m.calls.length-1) jB
theorem Bd.aX(h:Bd n m){c:MC}(hc:c.slots.length<=24):Bd n (m.aX c):=by
 have hl:(m.aX c).calls.length=m.calls.length:=bP _ _;have e:∀k,k<m.calls.length->nth (m.aX c).calls k=if k=m.calls.length-1 then c else nth m.calls k:=fun k hk=>Go.Gd.dG _ _ _ _ jB
 refine⟨fun k hk=>?_,fun k hk=>?_,h.heap,h.outs,h.od,h.oF⟩
 ·rw[hl]at hk;rw[e k jB,jN];exact h.deep k hk
 ·rw[hl]at hk;rw[e k hk];split
  ·exact hc
  ·exact h.slots k hk
theorem Bd.status(h:Bd n m)(s t:Int):Bd n { m with status:=s,dn:=t }:=⟨h.deep,h.slots,h.heap,h.outs,h.od,h.oF⟩
theorem Bd.push(h:Bd n m)(h1:1<=m.calls.length)(v:aj):Bd n (m.push v):=h.aX (h.ah h1)
theorem Bd.cut(h:Bd n m)(h1:1<=m.calls.length)(k:Nat):Bd n (m.cut k):=h.aX (h.ah h1)
theorem Bd.stops(h:Bd n m)(h1:1<=m.calls.length)(s t:Int):Bd n (m.stops s t):=(h.aX (c:=m.ah.back) (h.ah h1)).status s t
theorem Bd.eu(h:Bd n m)(h1:1<=m.calls.length)(r:aj×Int):Bd n (m.eu r):=by
 unfold MV.eu;split
 ·exact h.stops h1 _ _
 ·exact h.push h1 _
def gP{α:Type}[Inhabited α]{l:List α}{n k:Nat}(h:k<n):nth (l.take n) k=nth l k:=by unfold nth;rw[List.getD_eq_getElem?_getD,List.getElem?_take,if_pos h,List.getD_eq_getElem?_getD]
theorem Bd.pop(h:Bd n m):Bd n m.pop:=by
 have hl:m.pop.calls.length=m.calls.length-1:=by show(m.calls.take _).length=_;rw[List.length_take];omega
 have e:∀k,k<m.calls.length-1->nth m.pop.calls k=nth m.calls k:=fun k hk=>gP hk
 refine⟨fun k hk=>?_,fun k hk=>?_,h.heap,h.outs,h.od,h.oF⟩
 ·rw[hl]at hk;rw[e k jB];exact h.deep k jB
 ·rw[hl]at hk;rw[e k hk];exact h.slots k jB
theorem Bd.ends(h:Bd n m)(v:aj):Bd n (m.ends v):=by
 unfold MV.ends;split
 ·exact h.pop.status 2 m.pop.dn
 ·rename_i h2;refine h.pop.push ?_ v;show 1<=(m.calls.take _).length;rw[List.length_take];omega
theorem Bd.cR{p:af}{C:aI}(h:Bd n m)(h1:1<=m.calls.length)(hd:m.ah.stack.length<=1000){fn:Int}{args:List aj}(s1:nth p.size fn.toNat<=24)(s2:(args.length:Int)<=nth p.size fn.toNat):Bd n (m.cR p C fn args):=by
 have hl:(m.cR p C fn args).calls.length=m.calls.length+1:=by show(m.calls++[_]).length=_;simp
 have e:∀k,k<m.calls.length->nth (m.cR p C fn args).calls k=nth m.calls k:=fun k hk=>pK hk
 refine⟨fun k hk=>?_,fun k hk=>?_,h.heap,h.outs,h.od,h.oF⟩
 ·rw[hl]at hk;rw[e k jB];by_cases Vc:k=m.calls.length-1
  ·subst Vc;exact hd
  ·exact h.deep k jB
 ·rw[hl]at hk;by_cases Vc:k<m.calls.length
  ·rw[e k Vc];exact h.slots k Vc
  ·have:k=m.calls.length:=jB;subst this;have:nth (m.cR p C fn args).calls m.calls.length=iF p C fn args:=qL _ _;rw[this];show(args++List.replicate _ v0).length<=24;rw[List.length_append,List.length_replicate];omega
def Bd.n8(h:Bd n m){h':UO}(hc:gw h'<=40):Bd n { m with heap:=h' }:=⟨h.deep,h.slots,hc,h.outs,h.od,h.oF⟩
end MV
namespace MV
variable (m:MV)(p:af)(C:aI)(inp:UP)(x:ay)
def Re(h:x.op=2):m.ins p C inp x=m.push (vI x.a):=by unfold MV.ins;dsimp only;rw[if_pos h]
def Sw(h:x.op=3):m.ins p C inp x=m.push (vB (decide (x.a=1))):=by unfold MV.ins;dsimp only;rw[jN,if_pos h]
def QA(h:x.op=4):m.ins p C inp x=m.push (vT x.s):=by unfold MV.ins;dsimp only;rw[jN,jN,if_pos h]
def TE(h:x.op=5):m.ins p C inp x=m.push (ff m.ah.slots x.a x.b):=by unfold MV.ins;dsimp only;rw[jN,jN,jN,if_pos h]
def I4(h:x.op=6):m.ins p C inp x=m.aX { m.ah.cut 1 with slots:=m.ah.slots.set x.a.toNat m.ah.last }:=by unfold MV.ins;dsimp only;rw[jN,jN,jN,jN,if_pos h]
def Ea(h:x.op=7):m.ins p C inp x=(m.cut 2).eu (qu x.s (m.ah.cut 1).last m.ah.last):=by unfold MV.ins;dsimp only;rw[jN,jN,jN,jN,jN,if_pos h]
def Fh(h:x.op=8):m.ins p C inp x=(m.cut 1).push (mT (⟨#[45]⟩:UR) m.ah.last):=by unfold MV.ins;dsimp only;rw[jN,jN,jN,jN,jN,jN,if_pos h]
def IS(h:x.op=9):m.ins p C inp x=(m.cut 1).push (mT (⟨#[33]⟩:UR) m.ah.last):=by unfold MV.ins;dsimp only;rw[jN,jN,jN,jN,jN,jN,jN,if_pos h]
def Ef(h:x.op=10):m.ins p C inp x=(m.cut 1).push (vI (if m.ah.last.ty=4 then((bn m.heap m.ah.last.n).length:Int)else(m.ah.last.s.size:Int))):=by unfold MV.ins;dsimp only;rw[jN,jN,jN,jN,jN,jN,jN,jN,if_pos h]
def Fu(h:x.op=11):m.ins p C inp x=if m.ah.last.n<0\/((bn m.heap (ff m.ah.slots x.a 4).n).length:Int)<=m.ah.last.n then(m.cut 1).stops 3 2 else(m.cut 1).push (vI (nth (bn m.heap (ff m.ah.slots x.a 4).n) m.ah.last.n.toNat)):=by unfold MV.ins;dsimp only;rw[jN,jN,jN,jN,jN,jN,jN,jN,jN,if_pos h]
def Er(h:x.op=12):m.ins p C inp x=if(m.ah.cut 1).last.n<0\/((bn m.heap (ff m.ah.slots x.a 4).n).length:Int)<=(m.ah.cut 1).last.n then(m.cut 2).stops 3 2 else{ m.cut 2 with heap:=m.heap.set ((ff m.ah.slots x.a 4).n-1).toNat ((nth m.heap ((ff m.ah.slots x.a 4).n-1).toNat).set (m.ah.cut 1).last.n.toNat m.ah.last.n) }:=by unfold MV.ins;dsimp only;rw[jN,jN,jN,jN,jN,jN,jN,jN,jN,jN,if_pos h]
def I6(h:x.op=13):m.ins p C inp x=if m.ah.last.n<0\/16<m.ah.last.n then(m.cut 1).stops 3 7 else if 40<gw m.heap+m.ah.last.n+1 then(m.cut 1).stops 3 4 else{ (m.cut 1).push ⟨4,m.heap.length+1,sE⟩with heap:=m.heap++[List.replicate m.ah.last.n.toNat 0] }:=by unfold MV.ins;dsimp only;rw[jN,jN,jN,jN,jN,jN,jN,jN,jN,jN,jN,if_pos h]
def gK(h:x.op=14):m.ins p C inp x=if(inp.length:Int)<=m.in_ then m.stops 1 0 else{ m.push (vI (nth inp m.in_.toNat))with in_:=m.in_+1 }:=by unfold MV.ins;dsimp only;rw[jN,jN,jN,jN,jN,jN,jN,jN,jN,jN,jN,jN,if_pos h]
def HE(h:x.op=15):m.ins p C inp x=if 24<=m.bC.length then m.stops 3 5 else{ m.cut 1 with bC:=m.bC++[na m.ah.last] }:=by unfold MV.ins;dsimp only;rw[jN,jN,jN,jN,jN,jN,jN,jN,jN,jN,jN,jN,jN,if_pos h]
def P5(h:x.op=16):m.ins p C inp x=m.aX (m.ah.jump x.a):=by unfold MV.ins;dsimp only;rw[jN,jN,jN,jN,jN,jN,jN,jN,jN,jN,jN,jN,jN,jN,if_pos h]
def T8(h:x.op=17):m.ins p C inp x=if m.ah.last.n=0 then m.aX ((m.ah.cut 1).jump x.a)else m.cut 1:=by unfold MV.ins;dsimp only;rw[jN,jN,jN,jN,jN,jN,jN,jN,jN,jN,jN,jN,jN,jN,jN,if_pos h]
def Oc(h:x.op=18\/x.op=19):m.ins p C inp x=if(m.ah.last.n=1<->x.op=19)then m.aX (m.ah.jump x.a)else m.cut 1:=by unfold MV.ins;dsimp only;rw[jN,jN,jN,jN,jN,jN,jN,jN,jN,jN,jN,jN,jN,jN,jN,jN,if_pos h]
def Bf(h:x.op=20):m.ins p C inp x=if 8<=m.calls.length then(m.cut x.b.toNat).stops 3 3 else(m.cut x.b.toNat).cR p C x.a (m.ah.stack.drop (m.ah.stack.length-x.b.toNat)):=by unfold MV.ins;dsimp only;rw[jN,jN,jN,jN,jN,jN,jN,jN,jN,jN,jN,jN,jN,jN,jN,jN,jN,if_pos h]
def Ju(h:x.op=21):m.ins p C inp x=(m.cut 1).ends m.ah.last:=by unfold MV.ins;dsimp only;rw[jN,jN,jN,jN,jN,jN,jN,jN,jN,jN,jN,jN,jN,jN,jN,jN,jN,jN,if_pos h]
def Gg(h:x.op=22):m.ins p C inp x=m.ends (vZ x.a):=by unfold MV.ins;dsimp only;rw[jN,jN,jN,jN,jN,jN,jN,jN,jN,jN,jN,jN,jN,jN,jN,jN,jN,jN,jN,if_pos h]
def G8(h:x.op=23):m.ins p C inp x=m.cut 1:=by unfold MV.ins;dsimp only;rw[jN,jN,jN,jN,jN,jN,jN,jN,jN,jN,jN,jN,jN,jN,jN,jN,jN,jN,jN,jN,if_pos h]
def SI(h:x.op<2\/23<x.op):m.ins p C inp x=m:=by unfold MV.ins;dsimp only;rw[jN,jN,jN,jN,jN,jN,jN,jN,jN,jN,jN,jN,jN,jN,jN,jN,jN,jN,jN,jN,jN]
end MV
namespace MV
variable {p:af}{C:aI}{m:MV}{N:NM}{e:UL}
def bL.sy(hR:bL p C m N e)(h1:1<=m.calls.length)(l:List aj)(hl:l.length=m.ah.slots.length):bL p C (m.aX { m.ah with slots:=l }) N (bg e (hn 1 N.ah.c) (.aG 42 3 (l.map bW))):=by
 have ht:=hR.ah h1;have O':=hR.len;have h:=hR.aX (e':=bg e (hn 1 N.ah.c) (.aG 42 3 (l.map bW))) h1 (c':={ m.ah with slots:=l }) (n':=N.ah) rfl ?_ ⟨?_,?_,?_,ht.bd⟩ (.inl rfl) fun j hj n0 n1 n2=>by rw[bS,if_neg n1]
 ·rw[Il jB]at h;exact h
 ·exact hR.ok.put (.inr (iK _ _)) (fX (q:=eJ) (fun _ h=>by cases h) _ (pj (nM (enc:=bW) (sz:=3) _)))
 ·rw[bS,if_neg (dj jB jB jB),ht.var];unfold MV.cE;rw[<-hl]
 ·rw[bS,if_neg (dj jB jB jB)];exact ht.cO
 ·rw[bS,if_pos rfl]
end MV
theorem iD.nil{r:AV}{H:Hp}(i:Nat)(e:US){sz:Nat}(hi:H.get i=none)(h0:0<sz)(hs:r=.raw (.slice none 0 0)):iD r H (.rs i 0 sz 0) (H.put i (.aG e sz [])):=fun w v h1 h2=>by
 obtain⟨w',e,a,b,c⟩:=dT.nil (F:=[r]) i 0 e hi h0 (.inl (by rw[hs];rfl)) w #[v] h1 ⟨rfl,fun k a x ha hx=>by
  match k with
  |0=>cases ha;cases hx;exact h2
  |k+1=>simp at ha⟩
 exact⟨w',e,a,b.2 0 _ v rfl rfl,c⟩
variable{F:UM}
def xi{fn:Func}{out:UM}{e:Exit}(i:Nat)(t:US)(sz:Nat)(h0:0<sz)(rs:List ResultVar)(hbh:kI out=.raw (.slice none 0 0))(ho:jK P ⟨[],[]⟩ F rs=some out)(hok:kN P ⟨[],[]⟩ F rs)(Xs:fn.results.toList=rs:=by rfl)(he:e=.normal\/e=.ret:=by first|exact Or.inr rfl|exact Or.inl rfl|fail) :
  lu P fn (fun r l=>r=.rs i 0 sz 0/\l=[(i,.aG t sz [])]) e F ⟨[],[]⟩:=by
 subst Xs;exact wq he ho hok _ _ (iD.nil i t rfl h0 hbh) ⟨rfl,rfl⟩
variable{args':UM}{q:Prop}
def CO{args:UM}{K:UJ}[Inhabited α]{enc:α->UM}[he:bK enc sz]{xs:List α}(i:Nat)(Wb:∀x,k9 (enc x)=true)
  (hc:ab P f args' [] fun r l=>r=.rs i xs.length sz xs.length/\l=[(i,.aG t sz (xs.map enc))]) (hi:H.get i=none) (hv:∀w vs,aJ w H->bs w args vs->bs (w.cU fun _=>true) args' vs) (k:q) (h0:aS P f=true:=by exact dD) (e:K (aM enc sz xs) H=q:=by exact fm):fh P (.raw (.func (.func f) #[] #[])) args H K:=
 nQ h0 (AO Wb hi hc hv (e ▸ k))
def GW{w w':NW}{a b:AV}{vs:UU}(h:bs w [a] vs)(hab:∀v,ax w a v->ax w' b v):bs w' [b] vs:=⟨h.1,fun i x v hx hv=>by
 match i with
 |0=>cases hx;exact hab v (h.2 0 a v rfl hv)
 |i+1=>simp at hx⟩
variable{i n:Nat}
def Js{m o:Nat}[Inhabited α]{enc:α->UM}[he:bK enc sz](l more:List α)(hi:H.get i=some (.aG t sz ((l++more).map enc)))(hm:m=l.length+more.length)(hn:o+n=l.length)(h0:0<sz):∀w vs,aJ w H->bs w [.rv i m sz o n] vs->bs (w.cU fun _=>true) [aM enc sz (l.drop o)] vs:=fun w vs hw hv=>
 GW hv fun v h=>by
  have:=EQ (d:=enc default) hw hi (by rw[List.length_map,List.length_append];exact hm) jB h0 (nM (enc:=enc) (sz:=sz) _) h;have e:(((l++more).map enc).drop o).take n=(l.drop o).map enc:=by rw[<-List.map_drop,<-List.map_take,List.drop_append_of_le_length jB,List.take_append_of_le_length (by rw[List.length_drop];omega),List.take_of_length_le (by rw[List.length_drop];omega)]
  rw[e]at this;exact this
namespace MV
variable {p:af}{C:aI}{m:MV}{N:NM}{e:UL}
def bL.Db(hR:bL p C m N e)(h1:1<=m.calls.length)(b:Nat)(hb:b<=m.ah.stack.length):bL p C (m.cut b) (N.aX ⟨N.ah.c,N.ah.v,m.ah.stack.drop (m.ah.stack.length-b)++N.ah.jk⟩) (bg e (hn 0 N.ah.c) (.var 174 (MV.cE (m.ah.cut b) ⟨N.ah.c,N.ah.v,m.ah.stack.drop (m.ah.stack.length-b)++N.ah.jk⟩))):=by
 have ht:=hR.ah h1;have hbd:=ht.bd;refine hR.aX h1 (c':=m.ah.cut b) rfl ?_ ⟨?_,?_,?_,?_⟩ (.inl rfl) fun j hj n0 n1 n2=>by rw[bS,if_neg n0]
 ·refine hR.ok.put (.inr (iK _ _)) ?_;have i1:=gf ht.eZ;have i2:=gf ht.cO;simp only[Row.cells,MV.cE,aZ,AV.all,i1,i2,Bool.or_true,Bool.and_self]
 ·rw[bS,if_pos rfl]
 ·rw[bS,if_neg (dj jB jB jB)];show _=some (Row.aG _ 3 ((m.ah.stack.take (m.ah.stack.length-b)++(m.ah.stack.drop (m.ah.stack.length-b)++N.ah.jk)).map bW));rw[<-List.append_assoc,List.take_append_drop];exact ht.cO
 ·rw[bS,if_neg (dj jB jB jB)];exact ht.eZ
 ·show(m.ah.stack.take (m.ah.stack.length-b)).length+(m.ah.stack.drop (m.ah.stack.length-b)++N.ah.jk).length<=2000;rw[List.length_take,List.length_append,List.length_drop];omega
end MV
namespace MV
variable {p:af}{C:aI}{m:MV}{N:NM}{e:UL}
def bL.Ba(hR:bL p C m N e){m':MV}(h1:m'.calls=m.calls)(h2:m'.heap=m.heap):bL p C m' N (bg (bg e (hn 8 N.k) (.aG 9 1 (m'.bC.map eS))) (hn 3 N.k) (.var 166 (mE p C m' N))):=by
 have kind:∀(a k:Nat) (r:Row),a≠3->a≠8->a<32->aC e (hn a k)=some r->aC (bg (bg e (hn 8 N.k) (.aG 9 1 (m'.bC.map eS))) (hn 3 N.k) (.var 166 (mE p C m' N))) (hn a k)=some r:=fun a k r h3 h8 WX h=>by rw[bS,if_neg (dj WX jB h3),bS,if_neg (dj WX jB h8)];exact h
 refine⟨?_,by rw[bS,if_pos rfl],kind _ _ _ jB jB jB hR.row,?_,?_,?_,?_,by rw[h1];exact hR.len,fun k hk=>?_,hR.nc,hR.nv,hR.bd⟩
 ·refine(hR.ok.put (.inr (iK _ _)) (fX (q:=eJ) (fun _ h=>by cases h) _ (pj (nM (enc:=eS) (sz:=1) _)))).put (.inr (iK _ _)) ?_;exact fX (fun j hj=>by rw[Bool.or_eq_true];exact .inr hj) _ (hR.gH (fun _ h=>(oQ _ _ _ _).2 (.inr h)) m' N rfl)
 ·rw[h2];exact kind _ _ _ jB jB jB hR.hp
 ·rw[h2];exact kind _ _ _ jB jB jB hR.cells
 ·rw[h2];exact kind _ _ _ jB jB jB hR.ends
 ·rw[bS,if_neg (dj jB jB jB),bS,if_pos rfl]
 ·rw[h1]at hk ⊢;have hc:=hR.call k hk;exact⟨kind _ _ _ jB jB jB hc.var,kind _ _ _ jB jB jB hc.cO,kind _ _ _ jB jB jB hc.eZ,hc.bd⟩
end MV
theorem cW.args{P:UY}{f:FuncId}{args args':UM}{e l:UL}{r0:AV}(h:cW P f args' e r0 l)(hv:∀w vs,aJ w (entry e)->bs w args vs->bs w args' vs)(ha:aZ (fun i=>(ids e).contains i) args=true):cW P f args e r0 l:=⟨h.c.args hv,h.e1,h.e2,h.aY,ha⟩
theorem IV:∀(l:UL) (i:Nat) (r r':Row),bg (bg l i r) i r'=bg l i r'
 |[],i,r,r'=>by simp[bg]
 |(j,s)::l,i,r,r'=>by
  show bg (if i=j then(i,r)::l else(j,s)::bg l i r) i r'=(if i=j then(i,r')::l else(j,s)::bg l i r');by_cases e:i=j
  ·subst e;rw[if_pos rfl,if_pos rfl];simp[bg]
  ·rw[if_neg e,if_neg e];show(if i=j then _ else(j,s)::bg (bg l i r) i r')=_;rw[if_neg e,IV l i r r']
def Rt(l:UL)(a k:Nat)(r r':Row):bg (bg l (hn a k) r) (hn a k) r'=bg l (hn a k) r':=IV _ _ _ _
namespace MV
variable {p:af}{C:aI}{m:MV}{N:NM}{e:UL}
def NO(hR:bL p C m N e)(h1:1<=m.calls.length):bL p C m.eH N (bg (bg e (hn 3 N.k) (.var 166 (mE p C { m with status:=0 } N))) (hn 0 N.ah.c) (.var 174 (MV.cE { m.ah with mark:=m.ah.at_,at_:=m.ah.at_+1 } N.ah))):=
 (hR.mJ (m':={ m with status:=0 }) rfl rfl rfl).j5 h1 (c':={ m.ah with mark:=m.ah.at_,at_:=m.ah.at_+1 }) rfl rfl
end MV
def Ld{m o:Nat}[Inhabited α]{enc:α->UM}[he:bK enc sz](l:List α)(hi:H.get i=some (.aG t sz (l.map enc)))(hm:m=l.length)(hn:o+n<=l.length)(h0:0<sz):∀w vs,aJ w H->bs w [.rv i m sz o n] vs->bs (w.cU fun _=>true) [aM enc sz ((l.drop o).take n)] vs:=fun w vs hw hv=>
 GW hv fun v h=>by have:=EQ (d:=enc default) hw hi (by rw[List.length_map];exact hm) jB h0 (nM (enc:=enc) (sz:=sz) _) h;rw[<-List.map_drop,<-List.map_take]at this;exact this
def On{h:UO}{k:Nat}(hk:k<h.length):(h.flatten.drop (kK h k)).take (nth h k).length=nth h k:=by
 have e:h.flatten=(h.take k).flatten++(nth h k++(h.drop (k+1)).flatten):=by rw[fM hk,<-List.flatten_cons,List.getElem_cons_drop,<-List.flatten_append,List.take_append_drop]
 rw[e];unfold kK;rw[List.drop_left,List.take_left]
def Lq{fn:Func}{B:UQ}{L:UL}{out:UM}{ex:Exit}{r0:AV}{e l tl:UL}(hB:ids e=B)(k1:fO 0 e)(k2:fO 0 l)(hp:L=tie l tl)(hl:nW 0 tl)(rs:List ResultVar)(hv:cY (fT 0) ⟨B,tie l tl⟩ (kI out) r0)
  (Xs:fn.results.toList=rs:=by rfl) (he:ex=.normal\/ex=.ret:=by first|exact Or.inr rfl|exact Or.inl rfl|fail) (ho:jK P ⟨B,L⟩ F rs=some out:=by first|rfl|(simp(disch:=first|omega|fail) only[go_sem,↓reduceIte,Nat.reduceEqDiff,Nat.reduceLeDiff,Nat.reduceSub,Nat.reduceAdd];rfl)) (hok:kN P ⟨B,L⟩ F rs:=by first|exact jI|(simp(disch:=first|omega|fail) only[go_sem,↓reduceIte,Nat.reduceEqDiff,Nat.reduceLeDiff,Nat.reduceSub,Nat.reduceAdd])):lu P fn (fun r l'=>r=r0/\l'=l) ex F ⟨B,L⟩:=by
 subst Xs hp;obtain⟨h1,h2,h3⟩:=k1.free k2 hB hl;have:=iD.free (r:=kI out) (r':=r0) (H:=⟨B,l++tl⟩) (Go.Gd.fT 0) h1 h2 hv;rw[show(Hp.mk B (l++tl)).l=l++tl from rfl,h3]at this;exact wq he ho hok r0 ⟨B,l⟩ this ⟨rfl,rfl⟩
def FN{args:UM}{R:AV->Prop}[Inhabited α]{enc:α->UM}[he:bK enc sz]{xs:List α}(i:Nat)(Wb:∀x,k9 (enc x)=true)
  (hc:ab P f args' [] fun r l=>r=.rs i xs.length sz xs.length/\l=[(i,.aG t sz (xs.map enc))]) (hi:H.get i=none) (hv:∀w vs,aJ w H->bs w args vs->bs (w.cU fun _=>true) args' vs) (k:q) (h0:aS P f=true:=by exact dD) (e:R (aM enc sz xs)=q:=by exact fm):∃r,(fh P (.raw (.func (.func f) #[] #[])) args H fun r' H'=>r'=r/\H'=H)/\R r:=
 ⟨_,nQ h0 (AO (K:=fun r' H'=>r'=aM enc sz xs/\H'=H) Wb hi hc hv ⟨rfl,rfl⟩),e ▸ k⟩
def QG{A:AS}{args:UM}{g:UJ}{d:iy fun r H'=>eQ A H H'/\g r H'}[Inhabited α]{enc:α->UM}[he:bK enc sz]{xs:List α}(i:Nat)(Wb:∀x,k9 (enc x)=true)
  (hc:ab P f args' [] fun r l=>r=.rs i xs.length sz xs.length/\l=[(i,.aG t sz (xs.map enc))]) (hi:H.get i=none) (hv:∀w vs,aJ w H->bs w args vs->bs (w.cU fun _=>true) args' vs) (k:q) (h0:aS P f=true:=by exact dD) (e:g (aM enc sz xs) H=q:=by exact fm):fh P (.raw (.func (.func f) #[] #[])) args H (AP (fun r H'=>eQ A H H'/\g r H') d):=
 nQ h0 (AO (K:=AP (fun r H'=>eQ A H H'/\g r H') d) Wb hi hc hv ⟨eQ.refl _ _,e ▸ k⟩)
def DM[Inhabited α]{enc:α->UM}[he:bK enc sz](l:List α)(hi:H.get i=some (.aG t sz (l.map enc)))(hn:n=l.length):∀w vs,aJ w H->bs w [.rs i n sz n] vs->bs (w.cU fun _=>true) [aM enc sz l] vs:=
 Qc ⟨cY.row (dd:=enc default) l rfl hi hn,trivial⟩
namespace MV
def fU(m:MV)(k:Nat):Int:=if(k:Int)=(m.calls.length:Int)-1 then(nth m.calls k).at_ else(nth m.calls k).mark
def spot(C:aI)(m:MV)(k:Nat):mh:=⟨(nth m.calls k).fn,(nth C.ins (m.fU k).toNat).a,(nth m.calls k).slots⟩
def dJ(C:aI)(m:MV):k6:=⟨(List.range m.calls.length).map (m.spot C),m.heap,m.in_,m.bC,m.status,m.dn,m.time⟩
end MV
def MV.mw:MV:=⟨[],0,[],0,[],0,0,0⟩
def xF(p:af)(C:aI)(k:Nat):UL:=
 [(hn 5 k,.var 196 [.rs (hn 6 k) 0 1 0,.rs (hn 7 k) 0 1 0]),(hn 3 k,.var 166 (MV.mE p C MV.mw ⟨k,[],[]⟩)),(hn 4 k,.aG 169 1 []),(hn 8 k,.aG 9 1 []),(hn 6 k,.aG 3 1 []),(hn 7 k,.aG 3 1 [])]
def yO(p:af)(C:aI)(k i:Nat):aC (xF p C k) i=if i=hn 5 k then some (.var 196 [.rs (hn 6 k) 0 1 0,.rs (hn 7 k) 0 1 0])else if i=hn 3 k then some (.var 166 (MV.mE p C MV.mw ⟨k,[],[]⟩))else if i=hn 4 k then some (.aG 169 1 [])else if i=hn 8 k then some (.aG 9 1 [])else if i=hn 6 k then some (.aG 3 1 [])else if i=hn 7 k then some (.aG 3 1 [])else none:=rfl
def AU(p:af)(C:aI)(k:Nat):ids (xF p C k)=[hn 5 k,hn 3 k,hn 4 k,hn 8 k,hn 6 k,hn 7 k]:=rfl
def M8(p:af)(C:aI)(k:Nat):MV.bL p C MV.mw ⟨k,[],[]⟩ (xF p C k):=by
 have nd:∀a b:Nat,a<32->b<32->a≠b->hn a k≠hn b k:=fun a b ha hb h=>dj ha hb h
 have ok:fO 0 (xF p C k):=by
  refine⟨fun i _ hi=>?_,?_,fun i r hi=>?_⟩
  ·rw[yO];have g:=fun a=>iK a k
   rw[if_neg (by have:=g 5;omega),if_neg (by have:=g 3;omega),if_neg (by have:=g 4;omega),if_neg (by have:=g 8;omega),if_neg (by have:=g 6;omega),if_neg (by have:=g 7;omega)]
  ·rw[AU];simp[hn]
  ·rw[AU];rw[yO]at hi;have up:aZ (fun j=>[hn 5 k,hn 3 k,hn 4 k,hn 8 k,hn 6 k,hn 7 k].contains j) (km p)=true:=fX (q:=eJ) (fun _ h=>by cases h) _ rfl;split at hi
   ·cases hi;simp[Row.cells,aZ,AV.all]
   ·split at hi
    ·cases hi;show aZ _ (MV.mE _ _ _ _)=true;unfold MV.mE;rw[tE,up];simp[aZ,AV.all,aM]
    ·split at hi
     ·cases hi;rfl
     ·split at hi
      ·cases hi;rfl
      ·split at hi
       ·cases hi;rfl
       ·split at hi
        ·cases hi;rfl
        ·cases hi
 refine⟨ok,?_,?_,?_,?_,?_,?_,rfl,(fun k hk=>by cases hk),List.nodup_nil,List.nodup_nil,by show 0+0<=1000;omega⟩;all_goals rw[yO]
 ·rw[if_neg (nd 3 5 jB jB jB),if_pos rfl]
 ·rw[if_neg (nd 4 5 jB jB jB),if_neg (nd 4 3 jB jB jB),if_pos rfl];rfl
 ·rw[if_pos rfl];rfl
 ·rw[if_neg (nd 6 5 jB jB jB),if_neg (nd 6 3 jB jB jB),if_neg (nd 6 4 jB jB jB),if_neg (nd 6 8 jB jB jB),if_pos rfl];rfl
 ·rw[if_neg (nd 7 5 jB jB jB),if_neg (nd 7 3 jB jB jB),if_neg (nd 7 4 jB jB jB),if_neg (nd 7 8 jB jB jB),if_neg (nd 7 6 jB jB jB),if_pos rfl];rfl
 ·rw[if_neg (nd 8 5 jB jB jB),if_neg (nd 8 3 jB jB jB),if_neg (nd 8 4 jB jB jB),if_pos rfl];rfl
def Uy(p:af)(C:aI)(k:Nat)(r9:Row):dT F ⟨[],[(9,r9),(hn 5 k,.var 196 [.raw (.slice none 0 0),.raw (.slice none 0 0)]),(hn 3 k,.var 166 (km p++[aM du 4 C.ins,aM eI 1 C.entry,.raw (.slice none 0 0),.pt (hn 5 k) 0 0 0,.raw (.slice none 0 0),.raw (.int .i64 0),.raw (.int .i64 0),.raw (.int .i64 0),.raw (.int .i64 0)]))]⟩ F ⟨[],tie (xF p C k) [(9,r9)]⟩:=by
 have n9:∀a,hn a k≠9:=fun a e=>by have:=iK a k;omega
 have nd:∀a b:Nat,a<32->b<32->a≠b->hn a k≠hn b k:=fun a b ha hb h=>dj ha hb h
 have s1:=dT.gl (F:=F) (H:=⟨[],[(9,r9),(hn 5 k,.var 196 [.raw (.slice none 0 0),.raw (.slice none 0 0)]),(hn 3 k,.var 166 (km p++[aM du 4 C.ins,aM eI 1 C.entry,.raw (.slice none 0 0),.pt (hn 5 k) 0 0 0,.raw (.slice none 0 0),.raw (.int .i64 0),.raw (.int .i64 0),.raw (.int .i64 0),.raw (.int .i64 0)]))]⟩) (hn 4 k) (hn 3 k) 8 169 1 (t:=166) (cs:=km p++[aM du 4 C.ins,aM eI 1 C.entry,.raw (.slice none 0 0),.pt (hn 5 k) 0 0 0,.raw (.slice none 0 0),.raw (.int .i64 0),.raw (.int .i64 0),.raw (.int .i64 0),.raw (.int .i64 0)])
  (by show aC _ _=_;simp only[aC,if_neg (n9 4),if_neg (nd 4 5 jB jB jB),if_neg (nd 4 3 jB jB jB)]) jC (by show aC _ _=_;simp only[aC,if_neg (n9 3),if_neg (nd 3 5 jB jB jB),if_pos]) rfl
 have s2:=dT.gl (F:=F) (H:=(((⟨[],[(9,r9),(hn 5 k,.var 196 [.raw (.slice none 0 0),.raw (.slice none 0 0)]),(hn 3 k,.var 166 (km p++[aM du 4 C.ins,aM eI 1 C.entry,.raw (.slice none 0 0),.pt (hn 5 k) 0 0 0,.raw (.slice none 0 0),.raw (.int .i64 0),.raw (.int .i64 0),.raw (.int .i64 0),.raw (.int .i64 0)]))]⟩:Hp).put (hn 4 k) (.aG 169 1 [])).put (hn 3 k) (.var 166 (km p++[aM du 4 C.ins,aM eI 1 C.entry,.rs (hn 4 k) 0 1 0,.pt (hn 5 k) 0 0 0,.raw (.slice none 0 0),.raw (.int .i64 0),.raw (.int .i64 0),.raw (.int .i64 0),.raw (.int .i64 0)])))) (hn 8 k) (hn 3 k) 10 9 1 (t:=166) (cs:=km p++[aM du 4 C.ins,aM eI 1 C.entry,.rs (hn 4 k) 0 1 0,.pt (hn 5 k) 0 0 0,.raw (.slice none 0 0),.raw (.int .i64 0),.raw (.int .i64 0),.raw (.int .i64 0),.raw (.int .i64 0)])
  (by rw[Hp.bk,if_neg (nd 8 3 jB jB jB),Hp.bk,if_neg (nd 8 4 jB jB jB)];show aC _ _=_;simp only[aC,if_neg (n9 8),if_neg (nd 8 5 jB jB jB),if_neg (nd 8 3 jB jB jB)]) jC (by rw[Hp.bk,if_pos rfl]) rfl
 have s3:=dT.gl (F:=F) (H:=((((((⟨[],[(9,r9),(hn 5 k,.var 196 [.raw (.slice none 0 0),.raw (.slice none 0 0)]),(hn 3 k,.var 166 (km p++[aM du 4 C.ins,aM eI 1 C.entry,.raw (.slice none 0 0),.pt (hn 5 k) 0 0 0,.raw (.slice none 0 0),.raw (.int .i64 0),.raw (.int .i64 0),.raw (.int .i64 0),.raw (.int .i64 0)]))]⟩:Hp).put (hn 4 k) (.aG 169 1 [])).put (hn 3 k) (.var 166 (km p++[aM du 4 C.ins,aM eI 1 C.entry,.rs (hn 4 k) 0 1 0,.pt (hn 5 k) 0 0 0,.raw (.slice none 0 0),.raw (.int .i64 0),.raw (.int .i64 0),.raw (.int .i64 0),.raw (.int .i64 0)])))).put (hn 8 k) (.aG 9 1 [])).put (hn 3 k) (.var 166 (km p++[aM du 4 C.ins,aM eI 1 C.entry,.rs (hn 4 k) 0 1 0,.pt (hn 5 k) 0 0 0,.rs (hn 8 k) 0 1 0,.raw (.int .i64 0),.raw (.int .i64 0),.raw (.int .i64 0),.raw (.int .i64 0)]))))
  (hn 6 k) (hn 5 k) 0 3 1 (t:=196) (cs:=[.raw (.slice none 0 0),.raw (.slice none 0 0)])
  (by rw[Hp.bk,if_neg (nd 6 3 jB jB jB),Hp.bk,if_neg (nd 6 8 jB jB jB),Hp.bk,if_neg (nd 6 3 jB jB jB),Hp.bk,if_neg (nd 6 4 jB jB jB)];show aC _ _=_;simp only[aC,if_neg (n9 6),if_neg (nd 6 5 jB jB jB),if_neg (nd 6 3 jB jB jB)]) jC
  (by rw[Hp.bk,if_neg (nd 5 3 jB jB jB),Hp.bk,if_neg (nd 5 8 jB jB jB),Hp.bk,if_neg (nd 5 3 jB jB jB),Hp.bk,if_neg (nd 5 4 jB jB jB)];show aC _ _=_;simp only[aC,if_neg (n9 5),if_pos]) rfl
 refine s1.trans (s2.trans (s3.trans ?_));refine dT.trans (dT.gl (hn 7 k) (hn 5 k) 1 3 1 (t:=196) (cs:=[.rs (hn 6 k) 0 1 0,.raw (.slice none 0 0)]) ?_ jC ?_ rfl) (dT.perm _ fun i=>?_)
 ·simp only[Hp.bk,if_neg (nd 7 5 jB jB jB),if_neg (nd 7 6 jB jB jB),if_neg (nd 7 3 jB jB jB),if_neg (nd 7 8 jB jB jB),if_neg (nd 7 4 jB jB jB)];show aC _ _=_;simp only[aC,if_neg (n9 7),if_neg (nd 7 5 jB jB jB),if_neg (nd 7 3 jB jB jB)]
 ·rw[Hp.bk,if_pos rfl];rfl
 ·simp only[Hp.put,bS,kf,yO];by_cases a5:i=hn 5 k
  ·simp only[if_pos a5];rfl
  simp only[if_neg a5];by_cases a7:i=hn 7 k
  ·subst a7;simp(disch:=omega) only[go_sem,↓reduceIte]
  simp only[if_neg a7];by_cases a6:i=hn 6 k
  ·subst a6;simp(disch:=omega) only[go_sem,↓reduceIte]
  simp only[if_neg a6];by_cases a3:i=hn 3 k
  ·simp only[if_pos a3];rfl
  simp only[if_neg a3];by_cases a8:i=hn 8 k
  ·subst a8;simp(disch:=omega) only[go_sem,↓reduceIte]
  simp only[if_neg a8];by_cases a4:i=hn 4 k
  ·subst a4;simp(disch:=omega) only[go_sem,↓reduceIte]
  simp only[if_neg a4,aC,if_neg a5,if_neg a3,Option.none_or]
end Go.Gd
namespace Go.Proofs.YtijdhbokcdpklaaGreatDoor
open Go Go.Gd Tryz
def Lj(fn at_ mark:Int)(vs jk slots:List aj)(v:aj)(hL:¬(100000<vs.length+jk.length)):ab prog 144 [.pt 6 0 0 0,rV v] (kE fn at_ mark vs jk slots) (fun r l=>r=.aQ []/\l=kE fn at_ mark (vs++[v]) (jk.drop 1) slots):=by
 refine aO func144 ntmps144 ?_;refine S ?_
 (repeat' (first|refine aq fun K hK=>?_|refine ak ?_|(with_reducible refine gR 1 ?_);refine dE 1 (ba 0 11) mixed ?_|(refine hK _ _ ?_;clear hK K)|(refine ao ?_ ?_<;>intro hc<;>try exact jz)|refine aV 9 ?_|refine q5 vs jk [v] ?_|refine ap ?_|exact jI|(clear hK K)))
 (refine aW [] ?_;try simp only[go_sem])
def EV(fn at_ mark:Int)(vs jk slots:List aj)(h1:1<=vs.length)(hL:¬(100000<vs.length+jk.length)):ab prog 158 [.pt 6 0 0 0] (kE fn at_ mark vs jk slots) (fun r l=>r=rV (nth vs (vs.length-1))/\l=kE fn at_ mark vs jk slots):=by
 refine aO func158 ntmps158 ?_;refine S ?_
 (repeat' (first|refine aq fun K hK=>?_|refine ak ?_|(with_reducible refine gR 1 ?_);refine dE 1 (ba 0 13) mixed ?_|(refine hK _ _ ?_;clear hK K)|(refine ao ?_ ?_<;>intro hc<;>try exact jz)|refine al 9 ?_|refine ap ?_|exact jI|(clear hK K)))
 (refine aW [.cell 2 42] ?_;try simp only[go_sem])
def EO(fn at_ mark:Int)(vs jk slots:List aj)(v:aj)(hL:¬(100000<vs.length+1+jk.length)):ab prog 149 [.pt 6 0 0 0] (kE fn at_ mark (vs++[v]) jk slots) (fun r l=>r=rV v/\l=kE fn at_ mark vs (v::jk) slots):=by
 have XE:=EV fn at_ mark (vs++[v]) jk slots jE (by rw[List.length_append,List.length_singleton];omega);rw[show nth (vs++[v]) ((vs++[v]).length-1)=v by simp[nth]]at XE;have e:(vs++[v])++jk=vs++(v::jk):=jE;have e2:((vs++[v]).length:Int)-1=vs.length:=jE;have e3:(vs++[v]).length=vs.length+1:=jE;have e4:vs.length+(v::jk).length=vs.length+1+jk.length:=by simp only[List.length_cons];omega
 unfold kE at XE ⊢;rw[e,e3]at XE ⊢;rw[e4];refine aO func149 ntmps149 ?_;refine S ?_
 (repeat' (first|refine aq fun K hK=>?_|refine ak ?_|(with_reducible refine gR 2 ?_);refine dE 2 (ba 0 15) mixed ?_|(refine hK _ _ ?_;clear hK K)|(refine ao ?_ ?_<;>intro hc<;>try exact jz)|refine al 9 ?_|refine al 10 ?_|refine cm (XE) ?_|refine ap ?_|exact jI|(clear hK K)))
 refine aW [.cell 2 42] rfl (h2:=?_);simp[fB,mX]
def K5(fn at_ mark:Int)(vs jk slots:List aj)(k t:Int)(hk:0<=k/\k<slots.length)(hL:¬(100000<slots.length)):ab prog 148 [.pt 6 0 0 0,rI k,rI t] (kE fn at_ mark vs jk slots) (fun r l=>r=rV (ff slots k t)/\l=kE fn at_ mark vs jk slots):=by
 refine aO func148 ntmps148 ?_;refine S ?_
 (repeat' (first|refine aq fun K hK=>?_|refine ak ?_|(refine hK _ _ ?_;clear hK K)|(refine ao ?_ ?_<;>intro hc<;>try exact jz)|refine al 9 ?_|refine al 10 ?_|refine cp (Cs _) ?_|(first|refine cg (vw _) ?_|refine nr (vw _) ?_)|refine ap ?_|exact jI|(clear hK K)))
 all_goals(refine aW [.cell 6 42] ?_;try simp only[go_sem])
 all_goals(unfold ff;(repeat' split)<;>first|rfl|omega|(exfalso;simp_all;done)|(simp_all;done)|skip)
end Go.Proofs.YtijdhbokcdpklaaGreatDoor
namespace Go.Proofs.YtijdhbokcdpklaaGreatDoor
open Go Go.Gd Tryz Go.Gd.MV
section
variable {p:af}{C:aI}{m:MV}{N:NM}{e:UL}(X:UQ)
def tj(hR:bL p C m N e)(h1:1<=m.calls.length)(v:aj)(hb:m.ah.stack.length<=1000):kY prog 144 [cP N,rV v] e X (.aQ []) (To p C (m.push v) N):=by have W4:=(hR.ah h1).bd;exact hR.cI h1 (c':=m.ah.push v) (jk':=N.ah.jk.drop 1) (by show(m.ah.stack++[v]).length+_<=_;rw[List.length_append,List.length_drop,List.length_singleton];omega) rfl rfl (Lj _ _ _ _ _ _ v jB)
def Ex(hR:bL p C m N e)(h1:1<=m.calls.length)(hb:1<=m.ah.stack.length):kY prog 149 [cP N] e X (rV m.ah.last) (To p C (m.cut 1) N):=by
 have W4:=(hR.ah h1).bd;have e1:m.ah.stack.take (m.ah.stack.length-1)++[m.ah.last]=m.ah.stack:=by unfold MC.last;rw[fM jB,List.take_append_getElem,show m.ah.stack.length-1+1=m.ah.stack.length from jB,List.take_length]
 have I':(m.ah.stack.take (m.ah.stack.length-1)).length=m.ah.stack.length-1:=by rw[List.length_take];omega
 have hc:=EO m.ah.fn m.ah.at_ m.ah.mark (m.ah.stack.take (m.ah.stack.length-1)) N.ah.jk m.ah.slots m.ah.last (by rw[I'];omega);rw[e1]at hc;have hb3:(m.ah.cut 1).stack.length+(m.ah.last::N.ah.jk).length<=2000:=by show(m.ah.stack.take (m.ah.stack.length-1)).length+_<=_;rw[I',List.length_cons];omega
 exact hR.cI h1 (c':=m.ah.cut 1) hb3 rfl rfl hc
def Pw(hR:bL p C m N e)(h1:1<=m.calls.length)(hb:1<=m.ah.stack.length):cW prog 158 [cP N] e (rV m.ah.last) e:=by have W4:=(hR.ah h1).bd;exact hR.tB h1 rfl rfl (EV _ _ _ _ _ _ hb jB)
def Cv(hR:bL p C m N e)(h1:1<=m.calls.length)(k t:Int)(hk:0<=k/\k<m.ah.slots.length)(hb:m.ah.slots.length<=1000):cW prog 148 [cP N,rI k,rI t] e (rV (ff m.ah.slots k t)) e:=
 hR.tB h1 rfl rfl (K5 _ _ _ _ _ _ k t hk jB)
def PB(hR:bL p C m N e)(a i:Int)(hl:m.heap.length<=1000)(hf:m.heap.flatten.length<=1000):cW prog 154 [.pt (hn 5 N.k) 0 0 0,rI a,rI i] e (.aQ [rI (if i<0\/((MV.bn m.heap a).length:Int)<=i then 0 else nth (MV.bn m.heap a) i.toNat),rI (if i<0\/((MV.bn m.heap a).length:Int)<=i then 2 else 0)]) e:=
 hR.lf rfl rfl (SN m.heap a i hl hf)
def Sb(hR:bL p C m N e)(a:Int)(hl:m.heap.length<=1000)(hf:m.heap.flatten.length<=1000):cW prog 153 [.pt (hn 5 N.k) 0 0 0,rI a] e (rI (MV.bn m.heap a).length) e:=
 hR.lf rfl rfl (Ti m.heap a hl hf)
def OY(hR:bL p C m N e)(a i n:Int)(hl:m.heap.length<=1000)(hf:m.heap.flatten.length<=1000)(hi:¬(i<0\/((MV.bn m.heap a).length:Int)<=i)):kY prog 155 [.pt (hn 5 N.k) 0 0 0,rI a,rI i,rI n] e X (rI 0) (To p C { m with heap:=m.heap.set (a-1).toNat ((nth m.heap (a-1).toNat).set i.toNat n) } N):=
 hR.sY rfl rfl (Og m.heap a i n hl hf hi)
def QM(hR:bL p C m N e)(a i n:Int)(hl:m.heap.length<=1000)(hf:m.heap.flatten.length<=1000)(hi:i<0\/((MV.bn m.heap a).length:Int)<=i):cW prog 155 [.pt (hn 5 N.k) 0 0 0,rI a,rI i,rI n] e (rI 2) e:=
 hR.lf rfl rfl (LC m.heap a i n hl hf hi)
def Tl(hR:bL p C m N e)(n:Int)(h0:0<=n/\n<=16)(hc:gw m.heap+n+1<=40)(Yz:gw m.heap=m.heap.length+m.heap.flatten.length):kY prog 157 [.pt (hn 5 N.k) 0 0 0,rI n] e X (.aQ [rI (m.heap.length+1:Nat),rI 0]) (To p C { m with heap:=m.heap++[List.replicate n.toNat 0] } N):=by obtain⟨k,rfl⟩:∃k:Nat,n=k:=⟨n.toNat,jB⟩;rw[Int.toNat_natCast];exact hR.sY rfl rfl (NA m.heap k jB jB)
def PV(hR:bL p C m N e)(n:Int)(h0:n<0\/16<n)(hl:m.heap.length<=40)(hf:m.heap.flatten.length<=40):cW prog 157 [.pt (hn 5 N.k) 0 0 0,rI n] e (.aQ [rI 0,rI 7]) e:=
 hR.lf rfl rfl (Tf m.heap n h0 hl hf)
def TV(hR:bL p C m N e)(n:Int)(h0:0<=n/\n<=16)(hc:40<(m.heap.length:Int)+m.heap.flatten.length+n+1)(hl:m.heap.length<=40)(hf:m.heap.flatten.length<=40):cW prog 157 [.pt (hn 5 N.k) 0 0 0,rI n] e (.aQ [rI 0,rI 4]) e:=
 hR.lf rfl rfl (Pe m.heap n h0 hc hl hf)
def KX(hR:bL p C m N e)(h1:1<=m.calls.length):(List.map (fun j=>[AV.pt (hn 0 j) 0 0 0]) (List.map NC.c N.cs)++List.map (fun j=>[AV.pt (hn 0 j) 0 0 0]) N.cj).getD (N.cs.length-1) []=[cP N]:=by have hl:=hR.len;rw[<-List.map_append];rw[List.getD_eq_getElem?_getD,List.getElem?_map,List.getElem?_append_left (by rw[List.length_map];omega),List.getElem?_map,List.getElem?_eq_getElem jB];unfold cP NM.ah;rw[fM jB];rfl
def uA(hR:bL p C m N e)(h1:1<=m.calls.length):cW prog 129 [mP N] e (cP N) e:=by
 have U1:=hR.ok.low;have hl:=hR.len;have hb:=hR.bd;have hg:=KX hR h1;refine⟨?_,hR.ok,hR.ok,fun _ h=>h,by simp only[aZ,AV.all,gf hR.root,Bool.and_self]⟩;refine aO (L:=ids e) func129 ntmps129 ?_ (hL:=rfl);generalize hB:ids e=B;refine fc ?_
 (have W:=jA U1 (jA hR.root (jA hR.row (hg)));repeat' (first|refine aq fun K hK=>?_|refine ak ?_|(with_reducible refine gR 1 ?_);refine dE 1 (ba 0 13) mixed ?_|(refine hK _ _ ?_;clear hK K)|(refine ao ?_ ?_<;>intro hc<;>try exact jz)|refine ap ?_|exact jI|(clear hK K)))
 exact eG hB hR.ok hR.ok (tl:=[]) (fun _=>rfl) dK [.tmp 2]
def Fm{N:NM}{n:NC}(h:1<=N.cs.length):(N.aX n).ah=n:=by show nth (N.cs.set _ n) ((N.cs.set _ n).length-1)=n;rw[List.length_set,Go.Gd.dG _ _ _ _ jB,if_pos rfl]
def xR(hR:bL p C m N e)(h1:1<=m.calls.length)(s t:Int):kY prog 156 [mP N,rI s,rI t] e X (.aQ []) (To p C (m.stops s t) N):=by
 have ht:=uA hR h1;have hT:=hR.ah h1;have U1:=hR.ok.low;have hl:=hR.len;have Yx:bL p C { m with status:=s,dn:=t } N (bg e (hn 3 N.k) (.var 166 (mE p C { m with status:=s,dn:=t } N))):=hR.mJ rfl rfl rfl;have VR:=Ai e X 2 0;have hnX:=y5 e X 2 0;generalize rm (ids e++X)+0=k at VR hnX;have YF:aC (bg e (hn 3 N.k) (.var 166 (mE p C { m with status:=s,dn:=t } N))) (hn 2 k)=none:=by rw[bS,if_neg (dj jB jB jB)];exact VR
 have i1:=gf hT.eZ;have V2:bL p C (m.stops s t) (N.aX ⟨N.ah.c,k,[]⟩) (bg (bg (bg e (hn 3 N.k) (.var 166 (mE p C { m with status:=s,dn:=t } N))) (hn 2 k) (.aG 42 3 [])) (hn 0 N.ah.c) (.var 174 (MV.cE m.ah.back ⟨N.ah.c,k,[]⟩))):=by
  refine Yx.aX (c':=m.ah.back) (n':=⟨N.ah.c,k,[]⟩) h1 rfl ?_ ⟨?_,?_,?_,by show 0+0<=2000;omega⟩ (.inr YF) fun j hj n0 n1 n2=>?_
  ·refine(Yx.ok.put (.inr (iK _ _)) rfl).put (.inr (iK _ _)) ?_;have j1:=gf (Yx.ah h1).eZ;have q1:=(oQ (bg e (hn 3 N.k) (.var 166 (mE p C { m with status:=s,dn:=t } N))) (hn 2 k) (hn 2 k) (.aG 42 3 [])).2 (.inl rfl);have q2:=(oQ (bg e (hn 3 N.k) (.var 166 (mE p C { m with status:=s,dn:=t } N))) (hn 2 k) (hn 1 N.ah.c) (.aG 42 3 [])).2 (.inr (List.contains_iff_mem.1 j1));rw[<-List.contains_iff_mem]at q1 q2;simp only[Row.cells,MV.cE,aZ,AV.all,q1,q2,Bool.or_true,Bool.and_self]
  ·rw[bS,if_pos rfl]
  ·rw[bS,if_neg (dj jB jB jB),bS,if_pos rfl];rfl
  ·rw[bS,if_neg (dj jB jB jB),bS,if_neg (dj jB jB jB)];exact(Yx.ah h1).eZ
  ·rw[bS,if_neg n0,bS,if_neg (fun e'=>by subst e';exact hj YF)]
 have hU:Up X e (bg (bg (bg e (hn 3 N.k) (.var 166 (mE p C { m with status:=s,dn:=t } N))) (hn 2 k) (.aG 42 3 [])) (hn 0 N.ah.c) (.var 174 (MV.cE m.ah.back ⟨N.ah.c,k,[]⟩))):=by
  refine((Up.put _ (.inl ?_)).trans (Up.put _ (.inr hnX))).trans (Up.put _ (.inl ?_))
  ·rw[hR.root];simp
  ·rw[bS,if_neg (dj jB jB jB),bS,if_neg (dj jB jB jB),hT.var];simp
 refine⟨_,_,⟨V2,rfl,by rw[Fm jB]⟩,hU,⟨?_,hR.ok,V2.ok,hU.aY,by simp only[aZ,AV.all,gf hR.root,Bool.and_self]⟩⟩;have k2:=V2.ok;clear V2 hU;generalize hE:bg (bg (bg e (hn 3 N.k) (.var 166 (mE p C { m with status:=s,dn:=t } N))) (hn 2 k) (.aG 42 3 [])) (hn 0 N.ah.c) (.var 174 (MV.cE m.ah.back ⟨N.ah.c,k,[]⟩))=E at k2 ⊢;refine aO (L:=ids e) func156 ntmps156 ?_ (hL:=rfl);generalize hB:ids e=B;refine fc ?_
 (have W:=jA U1 (jA hR.root (hT.var));repeat' (first|refine aq fun K hK=>?_|refine ak ?_|(refine hK _ _ ?_;clear hK K)|(refine ao ?_ ?_<;>intro hc<;>try exact jz)|refine cT ht ?_|refine ap ?_|exact jI|(clear hK K)))
 refine E2 hB hR.ok k2 (iD.gl (t:=174) (cs:=[.raw (.slice none 0 0),rI m.ah.fn,rI m.ah.mark,rI m.ah.mark,.rs (hn 1 N.ah.c) m.ah.slots.length 3 m.ah.slots.length]) (hn 2 k) (hn 0 N.ah.c) 0 42 3 ?_ jC ?_ rfl) (tl:=[]) (fun i=>?_) dK []
 ·show aC (tie _ []) _=_;simp(disch:=first|omega|assumption|fail) only[go_sem,↓reduceIte,VR]
 ·show aC (tie _ []) _=_;simp(disch:=first|omega|assumption|fail) only[go_sem,↓reduceIte,hT.var]
 ·subst hE;simp only[Hp.put,kf,bS,aC,Option.or_none];by_cases a:i=hn 0 N.ah.c
  ·rw[if_pos a,if_pos a];rfl
  ·simp only[if_neg a];by_cases b:i=hn 2 k
   ·simp only[if_pos b]
   ·simp only[if_neg b];by_cases c:i=hn 3 N.k
    ·simp only[if_pos c];rfl
    ·simp only[if_neg c]
def xE(hR:bL p C m N e)(h1:1<=m.calls.length)(r:aj×Int)(hb:m.ah.stack.length<=1000):kY prog 150 [mP N,rV r.1,rI r.2] e X (.aQ []) (To p C (m.eu r) N):=by
 have ht:=uA hR h1;have U1:=hR.ok.low;have ha:∀v t:AV,v.all eJ=true->t.all eJ=true->aZ (fun i=>(ids e).contains i) [mP N,v,t]=true:=fun v t h h'=>by simp only[aZ,AV.all,gf hR.root,Bool.true_and,Bool.and_true];exact Bool.and_eq_true _ _ ▸ ⟨ql (fun _ h=>by cases h) _ h,ql (fun _ h=>by cases h) _ h'⟩
 unfold MV.eu;by_cases h0:r.2≠0
 ·rw[if_pos h0];obtain⟨N',l,hT,hU,hp⟩:=xR X hR h1 3 r.2;refine⟨N',l,hT,hU,⟨?_,hR.ok,hp.e2,hU.aY,ha _ _ rfl rfl⟩⟩;refine aO (L:=ids e) func150 ntmps150 ?_ (hL:=rfl);generalize hB:ids e=B;refine fc ?_
  (have W:=U1;repeat' (first|refine aq fun K hK=>?_|refine ak ?_|(refine hK _ _ ?_;clear hK K)|(refine ao ?_ ?_<;>intro hc<;>try exact jz)|refine aV 9 ?_|refine cT hp ?_|refine ap ?_|exact jI|(clear hK K)))
  exact eG hB hR.ok hp.e2 (fun _=>rfl) (dq jC dK) []
 ·rw[if_neg h0];have h0:r.2=0:=jB;obtain⟨N',l,hT,hU,hp⟩:=tj X hR h1 r.1 hb;refine⟨N',l,hT,hU,⟨?_,hR.ok,hp.e2,hU.aY,ha _ _ rfl rfl⟩⟩;refine aO (L:=ids e) func150 ntmps150 ?_ (hL:=rfl);generalize hB:ids e=B;refine fc ?_
  (have W:=jA U1 h0;repeat' (first|refine aq fun K hK=>?_|refine ak ?_|(with_reducible refine gR 3 ?_);refine dC 3 ([],[12],[]) [] (ba 0 6) mixed ?_|(refine hK _ _ ?_;clear hK K)|(refine ao ?_ ?_<;>intro hc<;>try exact jz)|refine aV 9 ?_|refine mN ht ?_|refine cT hp ?_|refine ap ?_|exact jI|(clear hK K)))
  exact eG hB hR.ok hp.e2 (fun _=>rfl) (dq jC dK) []
end
section
variable {p:af}{C:aI}{m:MV}{N:NM}{e:UL}(X:UQ)
def qp(hR:bL p C m N e){l:UM}(h:aZ eJ l=true):aZ (fun i=>(ids e).contains i) (mP N::l)=true:=by simp only[aZ,AV.all,gf hR.root,Bool.true_and];exact fX (fun _ h=>by cases h) _ h
def Iv(hR:bL p C m N e)(h1:1<=m.calls.length)(v:aj)(hb:∀k,k<m.calls.length->(nth m.calls k).stack.length<=1000):kY prog 159 [mP N,rV v] e X (.aQ []) (fun N' l=>bL p C (m.ends v) N' l/\N'.k=N.k):=by
 have U1:=hR.ok.low;have hl:=hR.len;have hbd:=hR.bd;unfold MV.ends;by_cases h2:m.calls.length<=1
 ·rw[if_pos h2];have V2:bL p C { m.pop with status:=2 } N.pop (bg e (hn 3 N.k) (.var 166 (mE p C { m.pop with status:=2 } N.pop))):=hR.wD h1 rfl rfl rfl;have hU:Up X e (bg e (hn 3 N.k) (.var 166 (mE p C { m.pop with status:=2 } N.pop))):=Up.put _ (.inl (by rw[hR.root];simp));refine⟨_,_,⟨V2,rfl⟩,hU,⟨?_,hR.ok,V2.ok,hU.aY,qp hR rfl⟩⟩;have k2:=V2.ok;clear V2 hU;generalize hE:bg e (hn 3 N.k) (.var 166 (mE p C { m.pop with status:=2 } N.pop))=E at k2 ⊢;refine aO (L:=ids e) func159 ntmps159 ?_ (hL:=rfl);generalize hB:ids e=B;refine fc ?_
  (have W:=jA U1 (hR.root);repeat' (first|refine aq fun K hK=>?_|refine ak ?_|(with_reducible refine gR 1 ?_);refine dE 1 (ba 0 15) mixed ?_|(refine hK _ _ ?_;clear hK K)|(refine ao ?_ ?_<;>intro hc<;>try exact jz)|refine aV 9 ?_|refine ap ?_|exact jI|(clear hK K)))
  refine eG (tl:=[(9,.var 42 (bW v))]) hB hR.ok k2 (fun i=>?_) (dq jC dK) [];subst hE;have e1:N.cs.length=1:=jB;simp only[kf,bS];by_cases a:i=hn 3 N.k
  ·simp only[if_pos a,Option.some_or];unfold mE NM.pop;simp[MV.pop,km,e1,Nat.add_comm]
  ·simp only[if_neg a]
 ·rw[if_neg h2];have V2:bL p C m.pop N.pop (bg e (hn 3 N.k) (.var 166 (mE p C m.pop N.pop))):=hR.wD h1 rfl rfl rfl;have eE:bg e (hn 3 N.k) (.var 166 (mE p C m.pop N.pop))=bg e (hn 3 N.k) (.var 166 (km p++[aM du 4 C.ins,aM eI 1 C.entry,.rs (hn 4 N.k) (N.cs.length+N.cj.length) 1 (N.cs.length-1),.pt (hn 5 N.k) 0 0 0,.rs (hn 8 N.k) m.bC.length 1 m.bC.length,.raw (.int .i64 m.in_),.raw (.int .i64 m.status),.raw (.int .i64 m.dn),.raw (.int .i64 m.time)])):=by
   unfold mE NM.pop;have:N.cs.length-1+(N.cj.length+1)=N.cs.length+N.cj.length:=jB;simp[MV.pop,this]
  rw[eE]at V2;have hU:Up X e (bg e (hn 3 N.k) (.var 166 (km p++[aM du 4 C.ins,aM eI 1 C.entry,.rs (hn 4 N.k) (N.cs.length+N.cj.length) 1 (N.cs.length-1),.pt (hn 5 N.k) 0 0 0,.rs (hn 8 N.k) m.bC.length 1 m.bC.length,.raw (.int .i64 m.in_),.raw (.int .i64 m.status),.raw (.int .i64 m.dn),.raw (.int .i64 m.time)]))):=Up.put _ (.inl (by rw[hR.root];simp));have p1:1<=m.pop.calls.length:=by show 1<=(m.calls.take _).length;rw[List.length_take];omega
  have ht:=uA V2 p1;have YZ:m.pop.ah.stack.length<=1000:=by have:m.pop.ah=nth m.calls (m.calls.length-1-1):=MV.sd jB;rw[this];exact hb _ jB
  obtain⟨N',l,hT,VW,hp⟩:=tj X V2 p1 v YZ;refine⟨N',l,⟨hT.1,hT.2.1⟩,hU.trans VW,⟨?_,hR.ok,hp.e2,(hU.trans VW).aY,qp hR rfl⟩⟩;clear hU VW eE;refine aO (L:=ids e) func159 ntmps159 ?_ (hL:=rfl);generalize hB:ids e=B;refine fc ?_
  (have W:=jA U1 (hR.root);repeat' (first|refine aq fun K hK=>?_|refine ak ?_|(with_reducible refine gR 1 ?_);refine dE 1 (ba 0 15) mixed ?_|(with_reducible refine gR 4 ?_);refine dC 4 ([],[28],[]) [] (ba 0 6) mixed ?_|(refine hK _ _ ?_;clear hK K)|(refine ao ?_ ?_<;>intro hc<;>try exact jz)|refine aV 9 ?_|refine mN ht ?_|refine cT hp ?_|refine ap ?_|exact jI|(clear hK K)))
  exact eG hB hR.ok hp.e2 (fun _=>rfl) (dq jC dK) []
structure pQ(p:af)(C:aI)(m:MV)(fn:Int)(args:List aj):Prop where
 f0:0<=fn
 f1:fn<C.entry.length
 f2:fn<p.size.length
 s0:0<=nth p.size fn.toNat
 s1:nth p.size fn.toNat<=24
 s2:(args.length:Int)<=nth p.size fn.toNat
 px:C.entry.length<=1000/\p.size.length<=1000
 calls:m.calls.length<=8
def Es(hR:bL p C m N e)(fn:Int)(args:List aj)(hk:pQ p C m fn args):kY prog 111 [mP N,rI fn,aM bW 3 args] e X (.aQ []) (fun N' l=>bL p C (m.cR p C fn args) N' l/\N'.k=N.k):=by
 have U1:=hR.ok.low;have hl:=hR.len;have hbd:=hR.bd;obtain⟨f0,f1,f2,s0,s1,s2,⟨b1,b2⟩,h8⟩:=hk;have n0:=Ai e X 0 0;have n1:=Ai e X 1 0;have n2:=Ai e X 2 0;have x0:=y5 e X 0 0;have x1:=y5 e X 1 0;have x2:=y5 e X 2 0;generalize rm (ids e++X)+0=k at n0 n1 n2 x0 x1 x2;have V2:=hR.Bb (m':=m.cR p C fn args) (c':=iF p C fn args) (j:=k) jB rfl rfl rfl n0 n1 n2 (by show 0<=2000;omega);have hU:Up X e (nV p C (m.cR p C fn args) N (iF p C fn args) k e):=by
  unfold nV;refine((((Up.put _ (.inr x1)).trans (Up.put _ (.inr x2))).trans (Up.put _ (.inr x0))).trans (Up.put _ (.inl ?_))).trans (Up.put _ (.inl ?_))
  ·rw[bS,if_neg (dj jB jB jB),bS,if_neg (dj jB jB jB),bS,if_neg (dj jB jB jB),hR.row];simp
  ·rw[bS,if_neg (dj jB jB jB),bS,if_neg (dj jB jB jB),bS,if_neg (dj jB jB jB),bS,if_neg (dj jB jB jB),hR.root];simp
 obtain⟨n,YE⟩:∃n:Nat,nth p.size fn.toNat=(n:Int):=⟨(nth p.size fn.toNat).toNat,jB⟩;refine⟨_,_,⟨V2,rfl⟩,hU,⟨?_,hR.ok,V2.ok,hU.aY,qp hR rfl⟩⟩;have k2:=V2.ok;clear V2 hU;generalize hE:nV p C (m.cR p C fn args) N (iF p C fn args) k e=E at k2 ⊢;have han:args.length<=n:=jB;refine aO (L:=ids e) func111 ntmps111 ?_ (hL:=rfl);generalize hB:ids e=B;refine fc ?_
 (have W:=jA U1 (jA hR.root (jA hR.row (jA YE (jA n0 (n1)))));repeat' (first|refine aq fun K hK=>?_|refine ak ?_|(with_reducible refine gR 0 ?_);refine dC 0 ([],[],[32]) [] (ba 0 29) mixed ?_|(refine hK _ _ ?_;clear hK K)|(refine ao ?_ ?_<;>intro hc<;>try exact jz)|refine aV (hn 0 k) ?_|refine Uq (n:=n) (hn 1 k) ?_|refine Np ?_ (hd:=by(show aC (tie _ _) _=_;rw[kf,n1,Option.none_or];exact if_pos rfl))|refine vn 10 ?_|refine q5 (enc:=fun j=>[.pt (hn 0 j) 0 0 0]) (N.cs.map NC.c) N.cj [k] ?_ (hm:=by rw[List.length_map]) (hn:=by rw[List.length_map])|refine ap ?_|exact jI|(clear hK K)))
 refine E2 (tl:=[(10,.aG 169 1 [[.pt (hn 0 k) 0 0 0]])]) hB hR.ok k2 (iD.gl (t:=174) (cs:=[.raw (.slice none 0 0),rI fn,rI (nth C.entry fn.toNat),rI (nth C.entry fn.toNat),.rs (hn 1 k) n 3 n]) (hn 2 k) (hn 0 k) 0 42 3 ?_ jC ?_ rfl) (fun i=>?_) (dq jC dK) []
 ·show aC (tie _ _) _=_;simp(disch:=first|omega|assumption|fail) only[go_sem,↓reduceIte,n2]
 ·show aC (tie _ _) _=_;simp(disch:=first|omega|assumption|fail) only[go_sem,↓reduceIte,n0]
 ·subst hE;have en:((nth p.size fn.toNat)-(args.length:Int)).toNat=n-args.length:=jB;have es:(iF p C fn args).slots.map bW=dz (List.replicate n (bW v0)) 0 (args.map bW):=by
   show(args++List.replicate _ v0).map bW=_;unfold dz;rw[en,List.map_append,List.map_replicate];simp
  have el:(iF p C fn args).slots.length=n:=by show(args++List.replicate _ v0).length=n;rw[en,List.length_append,List.length_replicate];omega
  have q4:hn 4 N.k≠hn 3 N.k:=dj jB jB jB;simp only[nV,Hp.put,kf,bS,es];by_cases a:i=hn 3 N.k
  ·subst a;simp(disch:=first|omega|assumption|fail) only[go_sem,↓reduceIte,NM.nU,List.length_append,List.length_drop,List.length_singleton,MV.cR]
  simp only[if_neg a];by_cases b:i=hn 4 N.k
  ·subst b;simp(disch:=first|omega|assumption|fail) only[go_sem,↓reduceIte,NM.nU,List.map_append,List.append_assoc]
  simp only[if_neg b];by_cases c:i=hn 0 k
  ·subst c;simp(disch:=first|omega|assumption|fail) only[go_sem,↓reduceIte,el];rfl
  simp only[if_neg c];by_cases d:i=hn 2 k
  ·subst d;simp(disch:=first|omega|assumption|fail) only[go_sem,↓reduceIte];rfl
  simp only[if_neg d];by_cases f:i=hn 1 k
  ·subst f;simp(disch:=first|omega|assumption|fail) only[go_sem,↓reduceIte,n1];rfl
  simp only[if_neg f,aC,if_neg c]
end
structure pH(p:af)(C:aI)(m:MV)(x:ay):Prop where
 calls:1<=m.calls.length
 nD:m.calls.length<=8
 one:x.op=6\/x.op=8\/x.op=9\/x.op=10\/x.op=11\/x.op=13\/x.op=15\/x.op=17\/x.op=18\/x.op=19\/x.op=21\/x.op=23->1<=m.ah.stack.length
 two:x.op=7\/x.op=12->2<=m.ah.stack.length
 slot:x.op=5\/x.op=6\/x.op=11\/x.op=12->0<=x.a/\x.a<m.ah.slots.length
 call:x.op=20->0<=x.b/\x.b<=m.ah.stack.length/\(m.calls.length<8->pQ p C m x.a (m.ah.stack.drop (m.ah.stack.length-x.b.toNat)))
 word:x.op=15->bE m.ah.last.n
 kg:∀v∈m.ah.stack,v.s.size<=40
 deep:∀k,k<m.calls.length->(nth m.calls k).stack.length<=1000
 slots:m.ah.slots.length<=24
 heap:gw m.heap<=40
 outs:m.bC.length<=24
 od:0<=m.in_
 oF:m.in_<=1000
theorem pH.ah{p:af}{C:aI}{m:MV}{x:ay}(h:pH p C m x):m.ah.stack.length<=1000:=h.deep (m.calls.length-1) (by have:=h.calls;omega)
section
variable {p:af}{C:aI}{m:MV}{N:NM}{e:UL}(X:UQ)
def iv(hR:bL p C m N e)(h1:1<=m.calls.length){l:UM}(h:aZ eJ l=true):aZ (fun i=>(ids e).contains i) (mP N::cP N::l)=true:=by simp only[aZ,AV.all,gf hR.root,gf (hR.ah h1).var,Bool.true_and];exact fX (fun _ h=>by cases h) _ h
def Ui(hR:bL p C m N e)(h1:1<=m.calls.length)(x:ay)(hx:¬(x.op=2\/x.op=3\/x.op=4\/x.op=5)):cW prog 130 [mP N,cP N,.agg (du x)] e (rB false) e:=by
 have U1:=hR.ok.low;refine⟨?_,hR.ok,hR.ok,fun _ h=>h,iv hR h1 rfl⟩;refine aO (L:=ids e) func130 ntmps130 ?_ (hL:=rfl);generalize hB:ids e=B;refine fc ?_
 (have W:=U1;repeat' (first|refine aq fun K hK=>?_|refine ak ?_|(refine hK _ _ ?_;clear hK K)|(refine ao ?_ ?_<;>intro hc<;>try exact jz)|refine aV 9 ?_|refine ap ?_|exact jI|(clear hK K)))
 exact eG hB hR.ok hR.ok (fun _=>rfl) (dq jC dK) [.tmp 6]
def UF(hR:bL p C m N e)(inp:UP)(x:ay)(hk:pH p C m x)(hx:x.op=2\/x.op=3\/x.op=4\/x.op=5):kY prog 130 [mP N,cP N,.agg (du x)] e X (rB true) (To p C (m.ins p C inp x) N):=by
 have h1:=hk.calls;have U1:=hR.ok.low;have h5:x.op=5->cW prog 148 [cP N,rI x.a,rI x.b] e (rV (ff m.ah.slots x.a x.b)) e:=fun h=>Cv hR h1 x.a x.b (hk.slot (.inl h)) (by have:=hk.slots;omega)
 have key:∀v:aj,((x.op=2/\v=vI x.a)\/(x.op=3/\v=vB (decide (x.a=1)))\/(x.op=4/\v=vT x.s)\/(x.op=5/\v=ff m.ah.slots x.a x.b))->kY prog 130 [mP N,cP N,.agg (du x)] e X (rB true) (To p C (m.push v) N):=fun v hv=>by
  obtain⟨N',l,hT,hU,hp⟩:=tj X hR h1 v hk.ah;refine⟨N',l,hT,hU,⟨?_,hR.ok,hp.e2,hU.aY,iv hR h1 rfl⟩⟩;refine aO (L:=ids e) func130 ntmps130 ?_ (hL:=rfl);generalize hB:ids e=B;refine fc ?_;rcases hv with⟨h,rfl⟩|⟨h,rfl⟩|⟨h,rfl⟩|⟨h,rfl⟩
  all_goals
   (have W:=U1;repeat' (first|refine aq fun K hK=>?_|refine ak ?_|(with_reducible refine gR 4 ?_);refine dE 4 (ba 0 7) mixed ?_|(with_reducible refine gR 6 ?_);refine dE 6 (ba 0 8) mixed ?_|(with_reducible refine gR 8 ?_);refine dE 8 (ba 0 7) mixed ?_|(with_reducible refine gR 10 ?_);refine dC 10 ([],[47],[]) [] (ba 0 10) mixed ?_|(refine hK _ _ ?_;clear hK K)|(refine ao ?_ ?_<;>intro hc<;>try exact jz)|refine aV 9 ?_|refine cp (ui _) ?_|refine cp (xj _) ?_|refine cp (Gm _) ?_|refine mN (h5 h) ?_|refine cT hp ?_|refine ap ?_|exact jI|(clear hK K)))
  all_goals exact eG hB hR.ok hp.e2 (fun _=>rfl) (dq jC dK) [.tmp 6]
 unfold MV.ins;rcases hx with h|h|h|h
 ·have:=key (vI x.a) (.inl ⟨h,rfl⟩);simpa[h]using this
 ·have:=key (vB (decide (x.a=1))) (.inr (.inl ⟨h,rfl⟩));simpa[h]using this
 ·have:=key (vT x.s) (.inr (.inr (.inl ⟨h,rfl⟩)));simpa[h]using this
 ·have:=key (ff m.ah.slots x.a x.b) (.inr (.inr (.inr ⟨h,rfl⟩)));simpa[h]using this
end
section
variable {p:af}{C:aI}{m:MV}{N:NM}{e:UL}(X:UQ)
def RZ(hR:bL p C m N e)(h1:1<=m.calls.length)(x:ay)(hx:¬(x.op=16\/x.op=17\/x.op=18\/x.op=19)):cW prog 133 [mP N,cP N,.agg (du x)] e (rB false) e:=by
 have U1:=hR.ok.low;refine⟨?_,hR.ok,hR.ok,fun _ h=>h,iv hR h1 rfl⟩;refine aO (L:=ids e) func133 ntmps133 ?_ (hL:=rfl);generalize hB:ids e=B;refine fc ?_
 (have W:=U1;repeat' (first|refine aq fun K hK=>?_|refine ak ?_|(refine hK _ _ ?_;clear hK K)|(refine ao ?_ ?_<;>intro hc<;>try exact jz)|refine aV 9 ?_|refine ap ?_|exact jI|(clear hK K)))
 exact eG hB hR.ok hR.ok (fun _=>rfl) (dq jC dK) [.tmp 6]
def QT(hR:bL p C m N e)(inp:UP)(x:ay)(hk:pH p C m x)(hx:x.op=16\/x.op=17\/x.op=18\/x.op=19):kY prog 133 [mP N,cP N,.agg (du x)] e X (rB true) (To p C (m.ins p C inp x) N):=by
 have h1:=hk.calls;have U1:=hR.ok.low;have hT:=hR.ah h1;by_cases WX:x.op=16
 ·have ei:m.ins p C inp x=m.aX (m.ah.jump x.a):=by unfold MV.ins;simp[WX]
  rw[ei];have V2:=hR.j5 h1 (c':=m.ah.jump x.a) rfl rfl;have hU:Up X e (bg e (hn 0 N.ah.c) (.var 174 (MV.cE (m.ah.jump x.a) N.ah))):=Up.put _ (.inl (by rw[hT.var];simp));refine⟨_,_,⟨V2,rfl,rfl⟩,hU,⟨?_,hR.ok,V2.ok,hU.aY,iv hR h1 rfl⟩⟩;have k2:=V2.ok;clear V2 hU;generalize hE:bg e (hn 0 N.ah.c) (.var 174 (MV.cE (m.ah.jump x.a) N.ah))=E at k2 ⊢;refine aO (L:=ids e) func133 ntmps133 ?_ (hL:=rfl);generalize hB:ids e=B;refine fc ?_
  (have W:=jA U1 (hT.var);repeat' (first|refine aq fun K hK=>?_|refine ak ?_|(refine hK _ _ ?_;clear hK K)|(refine ao ?_ ?_<;>intro hc<;>try exact jz)|refine aV 9 ?_|refine ap ?_|exact jI|(clear hK K)))
  subst hE;exact eG hB hR.ok k2 (fun _=>rfl) (dq jC dK) [.tmp 6]
 have Xc:=hk.one jB;obtain⟨N1,l1,U9,Vw,We⟩:=Ex X hR h1 Xc;have ZT:1<=(m.cut 1).calls.length:=by rw[show(m.cut 1).calls.length=m.calls.length from MV.bP _ _];exact h1
 have Vu:=U9.1.ok.low;have Zj:=(U9.1.ah ZT).var;rw[U9.2.2]at Zj;have VO:=U9.1.j5 ZT (c':=(m.cut 1).ah.jump x.a) rfl rfl;have VW:Up X l1 (bg l1 (hn 0 N1.ah.c) (.var 174 (MV.cE ((m.cut 1).ah.jump x.a) N1.ah))):=Up.put _ (.inl (by rw[U9.2.2,Zj];simp));by_cases h17:x.op=17
 ·by_cases hz:m.ah.last.n=0
  ·have ei:m.ins p C inp x=(m.cut 1).aX ((m.cut 1).ah.jump x.a):=by
    unfold MV.ins;simp only[h17,hz];unfold MV.cut;rw[MV.dx,MV.bp h1];rfl
   rw[ei];refine⟨_,_,⟨VO,U9.2.1,U9.2.2⟩,Vw.trans VW,⟨?_,hR.ok,VO.ok,(Vw.trans VW).aY,iv hR h1 rfl⟩⟩;have k2:=VO.ok;clear VO Vw VW;generalize hE:bg l1 (hn 0 N1.ah.c) (.var 174 (MV.cE ((m.cut 1).ah.jump x.a) N1.ah))=E at k2 ⊢;refine aO (L:=ids e) func133 ntmps133 ?_ (hL:=rfl);generalize hB:ids e=B;refine fc ?_
   (have W:=jA U1 (jA Vu (jA Zj (hz)));repeat' (first|refine aq fun K hK=>?_|refine ak ?_|(refine hK _ _ ?_;clear hK K)|(refine ao ?_ ?_<;>intro hc<;>try exact jz)|refine aV 9 ?_|refine cT We ?_|refine ap ?_|exact jI|(clear hK K)))
   subst hE;refine eG (tl:=[(9,.var 176 (du x))]) hB hR.ok k2 (fun i=>?_) (dq jC dK) [.tmp 6];have:=U9.2.2;unfold MV.cE;rw[this];rfl
  ·have ei:m.ins p C inp x=m.cut 1:=by unfold MV.ins;simp only[h17];simp[hz]
   rw[ei];refine⟨_,_,U9,Vw,⟨?_,hR.ok,We.e2,Vw.aY,iv hR h1 rfl⟩⟩;refine aO (L:=ids e) func133 ntmps133 ?_ (hL:=rfl);generalize hB:ids e=B;refine fc ?_
   (have W:=jA U1 Vu;repeat' (first|refine aq fun K hK=>?_|refine ak ?_|(refine hK _ _ ?_;clear hK K)|(refine ao ?_ ?_<;>intro hc<;>try exact jz)|refine aV 9 ?_|refine cT We ?_|refine ap ?_|exact jI|(clear hK K)))
   exact eG hB hR.ok We.e2 (fun _=>rfl) (dq jC dK) [.tmp 6]
 have XE:=Pw hR h1 Xc;have h2:x.op=18\/x.op=19:=jB;have Yq:m.ins p C inp x=if(m.ah.last.n=1<->x.op=19)then m.aX (m.ah.jump x.a)else m.cut 1:=by unfold MV.ins;rcases h2 with h|h<;>simp only[h]<;>rfl
 by_cases hj:(m.ah.last.n=1<->x.op=19)
 ·have ei:m.ins p C inp x=m.aX (m.ah.jump x.a):=by rw[Yq,if_pos hj]
  rw[ei];have ZA:=hR.j5 h1 (c':=m.ah.jump x.a) rfl rfl;have hU:Up X e (bg e (hn 0 N.ah.c) (.var 174 (MV.cE (m.ah.jump x.a) N.ah))):=Up.put _ (.inl (by rw[hT.var];simp));refine⟨_,_,⟨ZA,rfl,rfl⟩,hU,⟨?_,hR.ok,ZA.ok,hU.aY,iv hR h1 rfl⟩⟩;have k2:=ZA.ok;clear ZA hU VO VW Vw;generalize hE:bg e (hn 0 N.ah.c) (.var 174 (MV.cE (m.ah.jump x.a) N.ah))=E at k2 ⊢;have hj':(decide (m.ah.last.n=1) == decide (x.op=19))=true:=by by_cases a:m.ah.last.n=1<;>by_cases b:x.op=19<;>simp[a,b]at hj ⊢
  refine aO (L:=ids e) func133 ntmps133 ?_ (hL:=rfl);generalize hB:ids e=B;refine fc ?_;rcases h2 with h|h
  all_goals
   (have W:=jA U1 (jA hT.var (hj'));repeat' (first|refine aq fun K hK=>?_|refine ak ?_|(with_reducible refine gR 10 ?_);refine dC 10 ([],[35],[]) [] (ba 0 10) mixed ?_|(refine hK _ _ ?_;clear hK K)|(refine ao ?_ ?_<;>intro hc<;>try exact jz)|refine aV 9 ?_|refine mN XE ?_|refine ap ?_|exact jI|(clear hK K)))
  all_goals
   subst hE;exact eG hB hR.ok k2 (fun _=>rfl) (dq jC dK) [.tmp 6]
 ·have ei:m.ins p C inp x=m.cut 1:=by rw[Yq,if_neg hj]
  rw[ei];refine⟨_,_,U9,Vw,⟨?_,hR.ok,We.e2,Vw.aY,iv hR h1 rfl⟩⟩;have hj':(decide (m.ah.last.n=1) == decide (x.op=19))=false:=by by_cases a:m.ah.last.n=1<;>by_cases b:x.op=19<;>simp[a,b]at hj ⊢
  refine aO (L:=ids e) func133 ntmps133 ?_ (hL:=rfl);generalize hB:ids e=B;refine fc ?_;rcases h2 with h|h
  all_goals
   (have W:=jA U1 (hj');repeat' (first|refine aq fun K hK=>?_|refine ak ?_|(with_reducible refine gR 10 ?_);refine dC 10 ([],[35],[]) [] (ba 0 10) mixed ?_|(refine hK _ _ ?_;clear hK K)|(refine ao ?_ ?_<;>intro hc<;>try exact jz)|refine aV 9 ?_|refine mN XE ?_|refine cT We ?_|refine ap ?_|exact jI|(clear hK K)))
  all_goals exact eG hB hR.ok We.e2 (fun _=>rfl) (dq jC dK) [.tmp 6]
end
end Go.Proofs.YtijdhbokcdpklaaGreatDoor
namespace Go.Proofs.YtijdhbokcdpklaaGreatDoor
open Go Go.Gd Tryz
theorem IQ:∀h:UO,h.foldl lO (0:Int)=(h.flatten.length:Int)
 |[]=>rfl
 |x::h=>by show h.foldl lO (lO 0 x)=_;rw[nN,IQ h,List.flatten_cons,List.length_append];show(0:Int)+(x.length:Int)+_=_;omega
def wJ(h:UO):gw h=h.length+h.flatten.length:=by unfold gw;rw[nN,IQ]
end Go.Proofs.YtijdhbokcdpklaaGreatDoor
namespace Go.Proofs.YtijdhbokcdpklaaGreatDoor
open Go Go.Gd Tryz Go.Gd.MV
section
variable {p:af}{C:aI}{m:MV}{N:NM}{e:UL}(X:UQ)
def wS(hR:bL p C m N e)(h1:1<=m.calls.length)(hb:1<=m.ah.stack.length):∃N' l,(To p C (m.cut 1) N N' l/\N'.ah.v=N.ah.v)/\Up X e l/\cW prog 149 [cP N] e (rV m.ah.last) l/\∀C D,A3 ([hn 2 N.ah.v,hn 16 N.ah.c],C,D) e l:=by
 have ht:=hR.ah h1;have W4:=ht.bd;have hl:=hR.len;have e1:m.ah.stack.take (m.ah.stack.length-1)++[m.ah.last]=m.ah.stack:=by unfold MC.last;rw[fM jB,List.take_append_getElem,show m.ah.stack.length-1+1=m.ah.stack.length from jB,List.take_length]
 have I':(m.ah.stack.take (m.ah.stack.length-1)).length=m.ah.stack.length-1:=by rw[List.length_take];omega
 have hc:=EO m.ah.fn m.ah.at_ m.ah.mark (m.ah.stack.take (m.ah.stack.length-1)) N.ah.jk m.ah.slots m.ah.last (by rw[I'];omega);rw[e1]at hc;have hb3:(m.ah.cut 1).stack.length+(m.ah.last::N.ah.jk).length<=2000:=by show(m.ah.stack.take (m.ah.stack.length-1)).length+_<=_;rw[I',List.length_cons];omega
 obtain⟨⟨h2,h3⟩,h4,h5⟩:=hR.nI (X:=X) h1 (c':=m.ah.cut 1) hb3 rfl rfl hc;refine⟨_,_,⟨⟨h2,rfl,h3⟩,by rw[Fm jB]⟩,h4,h5,fun C D j hj hje=>?_⟩;have XD:j≠hn 2 N.ah.v:=fun e'=>by subst e';simp at hj
 unfold kL;by_cases h0:j=hn 0 N.ah.c
 ·right
  subst h0;refine⟨by rw[OH];simp,174,_,.rs (hn 2 N.ah.v) ((m.ah.cut 1).stack.length+(m.ah.last::N.ah.jk).length) 3 (m.ah.cut 1).stack.length,_,ht.var,?_⟩;rw[bS,if_neg (dj jB jB jB),bS,if_neg (dj jB jB jB),bS,if_pos rfl];rfl
 ·left
  rw[bS];by_cases Zm:j=hn 1 N.ah.c
  ·rw[if_pos Zm];subst Zm;rw[ht.eZ];rfl
  ·rw[if_neg Zm,bS,if_neg XD,bS,if_neg h0]
def Ty(hR:bL p C m N e)(h1:1<=m.calls.length)(x:ay)(hx:¬(x.op=7\/x.op=8\/x.op=9\/x.op=10)):cW prog 131 [mP N,cP N,.agg (du x)] e (rB false) e:=by
 have U1:=hR.ok.low;refine⟨?_,hR.ok,hR.ok,fun _ h=>h,iv hR h1 rfl⟩;refine aO (L:=ids e) func131 ntmps131 ?_ (hL:=rfl);generalize hB:ids e=B;refine fc ?_
 (have W:=U1;repeat' (first|refine aq fun K hK=>?_|refine ak ?_|(refine hK _ _ ?_;clear hK K)|(refine ao ?_ ?_<;>intro hc<;>try exact jz)|refine aV 9 ?_|refine ap ?_|exact jI|(clear hK K)))
 exact eG hB hR.ok hR.ok (fun _=>rfl) (dq jC dK) [.tmp 6]
def GM(h1:1<=m.calls.length)(a b:Nat)(hab:a+b<=m.ah.stack.length):(m.cut a).cut b=m.cut (a+b):=by
 unfold MV.cut;rw[MV.dx,MV.bp h1];congr 1
 unfold MC.cut;simp only[List.length_take];rw[Nat.min_eq_left jB,List.take_take,Nat.min_eq_left jB];congr 1
 ·congr 1;omega
 ·omega
def E9(hb:1<=m.ah.stack.length):m.ah.last∈m.ah.stack:=by unfold MC.last;rw[fM jB];exact List.getElem_mem _
def T9(hb:2<=m.ah.stack.length):(m.ah.cut 1).last∈m.ah.stack:=by unfold MC.last MC.cut;simp only[List.length_take];rw[Nat.min_eq_left jB,Go.Gd.MV.gP jB,fM jB];exact List.getElem_mem _
def RA(hR:bL p C m N e)(inp:UP)(x:ay)(hk:pH p C m x)(hx:x.op=7\/x.op=8\/x.op=9\/x.op=10):kY prog 131 [mP N,cP N,.agg (du x)] e X (rB true) (To p C (m.ins p C inp x) N):=by
 have h1:=hk.calls;have U1:=hR.ok.low;have hdp:=hk.ah;have WG:1<=m.ah.stack.length:=by
  by_cases h7:x.op=7
  ·have:=hk.two (.inl h7);omega
  ·exact hk.one jB
 obtain⟨N1,l1,⟨U9,Zj⟩,Vw,We,Xb⟩:=wS X hR h1 WG;have Vn:(m.cut 1).calls.length=m.calls.length:=MV.bP _ _;have XM:(m.cut 1).ah=m.ah.cut 1:=MV.bp h1 _;have YJ:(m.cut 1).ah.stack.length=m.ah.stack.length-1:=by rw[XM];show(m.ah.stack.take _).length=_;rw[List.length_take];omega
 have Vu:=U9.1.ok.low;have eN1:cP N1=cP N:=by unfold cP;rw[U9.2.2]
 have eM1:mP N1=mP N:=by unfold mP;rw[U9.2.1]
 by_cases h7:x.op=7
 ·have h2:=hk.two (.inl h7);rw[Ea _ _ _ _ _ h7];obtain⟨N2,l2,⟨VP,YU⟩,VW,Yv,hx2⟩:=wS X U9.1 jB jB;rw[eN1,XM]at Yv;rw[Zj,U9.2.2]at hx2;have ecc:(m.cut 1).cut 1=m.cut 2:=GM h1 1 1 jB;rw[ecc]at VP;have Wx:=VP.1.ok.low;have hc2:(m.cut 2).calls.length=m.calls.length:=MV.bP _ _;have hs2:(m.cut 2).ah.stack.length<=1000:=by rw[show(m.cut 2).ah=m.ah.cut 2 from MV.bp h1 _];show(m.ah.stack.take _).length<=_;rw[List.length_take];omega
  obtain⟨N',l,hT,hU,hp⟩:=xE X VP.1 jB (qu x.s (m.ah.cut 1).last m.ah.last) hs2;rw[show mP N2=mP N by unfold mP;rw[VP.2.1,U9.2.1]]at hp;have hbi:=hk.kg _ (E9 WG);have hsz2:=hk.kg _ (T9 h2);have hbn:=P2 x.s (m.ah.cut 1).last m.ah.last jB jB;refine⟨N',l,⟨hT.1,hT.2.1.trans (VP.2.1.trans U9.2.1),hT.2.2.trans (VP.2.2.trans U9.2.2)⟩,Vw.trans (VW.trans hU),⟨?_,hR.ok,hp.e2,(Vw.trans (VW.trans hU)).aY,iv hR h1 rfl⟩⟩;refine aO (L:=ids e) func131 ntmps131 ?_ (hL:=rfl);generalize hB:ids e=B;refine fc ?_
  (have W:=jA U1 (jA Vu (Wx));repeat' (first|refine aq fun K hK=>?_|refine ak ?_|(with_reducible refine gR 5 ?_);refine qq 5 [hn 2 N.ah.v,hn 16 N.ah.c] [] [24] [] [0,1,2,3,4,5,7,6,8,9,10,11] mixed ?_|(refine hK _ _ ?_;clear hK K)|(refine ao ?_ ?_<;>intro hc<;>try exact jz)|refine aV 9 ?_|refine cC 10 ?_|refine cT We ?_|refine oc Yv (hx2 _ _) ?_|refine cp (hbn) ?_|refine cT hp ?_|refine ap ?_|exact jI|(clear hK K)))
  exact eG hB hR.ok hp.e2 (fun _=>rfl) (dq jC (dq jC dK)) [.tmp 6]
 by_cases h10:x.op=10
 ·rw[Ef _ _ _ _ _ h10];have hbi:=hk.kg _ (E9 WG);have Yz:=hk.heap;rw[wJ]at Yz;have U6:=Sb U9.1 m.ah.last.n (by show m.heap.length<=1000;omega) (by show m.heap.flatten.length<=1000;omega);have hv3:=U9.1.root;rw[U9.2.1]at hv3 U6;by_cases XG:m.ah.last.ty=4
  ·rw[if_pos XG];obtain⟨N',l,hT,hU,hp⟩:=tj X U9.1 jB (vI (bn m.heap m.ah.last.n).length) jB;rw[eN1]at hp;refine⟨N',l,⟨hT.1,hT.2.1.trans U9.2.1,hT.2.2.trans U9.2.2⟩,Vw.trans hU,⟨?_,hR.ok,hp.e2,(Vw.trans hU).aY,iv hR h1 rfl⟩⟩;refine aO (L:=ids e) func131 ntmps131 ?_ (hL:=rfl);generalize hB:ids e=B;refine fc ?_
   (have W:=jA U1 (jA Vu (jA hv3 (U9.2.1)));repeat' (first|refine aq fun K hK=>?_|refine ak ?_|(with_reducible refine gR 14 ?_);refine dC 14 ([],[70],[]) [] (ba 0 8) mixed ?_|(with_reducible refine gR 15 ?_);refine dE 15 (ba 0 6) mixed ?_|(refine hK _ _ ?_;clear hK K)|(refine ao ?_ ?_<;>intro hc<;>try exact jz)|refine aV 9 ?_|refine cC 10 ?_|refine mN U6 ?_|refine cT We ?_|refine cp (ui _) ?_|refine cT hp ?_|refine ap ?_|exact jI|(clear hK K)))
   exact eG hB hR.ok hp.e2 (fun _=>rfl) (dq jC (dq jC dK)) [.tmp 6]
  ·rw[if_neg XG];obtain⟨N',l,hT,hU,hp⟩:=tj X U9.1 jB (vI m.ah.last.s.size) jB;rw[eN1]at hp;refine⟨N',l,⟨hT.1,hT.2.1.trans U9.2.1,hT.2.2.trans U9.2.2⟩,Vw.trans hU,⟨?_,hR.ok,hp.e2,(Vw.trans hU).aY,iv hR h1 rfl⟩⟩;refine aO (L:=ids e) func131 ntmps131 ?_ (hL:=rfl);generalize hB:ids e=B;refine fc ?_
   (have W:=jA U1 Vu;repeat' (first|refine aq fun K hK=>?_|refine ak ?_|(with_reducible refine gR 15 ?_);refine dE 15 (ba 0 6) mixed ?_|(refine hK _ _ ?_;clear hK K)|(refine ao ?_ ?_<;>intro hc<;>try exact jz)|refine aV 9 ?_|refine cC 10 ?_|refine cT We ?_|refine cp (ui _) ?_|refine cT hp ?_|refine ap ?_|exact jI|(clear hK K)))
   exact eG hB hR.ok hp.e2 (fun _=>rfl) (dq jC (dq jC dK)) [.tmp 6]
 have key:∀g:UR,((x.op=8/\g=(⟨#[45]⟩:UR))\/(x.op=9/\g=(⟨#[33]⟩:UR)))->kY prog 131 [mP N,cP N,.agg (du x)] e X (rB true) (To p C ((m.cut 1).push (mT g m.ah.last)) N):=fun g hg=>by
  obtain⟨N',l,hT,hU,hp⟩:=tj X U9.1 jB (mT g m.ah.last) jB;rw[eN1]at hp;refine⟨N',l,⟨hT.1,hT.2.1.trans U9.2.1,hT.2.2.trans U9.2.2⟩,Vw.trans hU,⟨?_,hR.ok,hp.e2,(Vw.trans hU).aY,iv hR h1 rfl⟩⟩;refine aO (L:=ids e) func131 ntmps131 ?_ (hL:=rfl);generalize hB:ids e=B;refine fc ?_;rcases hg with⟨h,rfl⟩|⟨h,rfl⟩
  all_goals
   (have W:=jA U1 Vu;repeat' (first|refine aq fun K hK=>?_|refine ak ?_|(with_reducible refine gR 7 ?_);refine dE 7 (ba 0 9) mixed ?_|(with_reducible refine gR 9 ?_);refine dE 9 (ba 0 9) mixed ?_|(refine hK _ _ ?_;clear hK K)|(refine ao ?_ ?_<;>intro hc<;>try exact jz)|refine aV 9 ?_|refine cT We ?_|refine cp (OT _ _) ?_|refine cT hp ?_|refine ap ?_|exact jI|(clear hK K)))
  all_goals exact eG hB hR.ok hp.e2 (fun _=>rfl) (dq jC dK) [.tmp 6]
 by_cases h8:x.op=8
 ·rw[Fh _ _ _ _ _ h8];exact key _ (.inl ⟨h8,rfl⟩)
 ·have h9:x.op=9:=jB;rw[IS _ _ _ _ _ h9];exact key _ (.inr ⟨h9,rfl⟩)
end
section
variable {p:af}{C:aI}{m:MV}{N:NM}{e:UL}(X:UQ)
def Sm(hR:bL p C m N e)(h1:1<=m.calls.length)(x:ay)(hx:¬(x.op=6\/x.op=23\/x.op=11\/x.op=12\/x.op=13)):cW prog 132 [mP N,cP N,.agg (du x)] e (rB false) e:=by
 have U1:=hR.ok.low;refine⟨?_,hR.ok,hR.ok,fun _ h=>h,iv hR h1 rfl⟩;refine aO (L:=ids e) func132 ntmps132 ?_ (hL:=rfl);generalize hB:ids e=B;refine fc ?_
 (have W:=U1;repeat' (first|refine aq fun K hK=>?_|refine ak ?_|(refine hK _ _ ?_;clear hK K)|(refine ao ?_ ?_<;>intro hc<;>try exact jz)|refine aV 9 ?_|refine ap ?_|exact jI|(clear hK K)))
 exact eG hB hR.ok hR.ok (fun _=>rfl) (dq jC dK) [.tmp 6]
def K0(hR:bL p C m N e)(inp:UP)(x:ay)(hk:pH p C m x)(hx:x.op=6\/x.op=23\/x.op=11\/x.op=12\/x.op=13):kY prog 132 [mP N,cP N,.agg (du x)] e X (rB true) (To p C (m.ins p C inp x) N):=by
 have h1:=hk.calls;have U1:=hR.ok.low;have hdp:=hk.ah;have hT:=hR.ah h1;have WG:1<=m.ah.stack.length:=by
  by_cases ZQ:x.op=12
  ·have:=hk.two (.inr ZQ);omega
  ·exact hk.one jB
 obtain⟨N1,l1,⟨U9,Zj⟩,Vw,We,Xb⟩:=wS X hR h1 WG;have Vn:(m.cut 1).calls.length=m.calls.length:=MV.bP _ _;have XM:(m.cut 1).ah=m.ah.cut 1:=MV.bp h1 _;have YJ:(m.cut 1).ah.stack.length=m.ah.stack.length-1:=by rw[XM];show(m.ah.stack.take _).length=_;rw[List.length_take];omega
 have Vu:=U9.1.ok.low;have eN1:cP N1=cP N:=by unfold cP;rw[U9.2.2]
 have eM1:mP N1=mP N:=by unfold mP;rw[U9.2.1]
 have Yz:=hk.heap;rw[wJ]at Yz;have hv3:=U9.1.root;rw[U9.2.1]at hv3;by_cases h23:x.op=23
 ·rw[G8 _ _ _ _ _ h23];refine⟨N1,l1,U9,Vw,⟨?_,hR.ok,We.e2,Vw.aY,iv hR h1 rfl⟩⟩;refine aO (L:=ids e) func132 ntmps132 ?_ (hL:=rfl);generalize hB:ids e=B;refine fc ?_
  (have W:=jA U1 Vu;repeat' (first|refine aq fun K hK=>?_|refine ak ?_|(refine hK _ _ ?_;clear hK K)|(refine ao ?_ ?_<;>intro hc<;>try exact jz)|refine aV 9 ?_|refine cT We ?_|refine ap ?_|exact jI|(clear hK K)))
  exact eG hB hR.ok We.e2 (fun _=>rfl) (dq jC dK) [.tmp 6]
 by_cases h6:x.op=6
 ·rw[I4 _ _ _ _ _ h6];have V5:=hk.slot jB;have hss:=hk.slots;have VO:=U9.1.sy jB (m.ah.slots.set x.a.toNat m.ah.last) (by rw[List.length_set,XM];rfl);have em:(m.cut 1).aX { (m.cut 1).ah with slots:=m.ah.slots.set x.a.toNat m.ah.last }=m.aX { m.ah.cut 1 with slots:=m.ah.slots.set x.a.toNat m.ah.last }:=by
   rw[XM];unfold MV.cut;rw[MV.dx]
  rw[em]at VO;have Y9:=(U9.1.ah jB).eZ;rw[U9.2.2,XM]at Y9;have Y9:aC l1 (hn 1 N.ah.c)=some (.aG 42 3 (m.ah.slots.map bW)):=Y9;rw[U9.2.2]at VO;have VW:Up X l1 (bg l1 (hn 1 N.ah.c) (.aG 42 3 ((m.ah.slots.set x.a.toNat m.ah.last).map bW))):=Up.put _ (.inl (by rw[Y9];simp));refine⟨N1,_,⟨VO,U9.2.1,U9.2.2⟩,Vw.trans VW,⟨?_,hR.ok,VO.ok,(Vw.trans VW).aY,iv hR h1 rfl⟩⟩;have k2:=VO.ok;clear VO VW Vw em;generalize hE:bg l1 (hn 1 N.ah.c) (.aG 42 3 ((m.ah.slots.set x.a.toNat m.ah.last).map bW))=E at k2 ⊢;refine aO (L:=ids e) func132 ntmps132 ?_ (hL:=rfl);generalize hB:ids e=B;refine fc ?_
  (have W:=jA U1 (jA Vu (jA hT.var (Y9)));repeat' (first|refine aq fun K hK=>?_|refine ak ?_|(with_reducible refine gR 4 ?_);refine qq 4 [hn 2 N.ah.v,hn 16 N.ah.c] [] [26,1000000] [] (ba 0 12) mixed ?_|(refine hK _ _ ?_;clear hK K)|(refine ao ?_ ?_<;>intro hc<;>try exact jz)|refine aV 9 ?_|refine oc We (Xb _ _) ?_|refine ap ?_|exact jI|(clear hK K)))
  subst hE;refine eG (tl:=[(9,.var 176 (du x))]) hB hR.ok k2 (fun i=>?_) (dq jC dK) [.tmp 6];rw[List.map_set];rfl
 by_cases ZT:x.op=11
 ·rw[Fu _ _ _ _ _ ZT];have V5:=hk.slot jB;have W0:=Cv hR h1 x.a 4 V5 (by have:=hk.slots;omega);have XN:=PB U9.1 (ff m.ah.slots x.a 4).n m.ah.last.n (by show m.heap.length<=1000;omega) (by show m.heap.flatten.length<=1000;omega);rw[U9.2.1]at XN;have XN:cW prog 154 [.pt (hn 5 N.k) 0 0 0,rI (ff m.ah.slots x.a 4).n,rI m.ah.last.n] l1 (.aQ [rI (if m.ah.last.n<0\/((bn m.heap (ff m.ah.slots x.a 4).n).length:Int)<=m.ah.last.n then 0 else nth (bn m.heap (ff m.ah.slots x.a 4).n) m.ah.last.n.toNat),rI (if m.ah.last.n<0\/((bn m.heap (ff m.ah.slots x.a 4).n).length:Int)<=m.ah.last.n then 2 else 0)]) l1:=XN;have eg:(if m.ah.last.n<0\/((bn m.heap (ff m.ah.slots x.a 4).n).length:Int)<=m.ah.last.n then(m.cut 1).stops 3 2 else(m.cut 1).push (vI (nth (bn m.heap (ff m.ah.slots x.a 4).n) m.ah.last.n.toNat)))=(m.cut 1).eu (vI (if m.ah.last.n<0\/((bn m.heap (ff m.ah.slots x.a 4).n).length:Int)<=m.ah.last.n then 0 else nth (bn m.heap (ff m.ah.slots x.a 4).n) m.ah.last.n.toNat),if m.ah.last.n<0\/((bn m.heap (ff m.ah.slots x.a 4).n).length:Int)<=m.ah.last.n then 2 else 0):=by
   unfold MV.eu;split
   ·rename_i h;simp only[if_pos h];rfl
   ·rename_i h;simp only[if_neg h];rfl
  rw[eg];generalize (if m.ah.last.n<0\/((bn m.heap (ff m.ah.slots x.a 4).n).length:Int)<=m.ah.last.n then(0:Int)else nth (bn m.heap (ff m.ah.slots x.a 4).n) m.ah.last.n.toNat)=gn at XN ⊢;generalize (if m.ah.last.n<0\/((bn m.heap (ff m.ah.slots x.a 4).n).length:Int)<=m.ah.last.n then(2:Int)else 0)=gt at XN ⊢;obtain⟨N',l,VP,hU,hp⟩:=xE X U9.1 jB (vI gn,gt) jB;rw[eM1]at hp;refine⟨N',l,⟨VP.1,VP.2.1.trans U9.2.1,VP.2.2.trans U9.2.2⟩,Vw.trans hU,⟨?_,hR.ok,hp.e2,(Vw.trans hU).aY,iv hR h1 rfl⟩⟩;refine aO (L:=ids e) func132 ntmps132 ?_ (hL:=rfl);generalize hB:ids e=B;refine fc ?_
  (have W:=jA U1 (jA Vu (hR.root));repeat' (first|refine aq fun K hK=>?_|refine ak ?_|(with_reducible refine gR 8 ?_);refine qq 8 [hn 2 N.ah.v,hn 16 N.ah.c] [44,51] [49] [] (ba 0 20) mixed ?_|(refine hK _ _ ?_;clear hK K)|(refine ao ?_ ?_<;>intro hc<;>try exact jz)|refine aV 9 ?_|refine mN W0 ?_|refine oc We (Xb _ _) ?_|refine mN XN ?_|refine cp (ui _) ?_|refine cT hp ?_|refine ap ?_|exact jI|(clear hK K)))
  exact eG hB hR.ok hp.e2 (fun _=>rfl) (dq jC dK) [.tmp 6]
 by_cases h13:x.op=13
 ·rw[I6 _ _ _ _ _ h13];by_cases c1:m.ah.last.n<0\/16<m.ah.last.n
  ·rw[if_pos c1];have YK:=PV U9.1 m.ah.last.n c1 (by show m.heap.length<=40;omega) (by show m.heap.flatten.length<=40;omega);rw[U9.2.1]at YK;obtain⟨N',l,VP,hU,hp⟩:=xE X U9.1 jB (⟨4,0,sE⟩,7) jB;rw[eM1]at hp;refine⟨N',l,⟨VP.1,VP.2.1.trans U9.2.1,VP.2.2.trans U9.2.2⟩,Vw.trans hU,⟨?_,hR.ok,hp.e2,(Vw.trans hU).aY,iv hR h1 rfl⟩⟩;refine aO (L:=ids e) func132 ntmps132 ?_ (hL:=rfl);generalize hB:ids e=B;refine fc ?_
   (have W:=jA U1 (jA Vu (hR.root));repeat' (first|refine aq fun K hK=>?_|refine ak ?_|(with_reducible refine gR 16 ?_);refine qq 16 [hn 2 N.ah.v,hn 16 N.ah.c] [] [97] [] (ba 0 15) mixed ?_|(refine hK _ _ ?_;clear hK K)|(refine ao ?_ ?_<;>intro hc<;>try exact jz)|refine aV 9 ?_|refine oc We (Xb _ _) ?_|refine cT YK ?_|refine cT hp ?_|refine ap ?_|exact jI|(clear hK K)))
   exact eG hB hR.ok hp.e2 (fun _=>rfl) (dq jC dK) [.tmp 6]
  rw[if_neg c1];by_cases c2:40<gw m.heap+m.ah.last.n+1
  ·rw[if_pos c2];have YK:=TV U9.1 m.ah.last.n jB (by show 40<(m.heap.length:Int)+m.heap.flatten.length+m.ah.last.n+1;rw[wJ]at c2;omega) (by show m.heap.length<=40;omega) (by show m.heap.flatten.length<=40;omega);rw[U9.2.1]at YK;obtain⟨N',l,VP,hU,hp⟩:=xE X U9.1 jB (⟨4,0,sE⟩,4) jB;rw[eM1]at hp;refine⟨N',l,⟨VP.1,VP.2.1.trans U9.2.1,VP.2.2.trans U9.2.2⟩,Vw.trans hU,⟨?_,hR.ok,hp.e2,(Vw.trans hU).aY,iv hR h1 rfl⟩⟩;refine aO (L:=ids e) func132 ntmps132 ?_ (hL:=rfl);generalize hB:ids e=B;refine fc ?_
   (have W:=jA U1 (jA Vu (hR.root));repeat' (first|refine aq fun K hK=>?_|refine ak ?_|(with_reducible refine gR 16 ?_);refine qq 16 [hn 2 N.ah.v,hn 16 N.ah.c] [] [97] [] (ba 0 15) mixed ?_|(refine hK _ _ ?_;clear hK K)|(refine ao ?_ ?_<;>intro hc<;>try exact jz)|refine aV 9 ?_|refine oc We (Xb _ _) ?_|refine cT YK ?_|refine cT hp ?_|refine ap ?_|exact jI|(clear hK K)))
   exact eG hB hR.ok hp.e2 (fun _=>rfl) (dq jC dK) [.tmp 6]
  rw[if_neg c2];obtain⟨N2,l2,VP,VW,YK⟩:=Tl X U9.1 m.ah.last.n jB (by show gw m.heap+_+1<=40;omega) (wJ _);rw[U9.2.1]at YK;have YK:cW prog 157 [.pt (hn 5 N.k) 0 0 0,rI m.ah.last.n] l1 (.aQ [rI (m.heap.length+1:Nat),rI 0]) l2:=YK;obtain⟨N',l,ZU,hU3,hp⟩:=tj X VP.1 (by show 1<=(m.cut 1).calls.length;omega) ⟨4,m.heap.length+1,sE⟩ (by show(m.cut 1).ah.stack.length<=1000;omega);obtain⟨N'',l',hT4,hU4,hp4⟩:=xE X VP.1 (by show 1<=(m.cut 1).calls.length;omega) (⟨4,m.heap.length+1,sE⟩,0) (by show(m.cut 1).ah.stack.length<=1000;omega);rw[show mP N2=mP N by unfold mP;rw[VP.2.1,U9.2.1]]at hp4;have Wx:=VP.1.ok.low;refine⟨N'',l',⟨hT4.1,hT4.2.1.trans (VP.2.1.trans U9.2.1),hT4.2.2.trans (VP.2.2.trans U9.2.2)⟩,Vw.trans (VW.trans hU4),⟨?_,hR.ok,hp4.e2,(Vw.trans (VW.trans hU4)).aY,iv hR h1 rfl⟩⟩;refine aO (L:=ids e) func132 ntmps132 ?_ (hL:=rfl);generalize hB:ids e=B;refine fc ?_
  (have W:=jA U1 (jA Vu (jA Wx (hR.root)));repeat' (first|refine aq fun K hK=>?_|refine ak ?_|(with_reducible refine gR 16 ?_);refine qq 16 [hn 2 N.ah.v,hn 16 N.ah.c] [] [97] [] (ba 0 15) mixed ?_|(refine hK _ _ ?_;clear hK K)|(refine ao ?_ ?_<;>intro hc<;>try exact jz)|refine aV 9 ?_|refine oc We (Xb _ _) ?_|refine cT YK ?_|refine cT hp4 ?_|refine ap ?_|exact jI|(clear hK K)))
  exact eG hB hR.ok hp4.e2 (fun _=>rfl) (dq jC dK) [.tmp 6]
 have ZQ:x.op=12:=jB;rw[Er _ _ _ _ _ ZQ];have h2:=hk.two (.inr ZQ);have V5:=hk.slot jB;have W0:=Cv U9.1 jB x.a 4 (by rw[XM];exact V5) (by rw[XM];have:=hk.slots;show m.ah.slots.length<=1000;omega);rw[eN1,XM]at W0;have W0:cW prog 148 [cP N,rI x.a,rI 4] l1 (rV (ff m.ah.slots x.a 4)) l1:=W0;obtain⟨N2,l2,⟨VP,YU⟩,VW,Yv,hx2⟩:=wS X U9.1 jB jB;rw[eN1,XM]at Yv;rw[Zj,U9.2.2]at hx2;have ecc:(m.cut 1).cut 1=m.cut 2:=GM h1 1 1 jB;rw[ecc]at VP;have Wx:=VP.1.ok.low;have hc2:(m.cut 2).calls.length=m.calls.length:=MV.bP _ _;have ek:N2.k=N.k:=VP.2.1.trans U9.2.1;by_cases hi:(m.ah.cut 1).last.n<0\/((bn m.heap (ff m.ah.slots x.a 4).n).length:Int)<=(m.ah.cut 1).last.n
 ·rw[if_pos hi];have YI:=QM VP.1 (ff m.ah.slots x.a 4).n (m.ah.cut 1).last.n m.ah.last.n (by show m.heap.length<=1000;omega) (by show m.heap.flatten.length<=1000;omega) hi;rw[ek]at YI;obtain⟨N',l,ZU,hU,hp⟩:=xR X VP.1 jB 3 2;rw[show mP N2=mP N by unfold mP;rw[ek]]at hp;refine⟨N',l,⟨ZU.1,ZU.2.1.trans ek,ZU.2.2.trans (VP.2.2.trans U9.2.2)⟩,Vw.trans (VW.trans hU),⟨?_,hR.ok,hp.e2,(Vw.trans (VW.trans hU)).aY,iv hR h1 rfl⟩⟩;refine aO (L:=ids e) func132 ntmps132 ?_ (hL:=rfl);generalize hB:ids e=B;refine fc ?_
  (have W:=jA U1 (jA Vu (jA Wx (jA hv3 (U9.2.1))));repeat' (first|refine aq fun K hK=>?_|refine ak ?_|(with_reducible refine gR 12 ?_);refine qq 12 [hn 2 N.ah.v,hn 16 N.ah.c] [73] [78] [] [0,1,2,3,4,5,6,7,8,9,10,11,14,12,13,15,16] mixed ?_|(refine hK _ _ ?_;clear hK K)|(refine ao ?_ ?_<;>intro hc<;>try exact jz)|refine aV 9 ?_|refine cT We ?_|refine mN W0 ?_|refine oc Yv (hx2 _ _) ?_|refine cT YI ?_|refine cT hp ?_|refine ap ?_|exact jI|(clear hK K)))
  exact eG hB hR.ok hp.e2 (fun _=>rfl) (dq jC dK) [.tmp 6]
 ·rw[if_neg hi];obtain⟨N',l,ZU,hU,hp⟩:=OY X VP.1 (ff m.ah.slots x.a 4).n (m.ah.cut 1).last.n m.ah.last.n (by show m.heap.length<=1000;omega) (by show m.heap.flatten.length<=1000;omega) hi;rw[ek]at hp;refine⟨N',l,⟨ZU.1,ZU.2.1.trans ek,ZU.2.2.trans (VP.2.2.trans U9.2.2)⟩,Vw.trans (VW.trans hU),⟨?_,hR.ok,hp.e2,(Vw.trans (VW.trans hU)).aY,iv hR h1 rfl⟩⟩;refine aO (L:=ids e) func132 ntmps132 ?_ (hL:=rfl);generalize hB:ids e=B;refine fc ?_
  (have W:=jA U1 (jA Vu (jA Wx (jA hv3 (U9.2.1))));repeat' (first|refine aq fun K hK=>?_|refine ak ?_|(with_reducible refine gR 12 ?_);refine qq 12 [hn 2 N.ah.v,hn 16 N.ah.c] [73] [78] [] [0,1,2,3,4,5,6,7,8,9,10,11,14,12,13,15,16] mixed ?_|(refine hK _ _ ?_;clear hK K)|(refine ao ?_ ?_<;>intro hc<;>try exact jz)|refine aV 9 ?_|refine cT We ?_|refine mN W0 ?_|refine oc Yv (hx2 _ _) ?_|refine cT hp ?_|refine ap ?_|exact jI|(clear hK K)))
  exact eG hB hR.ok hp.e2 (fun _=>rfl) (dq jC dK) [.tmp 6]
end
end Go.Proofs.YtijdhbokcdpklaaGreatDoor
namespace Go.Proofs.YtijdhbokcdpklaaGreatDoor
open Go Go.Gd Tryz
def K2(l:List UR)(hl:l.length<=1000)(i:Nat):ab prog 90 [aM eS 1 l] [] (fun r l'=>r=.rs i l.length 1 l.length/\l'=[(i,.aG 9 1 (l.map eS))]):=by
 refine aO func90 ntmps90 ?_
 (repeat' (first|refine aq fun K hK=>?_|refine ak ?_|(refine hK _ _ ?_;clear hK K)|(refine ao ?_ ?_<;>intro hc<;>try exact jz)|(with_reducible refine fun(b:Bool) hb=>?_)|refine vn i ?_|refine ap ?_|exact jI|(clear hK K)))
 ·have VQ:l=[]:=by simpa using hb hc
  subst VQ;exact xi i 9 1 jC [.tmp 2] rfl rfl trivial
 ·(refine bY [.tmp 2] ?_ ?_<;>(try simp only[go_sem]))
def Jr(l:List (aj))(hl:l.length<=1000)(i:Nat):ab prog 91 [aM bW 3 l] [] (fun r l'=>r=.rs i l.length 3 l.length/\l'=[(i,.aG 42 3 (l.map bW))]):=by
 refine aO func91 ntmps91 ?_
 (repeat' (first|refine aq fun K hK=>?_|refine ak ?_|(refine hK _ _ ?_;clear hK K)|(refine ao ?_ ?_<;>intro hc<;>try exact jz)|(with_reducible refine fun(b:Bool) hb=>?_)|refine vn i ?_|refine ap ?_|exact jI|(clear hK K)))
 ·have VQ:l=[]:=by simpa using hb hc
  subst VQ;exact xi i 42 3 jC [.tmp 2] rfl rfl trivial
 ·(refine bY [.tmp 2] ?_ ?_<;>(try simp only[go_sem]))
def yu(l:List (Int))(hl:l.length<=1000)(i:Nat):ab prog 52 [aM eI 1 l] [] (fun r l'=>r=.rs i l.length 1 l.length/\l'=[(i,.aG 3 1 (l.map eI))]):=by
 refine aO func52 ntmps52 ?_
 (repeat' (first|refine aq fun K hK=>?_|refine ak ?_|(refine hK _ _ ?_;clear hK K)|(refine ao ?_ ?_<;>intro hc<;>try exact jz)|(with_reducible refine fun(b:Bool) hb=>?_)|refine vn i ?_|refine ap ?_|exact jI|(clear hK K)))
 ·have VQ:l=[]:=by simpa using hb hc
  subst VQ;exact xi i 3 1 jC [.tmp 2] rfl rfl trivial
 ·(refine bY [.tmp 2] ?_ ?_<;>(try simp only[go_sem]))
def io(v:aj):Prop:=bE v.n/\v.s.size<=40
def ri{n:Int}(h:bE n):io (vI n):=⟨h,by show sE.size<=40;decide⟩
def uy(b:Bool):io (vB b):=⟨D0 b,by show sE.size<=40;decide⟩
def EM(t:Int):io (vZ t):=⟨ru,by show sE.size<=40;decide⟩
def DZ{s:UR}(h:s.size<=40):io (vT s):=⟨ru,h⟩
def Qr{l:List aj}(h:si l)(k t:Int):io (ff l k t):=⟨Pj h k t,by
 unfold ff;split
 ·show sE.size<=40;decide
 split
 ·rename_i h;exact LP h.1
 ·show sE.size<=40;decide⟩
def ry(r:aj×Int):Prop:=io r.1/\0<=r.2/\r.2<=9
def lm{c:Prop}[Decidable c]{x y:aj×Int}(h:c->ry x)(k:¬c->ry y):ry (if c then x else y):=by
 by_cases e:c
 ·rw[if_pos e];exact h e
 ·rw[if_neg e];exact k e
def mR{v:aj}(h:io v):ry (v,0):=⟨h,Int.le_refl _,by show(0:Int)<=9;decide⟩
def rZ{t:Int}(h:0<=t/\t<=9):ry (v0,t):=⟨EM 0,h⟩
def P4(s:UR){a b:Int}(ha:bE a):ry (vf s a b):=by unfold vf;refine lm (fun _=>mR (ri (xk _))) fun _=>lm (fun _=>mR (ri (xk _))) fun _=>lm (fun _=>mR (ri (xk _))) fun _=>lm (fun _=>lm (fun _=>rZ jC) fun _=>mR (ri (xk _))) fun _=>lm (fun _=>lm (fun _=>rZ jC) fun _=>mR (ri (MP ha))) fun _=>lm (fun _=>mR (uy _)) fun _=>lm (fun _=>mR (uy _)) fun _=>rZ jC
def Pa(s:UR){a b:aj}(ha:io a):ry (qu s a b):=by
 unfold qu;refine lm (fun _=>rZ jC) fun _=>lm (fun _=>mR (uy _)) fun _=>lm (fun _=>mR (uy _)) fun _=>lm (fun _=>P4 _ ha.1) fun _=>lm (fun _=>lm (fun _=>mR (uy _)) fun _=>lm (fun _=>mR (uy _)) fun _=>rZ jC) fun _=>lm (fun _=>lm (fun _=>lm (fun _=>rZ jC) fun h=>mR (DZ ?_)) fun _=>rZ jC) fun _=>rZ jC
 rw[ByteArray.size_append];omega
def EZ(s:UR)(a:aj):io (mT s a):=⟨SE s a,by
 unfold mT
 (repeat' split)<;>(show sE.size<=40;decide)⟩
def BV{h:UO}(hc:gw h<=40)(hr:tU h)(n:Int):((MV.bn h n).length:Int)<=40/\∀k,k<(MV.bn h n).length->bE (nth (MV.bn h n) k):=by
 unfold MV.bn;split
 ·exact⟨jE,fun k hk=>by simp at hk⟩
 ·rename_i e;have hl:(n-1).toNat<h.length:=jB;have:=TG h (n-1).toNat hl;exact⟨jB,fun k hk=>hr _ (fa hl) _ (fa hk)⟩
def oW{p:af}{C:aI}{M:MV}{c:MC}{k:Nat}{x:ay}(h1:1<=M.calls.length)(h8:M.calls.length<=8)(hk:c.at_=k)(I':k<C.ins.length)(hx:nth C.ins k=x)(hz:∀v∈c.stack,io v)(hd:c.stack.length<=1000)(op:1<=x.op/\x.op<=23)
  (n:Nat) (hn:n<=c.stack.length) (VR:n=0->x.op=2\/x.op=3\/x.op=4\/x.op=5\/x.op=14\/x.op=16\/x.op=20\/x.op=22) (Xa:n=1->¬(x.op=7\/x.op=12))
  (slot:x.op=5\/x.op=6\/x.op=11\/x.op=12->0<=x.a/\x.a<c.slots.length)
  (call:x.op=20->0<=x.b/\x.b<=c.stack.length/\x.b<=3/\0<=x.a/\x.a<C.entry.length/\x.a<p.size.length/\0<=nth p.size x.a.toNat/\nth p.size x.a.toNat<=24/\x.b<=nth p.size x.a.toNat):(M.aX c).fP p C:=by
 refine fP.Tr h1 h8 hk I' hx (fun h=>?_) (fun h=>?_) slot call op (fun h=>?_) (fun v hv=>(hz v hv).2) hd
 ·by_cases e:n=0
  ·have:=VR e;omega
  ·omega
 ·by_cases e:n=0
  ·have:=VR e;omega
  ·by_cases e1:n=1
   ·exact(Xa e1 h).elim
   ·omega
 ·have:1<=c.stack.length:=by
   by_cases e:n=0
   ·have:=VR e;omega
   ·omega
  exact(hz _ (fa jB)).1
def lM(p:af)(C:aI)(inp:UP)(M:MV)(c:MC)(k:Int):Prop:=
 (∃v q,io v/\bf p C inp (M.aX c) (M.aX { c with at_:=k,stack:=c.stack++[v],aT:=q }))\/∃t:Int,(1<=t/\t<=9)/\bf p C inp (M.aX c) (M.jc c 3 t)
section
variable {p:af}{C:aI}{inp:UP}{M:MV}
def yF{c:MC}{k:Nat}{x:ay}{v:aj}(h1:1<=M.calls.length)(h8:M.calls.length<=8)(hs:M.status=0)(hk:c.at_=k)(hl:bQ C.ins k [x])(Xb:x.op≠1)(hok:(M.aX c).fP p C)(hv:io v)
  (hi:(M.aX { c with at_:=(k:Int)+1 }).ins p C inp x=M.aX (MC.push { c with at_:=(k:Int)+1 } v)):lM p C inp M c (k+1):=
 .inl ⟨v,c.aT-1,hv,bf.ins h1 h8 hs hk hl.head.1 hl.head.2.1 Xb hok (by rw[hi];exact bf.refl _)⟩
def lM.bind{c:MC}{k1 k2:Int}(hd:lM p C inp M c k1)(hn:∀v q,io v->(∃w q',io w/\bf p C inp (M.aX { c with at_:=k1,stack:=c.stack++[v],aT:=q }) (M.aX { c with at_:=k2,stack:=c.stack++[w],aT:=q' }))\/∃t:Int,(1<=t/\t<=9)/\bf p C inp (M.aX { c with at_:=k1,stack:=c.stack++[v],aT:=q }) (M.jc c 3 t)):lM p C inp M c k2:=by
 rcases hd with⟨v,q,hv,g⟩|⟨t,ht,g⟩
 ·rcases hn v q hv with⟨w,q',hw,g'⟩|⟨t,ht,g'⟩
  ·exact .inl ⟨w,q',hw,g.trans g'⟩
  ·exact .inr ⟨t,ht,g.trans g'⟩
 ·exact .inr ⟨t,ht,g⟩
def JK{c d:MC}{k:Nat}{x:ay}{r:aj×Int}{q:Nat}(h1:1<=M.calls.length)(h8:M.calls.length<=8)(hs:M.status=0)(hl:bQ C.ins k [x])(Xb:x.op≠1)(hd:d.at_=(k:Int))
  (hok:(M.aX d).fP p C) (hr:ry r)
  (hi:(M.aX { d with at_:=(k:Int)+1 }).ins p C inp x=(M.aX { c with at_:=(k:Int)+1,aT:=q }).eu r) :
  (∃w q',io w/\bf p C inp (M.aX d) (M.aX { c with at_:=(k:Int)+1,stack:=c.stack++[w],aT:=q' }))\/∃t:Int,(1<=t/\t<=9)/\bf p C inp (M.aX d) (M.jc c 3 t):=by
 have g:∀m',bf p C inp ((M.aX { c with at_:=(k:Int)+1,aT:=q }).eu r) m'->bf p C inp (M.aX d) m':=fun m' hg=> bf.ins (c:=d) h1 h8 hs hd hl.head.1 hl.head.2.1 Xb hok (by rw[hi];exact hg)
 by_cases e:r.2=0
 ·refine .inl ⟨r.1,q-1,hr.1,g _ ?_⟩;unfold MV.eu;rw[if_neg (fun h=>h e),MV.fw h1];exact bf.refl _
 ·refine .inr ⟨r.2,by have:=hr.2;omega,g _ ?_⟩;unfold MV.eu;rw[if_pos e,MV.eK h1];exact bf.refl _
def vy{l:List aj}{v:aj}(h:∀u∈l,io u)(hv:io v):∀u∈l++[v],io u:=TF h hv
theorem zZ(hs:gi p)(h1:1<=M.calls.length)(h8:M.calls.length<=8)(P':M.status=0)(hhc:gw M.heap<=40)(hhr:tU M.heap){j:Nat}(hj:j<p.aa.aw.length){slots:List aj}(V5:(slots.length:Int)=nth p.size j)(ZI:si slots) :
  ∀(n:Nat) (a:Int) (k:Nat) (c:MC),0<=a->a.toNat<p.aa.nodes.length->jq p j a->cS (bX p.aa.nodes a)->a.toNat<n->c.slots=slots->c.at_=k->bQ C.ins k (bo p n a k)->(∀v∈c.stack,io v)->c.stack.length+a.toNat<=900->
   lM p C inp M c (k+(bo p n a k).length)
 |0,a,k,c,h0,hl,hi,hk,hn,hc,VF,hC,hz,hd=>by omega
 |n+1,a,k,c,h0,hl,hi,hk,hn,hc,VF,hC,hz,hd=>by
  have sh:=(hs.ok.aa.shape a.toNat hl).1;have Vk:cS (au p a).kind:=hk;unfold cS at Vk;have XJ:jY (au p a).kind->0<=nth p.slots a.toNat/\nth p.slots a.toNat<c.slots.length:=fun h=>by have:=(hs.aw j hj).all a.toNat hi.1 (by have:=hi.2;omega) h;rw[hc];omega
  have ok0:∀(x:ay),bQ C.ins k [x]->x.op=2\/x.op=3\/x.op=4\/(x.op=5/\0<=x.a/\x.a<c.slots.length)->(M.aX c).fP p C:=fun x hx ho=> oW h1 h8 VF hx.head.1 hx.head.2.1 hz jB jB 0 jB (fun _=>jB) (fun h=>jB) (fun h=>jB) (fun h=>jB)
  have okU:∀(k':Nat) (x:ay) (u:aj) (q:Nat),bQ C.ins k' [x]->io u->x.op=8\/x.op=9\/x.op=10\/(x.op=11/\0<=x.a/\x.a<c.slots.length)\/x.op=18\/x.op=19->(M.aX { c with at_:=(k':Int),stack:=c.stack++[u],aT:=q }).fP p C:=fun k' x u q hx hu ho=> oW h1 h8 rfl hx.head.1 hx.head.2.1 (vy hz hu) jF jB 1 jE (fun h=>jB) (fun _=>jB) (fun h=>by show 0<=x.a/\x.a<c.slots.length;omega) (fun h=>jB)
  -- what is below it
  have sub:∀b∈(au p a).l,cS (bX p.aa.nodes b)->∀(k':Nat) (c':MC),c'.slots=slots->c'.at_=k'->bQ C.ins k' (bo p n b k')->(∀v∈c'.stack,io v)->c'.stack.length<=c.stack.length+1->lM p C inp M c' (k'+(bo p n b k').length):=fun b hb hbE k' c' g1 g2 g3 g4 g5=>by obtain⟨b1,b2,b3,b4⟩:=hi.aF hs hj hb;exact zZ hs h1 h8 P' hhc hhr hj V5 ZI n b k' c' b2 b4 b1 hbE jB g1 g2 g3 g4 jB
  have VG:(au p a).kind=1\/(au p a).kind=2\/(au p a).kind=3\/(au p a).kind=4\/(au p a).kind=5\/(au p a).kind=6\/(au p a).kind=7\/(au p a).kind=8\/(au p a).kind=9:=jB;have W9:=fun h=>(sh.one (h:(nth p.aa.nodes a.toNat).kind=5\/(nth p.aa.nodes a.toNat).kind=6\/(nth p.aa.nodes a.toNat).kind=7\/(nth p.aa.nodes a.toNat).kind=8\/(nth p.aa.nodes a.toNat).kind=14\/(nth p.aa.nodes a.toNat).kind=20))
  -- an operation on one value
  have un:∀(x:Int) (i:ay) (f:aj->aj×Int),(au p a).l=[x]->cS (bX p.aa.nodes x)->bo p (n+1) a k=bo p n x k++[i]->i.op=8\/i.op=9\/i.op=10\/(i.op=11/\0<=i.a/\i.a<c.slots.length)->(∀v,io v->ry (f v))->
    (∀v q,(M.aX { c with at_:=((k+(bo p n x k).length:Nat):Int)+1,stack:=c.stack++[v],aT:=q }).ins p C inp i=(M.aX { c with at_:=((k+(bo p n x k).length:Nat):Int)+1,aT:=q+1 }).eu (f v))->lM p C inp M c (k+(bo p (n+1) a k).length):=fun x i f u' Vy e Xx hf V9=>by
   rw[e]at hC ⊢;have d:=sub x (by rw[u'];simp) Vy k c hc VF hC.last.1 hz jB;have Ve:=hC.app.2;rw[List.length_append,List.length_singleton,Int.natCast_add,show((k:Int)+(((bo p n x k).length:Int)+((1:Nat):Int)))=((k+(bo p n x k).length:Nat):Int)+1 by push_cast;omega];refine d.bind fun v q hv=>?_
   exact JK (d:={ c with at_:=((k:Int)+((bo p n x k).length:Int)),stack:=c.stack++[v],aT:=q }) h1 h8 P' Ve (fun h=>jB) (by push_cast;rfl) (by have:=okU _ i v q Ve hv jB;rw[Int.natCast_add]at this;exact this) (hf v hv) (V9 v q)
  rcases VG with e|e|e|e|e|e|e|e|e
  ·rw[mc]at hC ⊢;simp only[e,Int.reduceEq,↓reduceIte]at hC ⊢;exact yF h1 h8 P' VF hC (fun h=>by cases h) (ok0 _ hC (.inl rfl)) (ri (hs.ok.bE _ hl e)) (by rw[MV.rq,MV.fw h1];rfl)
  ·rw[mc]at hC ⊢;simp only[e,Int.reduceEq,↓reduceIte]at hC ⊢;exact yF h1 h8 P' VF hC (fun h=>by cases h) (ok0 _ hC (.inr (.inl rfl))) (uy _) (by rw[MV.pL,MV.fw h1])
  ·rw[mc]at hC ⊢;simp only[e,Int.reduceEq,↓reduceIte]at hC ⊢;exact yF h1 h8 P' VF hC (fun h=>by cases h) (ok0 _ hC (.inr (.inr (.inl rfl)))) (DZ (by have:=sh.text e;show(nth p.aa.nodes a.toNat).name.size<=40;omega)) (by rw[MV.pZ,MV.fw h1];rfl)
  ·have hs4:=XJ (.inl e);rw[mc]at hC ⊢;simp only[e,Int.reduceEq,↓reduceIte]at hC ⊢;exact yF h1 h8 P' VF hC (fun h=>by cases h) (ok0 _ hC (.inr (.inr (.inr ⟨rfl,hs4⟩)))) (Qr (l:=c.slots) (by rw[hc];exact ZI) _ _) (by rw[MV.p7,MV.fw h1,MV.bp h1])
  ·obtain⟨x,u',Vy⟩:=W9 (.inl e);have u':(au p a).l=[x]:=u';have V6:nth (au p a).l 0=x:=by rw[u'];rfl
   have Xr:=BV hhc hhr (ff c.slots (nth p.slots a.toNat) 4).n;refine un x (iI 11 (nth p.slots a.toNat)) (fun v=>if v.n<0\/((MV.bn M.heap (ff c.slots (nth p.slots a.toNat) 4).n).length:Int)<=v.n then(v0,2)else(vI (nth (MV.bn M.heap (ff c.slots (nth p.slots a.toNat) 4).n) v.n.toNat),0)) u' Vy (by rw[mc,V6];simp only[e,Int.reduceEq,↓reduceIte]) (.inr (.inr (.inr ⟨rfl,XJ (.inr (.inl e))⟩))) (fun v hv=>?_) fun v q=>?_
   ·exact lm (fun _=>rZ jC) fun _=>mR (ri (Xr.2 _ jB))
   ·rw[MV.oz,MV.bp h1,MV.fi,MV.db h1,MV.fN,MV.ky];dsimp only;split<;>rfl
  ·obtain⟨x,u',Vy⟩:=W9 (by have e:(nth p.aa.nodes a.toNat).kind=6:=e;omega);have u':(au p a).l=[x]:=u';have V6:nth (au p a).l 0=x:=by rw[u'];rfl
   refine un x (iI 10 0) (fun v=>(vI (if v.ty=4 then((MV.bn M.heap v.n).length:Int)else(v.s.size:Int)),0)) u' Vy (by rw[mc,V6];simp only[e,Int.reduceEq,↓reduceIte]) (.inr (.inr (.inl rfl))) (fun v hv=>mR (ri ?_)) fun v q=>?_
   ·have:=(BV hhc hhr v.n).1;have:=hv.2;unfold bE;split<;>omega
   ·rw[MV.iH,MV.bp h1,MV.fi,MV.db h1,MV.fN,MV.ky];rfl
  ·obtain⟨x,u',Vy⟩:=W9 (by have e:(nth p.aa.nodes a.toNat).kind=7:=e;omega);have u':(au p a).l=[x]:=u';have V6:nth (au p a).l 0=x:=by rw[u'];rfl
   exact un x (iI 8 0) (fun v=>(mT (⟨#[45]⟩:UR) v,0)) u' Vy (by rw[mc,V6];simp only[e,Int.reduceEq,↓reduceIte]) (.inl rfl) (fun v hv=>mR (EZ _ _)) fun v q=>by rw[MV.rj,MV.bp h1,MV.fi,MV.db h1,MV.fN];rfl
  ·obtain⟨x,u',Vy⟩:=W9 (by have e:(nth p.aa.nodes a.toNat).kind=8:=e;omega);have u':(au p a).l=[x]:=u';have V6:nth (au p a).l 0=x:=by rw[u'];rfl
   exact un x (iI 9 0) (fun v=>(mT (⟨#[33]⟩:UR) v,0)) u' Vy (by rw[mc,V6];simp only[e,Int.reduceEq,↓reduceIte]) (.inr (.inl rfl)) (fun v hv=>mR (EZ _ _)) fun v q=>by rw[MV.rk,MV.bp h1,MV.fi,MV.db h1,MV.fN];rfl
  ·obtain⟨x,y,u',Vy,Yw⟩:=sh.two (.inl e);have u':(au p a).l=[x,y]:=u';have V6:nth (au p a).l 0=x:=by rw[u'];rfl
   have YW:nth (au p a).l 1=y:=by rw[u'];rfl
   rw[mc]at hC ⊢;simp only[e,V6,YW,Int.reduceEq,↓reduceIte]at hC ⊢;by_cases W9:lj (au p a).name=7
   ·rw[if_pos W9]at hC ⊢;have d:=sub x (by rw[u'];simp) Vy k c hc VF hC.last.1.app.1 hz jB;have hCy:=hC.last.1.app.2;have Ve:=hC.app.2;rw[List.length_append,List.length_append,List.length_singleton,show((k:Int)+(((bo p n x k).length+(bo p n y (k+(bo p n x k).length)).length+1:Nat):Int))=((k+(bo p n x k++bo p n y (k+(bo p n x k).length)).length:Nat):Int)+1 by rw[List.length_append];push_cast;omega];refine d.bind fun v q hv=>?_
    have dy:=sub y (by rw[u'];simp) Yw (k+(bo p n x k).length) { c with at_:=((k:Int)+((bo p n x k).length:Int)),stack:=c.stack++[v],aT:=q } hc (by push_cast;rfl) (by rw[Int.natCast_add];exact hCy) (vy hz hv) jE;rw[Int.natCast_add]at dy;rcases dy with⟨w,q2,hw,g⟩|⟨t,ht,g⟩
    ·have hbj:((k:Int)+((bo p n x k).length:Int)+((bo p n y (k+(bo p n x k).length)).length:Int))=((k+(bo p n x k++bo p n y (k+(bo p n x k).length)).length:Nat):Int):=by rw[List.length_append];push_cast;omega
     rw[hbj]at g;rcases JK (p:=p) (C:=C) (inp:=inp) (M:=M) (c:=c) (d:={ c with at_:=((k+(bo p n x k++bo p n y (k+(bo p n x k).length)).length:Nat):Int),stack:=c.stack++[v]++[w],aT:=q2 }) (r:=qu (au p a).name v w) (q:=q2+2) h1 h8 P' Ve (fun h=>by cases h) rfl
      (oW h1 h8 rfl Ve.head.1 Ve.head.2.1 (vy (vy hz hv) hw) jF ⟨by show(1:Int)<=7;decide,by show(7:Int)<=23;decide⟩ 2 jE (fun h=>by cases h) (fun h=>by cases h) (fun h=>by rcases h with h|h|h|h<;>cases h) (fun h=>by cases h)) (Pa _ hv)
      (by rw[MV.rX,MV.bp h1,MV.fi,MV.fN c w (c.stack++[v]),MV.fi,MV.db h1,MV.oR])with⟨u,q3,hu,g'⟩|⟨t,ht,g'⟩
     ·exact .inl ⟨u,q3,hu,g.trans g'⟩
     ·exact .inr ⟨t,ht,g.trans g'⟩
    ·exact .inr ⟨t,ht,g⟩
   ·rw[if_neg W9]at hC ⊢;have hsg:lj (au p a).name=18\/lj (au p a).name=19:=by
     unfold lj at W9 ⊢;split
     ·exact .inl rfl
     ·split
      ·exact .inr rfl
      ·rename_i h1 h2;rw[if_neg h1,if_neg h2]at W9;exact(W9 rfl).elim
    have d:=sub x (by rw[u'];simp) Vy k c hc VF hC.app.1.last.1 hz jB;have Ve:=hC.app.1.last;have haN:=hC.app.1.app.2;have hCy:=hC.app.2;generalize hX:(bo p n x k)=X at*;have eL:((k:Int)+(X.length:Int)+1)=((k+X.length+1:Nat):Int):=by push_cast;omega
    rw[eL]at hCy Ve haN ⊢;have hCy:bQ C.ins (k+X.length+1) (bo p n y ((k+X.length+1:Nat):Int)):=by rw[List.length_append,List.length_singleton,<-Nat.add_assoc]at hCy;exact hCy
    have Vf:((k:Int)+((X++[iI (lj (au p a).name) (((k+X.length+1:Nat):Int)+(bo p n y ((k+X.length+1:Nat):Int)).length)]++bo p n y ((k+X.length+1:Nat):Int)).length:Int))=((k+X.length+1:Nat):Int)+(bo p n y ((k+X.length+1:Nat):Int)).length:=by simp only[List.length_append,List.length_cons,List.length_nil];push_cast;omega
    rw[Vf];refine d.bind fun v q hv=>?_
    have hok:=okU (k+X.length) _ v q haN hv (by rcases hsg with h|h<;>rw[h]<;>simp[iI]);rw[Int.natCast_add]at hok;have go:∀m',bf p C inp ((M.aX { c with at_:=((k+X.length:Nat):Int)+1,stack:=c.stack++[v],aT:=q }).ins p C inp (iI (lj (au p a).name) (((k+X.length+1:Nat):Int)+(bo p n y ((k+X.length+1:Nat):Int)).length))) m'->bf p C inp (M.aX { c with at_:=(k:Int)+X.length,stack:=c.stack++[v],aT:=q }) m':=fun m' hg=> bf.ins (c:={ c with at_:=(k:Int)+X.length,stack:=c.stack++[v],aT:=q }) (k:=k+X.length) h1 h8 P' (by push_cast;rfl) Ve.2.1 Ve.2.2 (by rcases hsg with h|h<;>rw[h]<;>(intro h;cases h)) hok hg
    have dy:=fun q2=>sub y (by rw[u'];simp) Yw (k+X.length+1) { c with at_:=((k+X.length+1:Nat):Int),aT:=q2 } hc rfl hCy hz (by show c.stack.length<=_;omega)
    -- the other side is taken, or not
    have take:lM p C inp M { c with at_:=((k+X.length+1:Nat):Int),aT:=q+1 } (((k+X.length+1:Nat):Int)+(bo p n y ((k+X.length+1:Nat):Int)).length):=dy (q+1);have e1:M.aX (({ c with at_:=((k+X.length:Nat):Int)+1,stack:=c.stack++[v],aT:=q }:MC).cut 1)=M.aX { c with at_:=((k+X.length+1:Nat):Int),aT:=q+1 }:=by rw[MV.fN,show((k+X.length:Nat):Int)+1=((k+X.length+1:Nat):Int) by push_cast;rfl]
    have fin:(M.aX { c with at_:=((k+X.length:Nat):Int)+1,stack:=c.stack++[v],aT:=q }).ins p C inp (iI (lj (au p a).name) (((k+X.length+1:Nat):Int)+(bo p n y ((k+X.length+1:Nat):Int)).length))=M.aX { c with at_:=((k+X.length+1:Nat):Int),aT:=q+1 }\/
      (M.aX { c with at_:=((k+X.length:Nat):Int)+1,stack:=c.stack++[v],aT:=q }).ins p C inp (iI (lj (au p a).name) (((k+X.length+1:Nat):Int)+(bo p n y ((k+X.length+1:Nat):Int)).length))=M.aX { c with at_:=(((k+X.length+1:Nat):Int)+(bo p n y ((k+X.length+1:Nat):Int)).length),stack:=c.stack++[v],aT:=q }:=by
     rcases hsg with h|h
     ·rw[h,MV.rH,MV.bp h1,MV.db h1,e1,MV.dx];split
      ·exact .inl rfl
      ·exact .inr rfl
     ·rw[h,MV.tX,MV.bp h1,MV.db h1,e1,MV.dx];split
      ·exact .inr rfl
      ·exact .inl rfl
    rcases fin with fin|fin
    ·rw[fin]at go;rcases take with⟨w,q2,hw,g⟩|⟨t,ht,g⟩
     ·exact .inl ⟨w,q2,hw,go _ g⟩
     ·exact .inr ⟨t,ht,go _ g⟩
    ·rw[fin]at go;exact .inl ⟨v,q,hv,go _ (bf.refl _)⟩
end
inductive dU(p:af)(C:aI)(j:Nat):Nat->Prop
 |mark {k n:Nat} {a:Int} (h0:0<=a) (hn:a.toNat<n+1) (hl:a.toNat<p.aa.nodes.length) (hi:jq p j a) (hk:fA (bX p.aa.nodes a)) (hC:bQ C.ins k (gm p (n+1) a k)) (h:dU p C j (k+(gm p (n+1) a k).length)):dU p C j k
 |jump {k k':Nat} (hk:k<C.ins.length) (hx:nth C.ins k=iI 16 (k':Int)) (h:dU p C j k'):dU p C j k
 |fin {k:Nat} {r:Int} (hk:k<C.ins.length) (hx:nth C.ins k=iI 22 r):dU p C j k
structure lr(p:af)(C:aI)(j k n:Nat)(a:Int):Prop where
 h0:0<=a
 hn:a.toNat<n+1
 hl:a.toNat<p.aa.nodes.length
 hi:jq p j a
 hk:fA (bX p.aa.nodes a)
 hC:bQ C.ins k (gm p (n+1) a k)
 h:dU p C j (k+(gm p (n+1) a k).length)
def tO(p:af)(C:aI)(j:Nat)(k:Int):Prop:=∃k0 n a,k=((k0:Nat):Int)/\lr p C j k0 n a
structure ma(p:af)(c:MC):Prop where
 f0:0<=c.fn
 f1:c.fn<p.aa.aw.length
 sl:(c.slots.length:Int)=nth p.size c.fn.toNat
 rg:si c.slots
def xA(c:MC)(x:ay):Prop:=(∃s,x=iI 6 s/\0<=s/\s<c.slots.length)\/x=iI 23 0
structure rD(p:af)(C:aI)(c:MC):Prop where
 stack:c.stack=[]
 mark:tO p C c.fn.toNat c.mark
 at_:∃k:Nat,c.at_=(k:Int)/\k<C.ins.length/\xA c (nth C.ins k)/\dU p C c.fn.toNat (k+1)
structure eW(p:af)(C:aI)(M:MV):Prop where
 one:1<=M.calls.length
 dX:M.calls.length<=8
 st:M.status=0
 tr:0<=M.dn/\M.dn<=9
 low:∀k,k+1<M.calls.length->ma p (nth M.calls k)/\rD p C (nth M.calls k)
 cells:gw M.heap<=40
 rg:tU M.heap
structure MI(p:af)(C:aI)(m:MV):Prop where
 dX:m.calls.length<=8
 low:∀k,k+1<m.calls.length->ma p (nth m.calls k)/\rD p C (nth m.calls k)
 ah:m.status≠2->1<=m.calls.length/\ma p m.ah/\m.ah.stack=[]/\tO p C m.ah.fn.toNat m.ah.at_
 xd:m.status=2->m.calls.length=0
 st:0<=m.status/\m.status<=3
 tr:0<=m.dn/\m.dn<=9
 cells:gw m.heap<=40
 rg:tU m.heap
def lC(p:af)(C:aI)(M m:MV):Prop:=m.dF C/\MI p C m/\m.time=M.time
section
variable {p:af}{C:aI}{inp:UP}
def Pk(p:af)(n:Nat)(a k:Int):∃l,gm p (n+1) a k=iI 1 a::l:=⟨_,yz p n a k⟩
theorem lr.head{j k n:Nat}{a:Int}(h:lr p C j k n a):k<C.ins.length/\nth C.ins k=iI 1 a:=by obtain⟨l,e⟩:=Pk p n a k;have hC:=h.hC;rw[e]at hC;exact⟨hC.head.1,hC.head.2.1⟩
theorem eW.aX{M:MV}(h:eW p C M)(c:MC):eW p C (M.aX c):=
 ⟨by rw[MV.bP];exact h.one,by rw[MV.bP];exact h.dX,h.st,h.tr,fun k hk=>by rw[MV.bP]at hk;rw[show nth (M.aX c).calls k=nth M.calls k from(Go.Gd.dG _ _ _ _ (by have:=h.one;omega)).trans (jN)];exact h.low k hk,h.cells,h.rg⟩
variable{M:MV}
def eW.mi(h:eW p C M){c:MC}(hc:ma p c)(P':c.stack=[])(hm:tO p C c.fn.toNat c.at_){s t:Int}(hs:s=0\/s=1\/s=3)(ht:0<=t/\t<=9):MI p C { M.aX c with status:=s,dn:=t }:=by
 have hu:=h.aX c;refine⟨hu.dX,hu.low,fun _=>?_,fun e=>?_,?_,ht,h.cells,h.rg⟩
 ·have ht:MV.ah { M.aX c with status:=s,dn:=t }=c:=MV.bp h.one c;rw[ht];exact⟨hu.one,hc,P',hm⟩
 ·have e:s=2:=e;omega
 ·show 0<=s/\s<=3;omega
def vt(h:eW p C M){c:MC}(hc:ma p c)(hm:tO p C c.fn.toNat c.mark){s t:Int}(hs:s=1\/s=3)(ht:0<=t/\t<=9):lC p C M (M.jc c s t):=
 ⟨.inl (by show s≠0;omega),h.mi (c:=c.back) ⟨hc.f0,hc.f1,hc.sl,hc.rg⟩ rfl hm jB ht,rfl⟩
def O0(c:MC):(M.aX c).pop=M.pop:=by show MV.mk ((M.calls.set (M.calls.length-1) c).take ((M.calls.set (M.calls.length-1) c).length-1)) _ _ _ _ _ _ _=_;rw[List.length_set,List.take_set_of_le jl];rfl
def Nb{α:Type}[Inhabited α](l:List α)(n k:Nat)(h:k<n):nth (l.take n) k=nth l k:=by unfold nth;rw[List.getD_eq_getElem?_getD,List.getElem?_take,if_pos h,List.getD_eq_getElem?_getD]
theorem eW.pop{M:MV}(h:eW p C M)(h2:2<=M.calls.length):eW p C M.pop/\M.pop.calls.length=M.calls.length-1/\ma p M.pop.ah/\rD p C M.pop.ah:=by
 have hl:M.pop.calls.length=M.calls.length-1:=by show(M.calls.take _).length=_;rw[List.length_take];omega
 have hn:∀k,k<M.calls.length-1->nth M.pop.calls k=nth M.calls k:=fun k hk=>Nb _ _ _ hk
 have ht:M.pop.ah=nth M.calls (M.calls.length-2):=by unfold MV.ah;rw[hl,hn _ jB];rfl
 have Ve:=h.low (M.calls.length-2) jB;have:=h.dX;rw[ht];exact⟨⟨jB,jB,h.st,h.tr,fun k hk=>by rw[hn k jB];exact h.low k jB,h.cells,h.rg⟩,hl,Ve⟩
def J2{N:Nat}(hM:eW p C M)(hN:M.calls.length=N)
  (ih:∀(M:MV) (c:MC) (k:Nat),eW p C M->M.calls.length=N->ma p c->c.stack=[]->c.at_=(k:Int)->dU p C c.fn.toNat k->∃m1,bf p C inp (M.aX c) m1/\lC p C M m1)
  {c:MC} {v:aj} {k:Nat} (hc:ma p c) (P':c.stack=[v]) (hv:io v) (VF:c.at_=(k:Int)) (hk:k<C.ins.length) (hx:xA c (nth C.ins k)) (hn:dU p C c.fn.toNat (k+1)):∃m1,bf p C inp (M.aX c) m1/\lC p C M m1:=by
 have h1:=hM.one;have ht:=MV.bp (M:=M) h1;have hz:∀u∈c.stack,io u:=fun u hu=>by rw[P']at hu;rw[List.mem_singleton.1 hu];exact hv
 rcases hx with⟨s,hx,s0,s1⟩|hx
 ·obtain⟨m1,g,d⟩:=ih M { c with at_:=((k+1:Nat):Int),slots:=c.slots.set s.toNat v,stack:=[],aT:=c.aT+1 } (k+1) hM hN ⟨hc.f0,hc.f1,by show((c.slots.set _ _).length:Int)=_;rw[List.length_set];exact hc.sl,Gl hc.rg _ hv.1⟩ rfl rfl hn;refine⟨m1,bf.ins h1 hM.dX hM.st VF hk hx (fun h=>by cases h) (oW h1 hM.dX VF hk hx hz (by rw[P'];simp) ⟨by show(1:Int)<=6;decide,by show(6:Int)<=23;decide⟩ 1 (by rw[P'];simp) (fun h=>by cases h) (fun _ h=>by rcases h with h|h<;>cases h) (fun _=>⟨s0,s1⟩) (fun h=>by cases h)) ?_,d⟩;rw[MV.oS,ht,MV.dx];have e:({ MC.cut { c with at_:=(k:Int)+1 } 1 with slots:=(MC.slots { c with at_:=(k:Int)+1 }).set s.toNat (MC.last { c with at_:=(k:Int)+1 }) }:MC)={ c with at_:=((k+1:Nat):Int),slots:=c.slots.set s.toNat v,stack:=[],aT:=c.aT+1 }:=by
   unfold MC.cut MC.last;simp only[P'];rfl
  rw[e];exact g
 ·obtain⟨m1,g,d⟩:=ih M { c with at_:=((k+1:Nat):Int),stack:=[],aT:=c.aT+1 } (k+1) hM hN ⟨hc.f0,hc.f1,hc.sl,hc.rg⟩ rfl rfl hn;refine⟨m1,bf.ins h1 hM.dX hM.st VF hk hx (fun h=>by cases h) (oW h1 hM.dX VF hk hx hz (by rw[P'];simp) ⟨by show(1:Int)<=23;decide,by show(23:Int)<=23;decide⟩ 1 (by rw[P'];simp) (fun h=>by cases h) (fun _ h=>by rcases h with h|h<;>cases h) (fun h=>by rcases h with h|h|h|h<;>cases h) (fun h=>by cases h)) ?_,d⟩;rw[MV.q9,MV.db h1];have e:MC.cut { c with at_:=(k:Int)+1 } 1={ c with at_:=((k+1:Nat):Int),stack:=[],aT:=c.aT+1 }:=by
   unfold MC.cut;simp only[P'];rfl
  rw[e];exact g
def Hy{N:Nat}(hM:eW p C M)(hN:M.calls.length=N+1)
  (ih:∀(M:MV) (c:MC) (k:Nat),eW p C M->M.calls.length=N->ma p c->c.stack=[]->c.at_=(k:Int)->dU p C c.fn.toNat k->∃m1,bf p C inp (M.aX c) m1/\lC p C M m1) {v:aj} (hv:io v) (c:MC):∃m1,bf p C inp ((M.aX c).ends v) m1/\lC p C M m1:=by
 unfold MV.ends;rw[O0,MV.bP];by_cases h2:M.calls.length<=1
 ·rw[if_pos h2];have hl:M.pop.calls.length=0:=by show(M.calls.take _).length=_;rw[List.length_take];omega
  exact⟨_,bf.refl _,.inl (by show(2:Int)≠0;decide),⟨by show M.pop.calls.length<=8;omega,fun k hk=>by have hk:k+1<M.pop.calls.length:=hk;omega,fun e=>(e rfl).elim,fun _=>hl,⟨by show(0:Int)<=2;decide,by show(2:Int)<=3;decide⟩,hM.tr,hM.cells,hM.rg⟩,rfl⟩
 ·rw[if_neg h2];obtain⟨b,l,f,lo⟩:=hM.pop jB;obtain⟨k,k1,k2,k3,k4⟩:=lo.at_;have e:M.pop.push v=M.pop.aX { M.pop.ah with stack:=[v],aT:=M.pop.ah.aT-1 }:=by
   unfold MV.push MC.push;rw[lo.stack];rfl
  rw[e];exact J2 b jB ih (c:={ M.pop.ah with stack:=[v],aT:=M.pop.ah.aT-1 }) ⟨f.f0,f.f1,f.sl,f.rg⟩ rfl hv k1 k2 k3 k4
theorem ws:∀(N:Nat) (M:MV) (c:MC) (k:Nat),eW p C M->M.calls.length=N->ma p c->c.stack=[]->c.at_=(k:Int)->dU p C c.fn.toNat k->∃m1,bf p C inp (M.aX c) m1/\lC p C M m1
 |0,M,c,k,hM,hN,_,_,_,_=>by have:=hM.one;omega
 |N+1,M,c,k,hM,hN,hc,P',VF,hk=>by
  generalize hj:c.fn.toNat=j at hk;have h1:=hM.one;have ht:=MV.bp (M:=M) h1;induction hk generalizing c with
  |@mark k n a h0 hn hl hi hkd hC h _=>
   have hm:lr p C j k n a:=⟨h0,hn,hl,hi,hkd,hC,h⟩;refine⟨_,bf.refl _,.inr ?_,?_,rfl⟩
   ·unfold MV.bh;rw[ht,VF,Int.toNat_natCast,hm.head.2];rfl
   ·have:=hM.mi hc P' (by rw[hj];exact⟨k,n,a,VF,hm⟩) (.inl rfl) hM.tr;have e:({ M.aX c with status:=0,dn:=M.dn }:MV)=M.aX c:=by
     have:=hM.st;unfold MV.aX;rw[this]
    rwa [e]at this
  |@jump k k' hk hx h ih=> obtain⟨m1,g,d⟩:=ih { c with at_:=(k':Int) } ⟨hc.f0,hc.f1,hc.sl,hc.rg⟩ P' rfl hj;refine⟨m1,bf.ins h1 hM.dX hM.st VF hk hx (fun h=>by cases h) (oW h1 hM.dX VF hk hx (fun u hu=>by rw[P']at hu;cases hu) (by rw[P'];simp) ⟨by show(1:Int)<=16;decide,by show(16:Int)<=23;decide⟩ 0 (Nat.zero_le _) (fun _=>.inr (.inr (.inr (.inr (.inr (.inl rfl)))))) (fun h=>by cases h) (fun h=>by rcases h with h|h|h|h<;>cases h) (fun h=>by cases h)) ?_,d⟩;rw[MV.mj,ht,MV.dx];exact g
  |@fin k r hk hx=>
   have go:∀m',bf p C inp ((M.aX { c with at_:=(k:Int)+1 }).ends (vZ r)) m'->bf p C inp (M.aX c) m':=fun m' g=> bf.ins h1 hM.dX hM.st VF hk hx (fun h=>by cases h) (oW h1 hM.dX VF hk hx (fun u hu=>by rw[P']at hu;cases hu) (by rw[P'];simp) ⟨by show(1:Int)<=22;decide,by show(22:Int)<=23;decide⟩ 0 (Nat.zero_le _) (fun _=>.inr (.inr (.inr (.inr (.inr (.inr (.inr rfl))))))) (fun h=>by cases h) (fun h=>by rcases h with h|h|h|h<;>cases h) (fun h=>by cases h)) g
   obtain⟨m1,g,d⟩:=Hy (inp:=inp) hM hN (fun M c k a b=>ws N M c k a b) (EM r) { c with at_:=(k:Int)+1 };exact⟨m1,go _ g,d⟩
end
def uV(p:af)(C:aI):Prop:=∀j,j<p.aa.aw.length->∃k:Nat,nth C.entry j=(k:Int)/\dU p C j k
section
variable {p:af}{C:aI}{inp:UP}
theorem G0{M:MV}(hs:gi p)(hM:eW p C M){j:Nat}(hj:j<p.aa.aw.length){n:Nat}(c:MC)(V5:(c.slots.length:Int)=nth p.size j)(ZI:si c.slots) :
  ∀(L:UP) (Wm:List aj) (k q:Nat),(∀x∈L,0<=x/\x.toNat<p.aa.nodes.length/\jq p j x/\cS (bX p.aa.nodes x)/\x.toNat<n)->bQ C.ins k (bw (bo p n) k L [])->(∀v∈Wm,io v)->Wm.length+L.length<=10->
   (∃vs q',vs.length=L.length/\(∀v∈vs,io v)/\bf p C inp (M.aX { c with at_:=(k:Int),stack:=Wm,aT:=q }) (M.aX { c with at_:=((k+(bw (bo p n) k L []).length:Nat):Int),stack:=Wm++vs,aT:=q' }))\/∃t:Int,(1<=t/\t<=9)/\bf p C inp (M.aX { c with at_:=(k:Int),stack:=Wm,aT:=q }) (M.jc c 3 t)
 |[],Wm,k,q,hL,hl,hz,hd=>.inl ⟨[],q,rfl,fun v hv=>by(cases hv),by rw[List.append_nil];exact bf.refl _⟩
 |x::L,Wm,k,q,hL,hl,hz,hd=>by
  obtain⟨x0,x1,x2,x3,x4⟩:=hL x jE;have hm:=hs.ok.aa.many;have e0:bw (bo p n) (k:Int) (x::L) []=bo p n x k++bw (bo p n) ((k+(bo p n x k).length:Nat):Int) L []:=by show bw (bo p n) k L ([]++bo p n x ((k:Int)+((0:Nat):Int)))=_;rw[vQ,List.nil_append,show((k:Int)+((0:Nat):Int))=(k:Int) from jB,Int.natCast_add]
  rw[e0]at hl ⊢;rcases zZ (inp:=inp) hs hM.one hM.dX hM.st hM.cells hM.rg hj V5 ZI n x k { c with at_:=(k:Int),stack:=Wm,aT:=q } x0 x1 x2 x3 x4 rfl rfl hl.app.1 hz (by show Wm.length+x.toNat<=900;simp at hd;omega)with⟨v,q1,hv,g1⟩|⟨t,ht,g1⟩
  ·rcases G0 hs hM hj c V5 ZI L (Wm++[v]) (k+(bo p n x k).length) q1 (fun y hy=>hL y (by simp[hy])) hl.app.2 (vy hz hv) (by simp at hd ⊢;omega)with⟨vs,q',e,Xp,g2⟩|⟨t,ht,g2⟩
   ·refine .inl ⟨v::vs,q',by simp[e],fun u hu=>?_,?_⟩
    ·rcases List.mem_cons.1 hu with rfl|hu
     ·exact hv
     ·exact Xp u hu
    ·rw[Int.natCast_add]at g2;rw[List.length_append,<-Nat.add_assoc];rw[List.append_assoc]at g2;exact g1.trans g2
   ·rw[Int.natCast_add]at g2;exact .inr ⟨t,ht,g1.trans g2⟩
  ·exact .inr ⟨t,ht,g1⟩
def Jc{M:MV}(hs:gi p)(hE:uV p C)(hCl:C.entry.length=p.aa.aw.length)(hM:eW p C M){c:MC}(hc:ma p c)(hm:tO p C c.fn.toNat c.mark)(P':c.stack=[]){n kc:Nat}{x:Int}(VF:c.at_=(kc:Int))(h0:0<=x)(hl:x.toNat<p.aa.nodes.length)(hk:(au p x).kind=21)(V3:jq p c.fn.toNat x)(hn:x.toNat<n)
  (ZV:bQ C.ins kc (cI p n x kc)) (Wy:kc+(cI p n x kc).length<C.ins.length) (WE:xA c (nth C.ins (kc+(cI p n x kc).length))) (Zs:dU p C c.fn.toNat (kc+(cI p n x kc).length+1)):∃m1,bf p C inp (M.aX c) m1/\lC p C M m1:=by
 have h1:=hM.one;have h8:=hM.dX;have f0:=hc.f0;have f1:=hc.f1;obtain⟨cal,Wj⟩:=callee hs hl hk;have Zz:Dj p x=(cal:Int):=Wj.last;have Y4:=hs.ok.aa.shape x.toNat hl;have hbg:=Wj.Di;have Yk:=ZV.app.2.head;have U4:(cI p n x kc).length=(bw (bo p n) kc (au p x).l []).length+1:=by unfold cI;rw[List.length_append];rfl
 rw[Zz]at Yk;have Wf:=G0 (inp:=inp) hs hM (j:=c.fn.toNat) jB (n:=n) c hc.sl hc.rg (au p x).l [] kc c.aT (fun y hy=>by obtain⟨y1,y2,y3,y4⟩:=V3.aF hs jB hy;exact⟨y2,y4,y1,Y4.1.call hk y hy,jB⟩) ZV.app.1 (fun v hv=>by cases hv) jF
 have ec:({ c with at_:=(kc:Int),stack:=[],aT:=c.aT }:MC)=c:=by rw[<-VF,<-P']
 rw[ec]at Wf;generalize hke2:kc+(bw (bo p n) kc (au p x).l []).length=ke at*;rcases Wf with⟨A,q,Za,hA,g⟩|⟨t,ht,g⟩
 rotate_left
 ·exact⟨_,g,vt hM hc hm (.inr rfl) jB⟩
 rw[List.nil_append]at g;have haO:=hs.aw cal Wj.lt;have U':=hs.ok.size;have p1:=haO.vm;have p2:=haO.hi;have p3:=Wj.args;have p5:=Wj.lt;have hok:(M.aX { c with at_:=((ke:Nat):Int),stack:=A,aT:=q }).fP p C:=oW h1 h8 rfl Yk.1 Yk.2.1 hA (by show A.length<=1000;omega) ⟨by show(1:Int)<=20;decide,by show(20:Int)<=23;decide⟩ 0 (Nat.zero_le _) (fun _=>.inr (.inr (.inr (.inr (.inr (.inr (.inl rfl))))))) (fun h=>by cases h) (fun h=>by rcases h with h|h|h|h<;>cases h) (fun _=>by
  refine⟨?_,?_,?_,?_,?_,?_,?_,?_,?_⟩
  ·show(0:Int)<=((au p x).l.length:Int);omega
  ·show((au p x).l.length:Int)<=(A.length:Int);omega
  ·show((au p x).l.length:Int)<=3;omega
  ·show(0:Int)<=(cal:Int);omega
  ·show(cal:Int)<(C.entry.length:Int);omega
  ·show(cal:Int)<(p.size.length:Int);omega
  ·show 0<=nth p.size ((cal:Int)).toNat;rw[Int.toNat_natCast];omega
  ·show nth p.size ((cal:Int)).toNat<=24;rw[Int.toNat_natCast];omega
  ·show((au p x).l.length:Int)<=nth p.size ((cal:Int)).toNat;rw[Int.toNat_natCast];omega)
 have V9:∀m',bf p C inp ((M.aX { c with at_:=(ke:Int)+1,stack:=A,aT:=q }).ins p C inp ⟨20,(cal:Int),((au p x).l.length:Int),sE⟩) m'->bf p C inp (M.aX c) m':=fun m' hg=> g.trans (bf.ins (c:={ c with at_:=(ke:Int),stack:=A,aT:=q }) h1 h8 hM.st rfl Yk.1 Yk.2.1 (fun h=>by cases h) hok hg)
 have WL:(M.aX { c with at_:=(ke:Int)+1,stack:=A,aT:=q }).cut ((au p x).l.length:Int).toNat=M.aX { c with at_:=(ke:Int)+1,stack:=[],aT:=q+(au p x).l.length }:=by rw[MV.db h1,Int.toNat_natCast];unfold MC.cut;show M.aX ⟨_,_,_,_,A.take (A.length-(au p x).l.length),_⟩=_;rw[Za,Nat.sub_self];rfl
 rw[MV.qg,WL,MV.bP]at V9;by_cases h88:8<=M.calls.length
 ·rw[if_pos h88,MV.eK h1]at V9;exact⟨_,V9 _ (bf.refl _),vt hM hc hm (.inr rfl) ⟨jC,jC⟩⟩
 rw[if_neg h88,MV.bp h1]at V9;have YT:A.drop (A.length-((au p x).l.length:Int).toNat)=A:=by rw[Int.toNat_natCast,Za,Nat.sub_self,List.drop_zero]
 have hbp:(MC.stack { c with at_:=(ke:Int)+1,stack:=A,aT:=q }).drop ((MC.stack { c with at_:=(ke:Int)+1,stack:=A,aT:=q }).length-((au p x).l.length:Int).toNat)=A:=YT;rw[hbp]at V9;obtain⟨ek,e1,e2⟩:=hE cal Wj.lt;generalize Wa:({ c with at_:=(ke:Int)+1,stack:=[],aT:=q+(au p x).l.length }:MC)=c' at*;have had:ma p c'/\rD p C c':=by subst Wa;refine⟨⟨hc.f0,hc.f1,hc.sl,hc.rg⟩,rfl,hm,ke+1,by push_cast;rfl,?_⟩;have e:kc+(cI p n x kc).length=ke+1:=jB;rw[e]at Wy WE Zs;exact⟨Wy,WE,Zs⟩
 generalize hd:MV.iF p C (cal:Int) A=d;have hnt:nth p.size ((cal:Int)).toNat=nth p.size cal:=by rw[Int.toNat_natCast]
 have hdF:ma p d:=by
  subst hd;refine⟨by show(0:Int)<=cal;omega,by show(cal:Int)<_;omega,?_,?_⟩
  ·show((A++List.replicate _ v0).length:Int)=nth p.size ((cal:Int)).toNat;rw[List.length_append,List.length_replicate,hnt];omega
  ·intro v hv;rcases List.mem_append.1 (show v∈A++List.replicate _ v0 from hv)with hv|hv
   ·exact(hA v hv).1
   ·rw[(List.mem_replicate.1 hv).2];exact ru
 have Ve:((M.aX c').cR p C (cal:Int) A).calls.length=M.calls.length+1:=by show((M.aX c').calls++[_]).length=_;rw[List.length_append,MV.bP];rfl
 have hnk:∀k,k<M.calls.length->nth ((M.aX c').cR p C (cal:Int) A).calls k=nth (M.aX c').calls k:=fun k hk=>by show nth ((M.aX c').calls++[_]) k=_;unfold nth;rw[List.getD_eq_getElem?_getD,List.getElem?_append_left (by rw[MV.bP];exact hk),List.getD_eq_getElem?_getD]
 have hbq:((M.aX c').cR p C (cal:Int) A).ah=d:=by
  unfold MV.ah;rw[Ve];show nth ((M.aX c').calls++[MV.iF p C (cal:Int) A]) (M.calls.length+1-1)=d;have:M.calls.length+1-1=(M.aX c').calls.length:=by rw[MV.bP];omega
  rw[this,qL,hd]
 have hB:eW p C ((M.aX c').cR p C (cal:Int) A):=by
  refine⟨jB,jB,hM.st,hM.tr,fun k hk=>?_,hM.cells,hM.rg⟩;rw[hnk k jB];by_cases e:k=M.calls.length-1
  ·have:nth (M.aX c').calls k=c':=by rw[e];exact(Go.Gd.dG _ _ _ _ jB).trans (if_pos rfl)
   rw[this];exact had
  ·have:nth (M.aX c').calls k=nth M.calls k:=(Go.Gd.dG _ _ _ _ jB).trans (jN);rw[this];exact hM.low k jB
 obtain⟨m1,g1,d1⟩:=ws (inp:=inp) _ _ d ek hB rfl hdF (by subst hd;rfl) (by subst hd;show nth C.entry ((cal:Int)).toNat=_;rw[Int.toNat_natCast];exact e1) (by subst hd;show dU p C ((cal:Int)).toNat ek;rw[Int.toNat_natCast];exact e2);refine⟨m1,V9 _ ?_,d1⟩;have:=MV.rT ((M.aX c').cR p C (cal:Int) A) jB;rw[hbq]at this;rw[<-this];exact g1
theorem BD{j n:Nat}:∀(L:UP) (k:Nat),(∀x∈L,0<=x/\x.toNat<n/\x.toNat<p.aa.nodes.length/\jq p j x/\fA (bX p.aa.nodes x))->bQ C.ins k (bw (gm p n) k L [])->dU p C j (k+(bw (gm p n) k L []).length)->dU p C j k
 |[],k,hL,hl,hc=>hc
 |x::L,k,hL,hl,hc=>by
  obtain⟨x0,x1,x2,x3,x4⟩:=hL x jE;obtain⟨m,rfl⟩:∃m,n=m+1:=⟨n-1,jB⟩;have e0:bw (gm p (m+1)) (k:Int) (x::L) []=gm p (m+1) x k++bw (gm p (m+1)) ((k+(gm p (m+1) x k).length:Nat):Int) L []:=by show bw (gm p (m+1)) k L ([]++gm p (m+1) x ((k:Int)+((0:Nat):Int)))=_;rw[vQ,List.nil_append,show((k:Int)+((0:Nat):Int))=(k:Int) from jB,Int.natCast_add]
  rw[e0]at hl hc;rw[List.length_append,<-Nat.add_assoc]at hc;exact .mark x0 x1 x2 x3 x4 hl.app.1 (BD L _ (fun y hy=>hL y (by simp[hy])) hl.app.2 hc)
end
section
variable {p:af}{C:aI}{inp:UP}
def Lg{l:UP}(h:∀x∈l,bE x)(k:Nat):bE (nth l k):=by
 rcases IH l k with e|e
 ·exact h _ e
 ·rw[e];exact ru
def Py{h:UO}(hr:tU h)(i k:Nat){v:Int}(hv:bE v):tU (h.set i ((nth h i).set k v)):=fun l hl x hx=>by
 rcases List.mem_or_eq_of_mem_set hl with hl|rfl
 ·exact hr l hl x hx
 ·rcases List.mem_or_eq_of_mem_set hx with hx|rfl
  ·rcases IH h i with e|e
   ·exact hr _ e x hx
   ·rw[e]at hx;cases hx
  ·exact hv
def Qa{M:MV}(hs:gi p)(hE:uV p C)(hCl:C.entry.length=p.aa.aw.length)(hi:∀x∈inp,bE x)(hM:eW p C M){c:MC}(hc:ma p c){k n:Nat}{a:Int}(hm:lr p C c.fn.toNat k n a)(YK:c.mark=(k:Int))(P':c.stack=[])(VF:c.at_=(k:Int)+1):∃m1,bf p C inp (M.aX c) m1/\lC p C M m1:=by
 have h1:=hM.one;have h8:=hM.dX;have f0:=hc.f0;have f1:=hc.f1;have hj:c.fn.toNat<p.aa.aw.length:=jB;have hmA:tO p C c.fn.toNat c.mark:=⟨k,n,a,YK,hm⟩;have hl:=hm.hl;have sh:=(hs.ok.aa.shape a.toNat hl).1;have Vd:=hs.ok.aa.many;have Vk:fA (au p a).kind:=hm.hk;unfold fA at Vk;have XJ:jY (au p a).kind->0<=nth p.slots a.toNat/\nth p.slots a.toNat<c.slots.length:=fun h=>by have:=(hs.aw _ hj).all a.toNat hm.hi.1 (by have:=hm.hi.2;omega) h;rw[hc.sl];exact this
 have hC:=hm.hC;have Vf:=hm.h;have e0:=yz p n a k;have ek:(k:Int)+1=((k+1:Nat):Int):=by push_cast;rfl
 rw[ek]at e0 VF;have aF:∀x∈(au p a).l,0<=x/\x.toNat<n/\x.toNat<p.aa.nodes.length/\jq p c.fn.toNat x:=fun x hx=>by obtain⟨b1,b2,b3,b4⟩:=hm.hi.aF hs hj hx;have:=hm.hn;exact⟨b2,jB,b4,b1⟩
 have ex:∀(M':MV) (d:MC) (kd:Nat),eW p C M'->ma p d->d.fn=c.fn->d.slots=c.slots->d.at_=(kd:Int)->(∀v∈d.stack,io v)->d.stack.length<=2->∀x∈(au p a).l,cS (bX p.aa.nodes x)->bQ C.ins kd (bo p n x kd)->lM p C inp M' d (kd+(bo p n x kd).length):=fun M' d kd ZB hd d1 d2 d3 d4 d5 x hx Vy hCx=>by obtain⟨b1,b2,b3,b4⟩:=aF x hx;exact zZ hs ZB.one ZB.dX ZB.st ZB.cells ZB.rg hj (slots:=c.slots) hc.sl hc.rg n x kd d b1 b3 b4 Vy b2 d2 d3 hCx d4 jB
 have fr:∀(kd q:Nat) (st:List aj),ma p { c with at_:=(kd:Int),stack:=st,aT:=q }:=fun kd q st=>⟨hc.f0,hc.f1,hc.sl,hc.rg⟩
 have stop:∀(kd q:Nat) (st:List aj) (s t:Int),s=1\/s=3->0<=t/\t<=9->lC p C M (M.jc { c with at_:=(kd:Int),stack:=st,aT:=q } s t):=fun kd q st s t h h'=>vt hM (fr kd q st) hmA h h'
 have cont:∀(M':MV) (kd q:Nat),eW p C M'->dU p C c.fn.toNat kd->∃m1,bf p C inp (M'.aX { c with at_:=(kd:Int),stack:=[],aT:=q }) m1/\lC p C M' m1:=fun M' kd q ZB h=>ws _ M' _ kd ZB rfl (fr kd q []) rfl rfl h
 have finr:∀(M':MV) (kd q:Nat) (v:aj),eW p C M'->io v->kd<C.ins.length->xA c (nth C.ins kd)->dU p C c.fn.toNat (kd+1)->∃m1,bf p C inp (M'.aX { c with at_:=(kd:Int),stack:=[v],aT:=q }) m1/\lC p C M' m1:=fun M' kd q v ZB hv h2 h3 h4=> J2 ZB rfl (fun M c k a b=>ws _ M c k a b) (c:={ c with at_:=(kd:Int),stack:=[v],aT:=q }) (fr kd q [v]) rfl hv rfl h2 h3 h4
 -- an instruction on one value
 have go1:∀{kd q:Nat} {i:ay} {v:aj} {m':MV},bQ C.ins kd [i]->io v->i.op=13\/i.op=15\/i.op=17\/i.op=21->bf p C inp ((M.aX { c with at_:=(kd:Int)+1,stack:=[v],aT:=q }).ins p C inp i) m'->bf p C inp (M.aX { c with at_:=(kd:Int),stack:=[v],aT:=q }) m':=fun{kd q i v m'} hl hv ho g=> bf.ins (c:={ c with at_:=(kd:Int),stack:=[v],aT:=q }) h1 h8 hM.st rfl hl.head.1 hl.head.2.1 jB (oW h1 h8 rfl hl.head.1 hl.head.2.1 (fun u hu=>by rw[List.mem_singleton.1 hu];exact hv) jE jB 1 jE (fun h=>by cases h) (fun _=>jB) (fun h=>jB) (fun h=>jB)) g
 have last1:∀(kd:Int) (q:Nat) (v:aj),MC.last { c with at_:=kd,stack:=[v],aT:=q }=v:=fun _ _ _=>rfl
 have cut1:∀(kd:Int) (q:Nat) (v:aj),MC.cut { c with at_:=kd,stack:=[v],aT:=q } 1={ c with at_:=kd,stack:=[],aT:=q+1 }:=fun _ _ _=>rfl
 have nat1:∀kd:Nat,(kd:Int)+1=((kd+1:Nat):Int):=fun kd=>by push_cast;rfl
 have self:c={ c with at_:=((k+1:Nat):Int),stack:=[],aT:=c.aT }:=by rw[<-VF,<-P']
 -- an expression at the beginning, and what is behind it
 have first:∀x∈(au p a).l,cS (bX p.aa.nodes x)->bQ C.ins (k+1) (bo p n x ((k+1:Nat):Int))->(∀v q,io v->∃m1,bf p C inp (M.aX { c with at_:=((k+1+(bo p n x ((k+1:Nat):Int)).length:Nat):Int),stack:=[v],aT:=q }) m1/\lC p C M m1)->∃m1,bf p C inp (M.aX c) m1/\lC p C M m1:=fun x hx Vy hCx h=>by
  rcases ex M c (k+1) hM hc rfl rfl VF (fun v hv=>by rw[P']at hv;cases hv) (by rw[P'];simp) x hx Vy hCx with⟨v,q,hv,g⟩|⟨t,ht,g⟩
  ·obtain⟨m1,g1,d⟩:=h v q hv;rw[P',List.nil_append]at g;rw[Int.natCast_add (k+1)]at g1;exact⟨m1,g.trans g1,d⟩
  ·exact⟨_,g,vt hM hc hmA (.inr rfl) jB⟩
 -- a block below it
 have blk:∀b∈(au p a).l,bX p.aa.nodes b=18->∀kb:Nat,bQ C.ins kb (bw (gm p n) kb (au p b).l [])->dU p C c.fn.toNat (kb+(bw (gm p n) kb (au p b).l []).length)->dU p C c.fn.toNat kb:=fun b hb X3 kb hl h=>by obtain⟨b1,b2,b3,b4⟩:=aF b hb;refine BD _ kb (fun x hx=>?_) hl h;obtain⟨x1,x2,x3,x4⟩:=b4.aF hs hj hx;exact⟨x2,jB,x4,x1,(hs.ok.aa.shape b.toNat b3).1.block X3 x hx⟩
 -- one way, or the other
 have branch:∀(kx q kt:Nat) (v:aj),bQ C.ins kx [iI 17 (kt:Int)]->io v->dU p C c.fn.toNat kt->dU p C c.fn.toNat (kx+1)->∃m1,bf p C inp (M.aX { c with at_:=(kx:Int),stack:=[v],aT:=q }) m1/\lC p C M m1:=fun kx q kt v hl hv ht hf=>by
  have go:∀m',_->bf p C inp (M.aX { c with at_:=(kx:Int),stack:=[v],aT:=q }) m':=fun m'=>go1 (m':=m') hl hv (.inr (.inr (.inl rfl)))
  rw[MV.ow,MV.bp h1,last1,MV.db h1,cut1,MV.dx]at go;by_cases h:v.n=0
  ·rw[if_pos h]at go;obtain⟨m1,g,d⟩:=cont M kt (q+1) hM ht;exact⟨m1,go _ g,d⟩
  ·rw[if_neg h]at go;obtain⟨m1,g,d⟩:=cont M (kx+1) (q+1) hM hf;exact⟨m1,go _ g,d⟩
 have VG:((au p a).kind=10\/(au p a).kind=11)\/(au p a).kind=12\/(au p a).kind=13\/(au p a).kind=14\/(au p a).kind=15\/(au p a).kind=16\/(au p a).kind=17:=jB;rcases VG with e|e|e|e|e|e|e
 ·-- let, set
  obtain⟨x,u',Zl⟩:=sh.right e;have u':(au p a).l=[x]:=u';have V6:nth (au p a).l 0=x:=by rw[u'];rfl
  have XB:x∈(au p a).l:=by rw[u'];simp
  rw[if_pos e,V6]at e0;rw[e0]at hC Vf;have hC:=hC.head.2.2;have V5:=XJ (by unfold jY;omega);obtain⟨b1,b2,b3,b4⟩:=aF x XB;have hF:∀i,i=iI 6 (nth p.slots a.toNat)->xA c i:=fun i h=>.inl ⟨_,h,V5⟩
  have Va:=hC.last;rw[List.length_cons,List.length_append,List.length_singleton]at Vf;rw[ud]at Va Vf;by_cases k19:(au p x).kind=19
  ·rw[if_pos k19]at Va Vf;have hx:=Va.1.head;have Ve:=Va.2;rw[List.length_singleton]at Ve Vf;have go:∀m',bf p C inp ((M.aX { c with at_:=((k+1:Nat):Int)+1 }).ins p C inp (iI 14 0)) m'->bf p C inp (M.aX c) m':=fun m' g=>
    bf.ins h1 h8 hM.st VF hx.1 hx.2.1 (fun h=>by cases h) (oW h1 h8 VF hx.1 hx.2.1 (fun v hv=>by rw[P']at hv;cases hv) (by rw[P'];simp) ⟨by show(1:Int)<=14;decide,by show(14:Int)<=23;decide⟩ 0 (Nat.zero_le _) (fun _=>.inr (.inr (.inr (.inr (.inl rfl))))) (fun h=>by cases h) (fun h=>by rcases h with h|h|h|h<;>cases h) (fun h=>by cases h)) g
   rw[MV.oY]at go;by_cases hw:(inp.length:Int)<=M.in_
   ·have hw':(inp.length:Int)<=(M.aX { c with at_:=((k+1:Nat):Int)+1 }).in_:=hw;rw[if_pos hw',MV.eK h1]at go;exact⟨_,go _ (bf.refl _),vt hM (c:={ c with at_:=((k+1:Nat):Int)+1 }) ⟨hc.f0,hc.f1,hc.sl,hc.rg⟩ hmA (.inl rfl) ⟨Int.le_refl _,jC⟩⟩
   ·have hw':¬(inp.length:Int)<=(M.aX { c with at_:=((k+1:Nat):Int)+1 }).in_:=hw;rw[if_neg hw',MV.fw h1]at go;obtain⟨m1,g,d⟩:=finr { M with in_:=M.in_+1 } (k+1+1) (c.aT-1) (vI (nth inp M.in_.toNat)) ⟨hM.one,hM.dX,hM.st,hM.tr,hM.low,hM.cells,hM.rg⟩ (ri (Lg hi _)) Ve.1 (hF _ Ve.2) Vf;refine⟨m1,go _ ?_,d⟩;have e:MC.push { c with at_:=((k+1:Nat):Int)+1 } (vI (nth inp M.in_.toNat))={ c with at_:=((k+1+1:Nat):Int),stack:=[vI (nth inp M.in_.toNat)],aT:=c.aT-1 }:=by
     unfold MC.push;simp only[P'];rfl
    show bf p C inp { M.aX (MC.push { c with at_:=((k+1:Nat):Int)+1 } (vI (nth inp M.in_.toNat)))with in_:=M.in_+1 } m1;rw[e];exact g
  rw[if_neg k19]at Va Vf;by_cases k20:(au p x).kind=20
  ·rw[if_pos k20]at Va Vf;obtain⟨y,hly,Yw⟩:=(hs.ok.aa.shape x.toNat b3).1.one (.inr (.inr (.inr (.inr (.inr k20)))));have hly:(au p x).l=[y]:=hly;have YW:nth (au p x).l 0=y:=by rw[hly];rfl
   rw[YW]at Va Vf;obtain⟨y1,y2,y3,y4⟩:=b4.aF hs hj (b:=y) (by rw[hly];simp);have ZC:=Va.1.last;rw[List.length_append,List.length_singleton]at Va Vf;rcases zZ (inp:=inp) hs h1 h8 hM.st hM.cells hM.rg hj (slots:=c.slots) hc.sl hc.rg n y (k+1) c y2 y4 y1 Yw jB rfl VF ZC.1 (fun v hv=>by rw[P']at hv;cases hv) (by rw[P'];show 0+y.toNat<=900;omega)with⟨v,q,hv,g⟩|⟨t,ht,g⟩
   rotate_left
   ·exact⟨_,g,vt hM hc hmA (.inr rfl) jB⟩
   rw[P',List.nil_append,<-Int.natCast_add]at g;generalize hX:bo p n y ((k+1:Nat):Int)=X at*;have go:∀m',bf p C inp ((M.aX { c with at_:=((k+1+X.length:Nat):Int)+1,stack:=[v],aT:=q }).ins p C inp (iI 13 0)) m'->bf p C inp (M.aX c) m':=fun m' g'=>g.trans (go1 ⟨_,by rw[List.drop_eq_getElem_cons ZC.2.1,<-fM ZC.2.1,ZC.2.2];rfl⟩ hv (.inl rfl) g')
   rw[MV.qT,MV.bp h1,last1,MV.db h1,cut1,MV.eK h1,MV.eK h1,MV.fw h1,nat1]at go;by_cases hq:v.n<0\/16<v.n
   ·rw[if_pos hq]at go;exact⟨_,go _ (bf.refl _),stop _ _ _ _ _ (.inr rfl) jC⟩
   rw[if_neg hq]at go;by_cases hq2:40<gw M.heap+v.n+1
   ·have haj:40<gw (M.aX { c with at_:=((k+1+X.length+1:Nat):Int),stack:=[v],aT:=q }).heap+v.n+1:=hq2;rw[if_pos haj]at go;exact⟨_,go _ (bf.refl _),stop _ _ _ _ _ (.inr rfl) jC⟩
   have haj:¬40<gw (M.aX { c with at_:=((k+1+X.length+1:Nat):Int),stack:=[v],aT:=q }).heap+v.n+1:=hq2;rw[if_neg haj]at go;have VV:gw (M.heap++[List.replicate v.n.toNat 0])<=40:=by rw[Gc,List.length_replicate];omega
   have hhl:=Md M.heap;obtain⟨m1,g',d⟩:=finr { M with heap:=M.heap++[List.replicate v.n.toNat 0] } (k+1+(X.length+1)) (q+1-1) ⟨4,M.heap.length+1,sE⟩ ⟨hM.one,hM.dX,hM.st,hM.tr,hM.low,VV,fun l hl x hx=>by
    rcases List.mem_append.1 hl with hl|hl
    ·exact hM.rg l hl x hx
    ·rw[List.mem_singleton.1 hl]at hx;rw[(List.mem_replicate.1 hx).2];exact ru⟩ ⟨by show bE ((M.heap.length:Int)+1);have:=hM.cells;unfold bE;omega,by show sE.size<=40;decide⟩ Va.2.1 (hF _ Va.2.2) (by rw[show k+1+(X.length+1)+1=k+(X.length+1+1+1) from jB];exact Vf)
   exact⟨m1,go _ g',d⟩
  rw[if_neg k20]at Va Vf;by_cases k21:(au p x).kind=21
  ·rw[if_pos k21]at Va Vf;exact Jc hs hE hCl hM hc hmA P' VF b1 b3 k21 b4 b2 Va.1 Va.2.1 (hF _ Va.2.2) (by rw[show k+1+(cI p n x ((k+1:Nat):Int)).length+1=k+((cI p n x ((k+1:Nat):Int)).length+1+1) from jB];exact Vf)
  rw[if_neg k21]at Va Vf;have Vy:cS (bX p.aa.nodes x):=by
   rcases Zl with h|h|h|h
   ·exact h
   ·exact(k19 h).elim
   ·exact(k20 h).elim
   ·exact(k21 h).elim
  exact first x XB Vy Va.1 fun v q hv=>finr M _ q v hM hv Va.2.1 (hF _ Va.2.2) (by rw[show k+1+(bo p n x ((k+1:Nat):Int)).length+1=k+((bo p n x ((k+1:Nat):Int)).length+1+1) from jB];exact Vf)
 ·-- put
  obtain⟨x,y,u',Vy,Yw⟩:=sh.two (.inr e);have u':(au p a).l=[x,y]:=u';have V6:nth (au p a).l 0=x:=by rw[u'];rfl
  have YW:nth (au p a).l 1=y:=by rw[u'];rfl
  rw[jN,if_pos e,V6,YW]at e0;rw[e0]at hC Vf;have hC:=hC.head.2.2;have V5:=XJ (by unfold jY;omega);have hxC:=hC.last.1.app.1;have hyC:=hC.last.1.app.2;have Va:=hC.last.2;simp only[List.length_cons,List.length_append,List.length_nil]at Va Vf;refine first x (by rw[u'];simp) Vy hxC fun v q hv=>?_
  generalize hX:bo p n x ((k+1:Nat):Int)=X at*;rw[<-Int.natCast_add]at hyC Va Vf;rcases ex M { c with at_:=((k+1+X.length:Nat):Int),stack:=[v],aT:=q } (k+1+X.length) hM (fr _ _ _) rfl rfl rfl (fun u hu=>by rw[List.mem_singleton.1 hu];exact hv) jE y (by rw[u'];simp) Yw hyC with⟨w,q2,hw,g⟩|⟨t,ht,g⟩
  rotate_left
  ·exact⟨_,g,stop _ _ _ _ _ (.inr rfl) jB⟩
  rw[<-Int.natCast_add]at g;generalize hY:bo p n y ((k+1+X.length:Nat):Int)=Y at*;rw[<-Nat.add_assoc]at Va;have go:∀m',bf p C inp ((M.aX { c with at_:=((k+1+X.length+Y.length:Nat):Int)+1,stack:=[v]++[w],aT:=q2 }).ins p C inp (iI 12 (nth p.slots a.toNat))) m'->bf p C inp (M.aX { c with at_:=((k+1+X.length:Nat):Int),stack:=[v],aT:=q }) m':=fun m' g'=>g.trans
   (bf.ins (c:={ c with at_:=((k+1+X.length+Y.length:Nat):Int),stack:=[v]++[w],aT:=q2 }) h1 h8 hM.st rfl Va.1 Va.2 (fun h=>by cases h) (oW h1 h8 rfl Va.1 Va.2 (vy (fun u hu=>by rw[List.mem_singleton.1 hu];exact hv) hw) jE ⟨by show(1:Int)<=12;decide,by show(12:Int)<=23;decide⟩ 2 jE (fun h=>by cases h) (fun h=>by cases h) (fun _=>V5) (fun h=>by cases h)) g')
  have c2:MC.cut { c with at_:=((k+1+X.length+Y.length:Nat):Int)+1,stack:=[v]++[w],aT:=q2 } 2={ c with at_:=((k+1+X.length+Y.length+1:Nat):Int),stack:=[],aT:=q2+2 }:=rfl;have l1:MC.last (MC.cut { c with at_:=((k+1+X.length+Y.length:Nat):Int)+1,stack:=[v]++[w],aT:=q2 } 1)=v:=rfl;have l2:MC.last { c with at_:=((k+1+X.length+Y.length:Nat):Int)+1,stack:=[v]++[w],aT:=q2 }=w:=rfl;rw[MV.rN,MV.bp h1,l1,l2,MV.db h1,c2,MV.eK h1,MV.ky]at go;have Xr:=BV hM.cells hM.rg (ff c.slots (nth p.slots a.toNat) 4).n;by_cases hb:v.n<0\/((MV.bn M.heap (ff c.slots (nth p.slots a.toNat) 4).n).length:Int)<=v.n
  ·have VQ:v.n<0\/((MV.bn M.heap (ff (MC.slots { c with at_:=((k+1+X.length+Y.length:Nat):Int)+1,stack:=[v]++[w],aT:=q2 }) (nth p.slots a.toNat) 4).n).length:Int)<=v.n:=hb;rw[if_pos VQ]at go;exact⟨_,go _ (bf.refl _),stop _ _ _ _ _ (.inr rfl) jC⟩
  ·have VQ:¬(v.n<0\/((MV.bn M.heap (ff (MC.slots { c with at_:=((k+1+X.length+Y.length:Nat):Int)+1,stack:=[v]++[w],aT:=q2 }) (nth p.slots a.toNat) 4).n).length:Int)<=v.n):=hb;rw[if_neg VQ]at go;generalize hg:(ff c.slots (nth p.slots a.toNat) 4).n=g4 at*;have VV:gw (M.heap.set (g4-1).toNat ((nth M.heap (g4-1).toNat).set v.n.toNat w.n))<=40:=by
    by_cases I':(g4-1).toNat<M.heap.length
    ·rw[GN _ _ _ I' (by rw[List.length_set])];exact hM.cells
    ·rw[List.set_eq_of_length_le jB];exact hM.cells
   obtain⟨m1,g',d⟩:=cont { M with heap:=M.heap.set (g4-1).toNat ((nth M.heap (g4-1).toNat).set v.n.toNat w.n) } (k+1+X.length+Y.length+1) (q2+2) ⟨hM.one,hM.dX,hM.st,hM.tr,hM.low,VV,Py hM.rg _ _ hw.1⟩ (by rw[show k+1+X.length+Y.length+1=k+(X.length+Y.length+(0+1)+1) from jB];exact Vf);exact⟨m1,go _ g',d⟩
 ·-- do
  obtain⟨x,u',hbr⟩:=sh.tn e;have u':(au p a).l=[x]:=u';have V6:nth (au p a).l 0=x:=by rw[u'];rfl
  rw[jN,jN,if_pos e,V6]at e0;rw[e0]at hC Vf;have hC:=hC.head.2.2.last;obtain⟨b1,b2,b3,b4⟩:=aF x (by rw[u'];simp);rw[List.length_cons,List.length_append,List.length_singleton]at Vf;exact Jc hs hE hCl hM hc hmA P' VF b1 b3 hbr b4 b2 hC.1 hC.2.1 (.inr hC.2.2) (by rw[show k+1+(cI p n x ((k+1:Nat):Int)).length+1=k+((cI p n x ((k+1:Nat):Int)).length+1+1) from jB];exact Vf)
 ·-- print
  obtain⟨x,u',Vy⟩:=sh.one (.inr (.inr (.inr (.inr (.inl e)))));have u':(au p a).l=[x]:=u';have V6:nth (au p a).l 0=x:=by rw[u'];rfl
  rw[jN,jN,jN,if_pos e,V6]at e0;rw[e0]at hC Vf;have hC:=hC.head.2.2;rw[List.length_cons,List.length_append,List.length_singleton]at Vf;refine first x (by rw[u'];simp) Vy hC.last.1 fun v q hv=>?_
  have Ve:=hC.app.2;generalize hX:bo p n x ((k+1:Nat):Int)=X at*;have go:∀m',_->bf p C inp (M.aX { c with at_:=((k+1+X.length:Nat):Int),stack:=[v],aT:=q }) m':=fun m'=>go1 (m':=m') Ve hv (.inr (.inl rfl))
  rw[MV.oB,MV.bp h1,last1,MV.db h1,cut1,MV.eK h1,nat1]at go;by_cases ho:24<=M.bC.length
  ·have Xe:24<=(M.aX { c with at_:=((k+1+X.length+1:Nat):Int),stack:=[v],aT:=q }).bC.length:=ho;rw[if_pos Xe]at go;exact⟨_,go _ (bf.refl _),stop _ _ _ _ _ (.inr rfl) jC⟩
  ·have Xe:¬24<=(M.aX { c with at_:=((k+1+X.length+1:Nat):Int),stack:=[v],aT:=q }).bC.length:=ho;rw[if_neg Xe]at go;obtain⟨m1,g,d⟩:=cont { M with bC:=M.bC++[na v] } (k+1+X.length+1) (q+1) ⟨hM.one,hM.dX,hM.st,hM.tr,hM.low,hM.cells,hM.rg⟩ (by rw[show k+1+X.length+1=k+(X.length+1+1) from jB];exact Vf);exact⟨m1,go _ g,d⟩
 ·-- if
  obtain⟨x,b,Vy,X3,hll⟩:=sh.lA e;rw[jN,jN,jN,jN,jN]at e0;rcases hll with u'|⟨d,u',Zr⟩
  ·have u':(au p a).l=[x,b]:=u';have V6:nth (au p a).l 0=x:=by rw[u'];rfl
   have hb0:nth (au p a).l 1=b:=by rw[u'];rfl
   rw[JO e (by rw[u'];show(2:Nat)≠3;decide),V6,hb0]at e0;rw[e0]at hC Vf;have hC:=hC.head.2.2;refine first x (by rw[u'];simp) Vy hC.app.1.last.1 fun v q hv=>?_
   have Ve:=hC.app.1.app.2;have hB:=hC.app.2;generalize hX:bo p n x ((k+1:Nat):Int)=X at*;simp only[List.length_append,List.length_cons,List.length_nil]at hB Vf;rw[<-Int.natCast_add,nat1]at Ve hB Vf;generalize XP:bw (gm p n) ((k+1+X.length+1:Nat):Int) (au p b).l []=B at*;rw[<-Int.natCast_add]at Ve;have c1:dU p C c.fn.toNat (k+1+X.length+1+B.length):=by rw[show k+1+X.length+1+B.length=k+(X.length+(0+1)+B.length+1) from jB];exact Vf
   exact branch _ _ _ _ Ve hv c1 (blk b (by rw[u'];simp) X3 _ (by rw[XP];exact hB) (by rw[XP];exact c1))
  ·have u':(au p a).l=[x,b,d]:=u';have V6:nth (au p a).l 0=x:=by rw[u'];rfl
   have hb0:nth (au p a).l 1=b:=by rw[u'];rfl
   have hd0:nth (au p a).l 2=d:=by rw[u'];rfl
   rw[Ek e (by rw[u'];rfl),V6,hb0,hd0]at e0;rw[e0]at hC Vf;have hC:=hC.head.2.2;refine first x (by rw[u'];simp) Vy hC.app.1.app.1.last.1 fun v q hv=>?_
   have Ve:=hC.app.1.app.1.app.2;have hB:=hC.app.1.app.2.last;have hD:=hC.app.2;generalize hX:bo p n x ((k+1:Nat):Int)=X at*;simp only[List.length_append,List.length_cons,List.length_nil]at hB hD Vf;rw[<-Int.natCast_add,nat1]at Ve hB hD Vf;generalize XP:bw (gm p n) ((k+1+X.length+1:Nat):Int) (au p b).l []=B at*;have e2:(((k+1+X.length+1:Nat):Int)+(B.length:Int)+1)=((k+1+X.length+1+B.length+1:Nat):Int):=by push_cast;omega
   rw[e2]at hB hD Vf;generalize hDl:bw (gm p n) ((k+1+X.length+1+B.length+1:Nat):Int) (au p d).l []=D at*;have c1:dU p C c.fn.toNat (k+1+X.length+1+B.length+1+D.length):=by rw[show k+1+X.length+1+B.length+1+D.length=k+(X.length+(0+1)+(B.length+(0+1))+D.length+1) from jB];exact Vf
   rw[show((k+1+X.length+1:Nat):Int)+((B.length:Int)+1)=((k+1+X.length+1+B.length+1:Nat):Int) by push_cast;omega]at Ve;rw[<-Int.natCast_add]at hB;have cD:=blk d (by rw[u'];simp) Zr (k+1+X.length+1+B.length+1) (by rw[hDl];rw[show k+1+(X.length+(0+1)+(B.length+(0+1)))=k+1+X.length+1+B.length+1 from jB]at hD;exact hD) (by rw[hDl];exact c1);have cJ:dU p C c.fn.toNat (k+1+X.length+1+B.length):=.jump (k':=k+1+X.length+1+B.length+1+D.length) (by have:=hB.2.1;omega) (by have:=hB.2.2;rw[show k+1+(X.length+(0+1))+B.length=k+1+X.length+1+B.length from jB]at this;exact this) c1;exact branch _ _ _ _ Ve hv cD (blk b (by rw[u'];simp) X3 _ (by rw[XP];exact hB.1) (by rw[XP];exact cJ))
 ·-- while
  obtain⟨x,b,u',Vy,X3⟩:=sh.eF e;rw[jN,jN,jN,jN,jN]at e0;have u':(au p a).l=[x,b]:=u';have V6:nth (au p a).l 0=x:=by rw[u'];rfl
  have hb0:nth (au p a).l 1=b:=by rw[u'];rfl
  rw[HY e,V6,hb0]at e0;have cK:dU p C c.fn.toNat k:=.mark hm.h0 hm.hn hm.hl hm.hi hm.hk hm.hC hm.h;rw[e0]at hC Vf;have hC:=hC.head.2.2;refine first x (by rw[u'];simp) Vy hC.app.1.last.1 fun v q hv=>?_
  have Ve:=hC.app.1.app.2;have hB:=hC.app.2.last;generalize hX:bo p n x ((k+1:Nat):Int)=X at*;simp only[List.length_append,List.length_cons,List.length_nil]at hB Vf;rw[<-Int.natCast_add,nat1]at Ve hB Vf;generalize XP:bw (gm p n) ((k+1+X.length+1:Nat):Int) (au p b).l []=B at*;rw[show((k+1+X.length+1:Nat):Int)+((B.length:Int)+1)=((k+1+X.length+1+B.length+1:Nat):Int) by push_cast;omega]at Ve;have c1:dU p C c.fn.toNat (k+1+X.length+1+B.length+1):=by rw[show k+1+X.length+1+B.length+1=k+(X.length+(0+1)+(B.length+(0+1))+1) from jB];exact Vf
  have cJ:dU p C c.fn.toNat (k+1+X.length+1+B.length):=.jump (k':=k) (by have:=hB.2.1;omega) (by have:=hB.2.2;rw[show k+1+(X.length+(0+1))+B.length=k+1+X.length+1+B.length from jB]at this;rw[this];congr 1;push_cast;omega) cK;exact branch _ _ _ _ Ve hv c1 (blk b (by rw[u'];simp) X3 _ (by rw[XP];exact hB.1) (by rw[XP];exact cJ))
 ·-- return
  rw[jN,jN,jN,jN,if_pos e]at e0;by_cases Ws:(au p a).l.length=0
  ·rw[if_pos Ws]at e0;rw[e0]at hC;have hx:=hC.head.2.2.head;rw[self];exact cont M (k+1) c.aT hM (.fin hx.1 hx.2.1)
  ·rw[if_neg Ws]at e0;rcases sh.ret e with h|⟨x,u',Vy⟩
   ·have h:(au p a).l=[]:=h;rw[h]at Ws;exact(Ws rfl).elim
   have u':(au p a).l=[x]:=u';have V6:nth (au p a).l 0=x:=by rw[u'];rfl
   rw[V6]at e0;rw[e0]at hC;have hC:=hC.head.2.2;refine first x (by rw[u'];simp) Vy hC.last.1 fun v q hv=>?_
   have Ve:=hC.app.2;generalize hX:bo p n x ((k+1:Nat):Int)=X at*;have go:∀m',_->bf p C inp (M.aX { c with at_:=((k+1+X.length:Nat):Int),stack:=[v],aT:=q }) m':=fun m'=>go1 (m':=m') Ve hv (.inr (.inr (.inr rfl)))
   rw[MV.sj,MV.bp h1,last1,MV.db h1,cut1]at go;obtain⟨N,hN⟩:∃N,M.calls.length=N+1:=⟨M.calls.length-1,jB⟩;obtain⟨m1,g,d⟩:=Hy (inp:=inp) hM hN (fun M c k a b=>ws N M c k a b) hv { c with at_:=((k+1+X.length:Nat):Int)+1,stack:=[],aT:=q+1 };exact⟨m1,go _ g,d⟩
end
section
variable {p:af}
def yd(hs:gi p):uV p (bA p):=fun j hj=>by
 obtain⟨k,h1,h2⟩:=(rl hs).at_ j hj;have Wn:=h2.app.2.head;refine⟨k,h1,BD _ k (fun x hx=>?_) h2.app.1 (.fin Wn.1 Wn.2.1)⟩;have hN:=pB hs.ok.aa hj;have hb:=hs.ok.aa.body _ (fa hj);have U6:=(hs.aw j hj).chain.le;have O':(nth p.aa.aw j).body.toNat<p.aa.nodes.length:=by have:=hN.1;have:=hN.2;omega
 have hi:jq p j (nth p.aa.aw j).body:=⟨U6,Nat.le_refl _⟩;obtain⟨x1,x2,x3,x4⟩:=hi.aF hs hj (b:=x) hx;exact⟨x2,by unfold mZ;omega,x4,x1,(hs.ok.aa.shape _ O').1.block hb x hx⟩
def _root_.Go.Gd.MV.halt(m:MV):Prop:=m.status=2\/m.status=3
theorem MI.fD{C:aI}{m:MV}(h:MI p C m):MI p C m.fD:=⟨h.dX,h.low,h.ah,h.xd,h.st,h.tr,h.cells,h.rg⟩
variable{inp:UP}
def PO{C:aI}(hs:gi p)(hE:uV p C)(hCl:C.entry.length=p.aa.aw.length)(hi:∀x∈inp,bE x){m:MV}(h:MI p C m)(P':¬m.halt):∃m1,bf p C inp m.eH m1/\lC p C m m1:=by obtain⟨h1,hc,Wp,k,n,a,hk,hm⟩:=h.ah (fun e=>P' (.inl e));have hM:eW p C { m with status:=0 }:=⟨h1,h.dX,rfl,h.tr,h.low,h.cells,h.rg⟩;exact Qa hs hE hCl hi hM (c:={ m.ah with mark:=m.ah.at_,at_:=m.ah.at_+1 }) ⟨hc.f0,hc.f1,hc.sl,hc.rg⟩ hm hk Wp (by show m.ah.at_+1=_;rw[hk])
def BF{C:aI}(hs:gi p)(hE:uV p C)(inp:UP):∃m1,bf p C inp (l4 p C) m1/\lC p C (l4 p C) m1:=by
 obtain⟨j,hj,Xj,_,haP⟩:=BZ hs;obtain⟨ek,e1,e2⟩:=hE j hj;have hf:=hs.aw j hj;have p1:=hf.vm;have hM:eW p C (l4 p C):=⟨by show 1<=1;decide,by show 1<=8;decide,rfl,by show(0:Int)<=0/\(0:Int)<=9;decide,fun k hk=>by have hk:k+1<1:=hk;omega,by show gw []<=40;decide,fun l hl=>by cases hl⟩
 have VY:(MV.iF p C (ik p) []).fn.toNat=j:=by show(ik p).toNat=j;rw[Xj,Int.toNat_natCast]
 have U':nth p.size (ik p).toNat=nth p.size j:=by rw[Xj,Int.toNat_natCast]
 obtain⟨m1,g,d⟩:=ws (inp:=inp) 1 (l4 p C) (MV.iF p C (ik p) []) ek hM rfl ⟨by show 0<=ik p;omega,by show ik p<_;omega,by
  show(([]++List.replicate _ v0:List aj).length:Int)=nth p.size (ik p).toNat;rw[List.nil_append,List.length_replicate,U'];simp only[List.length_nil];omega,fun v hv=>by
  have hv:v∈([]++List.replicate _ v0:List aj):=hv;rw[List.nil_append]at hv;rw[(List.mem_replicate.1 hv).2];exact ru⟩ rfl (by show nth C.entry (ik p).toNat=_;rw[Xj,Int.toNat_natCast];exact e1) (by rw[VY];exact e2)
 exact⟨m1,g,d⟩
structure bH(p:af)(C:aI)(F:List Int->MV->MV):Prop where
 step:∀inp:List Int,(∀x∈inp,bE x)->∀m,MI p C m->¬m.halt->∃m1,bf p C inp m.eH m1/\lC p C m m1/\F inp m=m1.fD
 still:∀inp m,m.halt->F inp m=m
def B0(hs:gi p):∃F,bH p (bA p) F:=by
 classical
 refine⟨fun inp m=>if h:¬m.halt/\∃m1,bf p (bA p) inp m.eH m1/\lC p (bA p) m m1 then(Classical.choose h.2).fD else m,fun inp hi m hm P'=>?_,fun inp m h=>by rw[dif_neg (fun h'=>h'.1 h)]⟩;have h:¬m.halt/\∃m1,bf p (bA p) inp m.eH m1/\lC p (bA p) m m1:=⟨P',PO hs (yd hs) (rl hs).len hi hm P'⟩;have hc:=Classical.choose_spec h.2;exact⟨_,hc.1,hc.2,by rw[dif_pos h]⟩
def bH.mi{C:aI}{F:UP->MV->MV}(hF:bH p C F)(hi:∀x∈inp,bE x){m:MV}(h:MI p C m):MI p C (F inp m):=by
 by_cases e:m.halt
 ·rw[hF.still inp m e];exact h
 ·obtain⟨m1,_,d,e⟩:=hF.step inp hi m h e;rw[e];exact d.2.1.fD
theorem bH.time{C:aI}{F:UP->MV->MV}(hF:bH p C F){inp:UP}(hi:∀x∈inp,bE x){m:MV}(h:MI p C m):(F inp m).time=m.time\/((F inp m).time=m.time+1/\(F inp m).status≠1/\¬m.halt):=by
 by_cases e:m.halt
 ·exact .inl (by rw[hF.still inp m e])
 ·obtain⟨m1,_,d,e'⟩:=hF.step inp hi m h e;rw[e'];unfold MV.fD;dsimp only;split
  ·exact .inl d.2.2
  ·rename_i VM;exact .inr ⟨by rw[d.2.2],VM,e⟩
end
section
variable {p:af}{C:aI}{inp:UP}
def H9(m:MV)(v:aj):(m.ends v).in_=m.in_:=by unfold MV.ends;split<;>rfl
def FR(m:MV)(r:aj×Int):(m.eu r).in_=m.in_:=by unfold MV.eu;split<;>rfl
def JU{c:Prop}[Decidable c]{a b:MV}{k:Int}(h:a.in_=k)(h':b.in_=k):(if c then a else b).in_=k:=by
 by_cases e:c
 ·rw[if_pos e];exact h
 ·rw[if_neg e];exact h'
def K9(m:MV)(x:ay):(m.ins p C inp x).in_=m.in_\/(m.ins p C inp x).in_=m.in_+1:=by
 by_cases h:x.op=14
 ·rw[MV.gK _ _ _ _ _ h];split
  ·exact .inl rfl
  ·exact .inr rfl
 ·left
  unfold MV.ins;simp only[h,↓reduceIte];repeat' (first|rfl|exact H9 _ _|exact FR _ _|refine JU ?_ ?_)
def Q3{m b:MV}{k:Nat}(hb:eo p C inp k m b)(ha:m.dF C):m=b:=by cases hb with|refl=>rfl|step h0 h1=>exact(ha.elim (fun h=>h h0) h1).elim
def IN{n:Nat}{m a:MV}(h:eo p C inp n m a):∀{k b},eo p C inp k m b->a.dF C->b.dF C->a=b:=by
 induction h with|refl m=>
  intro k b hb ha _;exact Q3 hb ha|@step n m m' h0 h1 hok hg ih=>
  intro k b hb ha VQ;cases hb with|refl=>exact(VQ.elim (fun h=>h h0) h1).elim|step _ _ _ hg'=>exact ih hg' ha VQ
def rC(m:MV)(k:Nat)(v:aj):MV:=m.aX { m.ah with slots:=m.ah.slots.set k v }
def HN{m:MV}(h:MI p C m)(hs:¬m.halt)(k:Nat){v:aj}(hv:bE v.n):MI p C (rC m k v):=by
 obtain⟨h1,hf,P',hm⟩:=h.ah (fun e=>hs (.inl e));have ht:(rC m k v).ah={ m.ah with slots:=m.ah.slots.set k v }:=MV.bp h1 _;have hl:(rC m k v).calls.length=m.calls.length:=MV.bP _ _;refine⟨by rw[hl];exact h.dX,fun j hj=>?_,fun _=>?_,fun e=>(hs (.inl e)).elim,h.st,h.tr,h.cells,h.rg⟩
 ·rw[hl]at hj;rw[show nth (rC m k v).calls j=nth m.calls j from(Go.Gd.dG _ _ _ _ jB).trans (jN)];exact h.low j hj
 ·rw[hl,ht];exact⟨h1,⟨hf.f0,hf.f1,by show((m.ah.slots.set k v).length:Int)=_;rw[List.length_set];exact hf.sl,Gl hf.rg _ hv⟩,P',hm⟩
end
end Go.Proofs.YtijdhbokcdpklaaGreatDoor
namespace Go.Proofs.YtijdhbokcdpklaaGreatDoor
open Go Go.Gd Tryz Go.Gd.MV
section
variable {p:af}{C:aI}{m:MV}{N:NM}{e:UL}
def NX(hR:bL p C m N e)(hs:¬(m.status=2\/m.status=3))(h1:1<=m.calls.length)(k:Nat)(hk:k<m.ah.slots.length)(hl:m.ah.slots.length<=1000)(v:aj):cW prog 232 [mP N,rI k,.agg (bW v)] e (rB true) (bg e (hn 1 N.ah.c) (.aG 42 3 ((m.ah.slots.set k v).map bW)))/\bL p C (rC m k v) N (bg e (hn 1 N.ah.c) (.aG 42 3 ((m.ah.slots.set k v).map bW))):=by
 have ht:=uA hR h1;have hT:=hR.ah h1;have U1:=hR.ok.low;have VO:=hR.sy h1 (m.ah.slots.set k v) (List.length_set ..);have O':=hR.len;refine⟨⟨?_,hR.ok,VO.ok,fun i hi=>?_,?_⟩,VO⟩;rotate_left
 ·rw[bS];split
  ·simp
  ·exact hi
 ·simp only[aZ,AV.all,gf hR.root,Bool.and_self,Bool.and_true,bW]
 have k2:=VO.ok;have s2:¬m.status=2:=fun h=>hs (.inl h)
 have s3:¬m.status=3:=fun h=>hs (.inr h)
 have V5:=hT.eZ;have XY:(k:Int)<(m.ah.slots.length:Int):=jB;have Vh:¬(k:Int)<0:=jB;have Vr:¬(m.ah.slots.length:Int)<=(k:Int):=jB;generalize hE:bg e (hn 1 N.ah.c) (.aG 42 3 ((m.ah.slots.set k v).map bW))=E at k2 ⊢;clear VO;refine aO (L:=ids e) func232 ntmps232 ?_ (hL:=rfl);generalize hB:ids e=B;refine fc ?_
 (have W:=jA U1 (jA hR.root (jA hT.var (jA V5 (jA s2 (jA s3 (jA XY (jA hk (jA Vh (Vr)))))))));repeat' (first|refine aq fun K hK=>?_|refine ak ?_|(with_reducible refine gR 3 ?_);refine dC 3 ([],[34],[]) [] (ba 0 9) mixed ?_|(refine hK _ _ ?_;clear hK K)|(refine ao ?_ ?_<;>intro hc<;>try exact jz)|refine aV 9 ?_|refine mN ht ?_|refine ap ?_|exact jI|(clear hK K)))
 subst hE;refine eG (tl:=[(9,.var 42 (bW v))]) hB hR.ok k2 (fun i=>?_) (dq jC dK) [.tmp 6];rw[List.map_set];rfl
end
section
variable {p:af}{C:aI}{m:MV}{N:NM}{e:UL}(X:UQ)
def OV(hR:bL p C m N e)(h1:1<=m.calls.length)(x:ay)(hx:¬(x.op=20\/x.op=21\/x.op=22)):cW prog 134 [mP N,cP N,.agg (du x)] e (rB false) e:=by
 have U1:=hR.ok.low;refine⟨?_,hR.ok,hR.ok,fun _ h=>h,iv hR h1 rfl⟩;refine aO (L:=ids e) func134 ntmps134 ?_ (hL:=rfl);generalize hB:ids e=B;refine fc ?_
 (have W:=U1;repeat' (first|refine aq fun K hK=>?_|refine ak ?_|(refine hK _ _ ?_;clear hK K)|(refine ao ?_ ?_<;>intro hc<;>try exact jz)|refine aV 9 ?_|refine ap ?_|exact jI|(clear hK K)))
 exact eG hB hR.ok hR.ok (fun _=>rfl) (dq jC dK) [.tmp 6]
def PL(h1:1<=m.calls.length)(b:Nat)(hd:∀k,k<m.calls.length->(nth m.calls k).stack.length<=1000):∀k,k<(m.cut b).calls.length->(nth (m.cut b).calls k).stack.length<=1000:=fun k hk=>by
 have hl:(m.cut b).calls.length=m.calls.length:=MV.bP _ _;have e1:nth (m.cut b).calls k=if k=m.calls.length-1 then m.ah.cut b else nth m.calls k:=Go.Gd.dG _ _ _ _ jB
 rw[e1];split
 ·show(m.ah.stack.take _).length<=_;have:m.ah.stack.length<=1000:=hd (m.calls.length-1) jB;rw[List.length_take];omega
 ·exact hd k jB
def zD(x:aj):k9 (bW x)=true:=rfl
def Nf(hR:bL p C m N e)(inp:UP)(x:ay)(hk:pH p C m x)(hx:x.op=20\/x.op=21\/x.op=22):kY prog 134 [mP N,cP N,.agg (du x)] e X (rB true) (fun N' l=>bL p C (m.ins p C inp x) N' l/\N'.k=N.k):=by
 have h1:=hk.calls;have U1:=hR.ok.low;have hT:=hR.ah h1;have hl:=hR.len;by_cases h22:x.op=22
 ·have ei:m.ins p C inp x=m.ends (vZ x.a):=Gg _ _ _ _ _ h22;rw[ei];obtain⟨N',l,U9,hU,hp⟩:=Iv X hR h1 (vZ x.a) hk.deep;refine⟨N',l,U9,hU,⟨?_,hR.ok,hp.e2,hU.aY,iv hR h1 rfl⟩⟩;refine aO (L:=ids e) func134 ntmps134 ?_ (hL:=rfl);generalize hB:ids e=B;refine fc ?_
  (have W:=U1;repeat' (first|refine aq fun K hK=>?_|refine ak ?_|(refine hK _ _ ?_;clear hK K)|(refine ao ?_ ?_<;>intro hc<;>try exact jz)|refine aV 9 ?_|refine cp (Cs _) ?_|refine cT hp ?_|refine ap ?_|exact jI|(clear hK K)))
  exact eG hB hR.ok hp.e2 (fun _=>rfl) (dq jC dK) [.tmp 6]
 by_cases h21:x.op=21
 ·have ei:m.ins p C inp x=(m.cut 1).ends m.ah.last:=Ju _ _ _ _ _ h21;rw[ei];obtain⟨N1,l1,U9,Vw,We⟩:=Ex X hR h1 (hk.one jB);have ZT:1<=(m.cut 1).calls.length:=by rw[show(m.cut 1).calls.length=m.calls.length from MV.bP _ _];exact h1
  obtain⟨N',l,VP,hU,hp⟩:=Iv X U9.1 ZT m.ah.last (PL h1 1 hk.deep);rw[show mP N1=mP N by unfold mP;rw[U9.2.1]]at hp;have Vu:=U9.1.ok.low;refine⟨N',l,⟨VP.1,VP.2.trans U9.2.1⟩,Vw.trans hU,⟨?_,hR.ok,hp.e2,(Vw.trans hU).aY,iv hR h1 rfl⟩⟩;refine aO (L:=ids e) func134 ntmps134 ?_ (hL:=rfl);generalize hB:ids e=B;refine fc ?_
  (have W:=jA U1 Vu;repeat' (first|refine aq fun K hK=>?_|refine ak ?_|(refine hK _ _ ?_;clear hK K)|(refine ao ?_ ?_<;>intro hc<;>try exact jz)|refine aV 9 ?_|refine cT We ?_|refine cT hp ?_|refine ap ?_|exact jI|(clear hK K)))
  exact eG hB hR.ok hp.e2 (fun _=>rfl) (dq jC dK) [.tmp 6]
 have h20:x.op=20:=jB;obtain⟨c1,c2,c3⟩:=hk.call h20;obtain⟨b,hb⟩:∃b:Nat,x.b=b:=⟨x.b.toNat,jB⟩;have YZ:x.b.toNat=b:=jB;rw[YZ]at c3;have W4:b<=m.ah.stack.length:=jB;have hdp:=hk.ah;have V2:=hR.Db h1 b W4;have Vw:Up X e (bg e (hn 0 N.ah.c) (.var 174 (MV.cE (m.ah.cut b) ⟨N.ah.c,N.ah.v,m.ah.stack.drop (m.ah.stack.length-b)++N.ah.jk⟩))):=Up.put _ (.inl (by rw[hT.var];simp));have eC:MV.cE (m.ah.cut b) ⟨N.ah.c,N.ah.v,m.ah.stack.drop (m.ah.stack.length-b)++N.ah.jk⟩=[.rs (hn 2 N.ah.v) (m.ah.stack.length+N.ah.jk.length) 3 (m.ah.stack.length-b),.raw (.int .i64 m.ah.fn),.raw (.int .i64 m.ah.at_),.raw (.int .i64 m.ah.mark),.rs (hn 1 N.ah.c) m.ah.slots.length 3 m.ah.slots.length]:=by
  have e1:(m.ah.cut b).stack.length=m.ah.stack.length-b:=by show(m.ah.stack.take _).length=_;rw[List.length_take];omega
  unfold MV.cE;rw[e1,List.length_append,List.length_drop,show m.ah.stack.length-b+(m.ah.stack.length-(m.ah.stack.length-b)+N.ah.jk.length)=m.ah.stack.length+N.ah.jk.length from jB];rfl
 rw[eC]at V2 Vw;have U4:=Jr (m.ah.stack.drop (m.ah.stack.length-b)) (by rw[List.length_drop];omega) 10;have Xy:(m.cut b).calls.length=m.calls.length:=MV.bP _ _;have Vu:=V2.ok.low;by_cases h8:8<=m.calls.length
 ·have ei:m.ins p C inp x=(m.cut b).stops 3 3:=by rw[Bf _ _ _ _ _ h20,if_pos h8,YZ]
  rw[ei];obtain⟨N',l,VP,hU,hp⟩:=xR X V2 jB 3 3;refine⟨N',l,⟨VP.1,VP.2.1⟩,Vw.trans hU,⟨?_,hR.ok,hp.e2,(Vw.trans hU).aY,iv hR h1 rfl⟩⟩;clear eC Vw hU;refine aO (L:=ids e) func134 ntmps134 ?_ (hL:=rfl);generalize hB:ids e=B;refine fc ?_
  (have W:=jA U1 (jA hR.root (jA hT.var (hb)));repeat' (first|refine aq fun K hK=>?_|refine ak ?_|(with_reducible refine gR 4 ?_);refine dE 4 (ba 0 10) mixed ?_|(refine hK _ _ ?_;clear hK K)|(refine ao ?_ ?_<;>intro hc<;>try exact jz)|refine aV 9 ?_|refine CO 10 zD U4 (by show aC (tie _ _) _=_;rw[kf,U1 _ jC];rfl) (Js m.ah.stack N.ah.jk (by show aC (tie _ _) _=_;rw[kf,hT.cO];rfl) rfl jB jC) ?_|refine cT hp ?_|refine ap ?_|exact jI|(clear hK K)))
  exact eG hB hR.ok hp.e2 (fun _=>rfl) (dq jC dK) [.tmp 6]
 ·have ei:m.ins p C inp x=(m.cut b).cR p C x.a (m.ah.stack.drop (m.ah.stack.length-b)):=by rw[Bf _ _ _ _ _ h20,if_neg h8,YZ]
  rw[ei];obtain⟨f0,f1,f2,s0,s1,s2,b1,h8'⟩:=c3 jB;obtain⟨N',l,VP,hU,hp⟩:=Es X V2 x.a (m.ah.stack.drop (m.ah.stack.length-b)) ⟨f0,f1,f2,s0,s1,s2,b1,by rw[Xy];exact h8'⟩;refine⟨N',l,⟨VP.1,VP.2⟩,Vw.trans hU,⟨?_,hR.ok,hp.e2,(Vw.trans hU).aY,iv hR h1 rfl⟩⟩;clear eC Vw hU;refine aO (L:=ids e) func134 ntmps134 ?_ (hL:=rfl);generalize hB:ids e=B;refine fc ?_
  (have W:=jA U1 (jA hR.root (jA hT.var (hb)));repeat' (first|refine aq fun K hK=>?_|refine ak ?_|(with_reducible refine gR 4 ?_);refine dE 4 (ba 0 10) mixed ?_|(refine hK _ _ ?_;clear hK K)|(refine ao ?_ ?_<;>intro hc<;>try exact jz)|refine aV 9 ?_|refine CO 10 zD U4 (by show aC (tie _ _) _=_;rw[kf,U1 _ jC];rfl) (Js m.ah.stack N.ah.jk (by show aC (tie _ _) _=_;rw[kf,hT.cO];rfl) rfl jB jC) ?_|refine cT hp ?_|refine ap ?_|exact jI|(clear hK K)))
  exact eG hB hR.ok hp.e2 (fun _=>rfl) (dq jC dK) [.tmp 6]
end
def OP{p:af}{C:aI}{m:MV}{n:Nat}(h:Bd n m)(hn:n<=1000)(hok:m.fP p C)(hC:C.entry.length<=1000)(hP:p.size.length<=1000):pH p C (m.aX (m.ah.jump (m.ah.at_+1))) (m.bh C):=by
 have h1:=hok.calls;have ht:(m.aX (m.ah.jump (m.ah.at_+1))).ah=m.ah.jump (m.ah.at_+1):=MV.bp h1 _;have hl:(m.aX (m.ah.jump (m.ah.at_+1))).calls.length=m.calls.length:=MV.bP _ _;have P':(m.ah.jump (m.ah.at_+1)).stack=m.ah.stack:=rfl;have V5:(m.ah.jump (m.ah.at_+1)).slots=m.ah.slots:=rfl;have XE:(m.ah.jump (m.ah.at_+1)).last=m.ah.last:=rfl;refine⟨by rw[hl];exact h1,by rw[hl];exact hok.nD,?_,?_,?_,fun h20=>?_,?_,?_,fun k hk=>?_,?_,h.heap,h.outs,h.od,by have:=h.oF;show m.in_<=1000;omega⟩
 ·rw[ht,P'];exact hok.one
 ·rw[ht,P'];exact hok.two
 ·rw[ht,V5];exact hok.slot
 ·obtain⟨c1,c2,c3,c4,c5,c6,c7,c8,c9⟩:=hok.call h20;rw[ht,P'];refine⟨c1,c2,fun h8=>⟨c4,c5,c6,c7,c8,?_,⟨hC,hP⟩,hok.nD |> (by rw[hl];exact·)⟩⟩;rw[List.length_drop];omega
 ·rw[ht,XE];exact hok.word
 ·rw[ht,P'];exact hok.kg
 ·rw[hl]at hk;have e:nth (m.aX (m.ah.jump (m.ah.at_+1))).calls k=if k=m.calls.length-1 then m.ah.jump (m.ah.at_+1)else nth m.calls k:=Go.Gd.dG _ _ _ _ jB
  rw[e];split
  ·exact hok.deep
  ·exact h.deep k jB
 ·rw[ht,V5];exact h.ah h1
def OO{h:UO}{a i:Int}(hi:¬(i<0\/((MV.bn h a).length:Int)<=i)):(a-1).toNat<h.length/\i.toNat<(nth h (a-1).toNat).length:=by
 unfold MV.bn at hi;by_cases e:a<1\/(h.length:Int)<a
 ·rw[if_pos e]at hi;simp only[List.length_nil]at hi;omega
 ·rw[if_neg e]at hi;omega
def QB{p:af}{C:aI}{m:MV}{inp:UP}{x:ay}(h:Bd inp.length m)(hk:pH p C m x):Bd inp.length (m.ins p C inp x):=by
 have h1:=hk.calls;have WL:∀k,(m.cut k).calls.length=m.calls.length:=fun k=>MV.bP _ _
 have hc:∀k,Bd inp.length (m.cut k):=fun k=>h.cut h1 k
 have Vn:∀k,1<=(m.cut k).calls.length:=fun k=>by rw[WL];exact h1
 by_cases a:x.op=2
 ·rw[Re _ _ _ _ _ a];exact h.push h1 _
 by_cases a:x.op=3
 ·rw[Sw _ _ _ _ _ a];exact h.push h1 _
 by_cases a:x.op=4
 ·rw[QA _ _ _ _ _ a];exact h.push h1 _
 by_cases a:x.op=5
 ·rw[TE _ _ _ _ _ a];exact h.push h1 _
 by_cases a:x.op=6
 ·rw[I4 _ _ _ _ _ a];refine h.aX ?_;show(m.ah.slots.set _ _).length<=24;rw[List.length_set];exact hk.slots
 by_cases a:x.op=7
 ·rw[Ea _ _ _ _ _ a];exact(hc 2).eu (Vn 2) _
 by_cases a:x.op=8
 ·rw[Fh _ _ _ _ _ a];exact(hc 1).push (Vn 1) _
 by_cases a:x.op=9
 ·rw[IS _ _ _ _ _ a];exact(hc 1).push (Vn 1) _
 by_cases a:x.op=10
 ·rw[Ef _ _ _ _ _ a];exact(hc 1).push (Vn 1) _
 by_cases a:x.op=11
 ·rw[Fu _ _ _ _ _ a];split
  ·exact(hc 1).stops (Vn 1) _ _
  ·exact(hc 1).push (Vn 1) _
 by_cases a:x.op=12
 ·rw[Er _ _ _ _ _ a];split
  ·exact(hc 2).stops (Vn 2) _ _
  ·rename_i hi;refine(hc 2).n8 ?_;obtain⟨q1,q2⟩:=OO hi;rw[GN _ _ _ q1 (by rw[List.length_set])];exact h.heap
 by_cases a:x.op=13
 ·rw[I6 _ _ _ _ _ a];split
  ·exact(hc 1).stops (Vn 1) _ _
  ·split
   ·exact(hc 1).stops (Vn 1) _ _
   ·refine((hc 1).push (Vn 1) _).n8 ?_;rw[Gc,List.length_replicate];omega
 by_cases a:x.op=14
 ·rw[gK _ _ _ _ _ a];split
  ·exact h.stops h1 _ _
  ·have:=h.push h1 (vI (nth inp m.in_.toNat));have h0:=h.od;exact⟨this.deep,this.slots,this.heap,this.outs,by show 0<=m.in_+1;omega,by show m.in_+1<=_;omega⟩
 by_cases a:x.op=15
 ·rw[HE _ _ _ _ _ a];split
  ·exact h.stops h1 _ _
  ·have:=hc 1;exact⟨this.deep,this.slots,this.heap,by show(m.bC++[_]).length<=24;rw[List.length_append,List.length_singleton];omega,this.od,this.oF⟩
 by_cases a:x.op=16
 ·rw[P5 _ _ _ _ _ a];exact h.aX hk.slots
 by_cases a:x.op=17
 ·rw[T8 _ _ _ _ _ a];split
  ·exact h.aX hk.slots
  ·exact hc 1
 by_cases a:x.op=18\/x.op=19
 ·rw[Oc _ _ _ _ _ a];split
  ·exact h.aX hk.slots
  ·exact hc 1
 by_cases a:x.op=20
 ·rw[Bf _ _ _ _ _ a];split
  ·exact(hc _).stops (Vn _) _ _
  ·rename_i h8;obtain⟨c1,c2,c3⟩:=hk.call a;have c3:=c3 jB;refine(hc _).cR (Vn _) ?_ c3.s1 c3.s2;rw[show(m.cut x.b.toNat).ah=m.ah.cut x.b.toNat from MV.bp h1 _];show(m.ah.stack.take _).length<=1000;have:=hk.ah;rw[List.length_take];omega
 by_cases a:x.op=21
 ·rw[Ju _ _ _ _ _ a];exact(hc 1).ends _
 by_cases a:x.op=22
 ·rw[Gg _ _ _ _ _ a];exact h.ends _
 by_cases a:x.op=23
 ·rw[G8 _ _ _ _ _ a];exact hc 1
 ·rw[SI _ _ _ _ _ jB];exact h
section
variable {p:af}{C:aI}{m:MV}{N:NM}{e:UL}(X:UQ)
def KT(hR:bL p C m N e)(inp:UP)(x:ay)(hk:pH p C m x)(VR:inp.length<=1000)(hx:x.op=14\/x.op=15):kY prog 135 [mP N,cP N,.agg (du x),aM eI 1 inp] e X (.aQ []) (To p C (m.ins p C inp x) N):=by
 have h1:=hk.calls;have U1:=hR.ok.low;have hdp:=hk.ah;have od:=hk.od;have oF:=hk.oF;have hou:=hk.outs;by_cases h14:x.op=14
 ·rw[gK _ _ _ _ _ h14];by_cases hw:(inp.length:Int)<=m.in_
  ·rw[if_pos hw];obtain⟨N',l,hT,hU,hp⟩:=xR X hR h1 1 0;refine⟨N',l,hT,hU,⟨?_,hR.ok,hp.e2,hU.aY,iv hR h1 rfl⟩⟩;refine aO (L:=ids e) func135 ntmps135 ?_ (hL:=rfl);generalize hB:ids e=B;refine fc ?_
   (have W:=jA U1 (hR.root);repeat' (first|refine aq fun K hK=>?_|refine ak ?_|(refine hK _ _ ?_;clear hK K)|(refine ao ?_ ?_<;>intro hc<;>try exact jz)|refine aV 9 ?_|refine cT hp ?_|refine ap ?_|exact jI|(clear hK K)))
   exact eG hB hR.ok hp.e2 (fun _=>rfl) (dq jC dK) []
  ·rw[if_neg hw];obtain⟨N1,l1,U9,Vw,We⟩:=tj X hR h1 (vI (nth inp m.in_.toNat)) hdp;have VO:=U9.1.mJ (m':={ m.push (vI (nth inp m.in_.toNat))with in_:=m.in_+1 }) rfl rfl rfl;have Vu:=U9.1.ok.low;have Xh:=U9.1.root;rw[U9.2.1]at Xh;have V3:(m.push (vI (nth inp m.in_.toNat))).in_=m.in_:=rfl;have VW:Up X l1 (bg l1 (hn 3 N1.k) (.var 166 (mE p C { m.push (vI (nth inp m.in_.toNat))with in_:=m.in_+1 } N1))):=Up.put _ (.inl (by rw[U9.2.1,Xh];simp));refine⟨N1,_,⟨VO,U9.2.1,U9.2.2⟩,Vw.trans VW,⟨?_,hR.ok,VO.ok,(Vw.trans VW).aY,iv hR h1 rfl⟩⟩;have k2:=VO.ok;clear VO Vw VW;generalize hE:bg l1 (hn 3 N1.k) (.var 166 (mE p C { m.push (vI (nth inp m.in_.toNat))with in_:=m.in_+1 } N1))=E at k2 ⊢;refine aO (L:=ids e) func135 ntmps135 ?_ (hL:=rfl);generalize hB:ids e=B;refine fc ?_
   (have W:=jA U1 (jA Vu (jA hR.root (jA Xh (jA U9.2.1 (V3)))));repeat' (first|refine aq fun K hK=>?_|refine ak ?_|(with_reducible refine gR 4 ?_);refine dE 4 (ba 0 12) mixed ?_|(refine hK _ _ ?_;clear hK K)|(refine ao ?_ ?_<;>intro hc<;>try exact jz)|refine aV 9 ?_|refine cp (ui _) ?_|refine cT We ?_|refine ap ?_|exact jI|(clear hK K)))
   subst hE;refine eG (tl:=[(9,.var 176 (du x))]) hB hR.ok k2 (fun i=>?_) (dq jC dK) [];have:=U9.2.1;unfold mE;rw[this];rfl
 have h15:x.op=15:=jB;rw[HE _ _ _ _ _ h15];by_cases ho:24<=m.bC.length
 ·rw[if_pos ho];obtain⟨N',l,hT,hU,hp⟩:=xR X hR h1 3 5;refine⟨N',l,hT,hU,⟨?_,hR.ok,hp.e2,hU.aY,iv hR h1 rfl⟩⟩;refine aO (L:=ids e) func135 ntmps135 ?_ (hL:=rfl);generalize hB:ids e=B;refine fc ?_
  (have W:=jA U1 (hR.root);repeat' (first|refine aq fun K hK=>?_|refine ak ?_|(refine hK _ _ ?_;clear hK K)|(refine ao ?_ ?_<;>intro hc<;>try exact jz)|refine aV 9 ?_|refine cT hp ?_|refine ap ?_|exact jI|(clear hK K)))
  exact eG hB hR.ok hp.e2 (fun _=>rfl) (dq jC dK) []
 ·rw[if_neg ho];have WG:=hk.one jB;obtain⟨N1,l1,⟨U9,Zj⟩,Vw,We,Xb⟩:=wS X hR h1 WG;have VO:=U9.1.Ba (m':={ m.cut 1 with bC:=m.bC++[na m.ah.last] }) rfl rfl;have Vu:=U9.1.ok.low;have Xh:=U9.1.root;have ho1:=U9.1.outs;rw[U9.2.1]at Xh ho1;have VW:Up X l1 (bg (bg l1 (hn 8 N1.k) (.aG 9 1 ((m.bC++[na m.ah.last]).map eS))) (hn 3 N1.k) (.var 166 (mE p C { m.cut 1 with bC:=m.bC++[na m.ah.last] } N1))):=by
   refine(Up.put _ (.inl ?_)).trans (Up.put _ (.inl ?_))
   ·rw[U9.2.1,ho1];simp
   ·rw[bS,if_neg (dj jB jB jB),U9.2.1,Xh];simp
  have hwd:=Rn m.ah.last (hk.word h15);refine⟨N1,_,⟨VO,U9.2.1,U9.2.2⟩,Vw.trans VW,⟨?_,hR.ok,VO.ok,(Vw.trans VW).aY,iv hR h1 rfl⟩⟩;have k2:=VO.ok;clear VO Vw VW;have ho1:aC l1 (hn 8 N.k)=some (.aG 9 1 (m.bC.map eS)):=ho1;show ab _ _ _ _ fun r l'=>r=_/\l'=bg (bg l1 (hn 8 N1.k) (.aG 9 1 ((m.bC++[na m.ah.last]).map eS))) (hn 3 N1.k) (.var 166 (mE p C { m.cut 1 with bC:=m.bC++[na m.ah.last] } N1))
  have k2:fO 0 (bg (bg l1 (hn 8 N1.k) (.aG 9 1 ((m.bC++[na m.ah.last]).map eS))) (hn 3 N1.k) (.var 166 (mE p C { m.cut 1 with bC:=m.bC++[na m.ah.last] } N1))):=k2;generalize hE:bg (bg l1 (hn 8 N1.k) (.aG 9 1 ((m.bC++[na m.ah.last]).map eS))) (hn 3 N1.k) (.var 166 (mE p C { m.cut 1 with bC:=m.bC++[na m.ah.last] } N1))=E at k2 ⊢;refine aO (L:=ids e) func135 ntmps135 ?_ (hL:=rfl);generalize hB:ids e=B;refine fc ?_
  (have W:=jA U1 (jA Vu (jA hR.root (jA Xh (jA ho1 (U9.2.1)))));repeat' (first|refine aq fun K hK=>?_|refine ak ?_|(with_reducible refine gR 9 ?_);refine qq 9 [hn 2 N.ah.v,hn 16 N.ah.c] [73] [72,1000000] [] (ba 0 15) mixed ?_|(refine hK _ _ ?_;clear hK K)|(refine ao ?_ ?_<;>intro hc<;>try exact jz)|refine aV 9 ?_|refine oc We (Xb _ _) ?_|refine cq (hwd) ?_|refine ap ?_|exact jI|(clear hK K)))
  subst hE;refine eG (tl:=[(9,.var 176 (du x))]) hB hR.ok k2 (fun i=>?_) (dq jC dK) [];have:=U9.2.1;have e1:(m.bC++[na m.ah.last]).length=m.bC.length+1:=jE;unfold mE;dsimp only;rw[this,List.map_append,e1];rfl
end
section
variable {p:af}{C:aI}(X:UQ)
inductive sM(inp:List Int)(N:NM)(x:ay)(e l:List (Nat×Row)):Prop
 |a (h:cW prog 130 [mP N,cP N,.agg (du x)] e (rB true) l)
 |b (h1:cW prog 130 [mP N,cP N,.agg (du x)] e (rB false) e) (h:cW prog 131 [mP N,cP N,.agg (du x)] e (rB true) l)
 |c (h1:cW prog 130 [mP N,cP N,.agg (du x)] e (rB false) e) (h2:cW prog 131 [mP N,cP N,.agg (du x)] e (rB false) e) (h:cW prog 132 [mP N,cP N,.agg (du x)] e (rB true) l)
 |d (h1:cW prog 130 [mP N,cP N,.agg (du x)] e (rB false) e) (h2:cW prog 131 [mP N,cP N,.agg (du x)] e (rB false) e) (h3:cW prog 132 [mP N,cP N,.agg (du x)] e (rB false) e) (h:cW prog 133 [mP N,cP N,.agg (du x)] e (rB true) l)
 |e (h1:cW prog 130 [mP N,cP N,.agg (du x)] e (rB false) e) (h2:cW prog 131 [mP N,cP N,.agg (du x)] e (rB false) e) (h3:cW prog 132 [mP N,cP N,.agg (du x)] e (rB false) e) (h4:cW prog 133 [mP N,cP N,.agg (du x)] e (rB false) e) (h:cW prog 134 [mP N,cP N,.agg (du x)] e (rB true) l)
 |f (h1:cW prog 130 [mP N,cP N,.agg (du x)] e (rB false) e) (h2:cW prog 131 [mP N,cP N,.agg (du x)] e (rB false) e) (h3:cW prog 132 [mP N,cP N,.agg (du x)] e (rB false) e) (h4:cW prog 133 [mP N,cP N,.agg (du x)] e (rB false) e) (h5:cW prog 134 [mP N,cP N,.agg (du x)] e (rB false) e) (h:cW prog 135 [mP N,cP N,.agg (du x),aM eI 1 inp] e (.aQ []) l)
variable{m:MV}
def PH{N:NM}{e:UL}(hR:bL p C m N e)(inp:UP)(VR:inp.length<=1000)(x:ay)(hk:pH p C m x)(hx:2<=x.op/\x.op<=23):∃N' l,(bL p C (m.ins p C inp x) N' l/\N'.k=N.k)/\Up X e l/\sM inp N x e l:=by
 have h1:=hk.calls;by_cases a:x.op=2\/x.op=3\/x.op=4\/x.op=5
 ·obtain⟨N',l,hT,hU,hp⟩:=UF X hR inp x hk a;exact⟨N',l,⟨hT.1,hT.2.1⟩,hU,.a hp⟩
 have n1:=Ui hR h1 x a;by_cases b:x.op=7\/x.op=8\/x.op=9\/x.op=10
 ·obtain⟨N',l,hT,hU,hp⟩:=RA X hR inp x hk b;exact⟨N',l,⟨hT.1,hT.2.1⟩,hU,.b n1 hp⟩
 have n2:=Ty hR h1 x b;by_cases c:x.op=6\/x.op=23\/x.op=11\/x.op=12\/x.op=13
 ·obtain⟨N',l,hT,hU,hp⟩:=K0 X hR inp x hk c;exact⟨N',l,⟨hT.1,hT.2.1⟩,hU,.c n1 n2 hp⟩
 have n3:=Sm hR h1 x c;by_cases d:x.op=16\/x.op=17\/x.op=18\/x.op=19
 ·obtain⟨N',l,hT,hU,hp⟩:=QT X hR inp x hk d;exact⟨N',l,⟨hT.1,hT.2.1⟩,hU,.d n1 n2 n3 hp⟩
 have n4:=RZ hR h1 x d;by_cases g:x.op=20\/x.op=21\/x.op=22
 ·obtain⟨N',l,hT,hU,hp⟩:=Nf X hR inp x hk g;exact⟨N',l,hT,hU,.e n1 n2 n3 n4 hp⟩
 have n5:=OV hR h1 x g;obtain⟨N',l,hT,hU,hp⟩:=KT X hR inp x hk VR jB;exact⟨N',l,⟨hT.1,hT.2.1⟩,hU,.f n1 n2 n3 n4 n5 hp⟩
structure MS where
 m:MV
 N:NM
 e:List (Nat×Row)
structure Round(p:af)(C:aI)(inp:List Int)(X:List Nat)(a b:MS):Prop where
 rep:bL p C a.m a.N a.e
 st:a.m.status=0
 op:(a.m.bh C).op≠1
 calls:1<=a.m.calls.length
 a0:0<=a.m.ah.at_
 a1:a.m.ah.at_<C.ins.length
 up:Up X a.e b.e
 k:b.N.k=a.N.k
 does:sM inp a.N (a.m.bh C) (bg a.e (hn 0 a.N.ah.c) (.var 174 (MV.cE (a.m.ah.jump (a.m.ah.at_+1)) a.N.ah))) b.e
 ok:fO 0 b.e
variable{inp:UP}
def N6{N:NM}{e:UL}(hR:bL p C m N e)(hb:Bd inp.length m)(VR:inp.length<=1000)(hC:C.entry.length<=1000)(hP:p.size.length<=1000)(h0:m.status=0)(h1:(m.bh C).op≠1)(hok:m.fP p C):∃N' e',Round p C inp X ⟨m,N,e⟩ ⟨m.one p C inp,N',e'⟩/\bL p C (m.one p C inp) N' e'/\Bd inp.length (m.one p C inp):=by have U4:=hok.calls;have hx:=OP hb VR hok hC hP;have hT:=hR.ah U4;have V2:=hR.j5 U4 (c':=m.ah.jump (m.ah.at_+1)) rfl rfl;have Vw:Up X e (bg e (hn 0 N.ah.c) (.var 174 (MV.cE (m.ah.jump (m.ah.at_+1)) N.ah))):=Up.put _ (.inl (by rw[hT.var];simp));obtain⟨N',l,VP,VW,hd⟩:=PH X V2 inp VR (m.bh C) hx (by have:=hok.op;omega);have WG:Bd inp.length (m.aX (m.ah.jump (m.ah.at_+1))):=hb.aX (hb.ah U4);exact⟨N',l,⟨hR,h0,h1,U4,hok.a0,hok.a1,Vw.trans VW,VP.2,hd,VP.1.ok⟩,VP.1,QB WG hx⟩
def Ul(VR:inp.length<=1000)(hC:C.entry.length<=1000)(hP:p.size.length<=1000){n:Nat}{m':MV}(hg:eo p C inp n m m'):∀{N:NM} {e:UL},bL p C m N e->Bd inp.length m->∃f:Nat->MS,f 0=⟨m,N,e⟩/\(∀i,i<n->Round p C inp X (f i) (f (i+1)))/\(f n).m=m'/\bL p C m' (f n).N (f n).e/\Bd inp.length m':=by
 induction hg with
 |refl m=>intro N e hR hb;exact⟨fun _=>⟨m,N,e⟩,rfl,fun i hi=>jB,rfl,hR,hb⟩
 |@step n m m' h0 h1 hok _ ih=>
  intro N e hR hb;obtain⟨N1,e1,hr,V2,WG⟩:=N6 X hR hb VR hC hP h0 h1 hok;obtain⟨f,f0,f1,f2,f3,f4⟩:=ih V2 WG;refine⟨fun i=>match i with|0=>⟨m,N,e⟩|i+1=>f i,rfl,fun i hi=>?_,f2,f3,f4⟩;match i with
  |0=>show Round p C inp X ⟨m,N,e⟩ (f 0);rw[f0];exact hr
  |i+1=>exact f1 i jB
def Ja{m':MV}{N:NM}{e:UL}(hR:bL p C m N e)(hb:Bd inp.length m)(VR:inp.length<=1000)(hC:C.entry.length<=1000)(hP:p.size.length<=1000)(hI:C.ins.length<=1000000)(hg:bf p C inp m m')(P':m'.dF C)(VF:m'.status=0->1<=m'.calls.length/\0<=m'.ah.at_/\m'.ah.at_<C.ins.length) :
  kY prog 113 [mP N,aM eI 1 inp] e X (.aQ []) (fun N' l=>bL p C m' N' l/\N'.k=N.k/\Bd inp.length m'):=by
 obtain⟨n,hg⟩:=hg;obtain⟨f,f0,f1,f2,f3,f4⟩:=Ul X VR hC hP hg hR hb;have hk:∀i,i<=n->(f i).N.k=N.k/\Up X e (f i).e/\fO 0 (f i).e:=fun i=>by
  induction i with
  |zero=>intro _;rw[f0];exact⟨rfl,Up.refl _ _,hR.ok⟩
  |succ i ih=> intro hi;obtain⟨a,b,c⟩:=ih jB;have:=f1 i jB;exact⟨this.k.trans a,b.trans this.up,this.ok⟩
 obtain⟨k1,k2,k3⟩:=hk n jl;refine⟨(f n).N,(f n).e,⟨f3,k1,f4⟩,k2,⟨?_,hR.ok,k3,k2.aY,qp hR rfl⟩⟩;refine aO (L:=ids e) func113 ntmps113 ?_ (hL:=rfl);generalize hB:ids e=B;refine fc ?_
 (repeat' (first|refine aq fun K hK=>?_|refine ak ?_|(refine hK _ _ ?_;clear hK K)|(refine ao ?_ ?_<;>intro hc<;>try exact jz)|refine ap ?_|exact jI|(clear hK K)))
 refine ee (S:=Nat) [(4,68)] (fun i=>i<=n) (fun i=>[]) (fun i=>⟨B,tie (f i).e []⟩) (fun i=>n-i) 0 jB (dZ (by rw[f0]) cr) ?_;rintro i hi Kr U5;by_cases I':i<n
 ·have hr:=f1 i I';have XY:=hk i hi;obtain⟨q1,q2,q3⟩:=hk (i+1) I';obtain⟨r1,r2,r3,r4,r5,r6,r7,r8,r9,r10⟩:=hr;generalize VQ:f (i+1)=b at*;generalize f i=a at*;obtain⟨am,aN,ae⟩:=a;obtain⟨bm,bN,be⟩:=b;simp only at*;have eM:mP aN=mP N:=by unfold mP;rw[XY.1]
  have ht:=uA r1 r4;rw[eM]at ht;have hT:=r1.ah r4;have U1:=r1.ok.low;have WO:=r1.root;rw[XY.1]at WO;have hbs:=r10.low;have Wx:∀i,i<1000->aC (bg ae (hn 0 aN.ah.c) (.var 174 (MV.cE (am.ah.jump (am.ah.at_+1)) aN.ah))) i=none:=fun i hi=>by rw[bS,if_neg (by have:=iK 0 aN.ah.c;omega)];exact U1 i hi
  have hx:nth C.ins am.ah.at_.toNat=am.bh C:=rfl;have hxo:=r3;generalize am.bh C=x at*
  (refine S ?_;try exact jI)
  rcases r9 with h|⟨h1,h⟩|⟨h1,h2,h⟩|⟨h1,h2,h3,h⟩|⟨h1,h2,h3,h4,h⟩|⟨h1,h2,h3,h4,h5,h⟩
  all_goals
   simp only[eM]at*
   (have W:=jA U1 (jA Wx (jA hbs (jA WO (jA hT.var (jA r2 (hx))))));repeat' (first|(with_reducible refine gR 5 ?_);refine sS [43,50,57,64] ?_|refine aq fun K hK=>?_|refine ak ?_|(with_reducible refine gR 2 ?_);refine dE 2 (ba 0 13) mixed ?_|(refine hK _ _ ?_;clear hK K)|(refine ao ?_ ?_<;>intro hc<;>try exact jz)|refine cC 9 ?_|refine cT ht ?_|refine cT h ?_|refine cT h1 ?_|refine cT h2 ?_|refine cT h3 ?_|refine cT h4 ?_|refine cT h5 ?_|refine ap ?_|exact jI|(clear hK K)))
  all_goals exact U5 _ _ (Nr hB hR.ok r10 (dq jC dK) (i+1) jB (by show n-(i+1)<n-i;omega) (by show _=Hp.mk B (tie (f (i+1)).e []);rw[VQ]) jo)
 ·have V3:i=n:=jB;subst V3;have ht0:(f i).m=m':=f2;generalize f i=a at*;obtain⟨am,aN,ae⟩:=a;simp only at*;subst ht0;have eM:mP aN=mP N:=by unfold mP;rw[k1]
  have U1:=f3.ok.low;have WO:=f3.root;rw[k1]at WO;by_cases h0:am.status=0
  ·obtain⟨r4,r5,r6⟩:=VF h0;have W9:(am.bh C).op=1:=by
    rcases P' with h|h
    ·exact(h h0).elim
    ·exact h
   have ht:=uA f3 r4;rw[eM]at ht;have hT:=f3.ah r4;have hx:nth C.ins am.ah.at_.toNat=am.bh C:=rfl;generalize am.bh C=x at*;refine S ?_
   (have W:=jA U1 (jA WO (jA hT.var (jA h0 (hx))));repeat' (first|refine aq fun K hK=>?_|refine ak ?_|(with_reducible refine gR 2 ?_);refine dE 2 (ba 0 13) mixed ?_|(refine hK _ _ ?_;clear hK K)|(refine ao ?_ ?_<;>intro hc<;>try exact jz)|refine cC 9 ?_|refine cT ht ?_|refine ap ?_|exact jI|(clear hK K)))
   exact eG hB hR.ok f3.ok (fun _=>rfl) (dq jC dK) []
  ·(refine S ?_;try exact jI)
   (have W:=jA U1 WO;repeat' (first|refine aq fun K hK=>?_|refine ak ?_|(refine hK _ _ ?_;clear hK K)|(refine ao ?_ ?_<;>intro hc<;>try exact jz)|refine ap ?_|exact jI|(clear hK K)))
   exact eG hB hR.ok f3.ok (tl:=[]) (fun _=>rfl) dK []
end
attribute [local go_sem] Rt
section
variable {p:af}{C:aI}(X:UQ)
def Sn{m:MV}{N:NM}{e:UL}(hR:bL p C m N e)(inp:UP)(hs:m.status=2\/m.status=3):cW prog 228 [mP N,aM eI 1 inp] e (.aQ []) e:=by
 have U1:=hR.ok.low;refine⟨?_,hR.ok,hR.ok,fun _ h=>h,qp hR rfl⟩;rcases hs with h|h
 all_goals
  refine aO (L:=ids e) func228 ntmps228 ?_ (hL:=rfl);generalize hB:ids e=B;refine fc ?_
  (have W:=jA U1 (jA hR.root (h));repeat' (first|refine aq fun K hK=>?_|refine ak ?_|(refine hK _ _ ?_;clear hK K)|(refine ao ?_ ?_<;>intro hc<;>try exact jz)|refine ap ?_|exact jI|(clear hK K)))
  exact eG hB hR.ok hR.ok (tl:=[]) (fun _=>rfl) dK []
def SX{inp:UP}{m m1:MV}{N:NM}{e:UL}(hR:bL p C m N e)(h1:1<=m.calls.length)(hb:Bd inp.length m)(VR:inp.length<=1000)(hC:C.entry.length<=1000)(hP:p.size.length<=1000)(hI:C.ins.length<=1000000)(P':¬(m.status=2\/m.status=3))(VF:0<=m.ah.at_/\m.ah.at_<=1000000)(XL:0<=m.time/\m.time<=1000000)
  (hg:bf p C inp m.eH m1) (YJ:m1.dF C) (hbv:m1.status=0->1<=m1.calls.length/\0<=m1.ah.at_/\m1.ah.at_<C.ins.length) (XM:-1<=m1.time/\m1.time<=1000000) :
  kY prog 228 [mP N,aM eI 1 inp] e X (.aQ []) (fun N' l=>bL p C m1.fD N' l/\N'.k=N.k/\Bd inp.length m1.fD):=by
 have U1:=hR.ok.low;have hT:=hR.ah h1;have Yx:=hR.mJ (m':={ m with status:=0 }) rfl rfl rfl;have ht:=uA Yx h1;have V2:=NO hR h1;have WG:Bd inp.length m.eH:=(hb.aX (c:={ m.ah with mark:=m.ah.at_,at_:=m.ah.at_+1 }) (hb.ah h1)).status 0 m.dn;have Vw:Up X e (bg (bg e (hn 3 N.k) (.var 166 (mE p C { m with status:=0 } N))) (hn 0 N.ah.c) (.var 174 (MV.cE { m.ah with mark:=m.ah.at_,at_:=m.ah.at_+1 } N.ah))):=by
  refine(Up.put _ (.inl ?_)).trans (Up.put _ (.inl ?_))
  ·rw[hR.root];simp
  ·rw[bS,if_neg (dj jB jB jB),hT.var];simp
 obtain⟨N1,l1,⟨VO,Vc,W4⟩,VW,hp⟩:=Ja X V2 WG VR hC hP hI hg YJ hbv;have Vu:=VO.ok.low;have Xn:=VO.root;rw[Vc]at Xn;by_cases hw:m1.status=1
 ·have et:m1.fD=m1:=by unfold MV.fD;rw[if_pos hw]
  rw[et];refine⟨N1,l1,⟨VO,Vc,W4⟩,Vw.trans VW,⟨?_,hR.ok,VO.ok,(Vw.trans VW).aY,qp hR rfl⟩⟩;clear Vw VW Yx V2;refine aO (L:=ids e) func228 ntmps228 ?_ (hL:=rfl);generalize hB:ids e=B;refine fc ?_
  (have W:=jA U1 (jA Vu (jA hR.root (jA hT.var (Xn))));repeat' (first|refine aq fun K hK=>?_|refine ak ?_|(refine hK _ _ ?_;clear hK K)|(refine ao ?_ ?_<;>intro hc<;>try exact jz)|refine cT ht ?_|refine cT hp ?_|refine ap ?_|exact jI|(clear hK K)))
  exact eG hB hR.ok VO.ok (tl:=[]) (fun _=>rfl) dK []
 ·have et:m1.fD={ m1 with time:=m1.time+1 }:=by unfold MV.fD;rw[if_neg hw]
  rw[et];have ZA:=VO.mJ (m':={ m1 with time:=m1.time+1 }) rfl rfl rfl;have hU3:Up X l1 (bg l1 (hn 3 N1.k) (.var 166 (mE p C { m1 with time:=m1.time+1 } N1))):=Up.put _ (.inl (by rw[VO.root];simp));refine⟨N1,_,⟨ZA,Vc,⟨W4.deep,W4.slots,W4.heap,W4.outs,W4.od,W4.oF⟩⟩,Vw.trans (VW.trans hU3),⟨?_,hR.ok,ZA.ok,(Vw.trans (VW.trans hU3)).aY,qp hR rfl⟩⟩;have k2:=ZA.ok;clear Vw VW hU3 Yx V2 ZA;generalize hE:bg l1 (hn 3 N1.k) (.var 166 (mE p C { m1 with time:=m1.time+1 } N1))=E at k2 ⊢;refine aO (L:=ids e) func228 ntmps228 ?_ (hL:=rfl);generalize hB:ids e=B;refine fc ?_
  (have W:=jA U1 (jA Vu (jA hR.root (jA hT.var (Xn))));repeat' (first|refine aq fun K hK=>?_|refine ak ?_|(refine hK _ _ ?_;clear hK K)|(refine ao ?_ ?_<;>intro hc<;>try exact jz)|refine cT ht ?_|refine cT hp ?_|refine ap ?_|exact jI|(clear hK K)))
  subst hE;refine eG hB hR.ok k2 (tl:=[]) (fun i=>?_) dK [];unfold mE;rw[Vc];rfl
end
end Go.Proofs.YtijdhbokcdpklaaGreatDoor
namespace Go.Proofs.YtijdhbokcdpklaaGreatDoor
open Go Go.Gd Tryz
def OC(x:Int):k9 (eI x)=true:=rfl
def TN(x:UR):k9 (eS x)=true:=rfl
def M6(i:Nat):ab prog 110 [] [] (fun r l=>r=.pt i 0 0 0/\l=[(i,.var 196 [.raw (.slice none 0 0),.raw (.slice none 0 0)])]):=by
 refine aO func110 ntmps110 ?_;refine S ?_
 (repeat' (first|refine aq fun K hK=>?_|refine ak ?_|(refine hK _ _ ?_;clear hK K)|(refine ao ?_ ?_<;>intro hc<;>try exact jz)|refine aV i ?_|refine ap ?_|exact jI|(clear hK K)))
 (refine bY [.tmp 0] ?_ ?_<;>(try simp only[go_sem]))
def Ub(h:UO)(hl:h.length<=1000)(hf:h.flatten.length<=1000):ab prog 89 [.pt 2 0 0 0] (gS h) (fun r l=>r=aM ta 1 h/\l=gS h):=by
 refine aO func89 ntmps89 ?_;refine S ?_
 (repeat' (first|refine aq fun K hK=>?_|refine ak ?_|(refine hK _ _ ?_;clear hK K)|(refine ao ?_ ?_<;>intro hc<;>try exact jz)|refine ap ?_|exact jI|(clear hK K)))
 refine jW (dT.nil 5 3 28 (sz:=1) rfl jC (Or.inl rfl)) ?_
 (refine S ?_;try exact jI)
 have Vb:=hK;clear hK;refine ee (S:=Nat) [(3,2),(10,12)] (fun k=>k<=h.length) (fun k=>[(3,.rs 5 k 1 k),(10,rI k)])
  (fun k=>⟨[2,3,4],gS h++[(5,.aG 28 1 ((h.take k).map ta))]⟩) (fun k=>h.length-k) 0 jB (dZ rfl cr) ?_
 rintro k hk Kr U5;by_cases I':k<h.length
 ·have Vn:=xf h k ((k:Int)+1) rfl hl hf I';have U6:=xM h (k+1);have hof:=vC I';have U4:=yu (nth h k) jB 6;have etk:h.take (k+1)=h.take k++[nth h k]:=by rw[List.take_succ,List.getElem?_eq_getElem I',fM I'];rfl
  refine S ?_
  (repeat' (first|refine aq fun K hK=>?_|refine ak ?_|(refine hK _ _ ?_;clear hK K)|(refine ao ?_ ?_<;>intro hc<;>try exact jz)|refine cm (Vn) ?_|refine CO 6 OC U4 rfl (fun w vs hw hv=>by have:=Ld (enc:=eI) h.flatten rfl rfl jB jC w vs hw hv;rw[On I']at this;exact this) ?_|refine ap ?_|exact jI|(clear hK K)))
  refine U5 _ _ (dY (k+1) jB (by show h.length-(k+1)<h.length-k;omega) (by rw[etk,List.map_append];rfl) cr)
 ·have Wy:k=h.length:=jB;subst Wy;refine S ?_
  (repeat' (first|refine aq fun K hK=>?_|refine ak ?_|(refine hK _ _ ?_;clear hK K)|(refine ao ?_ ?_<;>intro hc<;>try exact jz)|refine Vb _ _ ?_|refine ap ?_|exact jI|(clear hK K)))
  refine fH [.tmp 2] ?_;exact cY.row (enc:=ta) h rfl rfl rfl
end Go.Proofs.YtijdhbokcdpklaaGreatDoor
namespace Go.Proofs.YtijdhbokcdpklaaGreatDoor
open Go Go.Gd Tryz Go.Gd.MV
section
variable {p:af}{C:aI}(X:UQ)
def K4{m:MV}{N:NM}{e:UL}(hR:bL p C m N e)(hl:m.heap.length<=1000)(hf:m.heap.flatten.length<=1000):cW prog 89 [.pt (hn 5 N.k) 0 0 0] e (aM ta 1 m.heap) e:=
 hR.lf rfl rfl (Ub m.heap hl hf)
def KF{m:MV}{N:NM}{e:UL}(hR:bL p C m N e){k:Nat}(hk:k<m.calls.length):(List.map (fun j=>[AV.pt (hn 0 j) 0 0 0]) (List.map NC.c N.cs)++List.map (fun j=>[AV.pt (hn 0 j) 0 0 0]) N.cj).getD k []=[.pt (hn 0 (nth N.cs k).c) 0 0 0]:=by have hl:=hR.len;rw[<-List.map_append];rw[List.getD_eq_getElem?_getD,List.getElem?_map,List.getElem?_append_left (by rw[List.length_map];omega),List.getElem?_map,List.getElem?_eq_getElem jB,fM jB];rfl
structure uJ(C:aI)(m:MV):Prop where
 calls:m.calls.length<=8
 sel:∀k,k<m.calls.length->0<=m.fU k/\m.fU k<C.ins.length
 slots:∀k,k<m.calls.length->(nth m.calls k).slots.length<=24
 heap:gw m.heap<=40
 outs:m.bC.length<=24
 ins:C.ins.length<=1000000
def xh{m:MV}{N:NM}{e:UL}(hR:bL p C m N e)(hk:uJ C m):cW prog 63 [mP N] e (.agg (lQ (m.dJ C))) e:=by
 obtain⟨s1,s2,s3,s4,s5,s6⟩:=hk;rw[wJ]at s4;have U1:=hR.ok.low;have hl:=hR.len;have ZK:=K4 hR jB jB;have YL:=K2 m.bC jB 8;refine⟨?_,hR.ok,hR.ok,fun _ h=>h,qp hR rfl⟩;refine aO (L:=ids e) func63 ntmps63 ?_ (hL:=rfl);generalize hB:ids e=B;refine fc ?_
 (have W:=jA U1 (hR.root);repeat' (first|refine aq fun K hK=>?_|refine ak ?_|(with_reducible refine gR 1 ?_);refine dC 1 ([],[],[11,20]) [27] [0,1,2,3,5,6,7,8,9,10,11,12,14,15,16,17,18,19,20,21,22,23,24,25,4,13,26,27,28] mixed ?_|(refine hK _ _ ?_;clear hK K)|(refine ao ?_ ?_<;>intro hc<;>try exact jz)|refine cC 9 ?_|refine cC 10 ?_|refine oc ZK (fun _ _ _=>.inl rfl) ?_|refine QG 8 TN YL (by show aC (tie _ _) _=_;rw[kf,U1 _ jC];rfl) (DM m.bC (by show aC (tie _ _) _=_;rw[kf,hR.outs];rfl) rfl) ?_|refine ap ?_|exact jI|(clear hK K)))
 refine jW (dT.gl 11 10 0 179 3 (by show aC (tie _ _) _=_;rw[kf,U1 _ jC];rfl) jC (by show aC (tie _ _) _=_;rw[kf,U1 _ jC];rfl) rfl) ?_
 (have W:=jA U1 U1;refine S ?_;clear W;try exact jI)
 have Vb:=hK;clear hK;refine ee (S:=Nat) [(4,3),(39,46)] (fun i=>i<=m.calls.length) (fun i=>[(39,rI i)])
  (fun i=>⟨B,tie e [(9,.var 114 [.raw (.slice none 0 0),.raw (.slice none 0 0),.raw (.int .i64 0),.raw (.slice none 0 0),.raw (.int .i64 0),.raw (.int .i64 0),.raw (.int .i64 0)]),
   (10,.var 114 [.rs 11 i 3 i,aM ta 1 m.heap,.raw (.int .i64 m.in_),aM eS 1 m.bC,.raw (.int .i64 m.status),.raw (.int .i64 m.dn),.raw (.int .i64 m.time)]),(11,.aG 179 3 (((List.range i).map (m.spot C)).map rp))]⟩)
  (fun i=>m.calls.length-i) 0 jB (dZ rfl cr) ?_
 rintro i hi Kr U5;by_cases I':i<m.calls.length
 ·have Wj:=hR.call i I';have W8:=KF hR I';have V5:=s3 i I';obtain⟨a1,a2⟩:=s2 i I';have Yz:=Jr (nth m.calls i).slots jB 8;have hrg:List.range (i+1)=List.range i++[i]:=List.range_succ;have hlr:((List.range i).map (m.spot C)).length=i:=jE;have key:∀a:Int,m.fU i=a->nth C.ins a.toNat=nth C.ins (m.fU i).toNat:=fun a ha=>by rw[ha]
  unfold MV.fU at a1 a2;by_cases XE:(i:Int)=(m.calls.length:Int)-1
  ·have Wz:m.fU i=(nth m.calls i).at_:=by unfold MV.fU;rw[if_pos XE]
   rw[if_pos XE]at a1 a2;refine S ?_
   (have W:=jA U1 (jA hR.root (jA hR.row (jA W8 (jA Wj.var (hl)))));repeat' (first|refine aq fun K hK=>?_|refine ak ?_|(with_reducible refine gR 8 ?_);refine dC 8 ([],[79],[]) [] (ba 0 25) mixed ?_|(refine hK _ _ ?_;clear hK K)|(refine ao ?_ ?_<;>intro hc<;>try exact jz)|refine FN 8 zD Yz (by show aC (tie _ _) _=_;rw[kf,U1 _ jC];rfl) (DM (nth m.calls i).slots (by show aC (tie _ _) _=_;rw[kf,Wj.eZ];rfl) rfl) ?_|refine ap ?_|exact jI|(clear hK K)))
   refine U5 _ _ (dY (i+1) jB (by show m.calls.length-(i+1)<m.calls.length-i;omega) ?_ cr);rw[hrg,List.map_append,List.map_append,List.map_singleton,List.map_singleton];unfold MV.spot;rw[Wz];rfl
  ·have Wz:m.fU i=(nth m.calls i).mark:=by unfold MV.fU;rw[if_neg XE]
   rw[if_neg XE]at a1 a2;refine S ?_
   (have W:=jA U1 (jA hR.root (jA hR.row (jA W8 (jA Wj.var (hl)))));repeat' (first|refine aq fun K hK=>?_|refine ak ?_|(with_reducible refine gR 8 ?_);refine dC 8 ([],[79],[]) [] (ba 0 25) mixed ?_|(refine hK _ _ ?_;clear hK K)|(refine ao ?_ ?_<;>intro hc<;>try exact jz)|refine FN 8 zD Yz (by show aC (tie _ _) _=_;rw[kf,U1 _ jC];rfl) (DM (nth m.calls i).slots (by show aC (tie _ _) _=_;rw[kf,Wj.eZ];rfl) rfl) ?_|refine ap ?_|exact jI|(clear hK K)))
   refine U5 _ _ (dY (i+1) jB (by show m.calls.length-(i+1)<m.calls.length-i;omega) ?_ cr);rw[hrg,List.map_append,List.map_append,List.map_singleton,List.map_singleton];unfold MV.spot;rw[Wz];rfl
 ·have V3:i=m.calls.length:=jB;subst V3;refine S ?_
  (have W:=jA U1 hl;repeat' (first|refine aq fun K hK=>?_|refine ak ?_|(refine hK _ _ ?_;clear hK K)|(refine ao ?_ ?_<;>intro hc<;>try exact jz)|refine Vb _ _ ?_|refine ap ?_|exact jI|(clear hK K)))
  have h9:=U1 9 jC;have ZT:=U1 11 jC;refine Lq hB hR.ok hR.ok rfl (dq jC (dq jC (dq jC dK))) [.cell 2 114] ?_ (ho:=by simp(disch:=first|omega|assumption|fail) only[go_sem,↓reduceIte,h9];rfl) (hok:=by simp(disch:=first|omega|assumption|fail) only[go_sem,↓reduceIte,h9];first|done|decide|(repeat' (first|exact trivial|decide|(simp;done)|refine jA ?_ ?_)));have hlr:((List.range m.calls.length).map (m.spot C)).length=m.calls.length:=jE;exact bt.agg (ds:=lQ (m.dJ C)) (jA (cY.row (enc:=rp) ((List.range m.calls.length).map (m.spot C)) rfl (by show aC (tie _ _) _=_;rw[kf,ZT];rfl) hlr.symm) (jA (.same _ rfl) (jA (.same _ rfl) (jA (.same _ rfl) (jA (.same _ rfl) (jA (.same _ rfl) (jA (.same _ rfl) trivial)))))))
end
def Pc{p:af}(h:gi p):aB prog 112 [.agg (cf p)] (rI (ik p))/\pQ p (bA p) MV.mw (ik p) []:=by obtain⟨j,hj,Xj,Vd,haP⟩:=BZ h;have hfs:=h.ok.aa.aw;have hC:=rl h;have U':=h.ok.size;have U4:=hC.len;rw[Xj];refine⟨Tk j jB hj Vd fun i hi e=>(h.names.one i j hi hj (by rw[e,Vd])).elim,?_⟩;have hfj:=h.aw j hj;have hp:=hfj.vm;have hh:=hfj.hi;have ej:((j:Int)).toNat=j:=Int.toNat_natCast j;have h0:ik p=(j:Int):=Xj;exact⟨jB,jB,jB,by rw[ej];omega,by rw[ej];omega,by rw[ej];show(0:Int)<=_;omega,⟨jB,jB⟩,jC⟩
def NT{p:af}(hp:fg p)(X:UQ){m1:MV}(hg:bf p (bA p) [] (l4 p (bA p)) m1)(P':m1.dF (bA p))(VF:m1.status=0->1<=m1.calls.length/\0<=m1.ah.at_/\m1.ah.at_<(bA p).ins.length) :
  ∃N l,bL p (bA p) m1 N l/\(∀i,aC l i≠none->i ∉ X)/\Bd 0 m1/\ab prog 87 [.agg (cf p)] [] (fun r l'=>r=mP N/\l'=l):=by
 obtain⟨hmn,hbo⟩:=Pc hp.ok;have Za:=NH hp;have hC:=rl hp.ok;have hfs:=hp.ok.ok.aa.aw;have U4:=hC.len;have U':=hp.ok.ok.size;have WH:=hC.px;generalize bA p=C at*;have hk:=fun a=>CM X a 0
 generalize rm X+0=k at hk;have Yx:=M8 p C k;obtain⟨N1,l1,⟨V2,Vr⟩,Vw,We⟩:=Es X Yx (ik p) [] hbo;have e1:MV.mw.cR p C (ik p) []=l4 p C:=rfl;rw[e1]at V2;have WG:Bd 0 (l4 p C):=by
  refine⟨fun k hk=>?_,fun k hk=>?_,(by show gw []<=40;decide),(by show 0<=24;omega),(by show(0:Int)<=0;omega),(by show(0:Int)<=0;omega)⟩
  ·have:k+1<1:=hk;omega
  ·have:k<1:=hk;have:k=0:=jB;subst this;show(([]:List aj)++List.replicate _ v0).length<=24;have h1:=hbo.s1;simp only[List.nil_append,List.length_replicate,List.length_nil];omega
 obtain⟨N2,l2,⟨VO,Vc,W4⟩,VW,Yv⟩:=Ja (inp:=[]) X V2 WG jC jB jB WH hg P' VF;have eM:mP N1=mP ⟨k,[],[]⟩:=by unfold mP;rw[Vr]
 have eM2:mP N2=mP ⟨k,[],[]⟩:=by unfold mP;rw[Vc,Vr]
 rw[eM]at Yv;rw[show aM bW 3 []=(.sl false 3 [] (bW default):AV) from rfl]at We;have We:=We.args (args:=[mP ⟨k,[],[]⟩,rI (ik p),.raw (.slice none 0 0)]) (fun w vs hw hv=>wO hv (fun _ h=>h) fun us hu=>wO hu (fun _ h=>h) fun us hu=>wO hu (HC 3 _) (fun _ h=>h)) (qp Yx rfl);have Yv:=Yv.args (args:=[mP ⟨k,[],[]⟩,.raw (.slice none 0 0)]) (fun w vs hw hv=>wO hv (fun _ h=>h) fun us hu=>wO hu (HC 1 _) (fun _ h=>h)) (by have:=qp (N:=N1) V2 (l:=[.raw (.slice none 0 0)]) rfl;rw[eM]at this;exact this);refine⟨N2,l2,VO,fun i hi=>?_,W4,?_⟩
 ·rcases(Vw.trans VW).new i hi with h|h
  ·have hm:=(lH _ _).2 h;rw[AU]at hm;simp only[List.mem_cons,List.not_mem_nil,or_false]at hm;rcases hm with rfl|rfl|rfl|rfl|rfl|rfl<;>exact hk _
  ·exact h
 ·rw[eM2];have hhn:=M6 (hn 5 k);have eC:xJ C=[aM du 4 C.ins,aM eI 1 C.entry]:=rfl;rw[eC]at Za;rw[BK]at Za hmn ⊢;refine aO func87 ntmps87 ?_;have haQ:=Yx.ok.low;have Vu:=V2.ok.low;have Wx:=VO.ok.low
  (have W:=jA haQ (jA Vu (Wx));repeat' (first|(with_reducible refine gR 2 ?_);refine jW (Uy p C k _) ?_|refine aq fun K hK=>?_|refine ak ?_|(with_reducible refine gR 1 ?_);refine dC 1 ([],[6],[7]) [] (ba 0 7) mixed ?_|(refine hK _ _ ?_;clear hK K)|(refine ao ?_ ?_<;>intro hc<;>try exact jz)|refine aV 9 ?_|refine aV (hn 3 k) ?_|refine cq (Za) ?_|refine cN hhn ?_|refine cp (hmn) ?_|refine cT We ?_|refine cT Yv ?_|refine ap ?_|exact jI|(clear hK K)))
  exact eG (e:=[]) rfl ⟨fun _ _ _=>rfl,List.nodup_nil,fun i r h=>by cases h⟩ VO.ok (fun _=>rfl) (dq jC dK) [.tmp 2]
end Go.Proofs.YtijdhbokcdpklaaGreatDoor
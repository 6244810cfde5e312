/- Lemmas. No conditions. -/
import Derived.Test.YtjpcgmjaipfgdaaGreatDoorRpQ
set_option linter.all false
set_option maxHeartbeats 4000000
set_option maxRecDepth 10000
namespace Go.Gd
open Go
namespace MV
def je.vg{c:MC}{n:NC}{e l:UT}(h:je c n e)(hs:∀i r,aC e i=some r->aC l i=some r):je c n l:=⟨hs _ _ h.var,hs _ _ h.cO,hs _ _ h.ff,h.bd⟩
theorem bO.vg{p:ab}{C:aI}{m:MV}{N:NM}{e l:UT}(h:bO p C m N e)(hl:fQ 0 l)(hs:∀i r,aC e i=some r->aC l i=some r):bO p C m N l:=
 ⟨hl,hs _ _ h.root,hs _ _ h.row,hs _ _ h.hp,hs _ _ h.cells,hs _ _ h.ends,hs _ _ h.outs,h.len,fun k hk=>(h.call k hk).vg hs,h.nc,h.nv,h.bd⟩
end MV
theorem G0:∀(m l:UT),(ids l).Nodup->(ids (gI l m)).Nodup
 |[],_,h=>h
 |(i,r)::m,l,h=>G0 m _ (DY l i r h)
variable{s' E:UT}
def wJ(h:(ids s').Nodup)(i:Nat):aC (gI E s') i=(aC s' i).or (aC E i):=uM _ _ _ (fun _ _ _=>trivial) h
def fQ.DZ(hE:fQ 0 E)(h:fQ 0 s'):fQ 0 (gI E s'):=by
 have hm:∀j,(ids s').contains j=true\/(ids E).contains j=true->(ids (gI E s')).contains j=true:=fun j hj=>by
  rw[List.contains_iff_mem,lT,wJ h.nodup];rcases hj with hj|hj
  ·have:=(lT s' j).1 (List.contains_iff_mem.1 hj);cases e:aC s' j with
   |none=>exact(this e).elim
   |some r=>simp
  ·have:=(lT E j).1 (List.contains_iff_mem.1 hj);cases e:aC s' j with
   |none=>simpa using this
   |some r=>simp
 refine⟨fun j h1 h2=>by rw[wJ h.nodup,h.no j h1 h2,hE.no j h1 h2];rfl,G0 _ _ hE.nodup,fun j r hj=>?_⟩;rw[wJ h.nodup]at hj;cases e:aC s' j with
 |some r'=>rw[e]at hj;cases hj;exact gf (fun k hk=>hm k (.inl hk)) _ (h.closed j _ e)
 |none=>rw[e,Option.none_or]at hj;exact gf (fun k hk=>hm k (.inr hk)) _ (hE.closed j _ hj)
theorem de.more{P:U6}{f:FuncId}{args:UU}{s s' E:UT}{r0:AV}(h:de P f args s r0 s')(hE:fQ 0 E)(hs:∀i r,aC s i=some r->aC E i=some r)(hn:∀i,aC s' i≠none->aC s i≠none\/aC E i=none):de P f args E r0 (gI E s'):=by
 have hc:=af.more h.c hs h.a h.e1.closed (fun r l ⟨_,e⟩=>⟨by rw[e];exact h.e2.nodup,fun i hi=>hn i (e ▸ hi)⟩);refine⟨fun w vs hw hv=>(hc w vs hw hv).mono ?_,hE,hE.DZ h.e2,fun i hi=>?_,gf (fun j hj=>?_) _ h.a⟩
 ·rintro e W ⟨v,r,H',w',a,b,⟨l0,⟨c1,c2⟩,c3⟩,d⟩;exact⟨v,r,H',w',a,b,⟨c1,by rw[c3,c2]⟩,d⟩
 ·rw[wJ h.e2.nodup];cases e:aC s' i with
  |none=>simpa using hi
  |some r=>simp
 ·rw[List.contains_iff_mem,lT]at hj ⊢;cases e:aC s j with
  |none=>exact(hj e).elim
  |some r=>rw[hs j r e];simp
end Go.Gd
namespace Go.Proofs.YtjpcgmjaipfgdaaGreatDoor
open Go Go.Gd Tryz Go.Gd.MV
section
variable {p:ab}{C:aI}
def EL{m:MV}(h:MI p C m){k:Nat}(hk:k<m.calls.length):mc p (nth m.calls k)/\ua p C (nth m.calls k).fn.toNat (m.fW k):=by
 have h2:m.status≠2:=fun e=>by have:=h.xt e;omega
 obtain⟨h1,hf,_,hm⟩:=h.ah h2;unfold MV.fW;by_cases hl:(k:Int)=(m.calls.length:Int)-1
 ·have ek:k=m.calls.length-1:=jB;have et:nth m.calls k=m.ah:=by rw[ek];rfl
  rw[if_pos hl,et];exact⟨hf,hm⟩
 ·rw[if_neg hl];have:=h.low k jB;exact⟨this.1,this.2.mark⟩
def zZ{m:MV}(h:MI p C m){n:Nat}(hb:Bd n m)(hC:C.ins.length<=1000000):uQ C m:=
 ⟨h.dY,fun k hk=>by obtain⟨_,k0,n,a,e,hm⟩:=EL h hk;have:=hm.head.1;rw[e];omega,hb.slots,h.cells,hb.outs,hC⟩
structure yd(p:ab)(s:gr):Prop where
 f0:0<=s.fn
 f1:s.fn<p.aa.ao.length
 sl:(s.slots.length:Int)=nth p.size s.fn.toNat
 rg:pH s.slots
 n0:0<=s.node
 n1:s.node.toNat<p.aa.nodes.length
 st:fF (bX p.aa.nodes s.node)
 in_:jy p s.fn.toNat s.node
def zc{m:MV}(h:MI p C m){k:Nat}(hk:k<m.calls.length):yd p (m.spot C k):=by
 obtain⟨hf,k0,n,a,e,hm⟩:=EL h hk;have hx:=hm.head.2;have en:(m.spot C k).node=a:=by show(nth C.ins (m.fW k).toNat).a=a;rw[e,Int.toNat_natCast,hx];rfl
 exact⟨hf.f0,hf.f1,hf.sl,hf.rg,by rw[en];exact hm.h0,by rw[en];exact hm.hl,by rw[en];exact hm.hk,by rw[en];exact hm.hi⟩
end
variable{F:UY->MV->MV}{inp:UY}
def OK{p:ab}(hs:fO p)(hF:cU p (bQ p) F)(hn:inp.length<=1000)(hi:∀x∈inp,bz x){m:MV}{N:NM}{e:UT}(hR:bO p (bQ p) m N e)(h:MI p (bQ p) m)(hb:Bd inp.length m)(ht:0<=m.time/\m.time<=100000)(X:UZ) :
  k6 prog 117 [mP N,aM eI 1 inp] e X (.ba []) (fun N' l=>bO p (bQ p) (F inp m) N' l/\N'.k=N.k/\Bd inp.length (F inp m)):=by
 by_cases h2:m.halt
 ·rw[hF.still inp m h2];exact⟨N,e,⟨hR,rfl,hb⟩,Up.refl _ _,OH hR inp h2⟩
 ·have hC:=rq hs;obtain⟨m1,hg,⟨P',h1,XR⟩,e1⟩:=hF.step inp hi m h h2;have Vf:=hC.len;have hfs:=hs.ok.aa.ao;have Vi:=hs.ok.size;obtain⟨hl,_,_,k0,n,a,ek,hm⟩:=h.ah (fun e=>h2 (.inl e));have Vo:=hm.head.1;have WN:=hC.pK;rw[e1];exact SJ X hR hl hb hn jB jB WN h2 jB jB hg P' (fun e0=>by obtain⟨hl,_,_,k0,n,a,ek,hm⟩:=h1.ah jB;have Vo:=hm.head.1;exact⟨hl,jB,jB⟩) jB
section
variable {p:ab}{C:aI}
end
section
variable {p:ab}{C:aI}
end
instance (m:MV)(C:aI):Decidable (m.dG C):=inferInstanceAs (Decidable (m.status≠0\/(m.bh C).op=1))
def pL(p:ab)(C:aI)(inp:UY):Nat->MV->MV
 |0,m=>m
 |n+1,m=>if m.dG C then m else pL p C inp n (m.one p C inp)
def Ea{p:ab}{C:aI}{n:Nat}{m a:MV}(h:eo p C inp n m a):a.dG C->∀k,(pL p C inp k m).dG C->pL p C inp k m=a:=by
 induction h with
 |refl m=>
  intro ha k _;cases k with
  |zero=>rfl
  |succ k=>unfold pL;rw[if_pos ha]
 |step h0 h1 hok h ih=>
  intro ha k hk;have hns:∀{m:MV},m.status=0->(m.bh C).op≠1->¬m.dG C:=fun a b c=>c.elim (fun c=>c a) b
  cases k with
  |zero=>exact(hns h0 h1 hk).elim
  |succ k=> unfold pL at hk ⊢;rw[if_neg (hns h0 h1)]at hk ⊢;exact ih ha k hk
def Uh{p:ab}{C:aI}(hF:cU p C F)(hi:∀x∈inp,bz x){m:MV}(h:MI p C m)(hh:¬m.halt)(k:Nat)(hk:(pL p C inp k m.eu).dG C):F inp m=(pL p C inp k m.eu).fC:=by obtain⟨m1,⟨n,hg⟩,⟨P',_,_⟩,e⟩:=hF.step inp hi m h hh;rw[e,Ea hg P' k hk]
end Go.Proofs.YtjpcgmjaipfgdaaGreatDoor
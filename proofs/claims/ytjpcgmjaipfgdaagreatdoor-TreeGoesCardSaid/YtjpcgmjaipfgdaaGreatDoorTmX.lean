/- Lemmas. No conditions. -/
import Derived.Test.YtjpcgmjaipfgdaaGreatDoorRpQ
set_option linter.all false
set_option maxHeartbeats 4000000
set_option maxRecDepth 10000
namespace Go.Gd
open Go
namespace MV
def iM.vD{c:MC}{n:NC}{e l:TA}(h:iM c n e)(hs:∀i r,aA e i=some r->aA l i=some r):iM c n l:=⟨hs _ _ h.var,hs _ _ h.cF,hs _ _ h.eN,h.bd⟩
theorem bH.vD{p:af}{C:aH}{m:MV}{N:NM}{e l:TA}(h:bH p C m N e)(hl:fO 0 l)(hs:∀i r,aA e i=some r->aA l i=some r):bH p C m N l:=
 ⟨hl,hs _ _ h.root,hs _ _ h.row,hs _ _ h.hp,hs _ _ h.cells,hs _ _ h.ends,hs _ _ h.outs,h.len,fun k hk=>(h.call k hk).vD hs,h.nc,h.nv,h.bd⟩
end MV
theorem HG:∀(m l:TA),(ids l).Nodup->(ids (gu l m)).Nodup
 |[],_,h=>h
 |(i,r)::m,l,h=>HG m _ (CM l i r h)
variable{s' E:TA}
def vy(h:(ids s').Nodup)(i:Nat):aA (gu E s') i=(aA s' i).or (aA E i):=ut _ _ _ (fun _ _ _=>trivial) h
def fO.Bq(hE:fO 0 E)(h:fO 0 s'):fO 0 (gu E s'):=by
 have hm:∀j,(ids s').contains j=true\/(ids E).contains j=true->(ids (gu E s')).contains j=true:=fun j hj=>by
  rw[List.contains_iff_mem,lA,vy h.nodup];rcases hj with hj|hj
  ·have:=(lA s' j).1 (List.contains_iff_mem.1 hj);cases e:aA s' j with
   |none=>exact(this e).elim
   |some r=>simp
  ·have:=(lA E j).1 (List.contains_iff_mem.1 hj);cases e:aA s' j with
   |none=>simpa using this
   |some r=>simp
 refine⟨fun j h1 h2=>by rw[vy h.nodup,h.no j h1 h2,hE.no j h1 h2];rfl,HG _ _ hE.nodup,fun j r hj=>?_⟩;rw[vy h.nodup]at hj;cases e:aA s' j with
 |some r'=>rw[e]at hj;cases hj;exact fT (fun k hk=>hm k (.inl hk)) _ (h.closed j _ e)
 |none=>rw[e,Option.none_or]at hj;exact fT (fun k hk=>hm k (.inr hk)) _ (hE.closed j _ hj)
theorem cV.more{P:TL}{f:FuncId}{args:TB}{s s' E:TA}{r0:AV}(h:cV P f args s r0 s')(hE:fO 0 E)(hs:∀i r,aA s i=some r->aA E i=some r)(hn:∀i,aA s' i≠none->aA s i≠none\/aA E i=none):cV P f args E r0 (gu E s'):=by
 have hc:=ab.more h.c hs h.a h.e1.closed (fun r l ⟨_,e⟩=>⟨by rw[e];exact h.e2.nodup,fun i hi=>hn i (e ▸ hi)⟩);refine⟨fun w vs hw hv=>(hc w vs hw hv).mono ?_,hE,hE.Bq h.e2,fun i hi=>?_,fT (fun j hj=>?_) _ h.a⟩
 ·rintro e W ⟨v,r,H',w',a,b,⟨l0,⟨c1,c2⟩,c3⟩,d⟩;exact⟨v,r,H',w',a,b,⟨c1,by rw[c3,c2]⟩,d⟩
 ·rw[vy h.e2.nodup];cases e:aA s' i with
  |none=>simpa using hi
  |some r=>simp
 ·rw[List.contains_iff_mem,lA]at hj ⊢;cases e:aA s j with
  |none=>exact(hj e).elim
  |some r=>rw[hs j r e];simp
end Go.Gd
namespace Go.Proofs.YtjpcgmjaipfgdaaGreatDoor
open Go Go.Gd Tryz Go.Gd.MV
section
variable {p:af}{C:aH}
def DH{m:MV}(h:MI p C m){k:Nat}(hk:k<m.calls.length):lS p (nth m.calls k)/\th p C (nth m.calls k).fn.toNat (m.fN k):=by
 have h2:m.status≠2:=fun e=>by have:=h.wR e;omega
 obtain⟨h1,hf,_,hm⟩:=h.ah h2;unfold MV.fN;by_cases hl:(k:Int)=(m.calls.length:Int)-1
 ·have ek:k=m.calls.length-1:=jB;have et:nth m.calls k=m.ah:=by rw[ek];rfl
  rw[if_pos hl,et];exact⟨hf,hm⟩
 ·rw[if_neg hl];have:=h.low k jB;exact⟨this.1,this.2.mark⟩
def zt{m:MV}(h:MI p C m){n:Nat}(hb:Bd n m)(hC:C.ins.length<=1000000):uw C m:=
 ⟨h.dR,fun k hk=>by obtain⟨_,k0,n,a,e,hm⟩:=DH h hk;have:=hm.head.1;rw[e];omega,hb.slots,h.cells,hb.outs,hC⟩
structure wk(p:af)(s:mm):Prop where
 f0:0<=s.fn
 f1:s.fn<p.aa.av.length
 sl:(s.slots.length:Int)=nth p.size s.fn.toNat
 rg:rK s.slots
 n0:0<=s.node
 n1:s.node.toNat<p.aa.nodes.length
 st:fu (bX p.aa.nodes s.node)
 in_:jd p s.fn.toNat s.node
def JH{m:MV}(h:MI p C m){k:Nat}(hk:k<m.calls.length):wk p (m.spot C k):=by
 obtain⟨hf,k0,n,a,e,hm⟩:=DH h hk;have hx:=hm.head.2;have en:(m.spot C k).node=a:=by show(nth C.ins (m.fN k).toNat).a=a;rw[e,Int.toNat_natCast,hx];rfl
 exact⟨hf.f0,hf.f1,hf.sl,hf.rg,by rw[en];exact hm.h0,by rw[en];exact hm.hl,by rw[en];exact hm.hk,by rw[en];exact hm.hi⟩
end
variable{F:TD->MV->MV}{inp:TD}
def Nt{p:af}(hs:gk p)(hF:bQ p (cf p) F)(hn:inp.length<=1000)(hi:∀x∈inp,cn x){m:MV}{N:NM}{e:TA}(hR:bH p (cf p) m N e)(h:MI p (cf p) m)(hb:Bd inp.length m)(ht:0<=m.time/\m.time<=100000)(X:TE) :
  kJ prog 117 [mP N,aM eI 1 inp] e X (.aP []) (fun N' l=>bH p (cf p) (F inp m) N' l/\N'.k=N.k/\Bd inp.length (F inp m)):=by
 by_cases h2:m.halt
 ·rw[hF.still inp m h2];exact⟨N,e,⟨hR,rfl,hb⟩,Up.refl _ _,MH hR inp h2⟩
 ·have hC:=qy hs;obtain⟨m1,hg,⟨P',h1,Wy⟩,e1⟩:=hF.step inp hi m h h2;have Tc:=hC.len;have hfs:=hs.ok.aa.av;have Ti:=hs.ok.size;obtain⟨hl,_,_,k0,n,a,ek,hm⟩:=h.ah (fun e=>h2 (.inl e));have Tt:=hm.head.1;have U2:=hC.oS;rw[e1];exact Oa X hR hl hb hn jB jB U2 h2 jB jB hg P' (fun e0=>by obtain⟨hl,_,_,k0,n,a,ek,hm⟩:=h1.ah jB;have Tt:=hm.head.1;exact⟨hl,jB,jB⟩) jB
instance (m:MV)(C:aH):Decidable (m.dG C):=inferInstanceAs (Decidable (m.status≠0\/(m.bn C).op=1))
def oP(p:af)(C:aH)(inp:TD):Nat->MV->MV
 |0,m=>m
 |n+1,m=>if m.dG C then m else oP p C inp n (m.one p C inp)
def Ik{p:af}{C:aH}{n:Nat}{m a:MV}(h:fA p C inp n m a):a.dG C->∀k,(oP p C inp k m).dG C->oP p C inp k m=a:=by
 induction h with
 |refl m=>
  intro ha k _;cases k with
  |zero=>rfl
  |succ k=>unfold oP;rw[if_pos ha]
 |step h0 h1 hok h ih=>
  intro ha k hk;have hns:∀{m:MV},m.status=0->(m.bn C).op≠1->¬m.dG C:=fun a b c=>c.elim (fun c=>c a) b
  cases k with
  |zero=>exact(hns h0 h1 hk).elim
  |succ k=> unfold oP at hk ⊢;rw[if_neg (hns h0 h1)]at hk ⊢;exact ih ha k hk
def PL{p:af}{C:aH}(hF:bQ p C F)(hi:∀x∈inp,cn x){m:MV}(h:MI p C m)(hh:¬m.halt)(k:Nat)(hk:(oP p C inp k m.dW).dG C):F inp m=(oP p C inp k m.dW).fv:=by obtain⟨m1,⟨n,hg⟩,⟨P',_,_⟩,e⟩:=hF.step inp hi m h hh;rw[e,Ik hg P' k hk]
end Go.Proofs.YtjpcgmjaipfgdaaGreatDoor
/- Lemmas. No conditions. -/
import Derived.Test.YtjpcgmjaipfgdaaGreatDoorRpQ
set_option linter.all false
set_option maxHeartbeats 4000000
set_option maxRecDepth 10000
namespace Go.Gd
open Go
namespace MV
def iM.uI{c:MC}{n:NC}{e l:TD}(h:iM c n e)(hs:∀i r,aA e i=some r->aA l i=some r):iM c n l:=⟨hs _ _ h.var,hs _ _ h.cC,hs _ _ h.eQ,h.bd⟩
theorem bJ.uI{p:af}{C:aI}{m:MV}{N:NM}{e l:TD}(h:bJ p C m N e)(hl:fI 0 l)(hs:∀i r,aA e i=some r->aA l i=some r):bJ p C m N l:=
 ⟨hl,hs _ _ h.root,hs _ _ h.row,hs _ _ h.hp,hs _ _ h.cells,hs _ _ h.ends,hs _ _ h.outs,h.len,fun k hk=>(h.call k hk).uI hs,h.nc,h.nv,h.bd⟩
end MV
theorem EG:∀(m l:TD),(ids l).Nodup->(ids (gx l m)).Nodup
 |[],_,h=>h
 |(i,r)::m,l,h=>EG m _ (CI l i r h)
variable{s' E:TD}
def uQ(h:(ids s').Nodup)(i:Nat):aA (gx E s') i=(aA s' i).or (aA E i):=ux _ _ _ (fun _ _ _=>trivial) h
def fI.Bc(hE:fI 0 E)(h:fI 0 s'):fI 0 (gx E s'):=by
 have hm:∀j,(ids s').contains j=true\/(ids E).contains j=true->(ids (gx E s')).contains j=true:=fun j hj=>by
  rw[List.contains_iff_mem,lr,uQ h.nodup];rcases hj with hj|hj
  ·have:=(lr s' j).1 (List.contains_iff_mem.1 hj);cases e:aA s' j with
   |none=>exact(this e).elim
   |some r=>simp
  ·have:=(lr E j).1 (List.contains_iff_mem.1 hj);cases e:aA s' j with
   |none=>simpa using this
   |some r=>simp
 refine⟨fun j h1 h2=>by rw[uQ h.nodup,h.no j h1 h2,hE.no j h1 h2];rfl,EG _ _ hE.nodup,fun j r hj=>?_⟩;rw[uQ h.nodup]at hj;cases e:aA s' j with
 |some r'=>rw[e]at hj;cases hj;exact fS (fun k hk=>hm k (.inl hk)) _ (h.closed j _ e)
 |none=>rw[e,Option.none_or]at hj;exact fS (fun k hk=>hm k (.inr hk)) _ (hE.closed j _ hj)
theorem cU.more{P:TO}{f:FuncId}{args:TE}{s s' E:TD}{r0:AV}(h:cU P f args s r0 s')(hE:fI 0 E)(hs:∀i r,aA s i=some r->aA E i=some r)(hn:∀i,aA s' i≠none->aA s i≠none\/aA E i=none):cU P f args E r0 (gx E s'):=by
 have hc:=ab.more h.c hs h.a h.e1.closed (fun r l ⟨_,e⟩=>⟨by rw[e];exact h.e2.nodup,fun i hi=>hn i (e ▸ hi)⟩);refine⟨fun w vs hw hv=>(hc w vs hw hv).mono ?_,hE,hE.Bc h.e2,fun i hi=>?_,fS (fun j hj=>?_) _ h.a⟩
 ·rintro e W ⟨v,r,H',w',a,b,⟨l0,⟨c1,c2⟩,c3⟩,d⟩;exact⟨v,r,H',w',a,b,⟨c1,by rw[c3,c2]⟩,d⟩
 ·rw[uQ h.e2.nodup];cases e:aA s' i with
  |none=>simpa using hi
  |some r=>simp
 ·rw[List.contains_iff_mem,lr]at hj ⊢;cases e:aA s j with
  |none=>exact(hj e).elim
  |some r=>rw[hs j r e];simp
end Go.Gd
namespace Go.Proofs.YtjpcgmjaipfgdaaGreatDoor
open Go Go.Gd Tryz Go.Gd.MV
section
variable {p:af}{C:aI}
def D2{m:MV}(h:MI p C m){k:Nat}(hk:k<m.calls.length):lZ p (nth m.calls k)/\uC p C (nth m.calls k).fn.toNat (m.fQ k):=by
 have h2:m.status≠2:=fun e=>by have:=h.xf e;omega
 obtain⟨h1,hf,_,hm⟩:=h.ah h2;unfold MV.fQ;by_cases hl:(k:Int)=(m.calls.length:Int)-1
 ·have ek:k=m.calls.length-1:=jB;have et:nth m.calls k=m.ah:=by rw[ek];rfl
  rw[if_pos hl,et];exact⟨hf,hm⟩
 ·rw[if_neg hl];have:=h.low k jB;exact⟨this.1,this.2.mark⟩
def zP{m:MV}(h:MI p C m){n:Nat}(hb:Bd n m)(hC:C.ins.length<=1000000):um C m:=
 ⟨h.dR,fun k hk=>by obtain⟨_,k0,n,a,e,hm⟩:=D2 h hk;have:=hm.head.1;rw[e];omega,hb.slots,h.cells,hb.outs,hC⟩
structure xz(p:af)(s:mj):Prop where
 f0:0<=s.fn
 f1:s.fn<p.aa.aw.length
 sl:(s.slots.length:Int)=nth p.size s.fn.toNat
 rg:q9 s.slots
 n0:0<=s.node
 n1:s.node.toNat<p.aa.nodes.length
 st:fw (bW p.aa.nodes s.node)
 in_:jd p s.fn.toNat s.node
def S1{m:MV}(h:MI p C m){k:Nat}(hk:k<m.calls.length):xz p (m.spot C k):=by
 obtain⟨hf,k0,n,a,e,hm⟩:=D2 h hk;have hx:=hm.head.2;have en:(m.spot C k).node=a:=by show(nth C.ins (m.fQ k).toNat).a=a;rw[e,Int.toNat_natCast,hx];rfl
 exact⟨hf.f0,hf.f1,hf.sl,hf.rg,by rw[en];exact hm.h0,by rw[en];exact hm.hl,by rw[en];exact hm.hk,by rw[en];exact hm.hi⟩
end
variable{F:TG->MV->MV}{inp:TG}
def MK{p:af}(hs:gj p)(hF:bQ p (ci p) F)(hn:inp.length<=1000)(hi:∀x∈inp,cf x){m:MV}{N:NM}{e:TD}(hR:bJ p (ci p) m N e)(h:MI p (ci p) m)(hb:Bd inp.length m)(ht:0<=m.time/\m.time<=100000)(X:TH) :
  kK prog 117 [mP N,aO eI 1 inp] e X (.aQ []) (fun N' l=>bJ p (ci p) (F inp m) N' l/\N'.k=N.k/\Bd inp.length (F inp m)):=by
 by_cases h2:m.halt
 ·rw[hF.still inp m h2];exact⟨N,e,⟨hR,rfl,hb⟩,Up.refl _ _,LN hR inp h2⟩
 ·have hC:=rG hs;obtain⟨m1,hg,⟨P',h1,WU⟩,e1⟩:=hF.step inp hi m h h2;have Tx:=hC.len;have hfs:=hs.ok.aa.aw;have TU:=hs.ok.size;obtain⟨hl,_,_,k0,n,a,ek,hm⟩:=h.ah (fun e=>h2 (.inl e));have TZ:=hm.head.1;have Vo:=hC.pj;rw[e1];exact O5 X hR hl hb hn jB jB Vo h2 jB jB hg P' (fun e0=>by obtain⟨hl,_,_,k0,n,a,ek,hm⟩:=h1.ah jB;have TZ:=hm.head.1;exact⟨hl,jB,jB⟩) jB
instance (m:MV)(C:aI):Decidable (m.dw C):=inferInstanceAs (Decidable (m.status≠0\/(m.bn C).op=1))
def pc(p:af)(C:aI)(inp:TG):Nat->MV->MV
 |0,m=>m
 |n+1,m=>if m.dw C then m else pc p C inp n (m.one p C inp)
def HG{p:af}{C:aI}{n:Nat}{m a:MV}(h:fh p C inp n m a):a.dw C->∀k,(pc p C inp k m).dw C->pc p C inp k m=a:=by
 induction h with
 |refl m=>
  intro ha k _;cases k with
  |zero=>rfl
  |succ k=>unfold pc;rw[if_pos ha]
 |step h0 h1 hok h ih=>
  intro ha k hk;have hns:∀{m:MV},m.status=0->(m.bn C).op≠1->¬m.dw C:=fun a b c=>c.elim (fun c=>c a) b
  cases k with
  |zero=>exact(hns h0 h1 hk).elim
  |succ k=> unfold pc at hk ⊢;rw[if_neg (hns h0 h1)]at hk ⊢;exact ih ha k hk
def Q8{p:af}{C:aI}(hF:bQ p C F)(hi:∀x∈inp,cf x){m:MV}(h:MI p C m)(hh:¬m.halt)(k:Nat)(hk:(pc p C inp k m.dX).dw C):F inp m=(pc p C inp k m.dX).fz:=by obtain⟨m1,⟨n,hg⟩,⟨P',_,_⟩,e⟩:=hF.step inp hi m h hh;rw[e,HG hg P' k hk]
end Go.Proofs.YtjpcgmjaipfgdaaGreatDoor
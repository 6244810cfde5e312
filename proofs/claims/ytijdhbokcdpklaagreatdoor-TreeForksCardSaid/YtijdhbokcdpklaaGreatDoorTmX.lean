/- Lemmas. No conditions. -/
import Derived.Test.YtijdhbokcdpklaaGreatDoorRpQ
set_option linter.all false
set_option maxHeartbeats 4000000
set_option maxRecDepth 10000
namespace Go.Gd
open Go
namespace MV
def iP.vE{c:MC}{n:NC}{e l:UD}(h:iP c n e)(hs:∀i r,aA e i=some r->aA l i=some r):iP c n l:=⟨hs _ _ h.var,hs _ _ h.cI,hs _ _ h.eT,h.bd⟩
theorem bL.vE{p:af}{C:aI}{m:MV}{N:NM}{e l:UD}(h:bL p C m N e)(hl:fQ 0 l)(hs:∀i r,aA e i=some r->aA l i=some r):bL p C m N l:=
 ⟨hl,hs _ _ h.root,hs _ _ h.row,hs _ _ h.hp,hs _ _ h.cells,hs _ _ h.ends,hs _ _ h.outs,h.len,fun k hk=>(h.call k hk).vE hs,h.nc,h.nv,h.bd⟩
end MV
theorem EB:∀(m l:UD),(ids l).Nodup->(ids (gF l m)).Nodup
 |[],_,h=>h
 |(i,r)::m,l,h=>EB m _ (CC l i r h)
variable{s' E:UD}
def u9(h:(ids s').Nodup)(i:Nat):aA (gF E s') i=(aA s' i).or (aA E i):=uf _ _ _ (fun _ _ _=>trivial) h
def fQ.Bu(hE:fQ 0 E)(h:fQ 0 s'):fQ 0 (gF E s'):=by
 have hm:∀j,(ids s').contains j=true\/(ids E).contains j=true->(ids (gF E s')).contains j=true:=fun j hj=>by
  rw[List.contains_iff_mem,lJ,u9 h.nodup];rcases hj with hj|hj
  ·have:=(lJ s' j).1 (List.contains_iff_mem.1 hj);cases e:aA s' j with
   |none=>exact(this e).elim
   |some r=>simp
  ·have:=(lJ E j).1 (List.contains_iff_mem.1 hj);cases e:aA s' j with
   |none=>simpa using this
   |some r=>simp
 refine⟨fun j h1 h2=>by rw[u9 h.nodup,h.no j h1 h2,hE.no j h1 h2];rfl,EB _ _ hE.nodup,fun j r hj=>?_⟩;rw[u9 h.nodup]at hj;cases e:aA s' j with
 |some r'=>rw[e]at hj;cases hj;exact fV (fun k hk=>hm k (.inl hk)) _ (h.closed j _ e)
 |none=>rw[e,Option.none_or]at hj;exact fV (fun k hk=>hm k (.inr hk)) _ (hE.closed j _ hj)
theorem cW.more{P:UP}{f:FuncId}{args:UE}{s s' E:UD}{r0:AV}(h:cW P f args s r0 s')(hE:fQ 0 E)(hs:∀i r,aA s i=some r->aA E i=some r)(hn:∀i,aA s' i≠none->aA s i≠none\/aA E i=none):cW P f args E r0 (gF E s'):=by
 have hc:=ab.more h.c hs h.a h.e1.closed (fun r l ⟨_,e⟩=>⟨by rw[e];exact h.e2.nodup,fun i hi=>hn i (e ▸ hi)⟩);refine⟨fun w vs hw hv=>(hc w vs hw hv).mono ?_,hE,hE.Bu h.e2,fun i hi=>?_,fV (fun j hj=>?_) _ h.a⟩
 ·rintro e W ⟨v,r,H',w',a,b,⟨l0,⟨c1,c2⟩,c3⟩,d⟩;exact⟨v,r,H',w',a,b,⟨c1,by rw[c3,c2]⟩,d⟩
 ·rw[u9 h.e2.nodup];cases e:aA s' i with
  |none=>simpa using hi
  |some r=>simp
 ·rw[List.contains_iff_mem,lJ]at hj ⊢;cases e:aA s j with
  |none=>exact(hj e).elim
  |some r=>rw[hs j r e];simp
end Go.Gd
namespace Go.Proofs.YtijdhbokcdpklaaGreatDoor
open Go Go.Gd Tryz Go.Gd.MV
section
variable {p:af}{C:aI}
def Gz{m:MV}(h:MI p C m){k:Nat}(hk:k<m.calls.length):l6 p (nth m.calls k)/\ui p C (nth m.calls k).fn.toNat (m.fN k):=by
 have h2:m.status≠2:=fun e=>by have:=h.wB e;omega
 obtain⟨h1,hf,_,hm⟩:=h.ah h2;unfold MV.fN;by_cases hl:(k:Int)=(m.calls.length:Int)-1
 ·have ek:k=m.calls.length-1:=jB;have et:nth m.calls k=m.ah:=by rw[ek];rfl
  rw[if_pos hl,et];exact⟨hf,hm⟩
 ·rw[if_neg hl];have:=h.low k jB;exact⟨this.1,this.2.mark⟩
def yX{m:MV}(h:MI p C m){n:Nat}(hb:Bd n m)(hC:C.ins.length<=1000000):uA C m:=
 ⟨h.dX,fun k hk=>by obtain⟨_,k0,n,a,e,hm⟩:=Gz h hk;have:=hm.head.1;rw[e];omega,hb.slots,h.cells,hb.outs,hC⟩
structure ya(p:af)(s:ma):Prop where
 f0:0<=s.fn
 f1:s.fn<p.aa.aw.length
 sl:(s.slots.length:Int)=nth p.size s.fn.toNat
 rg:qX s.slots
 n0:0<=s.node
 n1:s.node.toNat<p.aa.nodes.length
 st:fC (bX p.aa.nodes s.node)
 in_:jo p s.fn.toNat s.node
def Mg{m:MV}(h:MI p C m){k:Nat}(hk:k<m.calls.length):ya p (m.spot C k):=by
 obtain⟨hf,k0,n,a,e,hm⟩:=Gz h hk;have hx:=hm.head.2;have en:(m.spot C k).node=a:=by show(nth C.ins (m.fN k).toNat).a=a;rw[e,Int.toNat_natCast,hx];rfl
 exact⟨hf.f0,hf.f1,hf.sl,hf.rg,by rw[en];exact hm.h0,by rw[en];exact hm.hl,by rw[en];exact hm.hk,by rw[en];exact hm.hi⟩
end
variable{F:UG->MV->MV}{inp:UG}
def RL{p:af}(hs:fX p)(hF:bF p (bz p) F)(hn:inp.length<=1000)(hi:∀x∈inp,bD x){m:MV}{N:NM}{e:UD}(hR:bL p (bz p) m N e)(h:MI p (bz p) m)(hb:Bd inp.length m)(ht:0<=m.time/\m.time<=100000)(X:UH) :
  kW prog 228 [mP N,aP eI 1 inp] e X (.aQ []) (fun N' l=>bL p (bz p) (F inp m) N' l/\N'.k=N.k/\Bd inp.length (F inp m)):=by
 by_cases h2:m.halt
 ·rw[hF.still inp m h2];exact⟨N,e,⟨hR,rfl,hb⟩,Up.refl _ _,Rn hR inp h2⟩
 ·have hC:=rX hs;obtain⟨m1,hg,⟨P',h1,Xn⟩,e1⟩:=hF.step inp hi m h h2;have Uo:=hC.len;have hfs:=hs.ok.aa.aw;have Uu:=hs.ok.size;obtain⟨hl,_,_,k0,n,a,ek,hm⟩:=h.ah (fun e=>h2 (.inl e));have UW:=hm.head.1;have Wi:=hC.o0;rw[e1];exact Ud X hR hl hb hn jB jB Wi h2 jB jB hg P' (fun e0=>by obtain⟨hl,_,_,k0,n,a,ek,hm⟩:=h1.ah jB;have UW:=hm.head.1;exact⟨hl,jB,jB⟩) jB
instance (m:MV)(C:aI):Decidable (m.dF C):=inferInstanceAs (Decidable (m.status≠0\/(m.bg C).op=1))
def pk(p:af)(C:aI)(inp:UG):Nat->MV->MV
 |0,m=>m
 |n+1,m=>if m.dF C then m else pk p C inp n (m.one p C inp)
def GV{p:af}{C:aI}{n:Nat}{m a:MV}(h:dY p C inp n m a):a.dF C->∀k,(pk p C inp k m).dF C->pk p C inp k m=a:=by
 induction h with
 |refl m=>
  intro ha k _;cases k with
  |zero=>rfl
  |succ k=>unfold pk;rw[if_pos ha]
 |step h0 h1 hok h ih=>
  intro ha k hk;have hns:∀{m:MV},m.status=0->(m.bg C).op≠1->¬m.dF C:=fun a b c=>c.elim (fun c=>c a) b
  cases k with
  |zero=>exact(hns h0 h1 hk).elim
  |succ k=> unfold pk at hk ⊢;rw[if_neg (hns h0 h1)]at hk ⊢;exact ih ha k hk
def RK{p:af}{C:aI}(hF:bF p C F)(hi:∀x∈inp,bD x){m:MV}(h:MI p C m)(hh:¬m.halt)(k:Nat)(hk:(pk p C inp k m.eo).dF C):F inp m=(pk p C inp k m.eo).fA:=by obtain⟨m1,⟨n,hg⟩,⟨P',_,_⟩,e⟩:=hF.step inp hi m h hh;rw[e,GV hg P' k hk]
end Go.Proofs.YtijdhbokcdpklaaGreatDoor
/- Lemmas. No conditions. -/
import Derived.Test.YtjpcgmjaipfgdaaGreatDoorRpE
set_option linter.all false
set_option maxHeartbeats 4000000
set_option maxRecDepth 10000
namespace Go.Gd
open Go
namespace MV
variable {p:ah}{C:aE}{m:MV}{N:NM}{e:UR}
def HP(h:1<=N.cs.length):N.aX N.ai=N:=by unfold NM.aX NM.ai;rw[ee jB,List.set_getElem_self]
def bI.kz(hR:bI p C m N e)(h1:1<=m.calls.length){c':MC}(hs:c'.stack=m.ai.stack)(hl:c'.slots=m.ai.slots):bI p C (m.aX c') N (aZ e (hn 0 N.ai.c) (.var 217 (MV.cE c' N.ai))):=by
 have ht:=hR.ai h1;have J':=hR.len;have h:=hR.aX (e':=aZ e (hn 0 N.ai.c) (.var 217 (MV.cE c' N.ai))) h1 (c':=c') (n':=N.ai) rfl ?_ ⟨?_,?_,?_,by rw[hs];exact ht.bd⟩ (.inl rfl) fun j hj n0 n1 n2=>by rw[bO,if_neg n0]
 ·rw[HP jB]at h;exact h
 ·refine hR.ok.put (.inr (iJ _ _)) ?_;have i1:=fV ht.eN;have i2:=fV ht.cH;simp only[Row.cells,MV.cE,aR,AV.all,i1,i2,Bool.or_true,Bool.and_self]
 ·rw[bO,if_pos rfl]
 ·rw[bO,if_neg (dc jB jB jB),hs];exact ht.cH
 ·rw[bO,if_neg (dc jB jB jB),hl];exact ht.eN
end MV
namespace MV
structure Bd(n:Nat)(m:MV):Prop where
 deep:∀k,k+1<m.calls.length->(nth m.calls k).stack.length<=1000
 slots:∀k,k<m.calls.length->(nth m.calls k).slots.length<=24
 heap:gz m.heap<=40
 outs:m.aS.length<=24
 nV:0<=m.in_
 og:m.in_<=n
 ll:∀t∈m.aS,t.size<=40
variable {n:Nat}{m:MV}
theorem Bd.ai(h:Bd n m)(h1:1<=m.calls.length):m.ai.slots.length<=24:=h.slots (m.calls.length-1) jB
theorem Bd.aX(h:Bd n m){c:MC}(hc:c.slots.length<=24):Bd n (m.aX c):=by
 have hl:(m.aX c).calls.length=m.calls.length:=bP _ _;have e:∀k,k<m.calls.length->nth (m.aX c).calls k=if k=m.calls.length-1 then c else nth m.calls k:=fun k hk=>Go.Gd.dD _ _ _ _ jB
 refine⟨fun k hk=>?_,fun k hk=>?_,h.heap,h.outs,h.nV,h.og,h.ll⟩
 ·rw[hl]at hk;rw[e k jB,jN];exact h.deep k hk
 ·rw[hl]at hk;rw[e k hk];split
  ·exact hc
  ·exact h.slots k hk
theorem Bd.status(h:Bd n m)(s t:Int):Bd n { m with status:=s,bs:=t }:=⟨h.deep,h.slots,h.heap,h.outs,h.nV,h.og,h.ll⟩
theorem Bd.push(h:Bd n m)(h1:1<=m.calls.length)(v:aj):Bd n (m.push v):=h.aX (h.ai h1)
theorem Bd.cut(h:Bd n m)(h1:1<=m.calls.length)(k:Nat):Bd n (m.cut k):=h.aX (h.ai h1)
theorem Bd.stops(h:Bd n m)(h1:1<=m.calls.length)(s t:Int):Bd n (m.stops s t):=(h.aX (c:=m.ai.back) (h.ai h1)).status s t
theorem Bd.eR(h:Bd n m)(h1:1<=m.calls.length)(r:aj×Int):Bd n (m.eR r):=by
 unfold MV.eR;split
 ·exact h.stops h1 _ _
 ·exact h.push h1 _
def gN{α:Type}[Inhabited α]{l:List α}{n k:Nat}(h:k<n):nth (l.take n) k=nth l k:=by unfold nth;rw[List.getD_eq_getElem?_getD,List.getElem?_take,if_pos h,List.getD_eq_getElem?_getD]
theorem Bd.pop(h:Bd n m):Bd n m.pop:=by
 have hl:m.pop.calls.length=m.calls.length-1:=by show(m.calls.take _).length=_;rw[List.length_take];omega
 have e:∀k,k<m.calls.length-1->nth m.pop.calls k=nth m.calls k:=fun k hk=>gN hk
 refine⟨fun k hk=>?_,fun k hk=>?_,h.heap,h.outs,h.nV,h.og,h.ll⟩
 ·rw[hl]at hk;rw[e k jB];exact h.deep k jB
 ·rw[hl]at hk;rw[e k hk];exact h.slots k jB
theorem Bd.ends(h:Bd n m)(v:aj):Bd n (m.ends v):=by
 unfold MV.ends;split
 ·exact h.pop.status 2 m.pop.bs
 ·rename_i h2;refine h.pop.push ?_ v;show 1<=(m.calls.take _).length;rw[List.length_take];omega
theorem Bd.cB{p:ah}{C:aE}(h:Bd n m)(h1:1<=m.calls.length)(hd:m.ai.stack.length<=1000){fn:Int}{args:List aj}(s1:nth p.size fn.toNat<=24)(s2:(args.length:Int)<=nth p.size fn.toNat):Bd n (m.cB p C fn args):=by
 have hl:(m.cB p C fn args).calls.length=m.calls.length+1:=by show(m.calls++[_]).length=_;simp
 have e:∀k,k<m.calls.length->nth (m.cB p C fn args).calls k=nth m.calls k:=fun k hk=>qf hk
 refine⟨fun k hk=>?_,fun k hk=>?_,h.heap,h.outs,h.nV,h.og,h.ll⟩
 ·rw[hl]at hk;rw[e k jB];by_cases Va:k=m.calls.length-1
  ·subst Va;exact hd
  ·exact h.deep k jB
 ·rw[hl]at hk;by_cases Va:k<m.calls.length
  ·rw[e k Va];exact h.slots k Va
  ·have:k=m.calls.length:=jB;subst this;have:nth (m.cB p C fn args).calls m.calls.length=jO p C fn args:=qM _ _;rw[this];show(args++List.replicate _ v0).length<=24;rw[List.length_append,List.length_replicate];omega
def Bd.ov(h:Bd n m){h':UT}(hc:gz h'<=40):Bd n { m with heap:=h' }:=⟨h.deep,h.slots,hc,h.outs,h.nV,h.og,h.ll⟩
end MV
namespace MV
variable (m:MV)(p:ah)(C:aE)(inp:UU)(x:ax)
def RB(h:x.op=2):m.ins p C inp x=m.push (vI x.a):=by unfold MV.ins;dsimp only;rw[if_pos h]
def Qa(h:x.op=3):m.ins p C inp x=m.push (vB (decide (x.a=1))):=by unfold MV.ins;dsimp only;rw[jN,if_pos h]
def OS(h:x.op=4):m.ins p C inp x=m.push (vT x.s):=by unfold MV.ins;dsimp only;rw[jN,jN,if_pos h]
def Px(h:x.op=5):m.ins p C inp x=m.push (dq m.ai.slots x.a x.b):=by unfold MV.ins;dsimp only;rw[jN,jN,jN,if_pos h]
def H4(h:x.op=6):m.ins p C inp x=m.aX { m.ai.cut 1 with slots:=m.ai.slots.set x.a.toNat m.ai.last }:=by unfold MV.ins;dsimp only;rw[jN,jN,jN,jN,if_pos h]
def Gq(h:x.op=7):m.ins p C inp x=(m.cut 2).eR (qD x.s (m.ai.cut 1).last m.ai.last):=by unfold MV.ins;dsimp only;rw[jN,jN,jN,jN,jN,if_pos h]
def IB(h:x.op=8):m.ins p C inp x=(m.cut 1).push (nj (⟨#[45]⟩:UX) m.ai.last):=by unfold MV.ins;dsimp only;rw[jN,jN,jN,jN,jN,jN,if_pos h]
def HL(h:x.op=9):m.ins p C inp x=(m.cut 1).push (nj (⟨#[33]⟩:UX) m.ai.last):=by unfold MV.ins;dsimp only;rw[jN,jN,jN,jN,jN,jN,jN,if_pos h]
def JQ(h:x.op=10):m.ins p C inp x=(m.cut 1).push (vI (if m.ai.last.ty=4 then((bc m.heap m.ai.last.n).length:Int)else(m.ai.last.s.size:Int))):=by unfold MV.ins;dsimp only;rw[jN,jN,jN,jN,jN,jN,jN,jN,if_pos h]
def Gj(h:x.op=11):m.ins p C inp x=if m.ai.last.n<0\/((bc m.heap (dq m.ai.slots x.a 4).n).length:Int)<=m.ai.last.n then(m.cut 1).stops 3 2 else(m.cut 1).push (vI (nth (bc m.heap (dq m.ai.slots x.a 4).n) m.ai.last.n.toNat)):=by unfold MV.ins;dsimp only;rw[jN,jN,jN,jN,jN,jN,jN,jN,jN,if_pos h]
def G6(h:x.op=12):m.ins p C inp x=if(m.ai.cut 1).last.n<0\/((bc m.heap (dq m.ai.slots x.a 4).n).length:Int)<=(m.ai.cut 1).last.n then(m.cut 2).stops 3 2 else{ m.cut 2 with heap:=m.heap.set ((dq m.ai.slots x.a 4).n-1).toNat ((nth m.heap ((dq m.ai.slots x.a 4).n-1).toNat).set (m.ai.cut 1).last.n.toNat m.ai.last.n) }:=by unfold MV.ins;dsimp only;rw[jN,jN,jN,jN,jN,jN,jN,jN,jN,jN,if_pos h]
def EQ(h:x.op=13):m.ins p C inp x=if m.ai.last.n<0\/16<m.ai.last.n then(m.cut 1).stops 3 7 else if 40<gz m.heap+m.ai.last.n+1 then(m.cut 1).stops 3 4 else{ (m.cut 1).push ⟨4,m.heap.length+1,sE⟩with heap:=m.heap++[List.replicate m.ai.last.n.toNat 0] }:=by unfold MV.ins;dsimp only;rw[jN,jN,jN,jN,jN,jN,jN,jN,jN,jN,jN,if_pos h]
def Ii(h:x.op=14):m.ins p C inp x=if(inp.length:Int)<=m.in_ then m.stops 1 0 else{ m.push (vI (nth inp m.in_.toNat))with in_:=m.in_+1 }:=by unfold MV.ins;dsimp only;rw[jN,jN,jN,jN,jN,jN,jN,jN,jN,jN,jN,jN,if_pos h]
def Iq(h:x.op=15):m.ins p C inp x=if 24<=m.aS.length then m.stops 3 5 else{ m.cut 1 with aS:=m.aS++[lm m.ai.last] }:=by unfold MV.ins;dsimp only;rw[jN,jN,jN,jN,jN,jN,jN,jN,jN,jN,jN,jN,jN,if_pos h]
def Oa(h:x.op=16):m.ins p C inp x=m.aX (m.ai.jump x.a):=by unfold MV.ins;dsimp only;rw[jN,jN,jN,jN,jN,jN,jN,jN,jN,jN,jN,jN,jN,jN,if_pos h]
def OW(h:x.op=17):m.ins p C inp x=if m.ai.last.n=0 then m.aX ((m.ai.cut 1).jump x.a)else m.cut 1:=by unfold MV.ins;dsimp only;rw[jN,jN,jN,jN,jN,jN,jN,jN,jN,jN,jN,jN,jN,jN,jN,if_pos h]
def TJ(h:x.op=18\/x.op=19):m.ins p C inp x=if(m.ai.last.n=1<->x.op=19)then m.aX (m.ai.jump x.a)else m.cut 1:=by unfold MV.ins;dsimp only;rw[jN,jN,jN,jN,jN,jN,jN,jN,jN,jN,jN,jN,jN,jN,jN,jN,if_pos h]
def Bw(h:x.op=20):m.ins p C inp x=if 8<=m.calls.length then(m.cut x.b.toNat).stops 3 3 else(m.cut x.b.toNat).cB p C x.a (m.ai.stack.drop (m.ai.stack.length-x.b.toNat)):=by unfold MV.ins;dsimp only;rw[jN,jN,jN,jN,jN,jN,jN,jN,jN,jN,jN,jN,jN,jN,jN,jN,jN,if_pos h]
def JR(h:x.op=21):m.ins p C inp x=(m.cut 1).ends m.ai.last:=by unfold MV.ins;dsimp only;rw[jN,jN,jN,jN,jN,jN,jN,jN,jN,jN,jN,jN,jN,jN,jN,jN,jN,jN,if_pos h]
def Kv(h:x.op=22):m.ins p C inp x=m.ends (vZ x.a):=by unfold MV.ins;dsimp only;rw[jN,jN,jN,jN,jN,jN,jN,jN,jN,jN,jN,jN,jN,jN,jN,jN,jN,jN,jN,if_pos h]
def Ff(h:x.op=23):m.ins p C inp x=m.cut 1:=by unfold MV.ins;dsimp only;rw[jN,jN,jN,jN,jN,jN,jN,jN,jN,jN,jN,jN,jN,jN,jN,jN,jN,jN,jN,jN,if_pos h]
def S0(h:x.op<2\/23<x.op):m.ins p C inp x=m:=by unfold MV.ins;dsimp only;rw[jN,jN,jN,jN,jN,jN,jN,jN,jN,jN,jN,jN,jN,jN,jN,jN,jN,jN,jN,jN,jN]
end MV
namespace MV
variable {p:ah}{C:aE}{m:MV}{N:NM}{e:UR}
def bI.tE(hR:bI p C m N e)(h1:1<=m.calls.length)(l:List aj)(hl:l.length=m.ai.slots.length):bI p C (m.aX { m.ai with slots:=l }) N (aZ e (hn 1 N.ai.c) (.aD 54 3 (l.map bW))):=by
 have ht:=hR.ai h1;have J':=hR.len;have h:=hR.aX (e':=aZ e (hn 1 N.ai.c) (.aD 54 3 (l.map bW))) h1 (c':={ m.ai with slots:=l }) (n':=N.ai) rfl ?_ ⟨?_,?_,?_,ht.bd⟩ (.inl rfl) fun j hj n0 n1 n2=>by rw[bO,if_neg n1]
 ·rw[HP jB]at h;exact h
 ·exact hR.ok.put (.inr (iJ _ _)) (fR (q:=eo) (fun _ h=>by cases h) _ (pW (oJ (enc:=bW) (sz:=3) _)))
 ·rw[bO,if_neg (dc jB jB jB),ht.var];unfold MV.cE;rw[<-hl]
 ·rw[bO,if_neg (dc jB jB jB)];exact ht.cH
 ·rw[bO,if_pos rfl]
end MV
end Go.Gd
namespace Go.Proofs.YtjpcgmjaipfgdaaGreatDoor
open Go Go.Gd Tryz Go.Gd.MV
structure p7(p:ah)(C:aE)(m:MV)(x:ax):Prop where
 calls:1<=m.calls.length
 nO:m.calls.length<=8
 one:x.op=6\/x.op=8\/x.op=9\/x.op=10\/x.op=11\/x.op=13\/x.op=15\/x.op=17\/x.op=18\/x.op=19\/x.op=21\/x.op=23->1<=m.ai.stack.length
 two:x.op=7\/x.op=12->2<=m.ai.stack.length
 slot:x.op=5\/x.op=6\/x.op=11\/x.op=12->0<=x.a/\x.a<m.ai.slots.length
 call:x.op=20->0<=x.b/\x.b<=m.ai.stack.length/\(m.calls.length<8->qg p C m x.a (m.ai.stack.drop (m.ai.stack.length-x.b.toNat)))
 word:x.op=15->bG m.ai.last.n
 jo:∀v∈m.ai.stack,v.s.size<=40
 deep:∀k,k<m.calls.length->(nth m.calls k).stack.length<=1000
 slots:m.ai.slots.length<=24
 heap:gz m.heap<=40
 outs:m.aS.length<=24
 nV:0<=m.in_
 og:m.in_<=1000
theorem p7.ai{p:ah}{C:aE}{m:MV}{x:ax}(h:p7 p C m x):m.ai.stack.length<=1000:=h.deep (m.calls.length-1) (by have:=h.calls;omega)
section
variable {p:ah}{C:aE}{m:MV}{N:NM}{e:UR}(X:UW)
def iu(hR:bI p C m N e)(h1:1<=m.calls.length){l:US}(h:aR eo l=true):aR (fun i=>(ids e).contains i) (mP N::cP N::l)=true:=by simp only[aR,AV.all,fV hR.root,fV (hR.ai h1).var,Bool.true_and];exact fR (fun _ h=>by cases h) _ h
def Rn(hR:bI p C m N e)(h1:1<=m.calls.length)(x:ax)(hx:¬(x.op=2\/x.op=3\/x.op=4\/x.op=5)):cM prog 164 [mP N,cP N,.agg (df x)] e (rB false) e:=by
 have P':=hR.ok.low;refine⟨?_,hR.ok,hR.ok,fun _ h=>h,iu hR h1 rfl⟩;refine aK (L:=ids e) func164 ntmps164 ?_ (hL:=rfl);generalize hB:ids e=B;refine eK ?_
 (have W:=P';repeat' (first|refine au fun K hK=>?_|refine aq ?_|(with_reducible refine gR 4 ?_);refine dE 4 (bf 0 7) mixed ?_|(with_reducible refine gR 6 ?_);refine dE 6 (bf 0 8) mixed ?_|(with_reducible refine gR 8 ?_);refine dE 8 (bf 0 7) mixed ?_|(with_reducible refine gR 10 ?_);refine dE 10 (bf 0 10) mixed ?_|(refine hK _ _ ?_;clear hK K)|(refine ar ?_ ?_<;>intro hc<;>try exact jz)|refine cL 9 ?_|refine av ?_|exact jI|(clear hK K)))
 exact eu hB hR.ok hR.ok (fun _=>rfl) (du jC dL) [.tmp 6]
def KT(hR:bI p C m N e)(inp:UU)(x:ax)(hk:p7 p C m x)(hx:x.op=2\/x.op=3\/x.op=4\/x.op=5):lf prog 164 [mP N,cP N,.agg (df x)] e X (rB true) (To p C (m.ins p C inp x) N):=by
 have h1:=hk.calls;have P':=hR.ok.low;have h5:x.op=5->cM prog 207 [cP N,rI x.a,rI x.b] e (rV (dq m.ai.slots x.a x.b)) e:=fun h=>BW hR h1 x.a x.b (hk.slot (.inl h)) (by have:=hk.slots;omega)
 have key:∀v:aj,((x.op=2/\v=vI x.a)\/(x.op=3/\v=vB (decide (x.a=1)))\/(x.op=4/\v=vT x.s)\/(x.op=5/\v=dq m.ai.slots x.a x.b))->lf prog 164 [mP N,cP N,.agg (df x)] e X (rB true) (To p C (m.push v) N):=fun v hv=>by
  obtain⟨N',l,hT,hU,hp⟩:=tu X hR h1 v hk.ai;refine⟨N',l,hT,hU,⟨?_,hR.ok,hp.e2,hU.aU,iu hR h1 rfl⟩⟩;refine aK (L:=ids e) func164 ntmps164 ?_ (hL:=rfl);generalize hB:ids e=B;refine eK ?_;rcases hv with⟨h,rfl⟩|⟨h,rfl⟩|⟨h,rfl⟩|⟨h,rfl⟩
  all_goals
   (have W:=P';repeat' (first|refine au fun K hK=>?_|refine aq ?_|(with_reducible refine gR 4 ?_);refine dE 4 (bf 0 7) mixed ?_|(with_reducible refine gR 6 ?_);refine dE 6 (bf 0 8) mixed ?_|(with_reducible refine gR 8 ?_);refine dE 8 (bf 0 7) mixed ?_|(with_reducible refine gR 10 ?_);refine dC 10 ([],[47],[]) [] (bf 0 10) mixed ?_|(refine hK _ _ ?_;clear hK K)|(refine ar ?_ ?_<;>intro hc<;>try exact jz)|refine cL 9 ?_|refine cp (um _) ?_|refine cp (yq _) ?_|refine cp (DT _) ?_|refine nr (h5 h) ?_|refine cT hp ?_|refine av ?_|exact jI|(clear hK K)))
  all_goals exact eu hB hR.ok hp.e2 (fun _=>rfl) (du jC dL) [.tmp 6]
 unfold MV.ins;rcases hx with h|h|h|h
 ·have:=key (vI x.a) (.inl ⟨h,rfl⟩);simpa[h]using this
 ·have:=key (vB (decide (x.a=1))) (.inr (.inl ⟨h,rfl⟩));simpa[h]using this
 ·have:=key (vT x.s) (.inr (.inr (.inl ⟨h,rfl⟩)));simpa[h]using this
 ·have:=key (dq m.ai.slots x.a x.b) (.inr (.inr (.inr ⟨h,rfl⟩)));simpa[h]using this
end
section
variable {p:ah}{C:aE}{m:MV}{N:NM}{e:UR}(X:UW)
def Qd(hR:bI p C m N e)(h1:1<=m.calls.length)(x:ax)(hx:¬(x.op=16\/x.op=17\/x.op=18\/x.op=19)):cM prog 167 [mP N,cP N,.agg (df x)] e (rB false) e:=by
 have P':=hR.ok.low;refine⟨?_,hR.ok,hR.ok,fun _ h=>h,iu hR h1 rfl⟩;refine aK (L:=ids e) func167 ntmps167 ?_ (hL:=rfl);generalize hB:ids e=B;refine eK ?_
 (have W:=P';repeat' (first|refine au fun K hK=>?_|refine aq ?_|(with_reducible refine gR 10 ?_);refine dQ 10 mixed ?_|(refine hK _ _ ?_;clear hK K)|(refine ar ?_ ?_<;>intro hc<;>try exact jz)|refine cL 9 ?_|refine av ?_|exact jI|(clear hK K)))
 exact eu hB hR.ok hR.ok (fun _=>rfl) (du jC dL) [.tmp 6]
def Sc(hR:bI p C m N e)(inp:UU)(x:ax)(hk:p7 p C m x)(hx:x.op=16\/x.op=17\/x.op=18\/x.op=19):lf prog 167 [mP N,cP N,.agg (df x)] e X (rB true) (To p C (m.ins p C inp x) N):=by
 have h1:=hk.calls;have P':=hR.ok.low;have hT:=hR.ai h1;by_cases WT:x.op=16
 ·have ei:m.ins p C inp x=m.aX (m.ai.jump x.a):=by unfold MV.ins;simp[WT]
  rw[ei];have V8:=hR.kz h1 (c':=m.ai.jump x.a) rfl rfl;have hU:Up X e (aZ e (hn 0 N.ai.c) (.var 217 (MV.cE (m.ai.jump x.a) N.ai))):=Up.put _ (.inl (by rw[hT.var];simp));refine⟨_,_,⟨V8,rfl,rfl⟩,hU,⟨?_,hR.ok,V8.ok,hU.aU,iu hR h1 rfl⟩⟩;have k2:=V8.ok;clear V8 hU;generalize hE:aZ e (hn 0 N.ai.c) (.var 217 (MV.cE (m.ai.jump x.a) N.ai))=E at k2 ⊢;refine aK (L:=ids e) func167 ntmps167 ?_ (hL:=rfl);generalize hB:ids e=B;refine eK ?_
  (have W:=jA P' (hT.var);repeat' (first|refine au fun K hK=>?_|refine aq ?_|(with_reducible refine gR 10 ?_);refine dQ 10 mixed ?_|(refine hK _ _ ?_;clear hK K)|(refine ar ?_ ?_<;>intro hc<;>try exact jz)|refine cL 9 ?_|refine av ?_|exact jI|(clear hK K)))
  subst hE;exact eu hB hR.ok k2 (fun _=>rfl) (du jC dL) [.tmp 6]
 have WU:=hk.one jB;obtain⟨N1,l1,U',Vv,Wh⟩:=Kg X hR h1 WU;have ZY:1<=(m.cut 1).calls.length:=by rw[show(m.cut 1).calls.length=m.calls.length from MV.bP _ _];exact h1
 have Vt:=U'.1.ok.low;have Zg:=(U'.1.ai ZY).var;rw[U'.2.2]at Zg;have VY:=U'.1.kz ZY (c':=(m.cut 1).ai.jump x.a) rfl rfl;have V2:Up X l1 (aZ l1 (hn 0 N1.ai.c) (.var 217 (MV.cE ((m.cut 1).ai.jump x.a) N1.ai))):=Up.put _ (.inl (by rw[U'.2.2,Zg];simp));by_cases h17:x.op=17
 ·by_cases hz:m.ai.last.n=0
  ·have ei:m.ins p C inp x=(m.cut 1).aX ((m.cut 1).ai.jump x.a):=by
    unfold MV.ins;simp only[h17,hz];unfold MV.cut;rw[MV.dB,MV.bn h1];rfl
   rw[ei];refine⟨_,_,⟨VY,U'.2.1,U'.2.2⟩,Vv.trans V2,⟨?_,hR.ok,VY.ok,(Vv.trans V2).aU,iu hR h1 rfl⟩⟩;have k2:=VY.ok;clear VY Vv V2;generalize hE:aZ l1 (hn 0 N1.ai.c) (.var 217 (MV.cE ((m.cut 1).ai.jump x.a) N1.ai))=E at k2 ⊢;refine aK (L:=ids e) func167 ntmps167 ?_ (hL:=rfl);generalize hB:ids e=B;refine eK ?_
   (have W:=jA P' (jA Vt (jA Zg (hz)));repeat' (first|refine au fun K hK=>?_|refine aq ?_|(with_reducible refine gR 10 ?_);refine dQ 10 mixed ?_|(refine hK _ _ ?_;clear hK K)|(refine ar ?_ ?_<;>intro hc<;>try exact jz)|refine cL 9 ?_|refine cT Wh ?_|refine av ?_|exact jI|(clear hK K)))
   subst hE;refine eu (tl:=[(9,.var 219 (df x))]) hB hR.ok k2 (fun i=>?_) (du jC dL) [.tmp 6];have:=U'.2.2;unfold MV.cE;rw[this];rfl
  ·have ei:m.ins p C inp x=m.cut 1:=by unfold MV.ins;simp only[h17];simp[hz]
   rw[ei];refine⟨_,_,U',Vv,⟨?_,hR.ok,Wh.e2,Vv.aU,iu hR h1 rfl⟩⟩;refine aK (L:=ids e) func167 ntmps167 ?_ (hL:=rfl);generalize hB:ids e=B;refine eK ?_
   (have W:=jA P' Vt;repeat' (first|refine au fun K hK=>?_|refine aq ?_|(with_reducible refine gR 10 ?_);refine dQ 10 mixed ?_|(refine hK _ _ ?_;clear hK K)|(refine ar ?_ ?_<;>intro hc<;>try exact jz)|refine cL 9 ?_|refine cT Wh ?_|refine av ?_|exact jI|(clear hK K)))
   exact eu hB hR.ok Wh.e2 (fun _=>rfl) (du jC dL) [.tmp 6]
 have Xj:=Q3 hR h1 WU;have h2:x.op=18\/x.op=19:=jB;have Yn:m.ins p C inp x=if(m.ai.last.n=1<->x.op=19)then m.aX (m.ai.jump x.a)else m.cut 1:=by unfold MV.ins;rcases h2 with h|h<;>simp only[h]<;>rfl
 by_cases hj:(m.ai.last.n=1<->x.op=19)
 ·have ei:m.ins p C inp x=m.aX (m.ai.jump x.a):=by rw[Yn,if_pos hj]
  rw[ei];have ZC:=hR.kz h1 (c':=m.ai.jump x.a) rfl rfl;have hU:Up X e (aZ e (hn 0 N.ai.c) (.var 217 (MV.cE (m.ai.jump x.a) N.ai))):=Up.put _ (.inl (by rw[hT.var];simp));refine⟨_,_,⟨ZC,rfl,rfl⟩,hU,⟨?_,hR.ok,ZC.ok,hU.aU,iu hR h1 rfl⟩⟩;have k2:=ZC.ok;clear ZC hU VY V2 Vv;generalize hE:aZ e (hn 0 N.ai.c) (.var 217 (MV.cE (m.ai.jump x.a) N.ai))=E at k2 ⊢;have ZX:(decide (m.ai.last.n=1) == decide (x.op=19))=true:=by by_cases a:m.ai.last.n=1<;>by_cases b:x.op=19<;>simp[a,b]at hj ⊢
  refine aK (L:=ids e) func167 ntmps167 ?_ (hL:=rfl);generalize hB:ids e=B;refine eK ?_;rcases h2 with h|h
  all_goals
   (have W:=jA P' (jA hT.var (ZX));repeat' (first|refine au fun K hK=>?_|refine aq ?_|(with_reducible refine gR 10 ?_);refine dC 10 ([],[35],[]) [] (bf 0 10) mixed ?_|(refine hK _ _ ?_;clear hK K)|(refine ar ?_ ?_<;>intro hc<;>try exact jz)|refine cL 9 ?_|refine nr Xj ?_|refine av ?_|exact jI|(clear hK K)))
  all_goals
   subst hE;exact eu hB hR.ok k2 (fun _=>rfl) (du jC dL) [.tmp 6]
 ·have ei:m.ins p C inp x=m.cut 1:=by rw[Yn,if_neg hj]
  rw[ei];refine⟨_,_,U',Vv,⟨?_,hR.ok,Wh.e2,Vv.aU,iu hR h1 rfl⟩⟩;have ZX:(decide (m.ai.last.n=1) == decide (x.op=19))=false:=by by_cases a:m.ai.last.n=1<;>by_cases b:x.op=19<;>simp[a,b]at hj ⊢
  refine aK (L:=ids e) func167 ntmps167 ?_ (hL:=rfl);generalize hB:ids e=B;refine eK ?_;rcases h2 with h|h
  all_goals
   (have W:=jA P' (ZX);repeat' (first|refine au fun K hK=>?_|refine aq ?_|(with_reducible refine gR 10 ?_);refine dC 10 ([],[35],[]) [] (bf 0 10) mixed ?_|(refine hK _ _ ?_;clear hK K)|(refine ar ?_ ?_<;>intro hc<;>try exact jz)|refine cL 9 ?_|refine nr Xj ?_|refine cT Wh ?_|refine av ?_|exact jI|(clear hK K)))
  all_goals exact eu hB hR.ok Wh.e2 (fun _=>rfl) (du jC dL) [.tmp 6]
end
end Go.Proofs.YtjpcgmjaipfgdaaGreatDoor
namespace Go.Proofs.YtjpcgmjaipfgdaaGreatDoor
open Go Go.Gd Tryz
theorem I4:∀h:UT,h.foldl ma (0:Int)=(h.flatten.length:Int)
 |[]=>rfl
 |x::h=>by show h.foldl ma (ma 0 x)=_;rw[nT,I4 h,List.flatten_cons,List.length_append];show(0:Int)+(x.length:Int)+_=_;omega
def wg(h:UT):gz h=h.length+h.flatten.length:=by unfold gz;rw[nT,I4]
end Go.Proofs.YtjpcgmjaipfgdaaGreatDoor
namespace Go.Proofs.YtjpcgmjaipfgdaaGreatDoor
open Go Go.Gd Tryz Go.Gd.MV
section
variable {p:ah}{C:aE}{m:MV}{N:NM}{e:UR}(X:UW)
def xz(hR:bI p C m N e)(h1:1<=m.calls.length)(hb:1<=m.ai.stack.length):∃N' l,(To p C (m.cut 1) N N' l/\N'.ai.v=N.ai.v)/\Up X e l/\cM prog 208 [cP N] e (rV m.ai.last) l/\∀C D,BY ([hn 2 N.ai.v,hn 16 N.ai.c],C,D) e l:=by
 have ht:=hR.ai h1;have WQ:=ht.bd;have hl:=hR.len;have e1:m.ai.stack.take (m.ai.stack.length-1)++[m.ai.last]=m.ai.stack:=by unfold MC.last;rw[ee jB,List.take_append_getElem,show m.ai.stack.length-1+1=m.ai.stack.length from jB,List.take_length]
 have I':(m.ai.stack.take (m.ai.stack.length-1)).length=m.ai.stack.length-1:=by rw[List.length_take];omega
 have hc:=EM m.ai.fn m.ai.at_ m.ai.mark (m.ai.stack.take (m.ai.stack.length-1)) N.ai.jk m.ai.slots m.ai.last (by rw[I'];omega);rw[e1]at hc;have hb3:(m.ai.cut 1).stack.length+(m.ai.last::N.ai.jk).length<=2000:=by show(m.ai.stack.take (m.ai.stack.length-1)).length+_<=_;rw[I',List.length_cons];omega
 obtain⟨⟨h2,h3⟩,h4,h5⟩:=hR.nW (X:=X) h1 (c':=m.ai.cut 1) hb3 rfl rfl hc;refine⟨_,_,⟨⟨h2,rfl,h3⟩,by rw[Ip jB]⟩,h4,h5,fun C D j hj ZZ=>?_⟩;have Xy:j≠hn 2 N.ai.v:=fun e'=>by subst e';simp at hj
 unfold kL;by_cases h0:j=hn 0 N.ai.c
 ·right
  subst h0;refine⟨by rw[Lj];simp,217,_,.rs (hn 2 N.ai.v) ((m.ai.cut 1).stack.length+(m.ai.last::N.ai.jk).length) 3 (m.ai.cut 1).stack.length,_,ht.var,?_⟩;rw[bO,if_neg (dc jB jB jB),bO,if_neg (dc jB jB jB),bO,if_pos rfl];rfl
 ·left
  rw[bO];by_cases Zl:j=hn 1 N.ai.c
  ·rw[if_pos Zl];subst Zl;rw[ht.eN];rfl
  ·rw[if_neg Zl,bO,if_neg Xy,bO,if_neg h0]
def Tv(hR:bI p C m N e)(h1:1<=m.calls.length)(x:ax)(hx:¬(x.op=7\/x.op=8\/x.op=9\/x.op=10)):cM prog 165 [mP N,cP N,.agg (df x)] e (rB false) e:=by
 have P':=hR.ok.low;refine⟨?_,hR.ok,hR.ok,fun _ h=>h,iu hR h1 rfl⟩;refine aK (L:=ids e) func165 ntmps165 ?_ (hL:=rfl);generalize hB:ids e=B;refine eK ?_
 (have W:=P';repeat' (first|refine au fun K hK=>?_|refine aq ?_|(refine hK _ _ ?_;clear hK K)|(refine ar ?_ ?_<;>intro hc<;>try exact jz)|refine cL 9 ?_|refine av ?_|exact jI|(clear hK K)))
 exact eu hB hR.ok hR.ok (fun _=>rfl) (du jC dL) [.tmp 6]
def KJ(h1:1<=m.calls.length)(a b:Nat)(hab:a+b<=m.ai.stack.length):(m.cut a).cut b=m.cut (a+b):=by
 unfold MV.cut;rw[MV.dB,MV.bn h1];congr 1
 unfold MC.cut;simp only[List.length_take];rw[Nat.min_eq_left jB,List.take_take,Nat.min_eq_left jB];congr 1
 ·congr 1;omega
 ·omega
def Ft(hb:1<=m.ai.stack.length):m.ai.last∈m.ai.stack:=by unfold MC.last;rw[ee jB];exact List.getElem_mem _
def Qr(hb:2<=m.ai.stack.length):(m.ai.cut 1).last∈m.ai.stack:=by unfold MC.last MC.cut;simp only[List.length_take];rw[Nat.min_eq_left jB,Go.Gd.MV.gN jB,ee jB];exact List.getElem_mem _
def M5(hR:bI p C m N e)(inp:UU)(x:ax)(hk:p7 p C m x)(hx:x.op=7\/x.op=8\/x.op=9\/x.op=10):lf prog 165 [mP N,cP N,.agg (df x)] e X (rB true) (To p C (m.ins p C inp x) N):=by
 have h1:=hk.calls;have P':=hR.ok.low;have hdp:=hk.ai;have WG:1<=m.ai.stack.length:=by
  by_cases h7:x.op=7
  ·have:=hk.two (.inl h7);omega
  ·exact hk.one jB
 obtain⟨N1,l1,⟨U',Zg⟩,Vv,Wh,WS⟩:=xz X hR h1 WG;have VC:(m.cut 1).calls.length=m.calls.length:=MV.bP _ _;have Yz:(m.cut 1).ai=m.ai.cut 1:=MV.bn h1 _;have YM:(m.cut 1).ai.stack.length=m.ai.stack.length-1:=by rw[Yz];show(m.ai.stack.take _).length=_;rw[List.length_take];omega
 have Vt:=U'.1.ok.low;have eN1:cP N1=cP N:=by unfold cP;rw[U'.2.2]
 have eM1:mP N1=mP N:=by unfold mP;rw[U'.2.1]
 by_cases h7:x.op=7
 ·have h2:=hk.two (.inl h7);rw[Gq _ _ _ _ _ h7];obtain⟨N2,l2,⟨VQ,YS⟩,V2,Yv,ZB⟩:=xz X U'.1 jB jB;rw[eN1,Yz]at Yv;rw[Zg,U'.2.2]at ZB;have ecc:(m.cut 1).cut 1=m.cut 2:=KJ h1 1 1 jB;rw[ecc]at VQ;have Wu:=VQ.1.ok.low;have hc2:(m.cut 2).calls.length=m.calls.length:=MV.bP _ _;have hs2:(m.cut 2).ai.stack.length<=1000:=by rw[show(m.cut 2).ai=m.ai.cut 2 from MV.bn h1 _];show(m.ai.stack.take _).length<=_;rw[List.length_take];omega
  obtain⟨N',l,hT,hU,hp⟩:=xX X VQ.1 jB (qD x.s (m.ai.cut 1).last m.ai.last) hs2;rw[show mP N2=mP N by unfold mP;rw[VQ.2.1,U'.2.1]]at hp;have hbi:=hk.jo _ (Ft WG);have hsz2:=hk.jo _ (Qr h2);have hbn:=Qm x.s (m.ai.cut 1).last m.ai.last jB jB;refine⟨N',l,⟨hT.1,hT.2.1.trans (VQ.2.1.trans U'.2.1),hT.2.2.trans (VQ.2.2.trans U'.2.2)⟩,Vv.trans (V2.trans hU),⟨?_,hR.ok,hp.e2,(Vv.trans (V2.trans hU)).aU,iu hR h1 rfl⟩⟩;refine aK (L:=ids e) func165 ntmps165 ?_ (hL:=rfl);generalize hB:ids e=B;refine eK ?_
  (have W:=jA P' (jA Vt (Wu));repeat' (first|refine au fun K hK=>?_|refine aq ?_|(with_reducible refine gR 5 ?_);refine qO 5 [hn 2 N.ai.v,hn 16 N.ai.c] [] [24] [] [0,1,2,3,4,5,7,6,8,9,10,11] mixed ?_|(refine hK _ _ ?_;clear hK K)|(refine ar ?_ ?_<;>intro hc<;>try exact jz)|refine cL 9 ?_|refine fA 10 ?_|refine cT Wh ?_|refine oQ Yv (ZB _ _) ?_|refine cp (hbn) ?_|refine cT hp ?_|refine av ?_|exact jI|(clear hK K)))
  exact eu hB hR.ok hp.e2 (fun _=>rfl) (du jC (du jC dL)) [.tmp 6]
 by_cases h10:x.op=10
 ·rw[JQ _ _ _ _ _ h10];have hbi:=hk.jo _ (Ft WG);have YC:=hk.heap;rw[wg]at YC;have Vj:=SB U'.1 m.ai.last.n (by show m.heap.length<=1000;omega) (by show m.heap.flatten.length<=1000;omega);have hv3:=U'.1.root;rw[U'.2.1]at hv3 Vj;by_cases XB:m.ai.last.ty=4
  ·rw[if_pos XB];obtain⟨N',l,hT,hU,hp⟩:=tu X U'.1 jB (vI (bc m.heap m.ai.last.n).length) jB;rw[eN1]at hp;refine⟨N',l,⟨hT.1,hT.2.1.trans U'.2.1,hT.2.2.trans U'.2.2⟩,Vv.trans hU,⟨?_,hR.ok,hp.e2,(Vv.trans hU).aU,iu hR h1 rfl⟩⟩;refine aK (L:=ids e) func165 ntmps165 ?_ (hL:=rfl);generalize hB:ids e=B;refine eK ?_
   (have W:=jA P' (jA Vt (jA hv3 (U'.2.1)));repeat' (first|refine au fun K hK=>?_|refine aq ?_|(with_reducible refine gR 14 ?_);refine dC 14 ([],[70],[]) [] (bf 0 8) mixed ?_|(with_reducible refine gR 15 ?_);refine dE 15 (bf 0 6) mixed ?_|(refine hK _ _ ?_;clear hK K)|(refine ar ?_ ?_<;>intro hc<;>try exact jz)|refine cL 9 ?_|refine fA 10 ?_|refine nr Vj ?_|refine cT Wh ?_|refine cp (um _) ?_|refine cT hp ?_|refine av ?_|exact jI|(clear hK K)))
   exact eu hB hR.ok hp.e2 (fun _=>rfl) (du jC (du jC dL)) [.tmp 6]
  ·rw[if_neg XB];obtain⟨N',l,hT,hU,hp⟩:=tu X U'.1 jB (vI m.ai.last.s.size) jB;rw[eN1]at hp;refine⟨N',l,⟨hT.1,hT.2.1.trans U'.2.1,hT.2.2.trans U'.2.2⟩,Vv.trans hU,⟨?_,hR.ok,hp.e2,(Vv.trans hU).aU,iu hR h1 rfl⟩⟩;refine aK (L:=ids e) func165 ntmps165 ?_ (hL:=rfl);generalize hB:ids e=B;refine eK ?_
   (have W:=jA P' Vt;repeat' (first|refine au fun K hK=>?_|refine aq ?_|(with_reducible refine gR 15 ?_);refine dE 15 (bf 0 6) mixed ?_|(refine hK _ _ ?_;clear hK K)|(refine ar ?_ ?_<;>intro hc<;>try exact jz)|refine cL 9 ?_|refine fA 10 ?_|refine cT Wh ?_|refine cp (um _) ?_|refine cT hp ?_|refine av ?_|exact jI|(clear hK K)))
   exact eu hB hR.ok hp.e2 (fun _=>rfl) (du jC (du jC dL)) [.tmp 6]
 have key:∀g:UX,((x.op=8/\g=(⟨#[45]⟩:UX))\/(x.op=9/\g=(⟨#[33]⟩:UX)))->lf prog 165 [mP N,cP N,.agg (df x)] e X (rB true) (To p C ((m.cut 1).push (nj g m.ai.last)) N):=fun g hg=>by
  obtain⟨N',l,hT,hU,hp⟩:=tu X U'.1 jB (nj g m.ai.last) jB;rw[eN1]at hp;refine⟨N',l,⟨hT.1,hT.2.1.trans U'.2.1,hT.2.2.trans U'.2.2⟩,Vv.trans hU,⟨?_,hR.ok,hp.e2,(Vv.trans hU).aU,iu hR h1 rfl⟩⟩;refine aK (L:=ids e) func165 ntmps165 ?_ (hL:=rfl);generalize hB:ids e=B;refine eK ?_;rcases hg with⟨h,rfl⟩|⟨h,rfl⟩
  all_goals
   (have W:=jA P' Vt;repeat' (first|refine au fun K hK=>?_|refine aq ?_|(with_reducible refine gR 7 ?_);refine dE 7 (bf 0 9) mixed ?_|(with_reducible refine gR 9 ?_);refine dE 9 (bf 0 9) mixed ?_|(refine hK _ _ ?_;clear hK K)|(refine ar ?_ ?_<;>intro hc<;>try exact jz)|refine cL 9 ?_|refine cT Wh ?_|refine cp (S9 _ _) ?_|refine cT hp ?_|refine av ?_|exact jI|(clear hK K)))
  all_goals exact eu hB hR.ok hp.e2 (fun _=>rfl) (du jC dL) [.tmp 6]
 by_cases h8:x.op=8
 ·rw[IB _ _ _ _ _ h8];exact key _ (.inl ⟨h8,rfl⟩)
 ·have h9:x.op=9:=jB;rw[HL _ _ _ _ _ h9];exact key _ (.inr ⟨h9,rfl⟩)
end
section
variable {p:ah}{C:aE}{m:MV}{N:NM}{e:UR}(X:UW)
def Sg(hR:bI p C m N e)(h1:1<=m.calls.length)(x:ax)(hx:¬(x.op=6\/x.op=23\/x.op=11\/x.op=12\/x.op=13)):cM prog 166 [mP N,cP N,.agg (df x)] e (rB false) e:=by
 have P':=hR.ok.low;refine⟨?_,hR.ok,hR.ok,fun _ h=>h,iu hR h1 rfl⟩;refine aK (L:=ids e) func166 ntmps166 ?_ (hL:=rfl);generalize hB:ids e=B;refine eK ?_
 (have W:=P';repeat' (first|refine au fun K hK=>?_|refine aq ?_|(refine hK _ _ ?_;clear hK K)|(refine ar ?_ ?_<;>intro hc<;>try exact jz)|refine cL 9 ?_|refine av ?_|exact jI|(clear hK K)))
 exact eu hB hR.ok hR.ok (fun _=>rfl) (du jC dL) [.tmp 6]
def Ls(hR:bI p C m N e)(inp:UU)(x:ax)(hk:p7 p C m x)(hx:x.op=6\/x.op=23\/x.op=11\/x.op=12\/x.op=13):lf prog 166 [mP N,cP N,.agg (df x)] e X (rB true) (To p C (m.ins p C inp x) N):=by
 have h1:=hk.calls;have P':=hR.ok.low;have hdp:=hk.ai;have hT:=hR.ai h1;have WG:1<=m.ai.stack.length:=by
  by_cases ZS:x.op=12
  ·have:=hk.two (.inr ZS);omega
  ·exact hk.one jB
 obtain⟨N1,l1,⟨U',Zg⟩,Vv,Wh,WS⟩:=xz X hR h1 WG;have VC:(m.cut 1).calls.length=m.calls.length:=MV.bP _ _;have Yz:(m.cut 1).ai=m.ai.cut 1:=MV.bn h1 _;have YM:(m.cut 1).ai.stack.length=m.ai.stack.length-1:=by rw[Yz];show(m.ai.stack.take _).length=_;rw[List.length_take];omega
 have Vt:=U'.1.ok.low;have eN1:cP N1=cP N:=by unfold cP;rw[U'.2.2]
 have eM1:mP N1=mP N:=by unfold mP;rw[U'.2.1]
 have YC:=hk.heap;rw[wg]at YC;have hv3:=U'.1.root;rw[U'.2.1]at hv3;by_cases h23:x.op=23
 ·rw[Ff _ _ _ _ _ h23];refine⟨N1,l1,U',Vv,⟨?_,hR.ok,Wh.e2,Vv.aU,iu hR h1 rfl⟩⟩;refine aK (L:=ids e) func166 ntmps166 ?_ (hL:=rfl);generalize hB:ids e=B;refine eK ?_
  (have W:=jA P' Vt;repeat' (first|refine au fun K hK=>?_|refine aq ?_|(refine hK _ _ ?_;clear hK K)|(refine ar ?_ ?_<;>intro hc<;>try exact jz)|refine cL 9 ?_|refine cT Wh ?_|refine av ?_|exact jI|(clear hK K)))
  exact eu hB hR.ok Wh.e2 (fun _=>rfl) (du jC dL) [.tmp 6]
 by_cases h6:x.op=6
 ·rw[H4 _ _ _ _ _ h6];have VX:=hk.slot jB;have hss:=hk.slots;have VY:=U'.1.tE jB (m.ai.slots.set x.a.toNat m.ai.last) (by rw[List.length_set,Yz];rfl);have em:(m.cut 1).aX { (m.cut 1).ai with slots:=m.ai.slots.set x.a.toNat m.ai.last }=m.aX { m.ai.cut 1 with slots:=m.ai.slots.set x.a.toNat m.ai.last }:=by
   rw[Yz];unfold MV.cut;rw[MV.dB]
  rw[em]at VY;have Za:=(U'.1.ai jB).eN;rw[U'.2.2,Yz]at Za;have Za:az l1 (hn 1 N.ai.c)=some (.aD 54 3 (m.ai.slots.map bW)):=Za;rw[U'.2.2]at VY;have V2:Up X l1 (aZ l1 (hn 1 N.ai.c) (.aD 54 3 ((m.ai.slots.set x.a.toNat m.ai.last).map bW))):=Up.put _ (.inl (by rw[Za];simp));refine⟨N1,_,⟨VY,U'.2.1,U'.2.2⟩,Vv.trans V2,⟨?_,hR.ok,VY.ok,(Vv.trans V2).aU,iu hR h1 rfl⟩⟩;have k2:=VY.ok;clear VY V2 Vv em;generalize hE:aZ l1 (hn 1 N.ai.c) (.aD 54 3 ((m.ai.slots.set x.a.toNat m.ai.last).map bW))=E at k2 ⊢;refine aK (L:=ids e) func166 ntmps166 ?_ (hL:=rfl);generalize hB:ids e=B;refine eK ?_
  (have W:=jA P' (jA Vt (jA hT.var (Za)));repeat' (first|refine au fun K hK=>?_|refine aq ?_|(with_reducible refine gR 4 ?_);refine qO 4 [hn 2 N.ai.v,hn 16 N.ai.c] [] [26,1000000] [] (bf 0 12) mixed ?_|(refine hK _ _ ?_;clear hK K)|(refine ar ?_ ?_<;>intro hc<;>try exact jz)|refine cL 9 ?_|refine oQ Wh (WS _ _) ?_|refine av ?_|exact jI|(clear hK K)))
  subst hE;refine eu (tl:=[(9,.var 219 (df x))]) hB hR.ok k2 (fun i=>?_) (du jC dL) [.tmp 6];rw[List.map_set];rfl
 by_cases ZY:x.op=11
 ·rw[Gj _ _ _ _ _ ZY];have VX:=hk.slot jB;have WX:=BW hR h1 x.a 4 VX (by have:=hk.slots;omega);have XK:=Nz U'.1 (dq m.ai.slots x.a 4).n m.ai.last.n (by show m.heap.length<=1000;omega) (by show m.heap.flatten.length<=1000;omega);rw[U'.2.1]at XK;have XK:cM prog 213 [.pt (hn 5 N.k) 0 0 0,rI (dq m.ai.slots x.a 4).n,rI m.ai.last.n] l1 (.aY [rI (if m.ai.last.n<0\/((bc m.heap (dq m.ai.slots x.a 4).n).length:Int)<=m.ai.last.n then 0 else nth (bc m.heap (dq m.ai.slots x.a 4).n) m.ai.last.n.toNat),rI (if m.ai.last.n<0\/((bc m.heap (dq m.ai.slots x.a 4).n).length:Int)<=m.ai.last.n then 2 else 0)]) l1:=XK;have eg:(if m.ai.last.n<0\/((bc m.heap (dq m.ai.slots x.a 4).n).length:Int)<=m.ai.last.n then(m.cut 1).stops 3 2 else(m.cut 1).push (vI (nth (bc m.heap (dq m.ai.slots x.a 4).n) m.ai.last.n.toNat)))=(m.cut 1).eR (vI (if m.ai.last.n<0\/((bc m.heap (dq m.ai.slots x.a 4).n).length:Int)<=m.ai.last.n then 0 else nth (bc m.heap (dq m.ai.slots x.a 4).n) m.ai.last.n.toNat),if m.ai.last.n<0\/((bc m.heap (dq m.ai.slots x.a 4).n).length:Int)<=m.ai.last.n then 2 else 0):=by
   unfold MV.eR;split
   ·rename_i h;simp only[if_pos h];rfl
   ·rename_i h;simp only[if_neg h];rfl
  rw[eg];generalize (if m.ai.last.n<0\/((bc m.heap (dq m.ai.slots x.a 4).n).length:Int)<=m.ai.last.n then(0:Int)else nth (bc m.heap (dq m.ai.slots x.a 4).n) m.ai.last.n.toNat)=gn at XK ⊢;generalize (if m.ai.last.n<0\/((bc m.heap (dq m.ai.slots x.a 4).n).length:Int)<=m.ai.last.n then(2:Int)else 0)=gt at XK ⊢;obtain⟨N',l,VQ,hU,hp⟩:=xX X U'.1 jB (vI gn,gt) jB;rw[eM1]at hp;refine⟨N',l,⟨VQ.1,VQ.2.1.trans U'.2.1,VQ.2.2.trans U'.2.2⟩,Vv.trans hU,⟨?_,hR.ok,hp.e2,(Vv.trans hU).aU,iu hR h1 rfl⟩⟩;refine aK (L:=ids e) func166 ntmps166 ?_ (hL:=rfl);generalize hB:ids e=B;refine eK ?_
  (have W:=jA P' (jA Vt (hR.root));repeat' (first|refine au fun K hK=>?_|refine aq ?_|(with_reducible refine gR 8 ?_);refine qO 8 [hn 2 N.ai.v,hn 16 N.ai.c] [44,51] [49] [] (bf 0 20) mixed ?_|(refine hK _ _ ?_;clear hK K)|(refine ar ?_ ?_<;>intro hc<;>try exact jz)|refine cL 9 ?_|refine nr WX ?_|refine oQ Wh (WS _ _) ?_|refine nr XK ?_|refine cp (um _) ?_|refine cT hp ?_|refine av ?_|exact jI|(clear hK K)))
  exact eu hB hR.ok hp.e2 (fun _=>rfl) (du jC dL) [.tmp 6]
 by_cases h13:x.op=13
 ·rw[EQ _ _ _ _ _ h13];by_cases c1:m.ai.last.n<0\/16<m.ai.last.n
  ·rw[if_pos c1];have Yg:=S4 U'.1 m.ai.last.n c1 (by show m.heap.length<=40;omega) (by show m.heap.flatten.length<=40;omega);rw[U'.2.1]at Yg;obtain⟨N',l,VQ,hU,hp⟩:=xX X U'.1 jB (⟨4,0,sE⟩,7) jB;rw[eM1]at hp;refine⟨N',l,⟨VQ.1,VQ.2.1.trans U'.2.1,VQ.2.2.trans U'.2.2⟩,Vv.trans hU,⟨?_,hR.ok,hp.e2,(Vv.trans hU).aU,iu hR h1 rfl⟩⟩;refine aK (L:=ids e) func166 ntmps166 ?_ (hL:=rfl);generalize hB:ids e=B;refine eK ?_
   (have W:=jA P' (jA Vt (hR.root));repeat' (first|refine au fun K hK=>?_|refine aq ?_|(with_reducible refine gR 16 ?_);refine qO 16 [hn 2 N.ai.v,hn 16 N.ai.c] [] [97] [] (bf 0 15) mixed ?_|(refine hK _ _ ?_;clear hK K)|(refine ar ?_ ?_<;>intro hc<;>try exact jz)|refine cL 9 ?_|refine oQ Wh (WS _ _) ?_|refine cT Yg ?_|refine cT hp ?_|refine av ?_|exact jI|(clear hK K)))
   exact eu hB hR.ok hp.e2 (fun _=>rfl) (du jC dL) [.tmp 6]
  rw[if_neg c1];by_cases c2:40<gz m.heap+m.ai.last.n+1
  ·rw[if_pos c2];have Yg:=Lu U'.1 m.ai.last.n jB (by show 40<(m.heap.length:Int)+m.heap.flatten.length+m.ai.last.n+1;rw[wg]at c2;omega) (by show m.heap.length<=40;omega) (by show m.heap.flatten.length<=40;omega);rw[U'.2.1]at Yg;obtain⟨N',l,VQ,hU,hp⟩:=xX X U'.1 jB (⟨4,0,sE⟩,4) jB;rw[eM1]at hp;refine⟨N',l,⟨VQ.1,VQ.2.1.trans U'.2.1,VQ.2.2.trans U'.2.2⟩,Vv.trans hU,⟨?_,hR.ok,hp.e2,(Vv.trans hU).aU,iu hR h1 rfl⟩⟩;refine aK (L:=ids e) func166 ntmps166 ?_ (hL:=rfl);generalize hB:ids e=B;refine eK ?_
   (have W:=jA P' (jA Vt (hR.root));repeat' (first|refine au fun K hK=>?_|refine aq ?_|(with_reducible refine gR 16 ?_);refine qO 16 [hn 2 N.ai.v,hn 16 N.ai.c] [] [97] [] (bf 0 15) mixed ?_|(refine hK _ _ ?_;clear hK K)|(refine ar ?_ ?_<;>intro hc<;>try exact jz)|refine cL 9 ?_|refine oQ Wh (WS _ _) ?_|refine cT Yg ?_|refine cT hp ?_|refine av ?_|exact jI|(clear hK K)))
   exact eu hB hR.ok hp.e2 (fun _=>rfl) (du jC dL) [.tmp 6]
  rw[if_neg c2];obtain⟨N2,l2,VQ,V2,Yg⟩:=Un X U'.1 m.ai.last.n jB (by show gz m.heap+_+1<=40;omega) (wg _);rw[U'.2.1]at Yg;have Yg:cM prog 216 [.pt (hn 5 N.k) 0 0 0,rI m.ai.last.n] l1 (.aY [rI (m.heap.length+1:Nat),rI 0]) l2:=Yg;obtain⟨N',l,Z0,hU3,hp⟩:=tu X VQ.1 (by show 1<=(m.cut 1).calls.length;omega) ⟨4,m.heap.length+1,sE⟩ (by show(m.cut 1).ai.stack.length<=1000;omega);obtain⟨N'',l',hT4,hU4,hp4⟩:=xX X VQ.1 (by show 1<=(m.cut 1).calls.length;omega) (⟨4,m.heap.length+1,sE⟩,0) (by show(m.cut 1).ai.stack.length<=1000;omega);rw[show mP N2=mP N by unfold mP;rw[VQ.2.1,U'.2.1]]at hp4;have Wu:=VQ.1.ok.low;refine⟨N'',l',⟨hT4.1,hT4.2.1.trans (VQ.2.1.trans U'.2.1),hT4.2.2.trans (VQ.2.2.trans U'.2.2)⟩,Vv.trans (V2.trans hU4),⟨?_,hR.ok,hp4.e2,(Vv.trans (V2.trans hU4)).aU,iu hR h1 rfl⟩⟩;refine aK (L:=ids e) func166 ntmps166 ?_ (hL:=rfl);generalize hB:ids e=B;refine eK ?_
  (have W:=jA P' (jA Vt (jA Wu (hR.root)));repeat' (first|refine au fun K hK=>?_|refine aq ?_|(with_reducible refine gR 16 ?_);refine qO 16 [hn 2 N.ai.v,hn 16 N.ai.c] [] [97] [] (bf 0 15) mixed ?_|(refine hK _ _ ?_;clear hK K)|(refine ar ?_ ?_<;>intro hc<;>try exact jz)|refine cL 9 ?_|refine oQ Wh (WS _ _) ?_|refine cT Yg ?_|refine cT hp4 ?_|refine av ?_|exact jI|(clear hK K)))
  exact eu hB hR.ok hp4.e2 (fun _=>rfl) (du jC dL) [.tmp 6]
 have ZS:x.op=12:=jB;rw[G6 _ _ _ _ _ ZS];have h2:=hk.two (.inr ZS);have VX:=hk.slot jB;have WX:=BW U'.1 jB x.a 4 (by rw[Yz];exact VX) (by rw[Yz];have:=hk.slots;show m.ai.slots.length<=1000;omega);rw[eN1,Yz]at WX;have WX:cM prog 207 [cP N,rI x.a,rI 4] l1 (rV (dq m.ai.slots x.a 4)) l1:=WX;obtain⟨N2,l2,⟨VQ,YS⟩,V2,Yv,ZB⟩:=xz X U'.1 jB jB;rw[eN1,Yz]at Yv;rw[Zg,U'.2.2]at ZB;have ecc:(m.cut 1).cut 1=m.cut 2:=KJ h1 1 1 jB;rw[ecc]at VQ;have Wu:=VQ.1.ok.low;have hc2:(m.cut 2).calls.length=m.calls.length:=MV.bP _ _;have ek:N2.k=N.k:=VQ.2.1.trans U'.2.1;by_cases hi:(m.ai.cut 1).last.n<0\/((bc m.heap (dq m.ai.slots x.a 4).n).length:Int)<=(m.ai.cut 1).last.n
 ·rw[if_pos hi];have YJ:=LA VQ.1 (dq m.ai.slots x.a 4).n (m.ai.cut 1).last.n m.ai.last.n (by show m.heap.length<=1000;omega) (by show m.heap.flatten.length<=1000;omega) hi;rw[ek]at YJ;obtain⟨N',l,Z0,hU,hp⟩:=wY X VQ.1 jB 3 2;rw[show mP N2=mP N by unfold mP;rw[ek]]at hp;refine⟨N',l,⟨Z0.1,Z0.2.1.trans ek,Z0.2.2.trans (VQ.2.2.trans U'.2.2)⟩,Vv.trans (V2.trans hU),⟨?_,hR.ok,hp.e2,(Vv.trans (V2.trans hU)).aU,iu hR h1 rfl⟩⟩;refine aK (L:=ids e) func166 ntmps166 ?_ (hL:=rfl);generalize hB:ids e=B;refine eK ?_
  (have W:=jA P' (jA Vt (jA Wu (jA hv3 (U'.2.1))));repeat' (first|refine au fun K hK=>?_|refine aq ?_|(with_reducible refine gR 12 ?_);refine qO 12 [hn 2 N.ai.v,hn 16 N.ai.c] [73] [78] [] [0,1,2,3,4,5,6,7,8,9,10,11,14,12,13,15,16] mixed ?_|(refine hK _ _ ?_;clear hK K)|(refine ar ?_ ?_<;>intro hc<;>try exact jz)|refine cL 9 ?_|refine cT Wh ?_|refine nr WX ?_|refine oQ Yv (ZB _ _) ?_|refine cT YJ ?_|refine cT hp ?_|refine av ?_|exact jI|(clear hK K)))
  exact eu hB hR.ok hp.e2 (fun _=>rfl) (du jC dL) [.tmp 6]
 ·rw[if_neg hi];obtain⟨N',l,Z0,hU,hp⟩:=ML X VQ.1 (dq m.ai.slots x.a 4).n (m.ai.cut 1).last.n m.ai.last.n (by show m.heap.length<=1000;omega) (by show m.heap.flatten.length<=1000;omega) hi;rw[ek]at hp;refine⟨N',l,⟨Z0.1,Z0.2.1.trans ek,Z0.2.2.trans (VQ.2.2.trans U'.2.2)⟩,Vv.trans (V2.trans hU),⟨?_,hR.ok,hp.e2,(Vv.trans (V2.trans hU)).aU,iu hR h1 rfl⟩⟩;refine aK (L:=ids e) func166 ntmps166 ?_ (hL:=rfl);generalize hB:ids e=B;refine eK ?_
  (have W:=jA P' (jA Vt (jA Wu (jA hv3 (U'.2.1))));repeat' (first|refine au fun K hK=>?_|refine aq ?_|(with_reducible refine gR 12 ?_);refine qO 12 [hn 2 N.ai.v,hn 16 N.ai.c] [73] [78] [] [0,1,2,3,4,5,6,7,8,9,10,11,14,12,13,15,16] mixed ?_|(refine hK _ _ ?_;clear hK K)|(refine ar ?_ ?_<;>intro hc<;>try exact jz)|refine cL 9 ?_|refine cT Wh ?_|refine nr WX ?_|refine oQ Yv (ZB _ _) ?_|refine cT hp ?_|refine av ?_|exact jI|(clear hK K)))
  exact eu hB hR.ok hp.e2 (fun _=>rfl) (du jC dL) [.tmp 6]
end
end Go.Proofs.YtjpcgmjaipfgdaaGreatDoor
namespace Go.Proofs.YtjpcgmjaipfgdaaGreatDoor
open Go Go.Gd Tryz
def im(v:aj):Prop:=bG v.n/\v.s.size<=40
def q5{n:Int}(h:bG n):im (vI n):=⟨h,by show sE.size<=40;decide⟩
def ug(b:Bool):im (vB b):=⟨IS b,by show sE.size<=40;decide⟩
def Hq(t:Int):im (vZ t):=⟨th,by show sE.size<=40;decide⟩
def HY{s:UX}(h:s.size<=40):im (vT s):=⟨th,h⟩
def Mw{l:List aj}(h:nk l)(k t:Int):im (dq l k t):=⟨AR h k t,by
 unfold dq;split
 ·show sE.size<=40;decide
 split
 ·rename_i h;exact Fs h.1
 ·show sE.size<=40;decide⟩
def ry(r:aj×Int):Prop:=im r.1/\0<=r.2/\r.2<=9
def lK{c:Prop}[Decidable c]{x y:aj×Int}(h:c->ry x)(k:¬c->ry y):ry (if c then x else y):=by
 by_cases e:c
 ·rw[if_pos e];exact h e
 ·rw[if_neg e];exact k e
def np{v:aj}(h:im v):ry (v,0):=⟨h,Int.le_refl _,by show(0:Int)<=9;decide⟩
def rz{t:Int}(h:0<=t/\t<=9):ry (v0,t):=⟨Hq 0,h⟩
def RZ(s:UX){a b:Int}(ha:bG a):ry (v6 s a b):=by unfold v6;refine lK (fun _=>np (q5 (xT _))) fun _=>lK (fun _=>np (q5 (xT _))) fun _=>lK (fun _=>np (q5 (xT _))) fun _=>lK (fun _=>lK (fun _=>rz jC) fun _=>np (q5 (xT _))) fun _=>lK (fun _=>lK (fun _=>rz jC) fun _=>np (q5 (PE ha))) fun _=>lK (fun _=>np (ug _)) fun _=>lK (fun _=>np (ug _)) fun _=>rz jC
def OU(s:UX){a b:aj}(ha:im a):ry (qD s a b):=by
 unfold qD;refine lK (fun _=>rz jC) fun _=>lK (fun _=>np (ug _)) fun _=>lK (fun _=>np (ug _)) fun _=>lK (fun _=>RZ _ ha.1) fun _=>lK (fun _=>lK (fun _=>np (ug _)) fun _=>lK (fun _=>np (ug _)) fun _=>rz jC) fun _=>lK (fun _=>lK (fun _=>lK (fun _=>rz jC) fun h=>np (HY ?_)) fun _=>rz jC) fun _=>rz jC
 rw[ByteArray.size_append];omega
def JB(s:UX)(a:aj):im (nj s a):=⟨Sn s a,by
 unfold nj
 (repeat' split)<;>(show sE.size<=40;decide)⟩
def Df{h:UT}(hc:gz h<=40)(hr:pU h)(n:Int):((MV.bc h n).length:Int)<=40/\∀k,k<(MV.bc h n).length->bG (nth (MV.bc h n) k):=by
 unfold MV.bc;split
 ·exact⟨jE,fun k hk=>by simp at hk⟩
 ·rename_i e;have hl:(n-1).toNat<h.length:=jB;have:=Lz h (n-1).toNat hl;exact⟨jB,fun k hk=>hr _ (cV hl) _ (cV hk)⟩
def qe{p:ah}{C:aE}{M:MV}{c:MC}{k:Nat}{x:ax}(h1:1<=M.calls.length)(h8:M.calls.length<=8)(hk:c.at_=k)(I':k<C.ins.length)(hx:nth C.ins k=x)(hz:∀v∈c.stack,im v)(hd:c.stack.length<=1000)(op:1<=x.op/\x.op<=23)
  (n:Nat) (hn:n<=c.stack.length) (V0:n=0->x.op=2\/x.op=3\/x.op=4\/x.op=5\/x.op=14\/x.op=16\/x.op=20\/x.op=22) (Xd:n=1->¬(x.op=7\/x.op=12))
  (slot:x.op=5\/x.op=6\/x.op=11\/x.op=12->0<=x.a/\x.a<c.slots.length)
  (call:x.op=20->0<=x.b/\x.b<=c.stack.length/\x.b<=3/\0<=x.a/\x.a<C.entry.length/\x.a<p.size.length/\0<=nth p.size x.a.toNat/\nth p.size x.a.toNat<=24/\x.b<=nth p.size x.a.toNat):(M.aX c).fN p C:=by
 refine fN.Og h1 h8 hk I' hx (fun h=>?_) (fun h=>?_) slot call op (fun h=>?_) (fun v hv=>(hz v hv).2) hd
 ·by_cases e:n=0
  ·have:=V0 e;omega
  ·omega
 ·by_cases e:n=0
  ·have:=V0 e;omega
  ·by_cases e1:n=1
   ·exact(Xd e1 h).elim
   ·omega
 ·have:1<=c.stack.length:=by
   by_cases e:n=0
   ·have:=V0 e;omega
   ·omega
  exact(hz _ (cV jB)).1
def l8(p:ah)(C:aE)(inp:UU)(M:MV)(c:MC)(k:Int):Prop:=
 (∃v q,im v/\bh p C inp (M.aX c) (M.aX { c with at_:=k,stack:=c.stack++[v],aQ:=q }))\/∃t:Int,(1<=t/\t<=9)/\bh p C inp (M.aX c) (M.jf c 3 t)
section
variable {p:ah}{C:aE}{inp:UU}{M:MV}
def AE{c:MC}{k:Nat}{x:ax}{v:aj}(h1:1<=M.calls.length)(h8:M.calls.length<=8)(hs:M.status=0)(hk:c.at_=k)(hl:bJ C.ins k [x])(WS:x.op≠1)(hok:(M.aX c).fN p C)(hv:im v)
  (hi:(M.aX { c with at_:=(k:Int)+1 }).ins p C inp x=M.aX (MC.push { c with at_:=(k:Int)+1 } v)):l8 p C inp M c (k+1):=
 .inl ⟨v,c.aQ-1,hv,bh.ins h1 h8 hs hk hl.head.1 hl.head.2.1 WS hok (by rw[hi];exact bh.refl _)⟩
def l8.bind{c:MC}{k1 k2:Int}(hd:l8 p C inp M c k1)(hn:∀v q,im v->(∃w q',im w/\bh p C inp (M.aX { c with at_:=k1,stack:=c.stack++[v],aQ:=q }) (M.aX { c with at_:=k2,stack:=c.stack++[w],aQ:=q' }))\/∃t:Int,(1<=t/\t<=9)/\bh p C inp (M.aX { c with at_:=k1,stack:=c.stack++[v],aQ:=q }) (M.jf c 3 t)):l8 p C inp M c k2:=by
 rcases hd with⟨v,q,hv,g⟩|⟨t,ht,g⟩
 ·rcases hn v q hv with⟨w,q',hw,g'⟩|⟨t,ht,g'⟩
  ·exact .inl ⟨w,q',hw,g.trans g'⟩
  ·exact .inr ⟨t,ht,g.trans g'⟩
 ·exact .inr ⟨t,ht,g⟩
def H9{c d:MC}{k:Nat}{x:ax}{r:aj×Int}{q:Nat}(h1:1<=M.calls.length)(h8:M.calls.length<=8)(hs:M.status=0)(hl:bJ C.ins k [x])(WS:x.op≠1)(hd:d.at_=(k:Int))
  (hok:(M.aX d).fN p C) (hr:ry r)
  (hi:(M.aX { d with at_:=(k:Int)+1 }).ins p C inp x=(M.aX { c with at_:=(k:Int)+1,aQ:=q }).eR r) :
  (∃w q',im w/\bh p C inp (M.aX d) (M.aX { c with at_:=(k:Int)+1,stack:=c.stack++[w],aQ:=q' }))\/∃t:Int,(1<=t/\t<=9)/\bh p C inp (M.aX d) (M.jf c 3 t):=by
 have g:∀m',bh p C inp ((M.aX { c with at_:=(k:Int)+1,aQ:=q }).eR r) m'->bh p C inp (M.aX d) m':=fun m' hg=> bh.ins (c:=d) h1 h8 hs hd hl.head.1 hl.head.2.1 WS hok (by rw[hi];exact hg)
 by_cases e:r.2=0
 ·refine .inl ⟨r.1,q-1,hr.1,g _ ?_⟩;unfold MV.eR;rw[if_neg (fun h=>h e),MV.fi h1];exact bh.refl _
 ·refine .inr ⟨r.2,by have:=hr.2;omega,g _ ?_⟩;unfold MV.eR;rw[if_pos e,MV.dZ h1];exact bh.refl _
def vJ{l:List aj}{v:aj}(h:∀u∈l,im u)(hv:im v):∀u∈l++[v],im u:=RX h hv
theorem zk(hs:gF p)(h1:1<=M.calls.length)(h8:M.calls.length<=8)(O':M.status=0)(hhc:gz M.heap<=40)(hhr:pU M.heap){j:Nat}(hj:j<p.aa.ak.length){slots:List aj}(VX:(slots.length:Int)=nth p.size j)(X4:nk slots) :
  ∀(n:Nat) (a:Int) (k:Nat) (c:MC),0<=a->a.toNat<p.aa.nodes.length->jL p j a->cF (bT p.aa.nodes a)->a.toNat<n->c.slots=slots->c.at_=k->bJ C.ins k (bg p n a k)->(∀v∈c.stack,im v)->c.stack.length+a.toNat<=900->
   l8 p C inp M c (k+(bg p n a k).length)
 |0,a,k,c,h0,hl,hi,hk,hn,hc,VL,hC,hz,hd=>by omega
 |n+1,a,k,c,h0,hl,hi,hk,hn,hc,VL,hC,hz,hd=>by
  have sh:=(hs.ok.aa.shape a.toNat hl).1;have Vn:cF (ap p a).kind:=hk;unfold cF at Vn;have XE:ju (ap p a).kind->0<=nth p.slots a.toNat/\nth p.slots a.toNat<c.slots.length:=fun h=>by have:=(hs.ak j hj).all a.toNat hi.1 (by have:=hi.2;omega) h;rw[hc];omega
  have ok0:∀(x:ax),bJ C.ins k [x]->x.op=2\/x.op=3\/x.op=4\/(x.op=5/\0<=x.a/\x.a<c.slots.length)->(M.aX c).fN p C:=fun x hx ho=> qe h1 h8 VL hx.head.1 hx.head.2.1 hz jB jB 0 jB (fun _=>jB) (fun h=>jB) (fun h=>jB) (fun h=>jB)
  have okU:∀(k':Nat) (x:ax) (u:aj) (q:Nat),bJ C.ins k' [x]->im u->x.op=8\/x.op=9\/x.op=10\/(x.op=11/\0<=x.a/\x.a<c.slots.length)\/x.op=18\/x.op=19->(M.aX { c with at_:=(k':Int),stack:=c.stack++[u],aQ:=q }).fN p C:=fun k' x u q hx hu ho=> qe h1 h8 rfl hx.head.1 hx.head.2.1 (vJ hz hu) jF jB 1 jE (fun h=>jB) (fun _=>jB) (fun h=>by show 0<=x.a/\x.a<c.slots.length;omega) (fun h=>jB)
  -- what is below it
  have sub:∀b∈(ap p a).l,cF (bT p.aa.nodes b)->∀(k':Nat) (c':MC),c'.slots=slots->c'.at_=k'->bJ C.ins k' (bg p n b k')->(∀v∈c'.stack,im v)->c'.stack.length<=c.stack.length+1->l8 p C inp M c' (k'+(bg p n b k').length):=fun b hb hbE k' c' g1 g2 g3 g4 g5=>by obtain⟨b1,b2,b3,b4⟩:=hi.aC hs hj hb;exact zk hs h1 h8 O' hhc hhr hj VX X4 n b k' c' b2 b4 b1 hbE jB g1 g2 g3 g4 jB
  have VH:(ap p a).kind=1\/(ap p a).kind=2\/(ap p a).kind=3\/(ap p a).kind=4\/(ap p a).kind=5\/(ap p a).kind=6\/(ap p a).kind=7\/(ap p a).kind=8\/(ap p a).kind=9:=jB;have W3:=fun h=>(sh.one (h:(nth p.aa.nodes a.toNat).kind=5\/(nth p.aa.nodes a.toNat).kind=6\/(nth p.aa.nodes a.toNat).kind=7\/(nth p.aa.nodes a.toNat).kind=8\/(nth p.aa.nodes a.toNat).kind=14\/(nth p.aa.nodes a.toNat).kind=20))
  -- an operation on one value
  have un:∀(x:Int) (i:ax) (f:aj->aj×Int),(ap p a).l=[x]->cF (bT p.aa.nodes x)->bg p (n+1) a k=bg p n x k++[i]->i.op=8\/i.op=9\/i.op=10\/(i.op=11/\0<=i.a/\i.a<c.slots.length)->(∀v,im v->ry (f v))->
    (∀v q,(M.aX { c with at_:=((k+(bg p n x k).length:Nat):Int)+1,stack:=c.stack++[v],aQ:=q }).ins p C inp i=(M.aX { c with at_:=((k+(bg p n x k).length:Nat):Int)+1,aQ:=q+1 }).eR (f v))->l8 p C inp M c (k+(bg p (n+1) a k).length):=fun x i f u' Vw e Xm hf Wf=>by
   rw[e]at hC ⊢;have d:=sub x (by rw[u'];simp) Vw k c hc VL hC.last.1 hz jB;have Vf:=hC.app.2;rw[List.length_append,List.length_singleton,Int.natCast_add,show((k:Int)+(((bg p n x k).length:Int)+((1:Nat):Int)))=((k+(bg p n x k).length:Nat):Int)+1 by push_cast;omega];refine d.bind fun v q hv=>?_
   exact H9 (d:={ c with at_:=((k:Int)+((bg p n x k).length:Int)),stack:=c.stack++[v],aQ:=q }) h1 h8 O' Vf (fun h=>jB) (by push_cast;rfl) (by have:=okU _ i v q Vf hv jB;rw[Int.natCast_add]at this;exact this) (hf v hv) (Wf v q)
  rcases VH with e|e|e|e|e|e|e|e|e
  ·rw[mB]at hC ⊢;simp only[e,Int.reduceEq,↓reduceIte]at hC ⊢;exact AE h1 h8 O' VL hC (fun h=>by cases h) (ok0 _ hC (.inl rfl)) (q5 (hs.ok.bG _ hl e)) (by rw[MV.rF,MV.fi h1];rfl)
  ·rw[mB]at hC ⊢;simp only[e,Int.reduceEq,↓reduceIte]at hC ⊢;exact AE h1 h8 O' VL hC (fun h=>by cases h) (ok0 _ hC (.inr (.inl rfl))) (ug _) (by rw[MV.ql,MV.fi h1])
  ·rw[mB]at hC ⊢;simp only[e,Int.reduceEq,↓reduceIte]at hC ⊢;exact AE h1 h8 O' VL hC (fun h=>by cases h) (ok0 _ hC (.inr (.inr (.inl rfl)))) (HY (by have:=sh.text e;show(nth p.aa.nodes a.toNat).name.size<=40;omega)) (by rw[MV.p4,MV.fi h1];rfl)
  ·have hs4:=XE (.inl e);rw[mB]at hC ⊢;simp only[e,Int.reduceEq,↓reduceIte]at hC ⊢;exact AE h1 h8 O' VL hC (fun h=>by cases h) (ok0 _ hC (.inr (.inr (.inr ⟨rfl,hs4⟩)))) (Mw (l:=c.slots) (by rw[hc];exact X4) _ _) (by rw[MV.qh,MV.fi h1,MV.bn h1])
  ·obtain⟨x,u',Vw⟩:=W3 (.inl e);have u':(ap p a).l=[x]:=u';have Wd:nth (ap p a).l 0=x:=by rw[u'];rfl
   have Xv:=Df hhc hhr (dq c.slots (nth p.slots a.toNat) 4).n;refine un x (iI 11 (nth p.slots a.toNat)) (fun v=>if v.n<0\/((MV.bc M.heap (dq c.slots (nth p.slots a.toNat) 4).n).length:Int)<=v.n then(v0,2)else(vI (nth (MV.bc M.heap (dq c.slots (nth p.slots a.toNat) 4).n) v.n.toNat),0)) u' Vw (by rw[mB,Wd];simp only[e,Int.reduceEq,↓reduceIte]) (.inr (.inr (.inr ⟨rfl,XE (.inr (.inl e))⟩))) (fun v hv=>?_) fun v q=>?_
   ·exact lK (fun _=>rz jC) fun _=>np (q5 (Xv.2 _ jB))
   ·rw[MV.o6,MV.bn h1,MV.eZ,MV.cY h1,MV.fK,MV.kJ];dsimp only;split<;>rfl
  ·obtain⟨x,u',Vw⟩:=W3 (by have e:(nth p.aa.nodes a.toNat).kind=6:=e;omega);have u':(ap p a).l=[x]:=u';have Wd:nth (ap p a).l 0=x:=by rw[u'];rfl
   refine un x (iI 10 0) (fun v=>(vI (if v.ty=4 then((MV.bc M.heap v.n).length:Int)else(v.s.size:Int)),0)) u' Vw (by rw[mB,Wd];simp only[e,Int.reduceEq,↓reduceIte]) (.inr (.inr (.inl rfl))) (fun v hv=>np (q5 ?_)) fun v q=>?_
   ·have:=(Df hhc hhr v.n).1;have:=hv.2;unfold bG;split<;>omega
   ·rw[MV.lZ,MV.bn h1,MV.eZ,MV.cY h1,MV.fK,MV.kJ];rfl
  ·obtain⟨x,u',Vw⟩:=W3 (by have e:(nth p.aa.nodes a.toNat).kind=7:=e;omega);have u':(ap p a).l=[x]:=u';have Wd:nth (ap p a).l 0=x:=by rw[u'];rfl
   exact un x (iI 8 0) (fun v=>(nj (⟨#[45]⟩:UX) v,0)) u' Vw (by rw[mB,Wd];simp only[e,Int.reduceEq,↓reduceIte]) (.inl rfl) (fun v hv=>np (JB _ _)) fun v q=>by rw[MV.rC,MV.bn h1,MV.eZ,MV.cY h1,MV.fK];rfl
  ·obtain⟨x,u',Vw⟩:=W3 (by have e:(nth p.aa.nodes a.toNat).kind=8:=e;omega);have u':(ap p a).l=[x]:=u';have Wd:nth (ap p a).l 0=x:=by rw[u'];rfl
   exact un x (iI 9 0) (fun v=>(nj (⟨#[33]⟩:UX) v,0)) u' Vw (by rw[mB,Wd];simp only[e,Int.reduceEq,↓reduceIte]) (.inr (.inl rfl)) (fun v hv=>np (JB _ _)) fun v q=>by rw[MV.so,MV.bn h1,MV.eZ,MV.cY h1,MV.fK];rfl
  ·obtain⟨x,y,u',Vw,Yw⟩:=sh.two (.inl e);have u':(ap p a).l=[x,y]:=u';have Wd:nth (ap p a).l 0=x:=by rw[u'];rfl
   have YV:nth (ap p a).l 1=y:=by rw[u'];rfl
   rw[mB]at hC ⊢;simp only[e,Wd,YV,Int.reduceEq,↓reduceIte]at hC ⊢;by_cases W3:lM (ap p a).name=7
   ·rw[if_pos W3]at hC ⊢;have d:=sub x (by rw[u'];simp) Vw k c hc VL hC.last.1.app.1 hz jB;have hCy:=hC.last.1.app.2;have Vf:=hC.app.2;rw[List.length_append,List.length_append,List.length_singleton,show((k:Int)+(((bg p n x k).length+(bg p n y (k+(bg p n x k).length)).length+1:Nat):Int))=((k+(bg p n x k++bg p n y (k+(bg p n x k).length)).length:Nat):Int)+1 by rw[List.length_append];push_cast;omega];refine d.bind fun v q hv=>?_
    have dy:=sub y (by rw[u'];simp) Yw (k+(bg p n x k).length) { c with at_:=((k:Int)+((bg p n x k).length:Int)),stack:=c.stack++[v],aQ:=q } hc (by push_cast;rfl) (by rw[Int.natCast_add];exact hCy) (vJ hz hv) jE;rw[Int.natCast_add]at dy;rcases dy with⟨w,q2,hw,g⟩|⟨t,ht,g⟩
    ·have hbj:((k:Int)+((bg p n x k).length:Int)+((bg p n y (k+(bg p n x k).length)).length:Int))=((k+(bg p n x k++bg p n y (k+(bg p n x k).length)).length:Nat):Int):=by rw[List.length_append];push_cast;omega
     rw[hbj]at g;rcases H9 (p:=p) (C:=C) (inp:=inp) (M:=M) (c:=c) (d:={ c with at_:=((k+(bg p n x k++bg p n y (k+(bg p n x k).length)).length:Nat):Int),stack:=c.stack++[v]++[w],aQ:=q2 }) (r:=qD (ap p a).name v w) (q:=q2+2) h1 h8 O' Vf (fun h=>by cases h) rfl
      (qe h1 h8 rfl Vf.head.1 Vf.head.2.1 (vJ (vJ hz hv) hw) jF ⟨by show(1:Int)<=7;decide,by show(7:Int)<=23;decide⟩ 2 jE (fun h=>by cases h) (fun h=>by cases h) (fun h=>by rcases h with h|h|h|h<;>cases h) (fun h=>by cases h)) (OU _ hv)
      (by rw[MV.sq,MV.bn h1,MV.eZ,MV.fK c w (c.stack++[v]),MV.eZ,MV.cY h1,MV.o8])with⟨u,q3,hu,g'⟩|⟨t,ht,g'⟩
     ·exact .inl ⟨u,q3,hu,g.trans g'⟩
     ·exact .inr ⟨t,ht,g.trans g'⟩
    ·exact .inr ⟨t,ht,g⟩
   ·rw[if_neg W3]at hC ⊢;have hsg:lM (ap p a).name=18\/lM (ap p a).name=19:=by
     unfold lM at W3 ⊢;split
     ·exact .inl rfl
     ·split
      ·exact .inr rfl
      ·rename_i h1 h2;rw[if_neg h1,if_neg h2]at W3;exact(W3 rfl).elim
    have d:=sub x (by rw[u'];simp) Vw k c hc VL hC.app.1.last.1 hz jB;have Vf:=hC.app.1.last;have haQ:=hC.app.1.app.2;have hCy:=hC.app.2;generalize hX:(bg p n x k)=X at*;have eL:((k:Int)+(X.length:Int)+1)=((k+X.length+1:Nat):Int):=by push_cast;omega
    rw[eL]at hCy Vf haQ ⊢;have hCy:bJ C.ins (k+X.length+1) (bg p n y ((k+X.length+1:Nat):Int)):=by rw[List.length_append,List.length_singleton,<-Nat.add_assoc]at hCy;exact hCy
    have Vg:((k:Int)+((X++[iI (lM (ap p a).name) (((k+X.length+1:Nat):Int)+(bg p n y ((k+X.length+1:Nat):Int)).length)]++bg p n y ((k+X.length+1:Nat):Int)).length:Int))=((k+X.length+1:Nat):Int)+(bg p n y ((k+X.length+1:Nat):Int)).length:=by simp only[List.length_append,List.length_cons,List.length_nil];push_cast;omega
    rw[Vg];refine d.bind fun v q hv=>?_
    have hok:=okU (k+X.length) _ v q haQ hv (by rcases hsg with h|h<;>rw[h]<;>simp[iI]);rw[Int.natCast_add]at hok;have go:∀m',bh p C inp ((M.aX { c with at_:=((k+X.length:Nat):Int)+1,stack:=c.stack++[v],aQ:=q }).ins p C inp (iI (lM (ap p a).name) (((k+X.length+1:Nat):Int)+(bg p n y ((k+X.length+1:Nat):Int)).length))) m'->bh p C inp (M.aX { c with at_:=(k:Int)+X.length,stack:=c.stack++[v],aQ:=q }) m':=fun m' hg=> bh.ins (c:={ c with at_:=(k:Int)+X.length,stack:=c.stack++[v],aQ:=q }) (k:=k+X.length) h1 h8 O' (by push_cast;rfl) Vf.2.1 Vf.2.2 (by rcases hsg with h|h<;>rw[h]<;>(intro h;cases h)) hok hg
    have dy:=fun q2=>sub y (by rw[u'];simp) Yw (k+X.length+1) { c with at_:=((k+X.length+1:Nat):Int),aQ:=q2 } hc rfl hCy hz (by show c.stack.length<=_;omega)
    -- the other side is taken, or not
    have take:l8 p C inp M { c with at_:=((k+X.length+1:Nat):Int),aQ:=q+1 } (((k+X.length+1:Nat):Int)+(bg p n y ((k+X.length+1:Nat):Int)).length):=dy (q+1);have e1:M.aX (({ c with at_:=((k+X.length:Nat):Int)+1,stack:=c.stack++[v],aQ:=q }:MC).cut 1)=M.aX { c with at_:=((k+X.length+1:Nat):Int),aQ:=q+1 }:=by rw[MV.fK,show((k+X.length:Nat):Int)+1=((k+X.length+1:Nat):Int) by push_cast;rfl]
    have fin:(M.aX { c with at_:=((k+X.length:Nat):Int)+1,stack:=c.stack++[v],aQ:=q }).ins p C inp (iI (lM (ap p a).name) (((k+X.length+1:Nat):Int)+(bg p n y ((k+X.length+1:Nat):Int)).length))=M.aX { c with at_:=((k+X.length+1:Nat):Int),aQ:=q+1 }\/
      (M.aX { c with at_:=((k+X.length:Nat):Int)+1,stack:=c.stack++[v],aQ:=q }).ins p C inp (iI (lM (ap p a).name) (((k+X.length+1:Nat):Int)+(bg p n y ((k+X.length+1:Nat):Int)).length))=M.aX { c with at_:=(((k+X.length+1:Nat):Int)+(bg p n y ((k+X.length+1:Nat):Int)).length),stack:=c.stack++[v],aQ:=q }:=by
     rcases hsg with h|h
     ·rw[h,MV.rG,MV.bn h1,MV.cY h1,e1,MV.dB];split
      ·exact .inl rfl
      ·exact .inr rfl
     ·rw[h,MV.uK,MV.bn h1,MV.cY h1,e1,MV.dB];split
      ·exact .inr rfl
      ·exact .inl rfl
    rcases fin with fin|fin
    ·rw[fin]at go;rcases take with⟨w,q2,hw,g⟩|⟨t,ht,g⟩
     ·exact .inl ⟨w,q2,hw,go _ g⟩
     ·exact .inr ⟨t,ht,go _ g⟩
    ·rw[fin]at go;exact .inl ⟨v,q,hv,go _ (bh.refl _)⟩
end
inductive dU(p:ah)(C:aE)(j:Nat):Nat->Prop
 |mark {k n:Nat} {a:Int} (h0:0<=a) (hn:a.toNat<n+1) (hl:a.toNat<p.aa.nodes.length) (hi:jL p j a) (hk:fu (bT p.aa.nodes a)) (hC:bJ C.ins k (gj p (n+1) a k)) (h:dU p C j (k+(gj p (n+1) a k).length)):dU p C j k
 |jump {k k':Nat} (hk:k<C.ins.length) (hx:nth C.ins k=iI 16 (k':Int)) (h:dU p C j k'):dU p C j k
 |fin {k:Nat} {r:Int} (hk:k<C.ins.length) (hx:nth C.ins k=iI 22 r):dU p C j k
structure mR(p:ah)(C:aE)(j k n:Nat)(a:Int):Prop where
 h0:0<=a
 hn:a.toNat<n+1
 hl:a.toNat<p.aa.nodes.length
 hi:jL p j a
 hk:fu (bT p.aa.nodes a)
 hC:bJ C.ins k (gj p (n+1) a k)
 h:dU p C j (k+(gj p (n+1) a k).length)
def uy(p:ah)(C:aE)(j:Nat)(k:Int):Prop:=∃k0 n a,k=((k0:Nat):Int)/\mR p C j k0 n a
structure mI(p:ah)(c:MC):Prop where
 f0:0<=c.fn
 f1:c.fn<p.aa.ak.length
 sl:(c.slots.length:Int)=nth p.size c.fn.toNat
 rg:nk c.slots
def yr(c:MC)(x:ax):Prop:=(∃s,x=iI 6 s/\0<=s/\s<c.slots.length)\/x=iI 23 0
structure rm(p:ah)(C:aE)(c:MC):Prop where
 stack:c.stack=[]
 mark:uy p C c.fn.toNat c.mark
 at_:∃k:Nat,c.at_=(k:Int)/\k<C.ins.length/\yr c (nth C.ins k)/\dU p C c.fn.toNat (k+1)
structure ff(p:ah)(C:aE)(M:MV):Prop where
 one:1<=M.calls.length
 eO:M.calls.length<=8
 st:M.status=0
 tr:0<=M.bs/\M.bs<=9
 low:∀k,k+1<M.calls.length->mI p (nth M.calls k)/\rm p C (nth M.calls k)
 cells:gz M.heap<=40
 rg:pU M.heap
structure MI(p:ah)(C:aE)(m:MV):Prop where
 eO:m.calls.length<=8
 low:∀k,k+1<m.calls.length->mI p (nth m.calls k)/\rm p C (nth m.calls k)
 ai:m.status≠2->1<=m.calls.length/\mI p m.ai/\m.ai.stack=[]/\uy p C m.ai.fn.toNat m.ai.at_
 xE:m.status=2->m.calls.length=0
 st:0<=m.status/\m.status<=3
 tr:0<=m.bs/\m.bs<=9
 cells:gz m.heap<=40
 rg:pU m.heap
def mg(p:ah)(C:aE)(M m:MV):Prop:=m.gy C/\MI p C m/\m.time=M.time
section
variable {p:ah}{C:aE}{inp:UU}
def Qj(p:ah)(n:Nat)(a k:Int):∃l,gj p (n+1) a k=iI 1 a::l:=⟨_,zw p n a k⟩
theorem mR.head{j k n:Nat}{a:Int}(h:mR p C j k n a):k<C.ins.length/\nth C.ins k=iI 1 a:=by obtain⟨l,e⟩:=Qj p n a k;have hC:=h.hC;rw[e]at hC;exact⟨hC.head.1,hC.head.2.1⟩
theorem ff.aX{M:MV}(h:ff p C M)(c:MC):ff p C (M.aX c):=
 ⟨by rw[MV.bP];exact h.one,by rw[MV.bP];exact h.eO,h.st,h.tr,fun k hk=>by rw[MV.bP]at hk;rw[show nth (M.aX c).calls k=nth M.calls k from(Go.Gd.dD _ _ _ _ (by have:=h.one;omega)).trans (jN)];exact h.low k hk,h.cells,h.rg⟩
variable{M:MV}
def ff.mi(h:ff p C M){c:MC}(hc:mI p c)(O':c.stack=[])(hm:uy p C c.fn.toNat c.at_){s t:Int}(hs:s=0\/s=1\/s=3)(ht:0<=t/\t<=9):MI p C { M.aX c with status:=s,bs:=t }:=by
 have hu:=h.aX c;refine⟨hu.eO,hu.low,fun _=>?_,fun e=>?_,?_,ht,h.cells,h.rg⟩
 ·have ht:MV.ai { M.aX c with status:=s,bs:=t }=c:=MV.bn h.one c;rw[ht];exact⟨hu.one,hc,O',hm⟩
 ·have e:s=2:=e;omega
 ·show 0<=s/\s<=3;omega
def wA(h:ff p C M){c:MC}(hc:mI p c)(hm:uy p C c.fn.toNat c.mark){s t:Int}(hs:s=1\/s=3)(ht:0<=t/\t<=9):mg p C M (M.jf c s t):=
 ⟨.inl (by show s≠0;omega),h.mi (c:=c.back) ⟨hc.f0,hc.f1,hc.sl,hc.rg⟩ rfl hm jB ht,rfl⟩
def Q4(c:MC):(M.aX c).pop=M.pop:=by show MV.mk ((M.calls.set (M.calls.length-1) c).take ((M.calls.set (M.calls.length-1) c).length-1)) _ _ _ _ _ _ _=_;rw[List.length_set,List.take_set_of_le jl];rfl
def S8{α:Type}[Inhabited α](l:List α)(n k:Nat)(h:k<n):nth (l.take n) k=nth l k:=by unfold nth;rw[List.getD_eq_getElem?_getD,List.getElem?_take,if_pos h,List.getD_eq_getElem?_getD]
theorem ff.pop{M:MV}(h:ff p C M)(h2:2<=M.calls.length):ff p C M.pop/\M.pop.calls.length=M.calls.length-1/\mI p M.pop.ai/\rm p C M.pop.ai:=by
 have hl:M.pop.calls.length=M.calls.length-1:=by show(M.calls.take _).length=_;rw[List.length_take];omega
 have hn:∀k,k<M.calls.length-1->nth M.pop.calls k=nth M.calls k:=fun k hk=>S8 _ _ _ hk
 have ht:M.pop.ai=nth M.calls (M.calls.length-2):=by unfold MV.ai;rw[hl,hn _ jB];rfl
 have Vf:=h.low (M.calls.length-2) jB;have:=h.eO;rw[ht];exact⟨⟨jB,jB,h.st,h.tr,fun k hk=>by rw[hn k jB];exact h.low k jB,h.cells,h.rg⟩,hl,Vf⟩
def KF{N:Nat}(hM:ff p C M)(hN:M.calls.length=N)
  (ih:∀(M:MV) (c:MC) (k:Nat),ff p C M->M.calls.length=N->mI p c->c.stack=[]->c.at_=(k:Int)->dU p C c.fn.toNat k->∃m1,bh p C inp (M.aX c) m1/\mg p C M m1)
  {c:MC} {v:aj} {k:Nat} (hc:mI p c) (O':c.stack=[v]) (hv:im v) (VL:c.at_=(k:Int)) (hk:k<C.ins.length) (hx:yr c (nth C.ins k)) (hn:dU p C c.fn.toNat (k+1)):∃m1,bh p C inp (M.aX c) m1/\mg p C M m1:=by
 have h1:=hM.one;have ht:=MV.bn (M:=M) h1;have hz:∀u∈c.stack,im u:=fun u hu=>by rw[O']at hu;rw[List.mem_singleton.1 hu];exact hv
 rcases hx with⟨s,hx,s0,s1⟩|hx
 ·obtain⟨m1,g,d⟩:=ih M { c with at_:=((k+1:Nat):Int),slots:=c.slots.set s.toNat v,stack:=[],aQ:=c.aQ+1 } (k+1) hM hN ⟨hc.f0,hc.f1,by show((c.slots.set _ _).length:Int)=_;rw[List.length_set];exact hc.sl,JE hc.rg _ hv.1⟩ rfl rfl hn;refine⟨m1,bh.ins h1 hM.eO hM.st VL hk hx (fun h=>by cases h) (qe h1 hM.eO VL hk hx hz (by rw[O'];simp) ⟨by show(1:Int)<=6;decide,by show(6:Int)<=23;decide⟩ 1 (by rw[O'];simp) (fun h=>by cases h) (fun _ h=>by rcases h with h|h<;>cases h) (fun _=>⟨s0,s1⟩) (fun h=>by cases h)) ?_,d⟩;rw[MV.oW,ht,MV.dB];have e:({ MC.cut { c with at_:=(k:Int)+1 } 1 with slots:=(MC.slots { c with at_:=(k:Int)+1 }).set s.toNat (MC.last { c with at_:=(k:Int)+1 }) }:MC)={ c with at_:=((k+1:Nat):Int),slots:=c.slots.set s.toNat v,stack:=[],aQ:=c.aQ+1 }:=by
   unfold MC.cut MC.last;simp only[O'];rfl
  rw[e];exact g
 ·obtain⟨m1,g,d⟩:=ih M { c with at_:=((k+1:Nat):Int),stack:=[],aQ:=c.aQ+1 } (k+1) hM hN ⟨hc.f0,hc.f1,hc.sl,hc.rg⟩ rfl rfl hn;refine⟨m1,bh.ins h1 hM.eO hM.st VL hk hx (fun h=>by cases h) (qe h1 hM.eO VL hk hx hz (by rw[O'];simp) ⟨by show(1:Int)<=23;decide,by show(23:Int)<=23;decide⟩ 1 (by rw[O'];simp) (fun h=>by cases h) (fun _ h=>by rcases h with h|h<;>cases h) (fun h=>by rcases h with h|h|h|h<;>cases h) (fun h=>by cases h)) ?_,d⟩;rw[MV.sx,MV.cY h1];have e:MC.cut { c with at_:=(k:Int)+1 } 1={ c with at_:=((k+1:Nat):Int),stack:=[],aQ:=c.aQ+1 }:=by
   unfold MC.cut;simp only[O'];rfl
  rw[e];exact g
def Ie{N:Nat}(hM:ff p C M)(hN:M.calls.length=N+1)
  (ih:∀(M:MV) (c:MC) (k:Nat),ff p C M->M.calls.length=N->mI p c->c.stack=[]->c.at_=(k:Int)->dU p C c.fn.toNat k->∃m1,bh p C inp (M.aX c) m1/\mg p C M m1) {v:aj} (hv:im v) (c:MC):∃m1,bh p C inp ((M.aX c).ends v) m1/\mg p C M m1:=by
 unfold MV.ends;rw[Q4,MV.bP];by_cases h2:M.calls.length<=1
 ·rw[if_pos h2];have hl:M.pop.calls.length=0:=by show(M.calls.take _).length=_;rw[List.length_take];omega
  exact⟨_,bh.refl _,.inl (by show(2:Int)≠0;decide),⟨by show M.pop.calls.length<=8;omega,fun k hk=>by have hk:k+1<M.pop.calls.length:=hk;omega,fun e=>(e rfl).elim,fun _=>hl,⟨by show(0:Int)<=2;decide,by show(2:Int)<=3;decide⟩,hM.tr,hM.cells,hM.rg⟩,rfl⟩
 ·rw[if_neg h2];obtain⟨b,l,f,lo⟩:=hM.pop jB;obtain⟨k,k1,k2,k3,k4⟩:=lo.at_;have e:M.pop.push v=M.pop.aX { M.pop.ai with stack:=[v],aQ:=M.pop.ai.aQ-1 }:=by
   unfold MV.push MC.push;rw[lo.stack];rfl
  rw[e];exact KF b jB ih (c:={ M.pop.ai with stack:=[v],aQ:=M.pop.ai.aQ-1 }) ⟨f.f0,f.f1,f.sl,f.rg⟩ rfl hv k1 k2 k3 k4
theorem ww:∀(N:Nat) (M:MV) (c:MC) (k:Nat),ff p C M->M.calls.length=N->mI p c->c.stack=[]->c.at_=(k:Int)->dU p C c.fn.toNat k->∃m1,bh p C inp (M.aX c) m1/\mg p C M m1
 |0,M,c,k,hM,hN,_,_,_,_=>by have:=hM.one;omega
 |N+1,M,c,k,hM,hN,hc,O',VL,hk=>by
  generalize hj:c.fn.toNat=j at hk;have h1:=hM.one;have ht:=MV.bn (M:=M) h1;induction hk generalizing c with
  |@mark k n a h0 hn hl hi hkd hC h _=>
   have hm:mR p C j k n a:=⟨h0,hn,hl,hi,hkd,hC,h⟩;refine⟨_,bh.refl _,.inr ?_,?_,rfl⟩
   ·unfold MV.bt;rw[ht,VL,Int.toNat_natCast,hm.head.2];rfl
   ·have:=hM.mi hc O' (by rw[hj];exact⟨k,n,a,VL,hm⟩) (.inl rfl) hM.tr;have e:({ M.aX c with status:=0,bs:=M.bs }:MV)=M.aX c:=by
     have:=hM.st;unfold MV.aX;rw[this]
    rwa [e]at this
  |@jump k k' hk hx h ih=> obtain⟨m1,g,d⟩:=ih { c with at_:=(k':Int) } ⟨hc.f0,hc.f1,hc.sl,hc.rg⟩ O' rfl hj;refine⟨m1,bh.ins h1 hM.eO hM.st VL hk hx (fun h=>by cases h) (qe h1 hM.eO VL hk hx (fun u hu=>by rw[O']at hu;cases hu) (by rw[O'];simp) ⟨by show(1:Int)<=16;decide,by show(16:Int)<=23;decide⟩ 0 (Nat.zero_le _) (fun _=>.inr (.inr (.inr (.inr (.inr (.inl rfl)))))) (fun h=>by cases h) (fun h=>by rcases h with h|h|h|h<;>cases h) (fun h=>by cases h)) ?_,d⟩;rw[MV.pZ,ht,MV.dB];exact g
  |@fin k r hk hx=>
   have go:∀m',bh p C inp ((M.aX { c with at_:=(k:Int)+1 }).ends (vZ r)) m'->bh p C inp (M.aX c) m':=fun m' g=> bh.ins h1 hM.eO hM.st VL hk hx (fun h=>by cases h) (qe h1 hM.eO VL hk hx (fun u hu=>by rw[O']at hu;cases hu) (by rw[O'];simp) ⟨by show(1:Int)<=22;decide,by show(22:Int)<=23;decide⟩ 0 (Nat.zero_le _) (fun _=>.inr (.inr (.inr (.inr (.inr (.inr (.inr rfl))))))) (fun h=>by cases h) (fun h=>by rcases h with h|h|h|h<;>cases h) (fun h=>by cases h)) g
   obtain⟨m1,g,d⟩:=Ie (inp:=inp) hM hN (fun M c k a b=>ww N M c k a b) (Hq r) { c with at_:=(k:Int)+1 };exact⟨m1,go _ g,d⟩
end
end Go.Proofs.YtjpcgmjaipfgdaaGreatDoor
/- Lemmas. No conditions. -/
import Derived.Test.YtjpcgmjaipfgdaaGreatDoorRpQ
set_option linter.all false
set_option maxHeartbeats 8000000
set_option maxRecDepth 10000
namespace Go.Gd
open Go
def lr(p:ah):US:=[aO eF 5 p.aa.nodes,aO fW 5 p.aa.ak,aO eI 1 p.types,aO eI 1 p.slots,aO eI 1 p.fn,aO eI 1 p.size]
attribute [go_sem] lr
def SL(p:ah):aR eo (lr p)=true:=rfl
def PY(p:ah):dj p=lr p:=rfl
namespace MV
def jc.wl{c:MC}{n:NC}{e l:UR}(h:jc c n e)(hs:∀i r,az e i=some r->az l i=some r):jc c n l:=⟨hs _ _ h.var,hs _ _ h.cH,hs _ _ h.eN,h.bd⟩
theorem bI.wl{p:ah}{C:aE}{m:MV}{N:NM}{e l:UR}(h:bI p C m N e)(hl:fF 0 l)(hs:∀i r,az e i=some r->az l i=some r):bI p C m N l:=
 ⟨hl,hs _ _ h.root,hs _ _ h.row,hs _ _ h.hp,hs _ _ h.cells,hs _ _ h.ends,hs _ _ h.outs,h.len,fun k hk=>(h.call k hk).wl hs,h.nc,h.nv,h.bd⟩
end MV
theorem G5:∀(m l:UR),(ids l).Nodup->(ids (gB l m)).Nodup
 |[],_,h=>h
 |(i,r)::m,l,h=>G5 m _ (Cp l i r h)
variable{s' E:UR}
def wT(h:(ids s').Nodup)(i:Nat):az (gB E s') i=(az s' i).or (az E i):=ud _ _ _ (fun _ _ _=>trivial) h
def fF.BM(hE:fF 0 E)(h:fF 0 s'):fF 0 (gB E s'):=by
 have hm:∀j,(ids s').contains j=true\/(ids E).contains j=true->(ids (gB E s')).contains j=true:=fun j hj=>by
  rw[List.contains_iff_mem,lR,wT h.nodup];rcases hj with hj|hj
  ·have:=(lR s' j).1 (List.contains_iff_mem.1 hj);cases e:az s' j with
   |none=>exact(this e).elim
   |some r=>simp
  ·have:=(lR E j).1 (List.contains_iff_mem.1 hj);cases e:az s' j with
   |none=>simpa using this
   |some r=>simp
 refine⟨fun j h1 h2=>by rw[wT h.nodup,h.no j h1 h2,hE.no j h1 h2];rfl,G5 _ _ hE.nodup,fun j r hj=>?_⟩;rw[wT h.nodup]at hj;cases e:az s' j with
 |some r'=>rw[e]at hj;cases hj;exact fR (fun k hk=>hm k (.inl hk)) _ (h.closed j _ e)
 |none=>rw[e,Option.none_or]at hj;exact fR (fun k hk=>hm k (.inr hk)) _ (hE.closed j _ hj)
theorem cM.more{P:U3}{f:FuncId}{args:US}{s s' E:UR}{r0:AV}(h:cM P f args s r0 s')(hE:fF 0 E)(hs:∀i r,az s i=some r->az E i=some r)(hn:∀i,az s' i≠none->az s i≠none\/az E i=none):cM P f args E r0 (gB E s'):=by
 have hc:=ab.more h.c hs h.a h.e1.closed (fun r l ⟨_,e⟩=>⟨by rw[e];exact h.e2.nodup,fun i hi=>hn i (e ▸ hi)⟩);refine⟨fun w vs hw hv=>(hc w vs hw hv).mono ?_,hE,hE.BM h.e2,fun i hi=>?_,fR (fun j hj=>?_) _ h.a⟩
 ·rintro e W ⟨v,r,H',w',a,b,⟨l0,⟨c1,c2⟩,c3⟩,d⟩;exact⟨v,r,H',w',a,b,⟨c1,by rw[c3,c2]⟩,d⟩
 ·rw[wT h.e2.nodup];cases e:az s' i with
  |none=>simpa using hi
  |some r=>simp
 ·rw[List.contains_iff_mem,lR]at hj ⊢;cases e:az s j with
  |none=>exact(hj e).elim
  |some r=>rw[hs j r e];simp
section
variable {σ:Type}{tm:σ->Int}{st:σ->σ}{se:σ->UX->aj->Option σ}{E:List aP}{I:σ->Prop}{t:Int}
variable{n k:Nat}{s:σ}
def wS{b:Bool}(h:b=true\/E.length<=k):fQ tm se E n s k b=(s,k,b):=by
 cases n with
 |zero=>rfl
 |succ n=>
  unfold fQ;rw[if_neg];rintro⟨a,c,_⟩;rcases h with h|h
  ·rw[a]at h;cases h
  ·omega
def Se{b:Bool}(h:k<E.length->(nth E k).at_≠tm s):fQ tm se E n s k b=(s,k,b):=by
 cases n with
 |zero=>rfl
 |succ n=> unfold fQ;rw[if_neg];rintro⟨a,c,d⟩;exact h c d
def Ow(h:k<E.length)(ha:(nth E k).at_=tm s)(e:se s (nth E k).name (nth E k).v=none):fQ tm se E (n+1) s k false=(s,k,true):=by unfold fQ;rw[if_pos ⟨rfl,h,ha⟩,e]
def Ni{s':σ}(h:k<E.length)(ha:(nth E k).at_=tm s)(e:se s (nth E k).name (nth E k).v=some s'):fQ tm se E (n+1) s k false=fQ tm se E n s' (k+1) false:=by
 conv=>lhs;unfold fQ
 rw[if_pos ⟨rfl,h,ha⟩,e]
theorem Ia:∀(n m:Nat) (s:σ) (k:Nat) (b:Bool),E.length<n+k->E.length<m+k->fQ tm se E n s k b=fQ tm se E m s k b
 |0,m,s,k,b,h1,_=>by rw[wS (n:=0) (.inr (by omega)),wS (.inr (by omega))]
 |n,0,s,k,b,_,h2=>by rw[wS (n:=0) (.inr jB),wS (.inr jB)]
 |n+1,m+1,s,k,b,h1,h2=>by
  unfold fQ;split
  ·split
   ·exact Ia n m _ (k+1) false jB jB
   ·rfl
  ·rfl
end
variable{K:UP}
def PW{P:U3}{f:FuncId}{args:US}{B:UW}{L e l tl:UR}{r0:AV}(hd:cM P f args e r0 l)(hp:∀i,az L i=az (tie e tl) i)(k:K r0 ⟨B,tie l tl⟩)(hl:oF 0 tl:=by(repeat' first|exact dL|(refine du (by decide) ?_)|fail))(h0:aW P f=true:=by exact dz):eQ P (.raw (.func (.func f) #[] #[])) args ⟨B,L⟩ K:=by
 refine nS h0 (Nt hp (CK (E:=fun tl=>e++tl) (E':=fun tl=>l++tl) ?_ (hd.e1.bv hl) (hd.e2.bv hl) ?_ ?_ ?_ k ?_))
 ·simp only[List.append_nil];exact hd.c
 ·simp only[List.append_nil];exact hd.e2.nodup
 ·simp only[List.append_nil];exact hd.a
 ·simp only[List.append_nil];exact hd.e1.closed
 ·simp only[List.append_nil];exact hd.aU
def R8:List aP->Prop
 |[]=>True
 |x::l=>(∀y,l.head?=some y->x.at_<=y.at_)/\R8 l
def GW(heap:UT)(slots:List aj)(l:List ba)(x:ba)(s:UU):jK heap slots (l++[x]) s=tY heap slots (jK heap slots l s) x:=by unfold jK;rw[List.foldl_append];rfl
def Ij(p:ah)(heap:UT)(l:List fh)(x:fh):pm p heap (l++[x])=tq p heap (pm p heap l) x:=by unfold pm;rw[List.foldl_append];rfl
def EW(l:UU)(n:Int):(sK l n).length<=l.length+1:=by unfold sK;split<;>simp
def F2(heap:UT)(s:UU)(v:aj):(lw heap s v).2.length<=s.length+1:=by
 have:=EW s v.n;unfold lw
 (repeat' split)<;>first|(show s.length<=_;omega)|exact this
def ze(heap:UT)(slots:List aj):∀(n:Nat) (l:List ba) (s:UU),l.length=n->(jK heap slots l s).1.length=n/\(jK heap slots l s).2.length<=s.length+n:=fun n=>by
 induction n with
 |zero=>intro l s h;rw[List.length_eq_zero_iff.1 h];exact⟨rfl,Nat.le_refl _⟩
 |succ n ih=>
  intro l s h;have e:l=l.take n++[l[n]' jB]:=by rw[List.take_append_getElem,List.take_of_length_le jB]
  rw[e,GW];obtain⟨a,b⟩:=ih (l.take n) s jF;unfold tY;have:=F2 heap (jK heap slots (l.take n) s).2 (dq slots (l[n]' jB).slot (l[n]' jB).ty);exact⟨by simp[a],by simp only;omega⟩
def xL(p:ah)(heap:UT):∀(n:Nat) (l:List fh),l.length=n->(pm p heap l).1.length=n:=fun n=>by
 induction n with
 |zero=>intro l h;rw[List.length_eq_zero_iff.1 h];rfl
 |succ n ih=>
  intro l h;have e:l=l.take n++[l[n]' jB]:=by rw[List.take_append_getElem,List.take_of_length_le jB]
  rw[e,Ij];have a:=ih (l.take n) jF;unfold tq;simp[a]
@[go_sem] def jyc{P:U3}{ev:UZ}{H:Hp}{ty:UY}(t:UY)(m k x:Operand):fm P ev H ty K (.mapUpdate t m k x)=jg P (.mapUpdate t m k x) ty ev H K:=(Cc (by simp[oG]) (by simp[qd])).trans (OE t m k x)
@[go_sem] def j7L:jh.contains 229=true:=(rfl)
def mq:Nat->Int->US
 |0,_=>[]
 |n+1,k=>.raw (.int .i64 (k+1))::mq n (k+1)
theorem KC:∀(n:Nat) (k:Int),(mq n k).length=n
 |0,_=>rfl
 |n+1,k=>by simp[mq,KC n (k+1)]
@[go_sem] theorem Nw(q:U2):∀(n:Nat) (k:Int),aR q (mq n k)=true
 |0,_=>rfl
 |n+1,k=>by have:=Nw q n (k+1);simp only[mq,aR,AV.all,this,Bool.and_self]
theorem G4:∀(n:Nat) (k:Int),mq (n+1) k=mq n k++[.raw (.int .i64 (k+n+1))]
 |0,k=>by simp[mq]
 |n+1,k=>by rw[mq,G4 n (k+1)];simp only[mq,List.cons_append,List.cons.injEq,true_and,List.append_cancel_left_eq,AV.raw.injEq,Value.int.injEq,and_true];omega
end Go.Gd
namespace Go.Proofs.YtjpcgmjaipfgdaaGreatDoor
open Go Go.Gd Tryz Go.Gd.MV
section
variable {p:ah}{C:aE}
def IN{m:MV}(h:MI p C m){k:Nat}(hk:k<m.calls.length):mI p (nth m.calls k)/\uy p C (nth m.calls k).fn.toNat (m.fH k):=by
 have h2:m.status≠2:=fun e=>by have:=h.xE e;omega
 obtain⟨h1,hf,_,hm⟩:=h.ai h2;unfold MV.fH;by_cases hl:(k:Int)=(m.calls.length:Int)-1
 ·have ek:k=m.calls.length-1:=jB;have et:nth m.calls k=m.ai:=by rw[ek];rfl
  rw[if_pos hl,et];exact⟨hf,hm⟩
 ·rw[if_neg hl];have:=h.low k jB;exact⟨this.1,this.2.mark⟩
def yy{m:MV}(h:MI p C m){n:Nat}(hb:Bd n m)(hC:C.ins.length<=1000000):ux C m:=
 ⟨h.eO,fun k hk=>by obtain⟨_,k0,n,a,e,hm⟩:=IN h hk;have:=hm.head.1;rw[e];omega,hb.slots,h.cells,hb.outs,hC⟩
structure xS(p:ah)(s:fh):Prop where
 f0:0<=s.fn
 f1:s.fn<p.aa.ak.length
 sl:(s.slots.length:Int)=nth p.size s.fn.toNat
 rg:nk s.slots
 n0:0<=s.node
 n1:s.node.toNat<p.aa.nodes.length
 st:fu (bT p.aa.nodes s.node)
 in_:jL p s.fn.toNat s.node
def zd{m:MV}(h:MI p C m){k:Nat}(hk:k<m.calls.length):xS p (m.spot C k):=by
 obtain⟨hf,k0,n,a,e,hm⟩:=IN h hk;have hx:=hm.head.2;have en:(m.spot C k).node=a:=by show(nth C.ins (m.fH k).toNat).a=a;rw[e,Int.toNat_natCast,hx];rfl
 exact⟨hf.f0,hf.f1,hf.sl,hf.rg,by rw[en];exact hm.h0,by rw[en];exact hm.hl,by rw[en];exact hm.hk,by rw[en];exact hm.hi⟩
end
def OL{p:ah}(hs:gF p){F:UU->MV->MV}(hF:dT p (dp p) F){inp:UU}(hn:inp.length<=1000)(hi:∀x∈inp,bG x){m:MV}{N:NM}{e:UR}(hR:bI p (dp p) m N e)(h:MI p (dp p) m)(hb:Bd inp.length m)(ht:0<=m.time/\m.time<=100000)(X:UW) :
  lf prog 117 [mP N,aO eI 1 inp] e X (.aY []) (fun N' l=>bI p (dp p) (F inp m) N' l/\N'.k=N.k/\Bd inp.length (F inp m)):=by
 by_cases h2:m.halt
 ·rw[hF.still inp m h2];exact⟨N,e,⟨hR,rfl,hb⟩,Up.refl _ _,L6 hR inp h2⟩
 ·have hC:=rk hs;obtain⟨m1,hg,⟨O',h1,Yr⟩,e1⟩:=hF.step inp hi m h h2;have U9:=hC.len;have YK:=hs.ok.aa.ak;have Vb:=hs.ok.size;obtain⟨hl,_,_,k0,n,a,ek,hm⟩:=h.ai (fun e=>h2 (.inl e));have Vi:=hm.head.1;have WD:=hC.pL;rw[e1];exact KX X hR hl hb hn jB jB WD h2 jB jB hg O' (fun e0=>by obtain⟨hl,_,_,k0,n,a,ek,hm⟩:=h1.ai jB;have Vi:=hm.head.1;exact⟨hl,jB,jB⟩) jB
def gx(C:aE)(m:MV):Int:=(nth (m.cC C).calls ((m.cC C).calls.length-1)).node
def ng(p:ah)(C:aE)(m:MV)(nm:UX)(v:aj):Option MV:=
 if(m.status=2\/m.status=3)\/lS v=false\/v.ty=4 then none
 else if iA nm v.ty (dV p (gx C m)) 0<0 then none
 else some (sX m (nth (dV p (gx C m)) (iA nm v.ty (dV p (gx C m)) 0).toNat).slot.toNat v)
section
variable {p:ah}{C:aE}{m:MV}{N:NM}{e:UR}(hR:bI p C m N e)(hk:ux C m)(nm:UX)(v:aj)
include hR hk
theorem TQ(h:(m.status=2\/m.status=3)\/lS v=false\/v.ty=4):cM prog 116 [.agg (dj p),mP N,rS nm,.agg (bW v)] e (rB false) e:=by
 have WJ:=xC hR hk;have P':=hR.ok.low;have Zc:=vO v;have O':(m.cC C).status=m.status:=rfl;refine⟨?_,hR.ok,hR.ok,fun _ h=>h,?_⟩;rotate_left
 ·simp only[aR,AV.all,fV hR.root,Bool.and_self,Bool.and_true,bW];rfl
 rw[<-O']at h;generalize m.cC C=Sh at*;clear O';have hq:(Sh.status=2/\True/\True)\/(¬Sh.status=2/\Sh.status=3/\True)\/(¬Sh.status=2/\¬Sh.status=3/\lS v=false)\/(¬Sh.status=2/\¬Sh.status=3/\(lS v=true/\v.ty=4)):=by
  by_cases a:Sh.status=2
  ·exact .inl ⟨a,trivial,trivial⟩
  by_cases b:Sh.status=3
  ·exact .inr (.inl ⟨a,b,trivial⟩)
  cases c:lS v
  ·exact .inr (.inr (.inl ⟨a,b,rfl⟩))
  ·refine .inr (.inr (.inr ⟨a,b,rfl,?_⟩));rcases h with h|h|h
   ·omega
   ·rw[c]at h;cases h
   ·exact h
 rcases hq with⟨q1,q2,q3⟩|⟨q1,q2,q3⟩|⟨q1,q2,q3⟩|⟨q1,q2,q3,q4⟩
 all_goals try rw[q3]at Zc
 all_goals
  refine aK (L:=ids e) func116 ntmps116 ?_ (hL:=rfl);generalize hB:ids e=B;refine eK ?_
  (have W:=jA P' (jA q1 (q2));repeat' (first|refine au fun K hK=>?_|refine aq ?_|(with_reducible refine gR 4 ?_);refine dE 4 (bf 0 12) mixed ?_|(with_reducible refine gR 6 ?_);refine dE 6 (bf 0 13) mixed ?_|(refine hK _ _ ?_;clear hK K)|(refine ar ?_ ?_<;>intro hc<;>try exact jz)|refine cL 4 ?_|refine cL 5 ?_|refine cL 7 ?_|refine fA 9 ?_|refine cp (Zc) ?_|refine cq (Zc) ?_|(refine⟨rB false,?_⟩;refine S ?_)|refine cT WJ ?_|(refine io ?_ ?_<;>intro hc<;>try exact jz)|refine av ?_|exact jI|(clear hK K)))
  try(exact eu hB hR.ok hR.ok (tl:=[(4,.var 32 (dj p)),(5,.var 9 [rS nm]),(7,.var 54 (bW v)),(9,.var 45 (js Sh))]) (fun _=>rfl) (du jC (du jC (du jC (du jC dL)))) [.tmp 8])
theorem DY(hs:gF p)(VB:∀k,k<p.aa.nodes.length->0<=nth p.fn k/\nth p.fn k<p.aa.ak.length)(hM:MI p C m)(h2:¬(m.status=2\/m.status=3)):1<=m.calls.length/\(m.cC C).calls.length=m.calls.length/\0<=gx C m/\(gx C m).toNat<p.aa.nodes.length/\∀x∈dV p (gx C m),0<=x.slot/\x.slot<m.ai.slots.length:=by
 obtain⟨h1,_,_,_⟩:=hM.ai fun e=>h2 (.inl e)
 have hl:(m.cC C).calls.length=m.calls.length:=by show((List.range m.calls.length).map _).length=_;simp
 have hn:nth (m.cC C).calls ((m.cC C).calls.length-1)=m.spot C (m.calls.length-1):=by rw[hl];show nth ((List.range m.calls.length).map (m.spot C)) (m.calls.length-1)=_;rw[ee jF];simp
 have Xn:=zd hM (k:=m.calls.length-1) jB;have ht:gx C m=(m.spot C (m.calls.length-1)).node:=by unfold gx;rw[hn]
 have f0:=Xn.f0;have f1:=Xn.f1;refine⟨h1,hl,by rw[ht];exact Xn.n0,by rw[ht];exact Xn.n1,fun x hx=>?_⟩;rw[ht]at hx;obtain⟨a,b⟩:=NP hs VB Xn.n1 (j:=(m.spot C (m.calls.length-1)).fn.toNat) jB Xn.in_.1 Xn.in_.2 x hx;exact⟨a,by have:=Xn.sl;show x.slot<((m.spot C (m.calls.length-1)).slots.length:Int);omega⟩
theorem Rj(hs:gF p)(VB:∀k,k<p.aa.nodes.length->0<=nth p.fn k/\nth p.fn k<p.aa.ak.length)(hM:MI p C m)(h2:¬(m.status=2\/m.status=3))(hm:lS v=true)(h4:¬v.ty=4)(hf:iA nm v.ty (dV p (gx C m)) 0<0):cM prog 116 [.agg (dj p),mP N,rS nm,.agg (bW v)] e (rB false) e:=by
 have WJ:=xC hR hk;have P':=hR.ok.low;have Zc:=vO v;rw[hm]at Zc;obtain⟨h1,hl,n0,n1,_⟩:=DY hR hk hs VB hM h2;have hvc:=BP hs.ok VB (gx C m) n0 n1;have Ym:=wb hs.ok VB n1;have Yx:=Gx nm v (dV p (gx C m)) jB;generalize iA nm v.ty (dV p (gx C m)) 0=z at*;generalize dV p (gx C m)=V at*;have hc8:m.calls.length<=1000:=by have:=hk.1;omega
 refine⟨?_,hR.ok,hR.ok,fun _ h=>h,?_⟩;rotate_left
 ·simp only[aR,AV.all,fV hR.root,Bool.and_self,Bool.and_true,bW];rfl
 have q1:¬(m.cC C).status=2:=fun e=>h2 (.inl e)
 have q2:¬(m.cC C).status=3:=fun e=>h2 (.inr e)
 have e1:(((m.cC C).calls.length:Int)-1).toNat=(m.cC C).calls.length-1:=jB;have g1:(m.cC C).calls.length-1<(m.cC C).calls.length:=jB;have g2:0<=((m.cC C).calls.length:Int)-1:=jB;have et:(nth (m.cC C).calls ((m.cC C).calls.length-1)).node=gx C m:=rfl;have hz:¬z >= 0:=jB;generalize gx C m=a at*;generalize m.cC C=Sh at*;refine aK (L:=ids e) func116 ntmps116 ?_ (hL:=rfl);generalize hB:ids e=B;refine eK ?_
 (have W:=jA P' (jA q1 (jA q2 (jA h4 (jA e1 (jA g1 (jA g2 (jA et (hz))))))));repeat' (first|refine au fun K hK=>?_|refine aq ?_|(with_reducible refine gR 4 ?_);refine dE 4 (bf 0 12) mixed ?_|(with_reducible refine gR 6 ?_);refine dE 6 (bf 0 13) mixed ?_|(refine hK _ _ ?_;clear hK K)|(refine ar ?_ ?_<;>intro hc<;>try exact jz)|refine cL 4 ?_|refine cL 5 ?_|refine cL 7 ?_|refine fA 9 ?_|refine cp (Zc) ?_|refine cq (Zc) ?_|refine cp (hvc) ?_|(refine Gm Yx (JG P' rfl rfl) rfl (D7 nm v) (Gg nm v) ?_;try refine S ?_)|(refine⟨rB false,?_⟩;refine S ?_)|refine cT WJ ?_|(refine io ?_ ?_<;>intro hc<;>try exact jz)|refine av ?_|exact jI|(clear hK K)))
 exact eu hB hR.ok hR.ok (tl:=[(4,.var 32 (dj p)),(5,.var 9 [rS nm]),(7,.var 54 (bW v)),(9,.var 45 (js Sh))]) (fun _=>rfl) (du jC (du jC (du jC (du jC dL)))) [.tmp 8]
theorem Jw(hs:gF p)(VB:∀k,k<p.aa.nodes.length->0<=nth p.fn k/\nth p.fn k<p.aa.ak.length)(hM:MI p C m)(h2:¬(m.status=2\/m.status=3))(hm:lS v=true)(h4:¬v.ty=4)(hf:¬iA nm v.ty (dV p (gx C m)) 0<0) :
  cM prog 116 [.agg (dj p),mP N,rS nm,.agg (bW v)] e (rB true) (aZ e (hn 1 N.ai.c) (.aD 54 3 ((m.ai.slots.set (nth (dV p (gx C m)) (iA nm v.ty (dV p (gx C m)) 0).toNat).slot.toNat v).map bW)))/\
   bI p C (sX m (nth (dV p (gx C m)) (iA nm v.ty (dV p (gx C m)) 0).toNat).slot.toNat v) N (aZ e (hn 1 N.ai.c) (.aD 54 3 ((m.ai.slots.set (nth (dV p (gx C m)) (iA nm v.ty (dV p (gx C m)) 0).toNat).slot.toNat v).map bW))):=by
 have WJ:=xC hR hk;have P':=hR.ok.low;have Zc:=vO v;rw[hm]at Zc;obtain⟨h1,hl,n0,n1,VX⟩:=DY hR hk hs VB hM h2;have hvc:=BP hs.ok VB (gx C m) n0 n1;have Ym:=wb hs.ok VB n1;have Yx:=Gx nm v (dV p (gx C m)) jB;obtain⟨k0,ek,Vi,_,_⟩:=Av nm v.ty (dV p (gx C m)) 0 (by show 0<=iA nm v.ty (dV p (gx C m)) 0;omega);have ek:iA nm v.ty (dV p (gx C m)) 0=0+(k0:Int):=ek;rw[Int.zero_add]at ek;obtain⟨YM,hs2⟩:=VX _ (cV Vi);rw[ek,Int.toNat_natCast];rw[ek]at Yx;clear hf ek VX;have Vn:=hk;obtain⟨_,_,s3,_⟩:=Vn;have Xs:=s3 (m.calls.length-1) jB;have Xs:m.ai.slots.length<=1000:=by have:(nth m.calls (m.calls.length-1)).slots.length=m.ai.slots.length:=rfl;omega
 obtain⟨kk,ekk⟩:∃kk:Nat,(nth (dV p (gx C m)) k0).slot=(kk:Int):=⟨(nth (dV p (gx C m)) k0).slot.toNat,jB⟩;rw[ekk,Int.toNat_natCast];obtain⟨V',VY⟩:=QD hR h2 h1 kk jB Xs v;refine⟨?_,VY⟩;have k2:=VY.ok;have hkp:=V'.aU;have u':∀X Y,BY ([hn 1 N.ai.c],X,Y) e (aZ e (hn 1 N.ai.c) (.aD 54 3 ((m.ai.slots.set kk v).map bW))):=fun X Y j hj _=>.inl (by rw[bO,if_neg];rintro rfl;simp at hj)
 generalize aZ e (hn 1 N.ai.c) (.aD 54 3 ((m.ai.slots.set kk v).map bW))=E at*;clear VY;generalize dV p (gx C m)=V at*;have hc8:m.calls.length<=1000:=by have:=hk.1;omega
 refine⟨?_,hR.ok,k2,hkp,?_⟩;rotate_left
 ·simp only[aR,AV.all,fV hR.root,Bool.and_self,Bool.and_true,bW];rfl
 have q1:¬(m.cC C).status=2:=fun e=>h2 (.inl e)
 have q2:¬(m.cC C).status=3:=fun e=>h2 (.inr e)
 have e1:(((m.cC C).calls.length:Int)-1).toNat=(m.cC C).calls.length-1:=jB;have g1:(m.cC C).calls.length-1<(m.cC C).calls.length:=jB;have g2:0<=((m.cC C).calls.length:Int)-1:=jB;have et:(nth (m.cC C).calls ((m.cC C).calls.length-1)).node=gx C m:=rfl;have hz:(k0:Int) >= 0:=jB;generalize gx C m=a at*;generalize m.cC C=Sh at*;refine aK (L:=ids e) func116 ntmps116 ?_ (hL:=rfl);generalize hB:ids e=B;refine eK ?_
 (have W:=jA P' (jA q1 (jA q2 (jA h4 (jA e1 (jA g1 (jA g2 (jA et (jA hz (jA Vi (ekk))))))))));repeat' (first|refine au fun K hK=>?_|refine aq ?_|(with_reducible refine gR 4 ?_);refine dE 4 (bf 0 12) mixed ?_|(with_reducible refine gR 6 ?_);refine qO 6 [hn 1 N.ai.c] [] [56] [] (bf 0 13) mixed ?_|(refine hK _ _ ?_;clear hK K)|(refine ar ?_ ?_<;>intro hc<;>try exact jz)|refine cL 4 ?_|refine cL 5 ?_|refine cL 7 ?_|refine fA 9 ?_|refine cp (Zc) ?_|refine cq (Zc) ?_|refine cp (hvc) ?_|(refine Gm Yx (JG P' rfl rfl) rfl (D7 nm v) (Gg nm v) ?_;try refine S ?_)|(refine oQ V' (u' _ _) ?_)|refine cT WJ ?_|(refine io ?_ ?_<;>intro hc<;>try exact jz)|refine av ?_|exact jI|(clear hK K)))
 exact eu hB hR.ok k2 (tl:=[(4,.var 32 (dj p)),(5,.var 9 [rS nm]),(7,.var 54 (bW v)),(9,.var 45 (js Sh))]) (fun _=>rfl) (du jC (du jC (du jC (du jC dL)))) [.tmp 8]
end
end Go.Proofs.YtjpcgmjaipfgdaaGreatDoor
namespace Go.Proofs.YtjpcgmjaipfgdaaGreatDoor
open Go Go.Gd Tryz
end Go.Proofs.YtjpcgmjaipfgdaaGreatDoor
namespace Go.Proofs.YtjpcgmjaipfgdaaGreatDoor
open Go Go.Gd Tryz Go.Gd.MV
section
variable {p:ah}{inp:UU}{k:Nat}{e:UR}(hE:fF 0 e)(hg:az e (hn 10 0)=some (.var 283 (lr p++[.pt (hn 3 k) 0 0 0,aO eI 1 inp])))
include hE hg
theorem Ur{Sh:gM}(WJ:cM prog 63 [.pt (hn 3 k) 0 0 0] e (.agg (js Sh)) e):cM prog 311 [.pt (hn 10 0) 0 0 0] e (rI Sh.time) e:=by
 have P':=hE.low;refine⟨?_,hE,hE,fun _ h=>h,by simp only[aR,AV.all,fV hg,Bool.and_self]⟩;refine aK (L:=ids e) func311 ntmps311 ?_ (hL:=rfl);generalize hB:ids e=B;refine eK ?_
 (have W:=jA P' hg;repeat' (first|refine au fun K hK=>?_|refine aq ?_|(refine hK _ _ ?_;clear hK K)|(refine ar ?_ ?_<;>intro hc<;>try exact jz)|refine cT WJ ?_|(refine io ?_ ?_<;>intro hc<;>try exact jz)|refine av ?_|exact jI|(clear hK K)))
 exact eu hB hE hE (tl:=[]) (fun _=>rfl) dL [.tmp 2]
variable{e':UR}
theorem RU(O':cM prog 117 [.pt (hn 3 k) 0 0 0,aO eI 1 inp] e (.aY []) e'):cM prog 310 [.pt (hn 10 0) 0 0 0] e (.aY []) e':=by
 have P':=hE.low;refine⟨?_,hE,O'.e2,O'.aU,by simp only[aR,AV.all,fV hg,Bool.and_self]⟩;refine aK (L:=ids e) func310 ntmps310 ?_ (hL:=rfl);generalize hB:ids e=B;refine eK ?_
 (have W:=jA P' hg;repeat' (first|refine au fun K hK=>?_|refine aq ?_|(with_reducible refine gR 0 ?_);refine dE 0 (bf 0 9) mixed ?_|(refine hK _ _ ?_;clear hK K)|(refine ar ?_ ?_<;>intro hc<;>try exact jz)|refine cT O' ?_|(refine io ?_ ?_<;>intro hc<;>try exact jz)|refine av ?_|exact jI|(clear hK K)))
 exact eu hB hE O'.e2 (tl:=[]) (fun _=>rfl) dL []
theorem D4{b:Bool}{nm:UX}{v:aj}(O':cM prog 116 [.agg (dj p),.pt (hn 3 k) 0 0 0,rS nm,.agg (bW v)] e (rB b) e'):cM prog 309 [.pt (hn 10 0) 0 0 0,rS nm,.agg (bW v)] e (rB b) e':=by
 have P':=hE.low;rw[PY]at O';simp only[lr]at O';refine⟨?_,hE,O'.e2,O'.aU,by simp only[aR,AV.all,fV hg,Bool.and_self,Bool.and_true,bW]⟩;refine aK (L:=ids e) func309 ntmps309 ?_ (hL:=rfl);generalize hB:ids e=B;refine eK ?_
 (have W:=jA P' hg;repeat' (first|refine au fun K hK=>?_|refine aq ?_|(with_reducible refine gR 1 ?_);refine dE 1 (bf 0 12) mixed ?_|(refine hK _ _ ?_;clear hK K)|(refine ar ?_ ?_<;>intro hc<;>try exact jz)|refine cL 4 ?_|refine cT O' ?_|(refine io ?_ ?_<;>intro hc<;>try exact jz)|refine av ?_|exact jI|(clear hK K)))
 exact eu hB hE O'.e2 (tl:=[(4,.var 54 (bW v))]) (fun _=>rfl) (du jC dL) [.tmp 6]
end
end Go.Proofs.YtjpcgmjaipfgdaaGreatDoor
namespace Go.Proofs.YtjpcgmjaipfgdaaGreatDoor
open Go Go.Gd Tryz
attribute [go_sem] Bool.false_and Bool.true_and
structure rp{σ:Type}(tm:σ->Int)(sp:σ->σ)(se:σ->ByteArray->aj->Option σ)(E:List aP)(I:σ->Prop)(g:σ->List (Nat×Row))(T:TypeId)(v:AV)(ft fs fe:FuncId):Prop where
 mt : oS prog T "furcate/trace.time" = some ft
 ms : oS prog T "furcate/trace.step" = some fs
 me : oS prog T "furcate/trace.set" = some fe
 ct:aW prog ft=true
 cs:aW prog fs=true
 ce:aW prog fe=true
 time:∀s,I s->cM prog ft [v] (g s) (rI (tm s)) (g s)
 step:∀s,I s->tm s<200->cM prog fs [v] (g s) (.aY []) (g (sp s))
 set:∀s k,I s->k<E.length->cM prog fe [v,rS (nth E k).name,.agg (bW (nth E k).v)] (g s) (rB (se s (nth E k).name (nth E k).v).isSome) (g ((se s (nth E k).name (nth E k).v).getD s))
structure Ir(σ:Type) where
 s:σ
 k:Nat
 b:Bool
section
variable {σ:Type}{tm:σ->Int}{sp:σ->σ}{se:σ->UX->aj->Option σ}{E:List aP}{I:σ->Prop}{g:σ->UR}{T:UY}{v:AV}{ft fs fe:FuncId}
def rp.kept(h:rp tm sp se E I g T v ft fs fe)(ok:pj tm sp se E I)(s0:σ):pj tm sp se E fun s=>I s/\∀i,az (g s0) i≠none->az (g s) i≠none:=by
 refine⟨fun s k s' hs hk e=>?_,fun s hs ht=>?_,fun s hs=>ok.tm s hs.1⟩
 ·obtain⟨a,b⟩:=ok.se s k s' hs.1 hk e;have hd:=(h.set s k hs.1 hk).aU;rw[e]at hd;exact⟨⟨a,fun i hi=>hd i (hs.2 i hi)⟩,b⟩
 ·obtain⟨a,b⟩:=ok.st s hs.1 ht;exact⟨⟨a,fun i hi=>(h.step s hs.1 ht).aU i (hs.2 i hi)⟩,b⟩
def T2(h:rp tm sp se E I g T v ft fs fe)(ok:pj tm sp se E I)(hl:E.length<=1000)(s0:σ)(hi:I s0)(t0:Int)(ht0:bG t0)(h0:tm s0<=fq t0) :
  cM prog 177 [.iS T v,aO bQ 5 E,rI t0] (g s0) (rI (pI E (fq t0) (jy tm sp se E (fq t0) ((fq t0-tm s0).toNat+1) s0 0 false))) (g (jy tm sp se E (fq t0) ((fq t0-tm s0).toNat+1) s0 0 false).1):=by
 have hc:fq t0=min (max t0 0) 200:=rfl;have ht2:fq t0<=200:=jB;have Yz:0<=fq t0:=jB;obtain⟨⟨k1,k2⟩,k3,k4,k5⟩:=yS (h.kept ok s0) ht2 ((fq t0-tm s0).toNat+1) s0 0 false ⟨hi,fun i h=>h⟩ h0 (Nat.zero_le _);refine⟨?_,(h.time s0 hi).e1,(h.time _ k1).e1,k2,by have:=(h.time s0 hi).a;simp only[aR,AV.all,Bool.and_true]at this ⊢;rw[this]⟩;generalize hF:jy tm sp se E (fq t0) ((fq t0-tm s0).toNat+1) s0 0 false=F at*;have U9:(if 200<(if 0>t0 then 0 else t0)then 200 else(if 0>t0 then 0 else t0))=fq t0:=by unfold fq;(repeat' split)<;>omega
 clear hc;generalize fq t0=t at*;have hmt:=h.mt;have hms:=h.ms;have hme:=h.me;obtain⟨e,he⟩:∃e,g s0=e:=⟨_,rfl⟩;rw[he];refine aK (L:=ids e) func177 ntmps177 ?_ (hL:=rfl);generalize hB:ids e=B;refine eK ?_;subst he
 (have W:=U9;repeat' (first|refine au fun K hK=>?_|refine aq ?_|(with_reducible refine gR 3 ?_);refine dE 3 (bf 0 18) mixed ?_|(with_reducible refine gR 4 ?_);refine dE 4 (bf 0 17) mixed ?_|(refine hK _ _ ?_;clear hK K)|(refine ar ?_ ?_<;>intro hc<;>try exact jz)|(refine io ?_ ?_<;>intro hc<;>try exact jz)|refine av ?_|exact jI|(clear hK K)))
 have U6:=hK;clear hK;refine dw (S:=Ir σ) [(7,3),(13,49)] (fun x=>I x.s/\tm x.s<=t/\x.k<=E.length/\jy tm sp se E t ((t-tm x.s).toNat+1) x.s x.k x.b=F) (fun x=>[(7,rI x.k),(8,rB x.b)]) (fun x=>⟨B,tie (g x.s) []⟩) (fun x=>(t-tm x.s).toNat) ⟨s0,0,false⟩ ⟨hi,h0,Nat.zero_le _,hF⟩ (dx rfl bS) ?_;rintro⟨s,k,b⟩ ⟨hs,ht,Wc,hg⟩ Kr U8;simp only at hs ht Wc hg;have haT:=(h.time s hs).e1.low;obtain⟨⟨u1,u2⟩,u3,u4⟩:=yZ (h.kept ok s) (E.length+1) s k b ⟨hs,fun i h=>h⟩;obtain⟨Q,hQ⟩:∃Q,fQ tm se E (E.length+1) s k b=Q:=⟨_,rfl⟩;refine S ?_
 (repeat' (first|refine au fun K hK=>?_|refine aq ?_|(with_reducible refine gR 3 ?_);refine dE 3 (bf 0 18) mixed ?_|(with_reducible refine gR 4 ?_);refine dE 4 (bf 0 17) mixed ?_|(refine hK _ _ ?_;clear hK K)|(refine ar ?_ ?_<;>intro hc<;>try exact jz)|(refine io ?_ ?_<;>intro hc<;>try exact jz)|refine av ?_|exact jI|(clear hK K)))
 have Zh:=hK;clear hK;refine dw (S:=Ir σ) [(7,2),(13,38)] (fun y=>I y.s/\tm y.s=tm s/\y.k<=E.length/\fQ tm se E (E.length+1-y.k) y.s y.k y.b=Q) (fun y=>[(7,rI y.k),(8,rB y.b)]) (fun y=>⟨B,tie (g y.s) []⟩) (fun y=>2*(E.length-y.k)+(if y.b=true then 0 else 1)) ⟨s,k,b⟩ ⟨hs,rfl,Wc,?_⟩ (dx rfl bS) ?_
 ·exact(Ia (E.length+1-k) (E.length+1) s k b jB jB).trans hQ
 rintro⟨s1,k1',b1⟩ ⟨YM,haq,har,YH⟩ Kr2 Ys;simp only at YM haq har YH;have Yb:=h.time s1 YM;have Vt:=Yb.e1.low;have Wz:=h.ct;by_cases hau:b1=false/\k1'<E.length/\(nth E k1').at_=tm s1
 ·obtain⟨cb,ck,ca⟩:=hau;have U7:=h.set s1 k1' YM ck;have hce:=h.ce;have ck2:(k1':Int)<(E.length:Int):=jB;subst cb;rw[show E.length+1-k1'=(E.length-k1')+1 from jB]at YH;cases e:se s1 (nth E k1').name (nth E k1').v with
  |none=>
   rw[Ow ck ca e]at YH;rw[e]at U7;refine S ?_
   (have W:=jA hmt (jA hme (jA Vt (jA ck2 (ca))));repeat' (first|refine au fun K hK=>?_|refine aq ?_|(with_reducible refine gR 3 ?_);refine dE 3 (bf 0 18) mixed ?_|(with_reducible refine gR 4 ?_);refine dE 4 (bf 0 17) mixed ?_|(refine hK _ _ ?_;clear hK K)|(refine ar ?_ ?_<;>intro hc<;>try exact jz)|(refine nr Yb ?_ (h0:=Wz))|(refine cT U7 ?_ (h0:=hce))|(refine io ?_ ?_<;>intro hc<;>try exact jz)|refine av ?_|exact jI|(clear hK K)))
   exact Ys _ _ (dO ⟨s1,k1',true⟩ ⟨YM,haq,har,(wS (.inl rfl)).trans YH⟩ (by show 2*(E.length-k1')+0<2*(E.length-k1')+1;omega) rfl bS)
  |some s2=>
   rw[Ni ck ca e]at YH;rw[e]at U7;obtain⟨n1,n2⟩:=ok.se s1 k1' s2 YM ck e;refine S ?_
   (have W:=jA hmt (jA hme (jA Vt (jA ck2 (ca))));repeat' (first|refine au fun K hK=>?_|refine aq ?_|(with_reducible refine gR 3 ?_);refine dE 3 (bf 0 18) mixed ?_|(with_reducible refine gR 4 ?_);refine dE 4 (bf 0 17) mixed ?_|(refine hK _ _ ?_;clear hK K)|(refine ar ?_ ?_<;>intro hc<;>try exact jz)|(refine nr Yb ?_ (h0:=Wz))|(refine cT U7 ?_ (h0:=hce))|(refine io ?_ ?_<;>intro hc<;>try exact jz)|refine av ?_|exact jI|(clear hK K)))
   exact Ys _ _ (dO ⟨s2,k1'+1,false⟩ ⟨n1,n2.trans haq,by show k1'+1<=E.length;omega,by show fQ tm se E (E.length+1-(k1'+1)) s2 (k1'+1) false=Q;rw[show E.length+1-(k1'+1)=E.length-k1' from jB];exact YH⟩ (by show 2*(E.length-(k1'+1))+1<2*(E.length-k1')+1;omega) rfl bS)
 ·have hQ1:Q=(s1,k1',b1):=by
   rw[<-YH];by_cases a:b1=true\/E.length<=k1'
   ·exact wS a
   ·refine Se fun hl e=>hau ⟨?_,hl,e⟩
    cases b1
    ·rfl
    ·exact(a (.inl rfl)).elim
  have h3:(b1=true/\True/\True)\/(b1=false/\(k1':Int)<(E.length:Int)/\¬(nth E k1').at_=tm s1)\/(b1=false/\¬(k1':Int)<(E.length:Int)/\True):=by
   cases b1
   ·right
    by_cases ck:k1'<E.length
    ·exact .inl ⟨rfl,jB,fun e=>hau ⟨rfl,ck,e⟩⟩
    ·exact .inr ⟨rfl,jB,trivial⟩
   ·exact .inl ⟨rfl,trivial,trivial⟩
  have hd3:(¬(k1':Int)<(E.length:Int)/\True/\∀z:σ,pI E t (z,k1',b1)=0)\/((k1':Int)<(E.length:Int)/\(nth E k1').at_<=t/\∀z:σ,pI E t (z,k1',b1)=(k1':Int)+1)\/((k1':Int)<(E.length:Int)/\¬(nth E k1').at_<=t/\∀z:σ,pI E t (z,k1',b1)=0):=by
   by_cases ck:k1'<E.length
   ·by_cases d:(nth E k1').at_<=t
    ·exact .inr (.inl ⟨jB,d,fun z=>by unfold pI;rw[if_pos ⟨ck,d⟩]⟩)
    ·exact .inr (.inr ⟨jB,d,fun z=>by unfold pI;rw[if_neg (fun h=>d h.2)]⟩)
   ·exact .inl ⟨jB,trivial,fun z=>by unfold pI;rw[if_neg (fun h=>ck h.1)]⟩
  rw[hQ1]at hQ;have VF:jy tm sp se E t ((t-tm s).toNat+1) s k b=if tm s1=t then(s1,k1',b1)else if tm (sp s1)=tm s1 then(sp s1,k1',b1)else jy tm sp se E t (t-tm s).toNat (sp s1) k1' b1:=by
   conv=>lhs;unfold jy
   rw[hQ]
  rw[hg]at VF;by_cases a:tm s1=t
  ·rw[if_pos a]at VF;subst VF;rcases h3 with⟨cb,q1,q2⟩|⟨cb,q1,q2⟩|⟨cb,q1,q2⟩<;>subst cb<;>rcases hd3 with⟨d1,d2,d3⟩|⟨d1,d2,d3⟩|⟨d1,d2,d3⟩
   all_goals try omega
   all_goals
    refine S ?_
    (have W:=jA hmt (jA Vt (jA q1 (jA q2 (jA a (jA d1 (d2))))));repeat' (first|refine au fun K hK=>?_|refine aq ?_|(with_reducible refine gR 3 ?_);refine dE 3 (bf 0 18) mixed ?_|(with_reducible refine gR 4 ?_);refine dE 4 (bf 0 17) mixed ?_|(refine hK _ _ ?_;clear hK K)|(refine ar ?_ ?_<;>intro hc<;>try exact jz)|(refine nr Yb ?_ (h0:=Wz))|(refine⟨rI 0,?_⟩;refine S ?_)|(refine⟨rI 0,fun h=>absurd h Bool.false_ne_true,?_⟩;refine S ?_)|(refine cT Yb ?_ (h0:=Wz))|refine Zh _ _ ?_|refine U6 _ _ ?_|(refine io ?_ ?_<;>intro hc<;>try exact jz)|refine av ?_|exact jI|(clear hK K)))
    rw[d3];exact eu hB (h.time s0 hi).e1 Yb.e1 (tl:=[]) (fun _=>rfl) dL [.tmp 6]
  ·rw[if_neg a]at VF;have I':tm s1<200:=jB;have O':=h.step s1 YM I';obtain⟨w1,w2⟩:=ok.st s1 YM I';have ZJ:=h.time (sp s1) w1;have Wu:=ZJ.e1.low;have VW:=h.cs;by_cases c:tm (sp s1)=tm s1
   ·rw[if_pos c]at VF;subst VF;rcases h3 with⟨cb,q1,q2⟩|⟨cb,q1,q2⟩|⟨cb,q1,q2⟩<;>subst cb<;>rcases hd3 with⟨d1,d2,d3⟩|⟨d1,d2,d3⟩|⟨d1,d2,d3⟩
    all_goals try omega
    all_goals
     refine S ?_
     (have W:=jA hmt (jA hms (jA Vt (jA Wu (jA q1 (jA q2 (jA a (jA c (jA d1 (d2)))))))));repeat' (first|refine au fun K hK=>?_|refine aq ?_|(with_reducible refine gR 3 ?_);refine dE 3 (bf 0 18) mixed ?_|(with_reducible refine gR 4 ?_);refine dE 4 (bf 0 17) mixed ?_|(refine hK _ _ ?_;clear hK K)|(refine ar ?_ ?_<;>intro hc<;>try exact jz)|(refine nr Yb ?_ (h0:=Wz))|(refine⟨rI 0,?_⟩;refine S ?_)|(refine⟨rI 0,fun h=>absurd h Bool.false_ne_true,?_⟩;refine S ?_)|(refine cT Yb ?_ (h0:=Wz))|(refine cT O' ?_ (h0:=VW))|(refine cT ZJ ?_ (h0:=Wz))|refine Zh _ _ ?_|refine U6 _ _ ?_|(refine io ?_ ?_<;>intro hc<;>try exact jz)|refine av ?_|exact jI|(clear hK K)))
     rw[d3];exact eu hB (h.time s0 hi).e1 ZJ.e1 (tl:=[]) (fun _=>rfl) dL [.tmp 6]
   ·rw[if_neg c]at VF;rcases h3 with⟨cb,q1,q2⟩|⟨cb,q1,q2⟩|⟨cb,q1,q2⟩<;>subst cb
    all_goals
     refine S ?_
     (have W:=jA hmt (jA hms (jA Vt (jA Wu (jA q1 (jA q2 (jA a (c)))))));repeat' (first|refine au fun K hK=>?_|refine aq ?_|(with_reducible refine gR 3 ?_);refine dE 3 (bf 0 18) mixed ?_|(with_reducible refine gR 4 ?_);refine dE 4 (bf 0 17) mixed ?_|(refine hK _ _ ?_;clear hK K)|(refine ar ?_ ?_<;>intro hc<;>try exact jz)|(refine nr Yb ?_ (h0:=Wz))|(refine⟨rI 0,?_⟩;refine S ?_)|(refine⟨rI 0,fun h=>absurd h Bool.false_ne_true,?_⟩;refine S ?_)|(refine cT Yb ?_ (h0:=Wz))|(refine cT O' ?_ (h0:=VW))|(refine cT ZJ ?_ (h0:=Wz))|refine Zh _ _ ?_|(refine io ?_ ?_<;>intro hc<;>try exact jz)|refine av ?_|exact jI|(clear hK K)))
     have Wy:=VF.symm;rw[show(t-tm s).toNat=(t-tm (sp s1)).toNat+1 from jB]at Wy;exact U8 _ _ (dO ⟨sp s1,k1',_⟩ ⟨w1,by show tm (sp s1)<=t;omega,har,Wy⟩ (by show(t-tm (sp s1)).toNat<(t-tm s).toNat;omega) rfl bS)
end
end Go.Proofs.YtjpcgmjaipfgdaaGreatDoor
namespace Go.Proofs.YtjpcgmjaipfgdaaGreatDoor
open Go Go.Gd Tryz Go.Gd.MV
structure ES where
 m:MV
 N:NM
 e:List (Nat×Row)
 E:List (Nat×Row)
structure EI(p:ah)(inp:List Int)(k:Nat)(x:ES):Prop where
 R:bI p (dp p) x.m x.N x.e
 key:x.N.k=k
 mi:MI p (dp p) x.m
 bd:Bd inp.length x.m
 t0:0<=x.m.time
 t1:x.m.time<=100000
 ok:fF 0 x.E
 sub:∀i r,az x.e i=some r->az x.E i=some r
 tv:az x.E (hn 10 0)=some (.var 283 (lr p++[.pt (hn 3 k) 0 0 0,aO eI 1 inp]))
 no:az x.e (hn 10 0)=none
def Cs(p:ah)(inp:UU)(k:Nat)(F:UU->MV->MV)(x x':ES):Prop:=x'.m=F inp x.m/\EI p inp k x'/\cM prog 117 [.pt (hn 3 k) 0 0 0,aO eI 1 inp] x.E (.aY []) x'.E
def Bs(p:ah)(inp:UU)(k:Nat)(m':MV)(nm:UX)(v:aj)(x x':ES):Prop:=x'.m=m'/\EI p inp k x'/\cM prog 116 [.agg (dj p),.pt (hn 3 k) 0 0 0,rS nm,.agg (bW v)] x.E (rB true) x'.E
section
variable {p:ah}(hs:gF p)(VB:∀k,k<p.aa.nodes.length->0<=nth p.fn k/\nth p.fn k<p.aa.ak.length){F:UU->MV->MV}(hF:dT p (dp p) F){inp:UU}(VR:inp.length<=1000)(hi:∀x∈inp,bG x){k:Nat}{x:ES}
include hs hF VR hi
theorem UI(h:EI p inp k x)(ht:x.m.time<200):∃x',Cs p inp k F x x':=by
 have ht0:=h.t0;obtain⟨N',l',⟨hR',Vn,VM⟩,hU,O'⟩:=OL hs hF VR hi h.R h.mi h.bd ⟨ht0,h.t1⟩ (ids x.E);have Yh:∀i,az l' i≠none->az x.e i≠none\/az x.E i=none:=fun i hi=>by
  rcases hU.new i hi with h1|h1
  ·exact .inl h1
  ·right
   cases hx:az x.E i with
   |none=>rfl
   |some r=>exact(h1 ((lR _ _).2 (by rw[hx];simp))).elim
 have hd:=cM.more O' h.ok h.sub Yh;have Vd:az l' (hn 10 0)=none:=by
  cases hx:az l' (hn 10 0)with
  |none=>rfl
  |some r=>
   rcases Yh (hn 10 0) (by rw[hx];simp)with h1|h1
   ·exact(h1 h.no).elim
   ·rw[h.tv]at h1;cases h1
 have hp:=h.key;have eP:mP x.N=.pt (hn 3 k) 0 0 0:=by unfold mP;rw[hp]
 rw[eP]at hd;have Yr:=hF.time hi h.mi;refine⟨⟨F inp x.m,N',l',gB x.E l'⟩,rfl,⟨hR',Vn.trans hp,hF.mi hi h.mi,VM,?_,?_,hd.e2,fun i r hr=>?_,?_,Vd⟩,hd⟩
 ·show 0<=(F inp x.m).time;rcases Yr with e|e<;>omega
 ·show(F inp x.m).time<=100000;rcases Yr with e|e<;>omega
 ·show az (gB x.E l') i=some r;have hr:az l' i=some r:=hr;rw[wT hR'.ok.nodup,hr];rfl
 ·show az (gB x.E l') (hn 10 0)=_;rw[wT hR'.ok.nodup,Vd];exact h.tv
omit hF VR hi
include VB
theorem Lc(h:EI p inp k x)(nm:UX)(v:aj)(e:ng p (dp p) x.m nm v=none):cM prog 116 [.agg (dj p),.pt (hn 3 k) 0 0 0,rS nm,.agg (bW v)] x.E (rB false) x.E:=by
 have hp:=h.key;have eP:mP x.N=.pt (hn 3 k) 0 0 0:=by unfold mP;rw[hp]
 have hC:=rk hs;have hRE:=h.R.wl h.ok h.sub;have hk:=yy h.mi h.bd (by have:=hC.len;have:=hC.pL;have:=hs.ok.aa.ak;have:=hs.ok.size;omega);unfold ng at e;split at e
 ·rename_i c;have:=TQ hRE hk nm v c;rw[eP]at this;exact this
 rename_i c;split at e
 ·rename_i d;have hm:lS v=true:=by
   cases hh:lS v
   ·exact(c (.inr (.inl hh))).elim
   ·rfl
  have:=Rj hRE hk nm v hs VB h.mi (fun e=>c (.inl e)) hm (fun e=>c (.inr (.inr e))) d;rw[eP]at this;exact this
 ·cases e
theorem Pt(h:EI p inp k x)(nm:UX)(v:aj)(hv:bG v.n){m':MV}(e:ng p (dp p) x.m nm v=some m'):m'.time=x.m.time/\∃x',Bs p inp k m' nm v x x':=by
 have hp:=h.key;have eP:mP x.N=.pt (hn 3 k) 0 0 0:=by unfold mP;rw[hp]
 have hC:=rk hs;have hRE:=h.R.wl h.ok h.sub;have hk:=yy h.mi h.bd (by have:=hC.len;have:=hC.pL;have:=hs.ok.aa.ak;have:=hs.ok.size;omega);unfold ng at e;split at e
 ·cases e
 rename_i c;split at e
 ·cases e
 rename_i d;cases e;have hm:lS v=true:=by
  cases hh:lS v
  ·exact(c (.inr (.inl hh))).elim
  ·rfl
 obtain⟨d1,d2⟩:=Jw hRE hk nm v hs VB h.mi (fun e=>c (.inl e)) hm (fun e=>c (.inr (.inr e))) d;obtain⟨_,d4⟩:=Jw h.R hk nm v hs VB h.mi (fun e=>c (.inl e)) hm (fun e=>c (.inr (.inr e))) d;rw[eP]at d1;have VZ:hn 10 0≠hn 1 x.N.ai.c:=dc jC jC jC;have X8:=UC h.mi (fun e=>c (.inl e)) (nth (dV p (gx (dp p) x.m)) (iA nm v.ty (dV p (gx (dp p) x.m)) 0).toNat).slot.toNat hv;generalize (nth (dV p (gx (dp p) x.m)) (iA nm v.ty (dV p (gx (dp p) x.m)) 0).toNat).slot.toNat=kk at*;obtain⟨h1,_⟩:=h.mi.ai fun e=>c (.inl (.inl e))
 refine⟨rfl,⟨⟨sX x.m kk v,x.N,_,_⟩,rfl,⟨d4,hp,X8,?_,h.t0,h.t1,d2.ok,fun i r hr=>?_,?_,?_⟩,d1⟩⟩
 ·exact h.bd.aX (by show(x.m.ai.slots.set kk v).length<=24;rw[List.length_set];exact h.bd.ai h1)
 ·show az (aZ x.E _ _) i=some r;have hr:az (aZ x.e _ _) i=some r:=hr;rw[bO]at hr ⊢;split
  ·rename_i e;rw[if_pos e]at hr;exact hr
  ·rename_i e;rw[if_neg e]at hr;exact h.sub i r hr
 ·show az (aZ x.E _ _) (hn 10 0)=_;rw[bO,if_neg VZ];exact h.tv
 ·show az (aZ x.e _ _) (hn 10 0)=_;rw[bO,if_neg VZ];exact h.no
end
end Go.Proofs.YtjpcgmjaipfgdaaGreatDoor
namespace Go.Proofs.YtjpcgmjaipfgdaaGreatDoor
open Go Go.Gd Tryz
@[go_sem] def j2z(p:ah)(l:US):dj p++l=aO eF 5 p.aa.nodes::aO fW 5 p.aa.ak::aO eI 1 p.types::aO eI 1 p.slots::aO eI 1 p.fn::aO eI 1 p.size::l:=rfl
attribute [go_sem] List.append_nil
structure tM(p:ah):Prop where
 ok:gF p
 fn:∀k,k<p.aa.nodes.length->0<=nth p.fn k/\nth p.fn k<p.aa.ak.length
end Go.Proofs.YtjpcgmjaipfgdaaGreatDoor
namespace Go.Proofs.YtjpcgmjaipfgdaaGreatDoor
open Go Go.Gd Tryz Go.Gd.MV
def Rk : oS prog 281 "furcate/trace.time" = some 311 := by kernel_rfl
def R6 : oS prog 281 "furcate/trace.step" = some 310 := by kernel_rfl
def TF : oS prog 281 "furcate/trace.set" = some 309 := by kernel_rfl
@[go_sem] def qd0:(prog).underlying 281=some (.pointer 283):=jG
def jV(x:ES):Int:=x.m.time
open Classical in
noncomputable def stE(p:ah)(inp:List Int)(k:Nat)(F:List Int->MV->MV)(x:ES):ES:=if h:∃x',Cs p inp k F x x' then Classical.choose h else x
open Classical in
noncomputable def seE(p:ah)(inp:List Int)(k:Nat)(x:ES)(nm:ByteArray)(v:aj):Option ES:=(ng p (dp p) x.m nm v).map fun m'=>if h:∃x',Bs p inp k m' nm v x x' then Classical.choose h else x
section
variable {p:ah}(hp:tM p){F:UU->MV->MV}(hF:dT p (dp p) F){inp:UU}(VR:inp.length<=1000)(hi:∀x∈inp,bG x){k:Nat}{x:ES}{E:List aP}(hE:∀k,k<E.length->bG (nth E k).v.n)
include hp hF VR hi
theorem B3(h:EI p inp k x)(ht:x.m.time<200):Cs p inp k F x (stE p inp k F x):=by have hx:=UI hp.ok hF VR hi h ht;unfold stE;rw[dif_pos hx];exact Classical.choose_spec hx
omit hF VR hi
theorem Kq(h:EI p inp k x)(nm:UX)(v:aj)(e:seE p inp k x nm v=none):ng p (dp p) x.m nm v=none:=by
 unfold seE at e;cases hh:ng p (dp p) x.m nm v with
 |none=>rfl
 |some m'=>rw[hh]at e;cases e
theorem A5(h:EI p inp k x)(nm:UX)(v:aj)(hv:bG v.n){x':ES}(e:seE p inp k x nm v=some x'):∃m',ng p (dp p) x.m nm v=some m'/\m'.time=x.m.time/\Bs p inp k m' nm v x x':=by
 unfold seE at e;cases hh:ng p (dp p) x.m nm v with
 |none=>rw[hh]at e;cases e
 |some m'=> rw[hh]at e;obtain⟨h1,hx⟩:=Pt hp.ok hp.fn h nm v hv hh;simp only[Option.map_some,dif_pos hx]at e;cases e;exact⟨m',rfl,h1,Classical.choose_spec hx⟩
include hF VR hi hE
theorem xp:pj jV (stE p inp k F) (seE p inp k) E (EI p inp k):=by
 refine⟨fun s j s' h hj e=>?_,fun s h ht=>?_,fun s h=>h.t0⟩
 ·obtain⟨m',_,e2,e3⟩:=A5 hp h _ _ (hE j hj) e;refine⟨e3.2.1,?_⟩;show s'.m.time=s.m.time;rw[e3.1];exact e2
 ·have h1:=B3 hp hF VR hi h ht;refine⟨h1.2.1,?_⟩;show(stE p inp k F s).m.time=s.m.time\/(stE p inp k F s).m.time=s.m.time+1;rw[h1.1];rcases hF.time hi h.mi with e|e
  ·exact .inl e
  ·exact .inr e.1
theorem T3:rp jV (stE p inp k F) (seE p inp k) E (EI p inp k) (fun x=>x.E) 281 (.pt (hn 10 0) 0 0 0) 311 310 309:=by
 refine⟨Rk,R6,TF,jD,jD,jD,fun s h=>?_,fun s h ht=>?_,fun s j h hj=>?_⟩
 ·have hC:=rk hp.ok;have hk:=yy h.mi h.bd (by have:=hC.len;have:=hC.pL;have:=hp.ok.ok.aa.ak;have:=hp.ok.ok.size;omega);have WJ:=xC (h.R.wl h.ok h.sub) hk;rw[show mP s.N=.pt (hn 3 k) 0 0 0 by unfold mP;rw[h.key]]at WJ;exact Ur h.ok h.tv WJ
 ·exact RU h.ok h.tv (B3 hp hF VR hi h ht).2.2
 ·cases e:seE p inp k s (nth E j).name (nth E j).v with
  |none=>exact D4 h.ok h.tv (Lc hp.ok hp.fn h _ _ (Kq hp h _ _ e))
  |some s'=> obtain⟨m',_,_,e3⟩:=A5 hp h _ _ (hE j hj) e;exact D4 h.ok h.tv e3.2.2
end
def SV{p:ah}(hp:tM p)(WE:je p){F:UU->MV->MV}(hF:dT p (dp p) F){inp:UU}(VR:inp.length<=1000)(hi:∀x∈inp,bG x){E:List aP}(hE:∀k,k<E.length->bG (nth E k).v.n)(hl:E.length<=1000)(t:Int)(ht:bG t) :
  ∃x0:ES,EI p inp x0.N.k x0/\x0.m.time=0/\bh p (dp p) [] (pJ p (dp p)) x0.m/\x0.m.gy (dp p)/\
   ab prog 127 [.agg (dj p),aO eI 1 inp,aO bQ 5 E,rI t] [] (fun r l=>r=.aY [.pt (hn 3 x0.N.k) 0 0 0,rI (pI E (fq t) (jy jV (stE p inp x0.N.k F) (seE p inp x0.N.k) E (fq t) ((fq t-jV x0).toNat+1) x0 0 false))]/\l=(jy jV (stE p inp x0.N.k F) (seE p inp x0.N.k) E (fq t) ((fq t-jV x0).toNat+1) x0 0 false).1.E):=by
 obtain⟨m1,hg,O',h1,Yr⟩:=MK WE.ok (IU WE.ok) [];have Yr:m1.time=0:=Yr;obtain⟨N,l,hR,hX,hb,hnw⟩:=Nj WE [hn 10 0] hg O' (fun e0=>by obtain⟨hl,_,_,k0,n,a,ek,hm⟩:=h1.ai jB;have Vi:=hm.head.1;exact⟨hl,jB,jB⟩)
 have Vd:az l (hn 10 0)=none:=by
  cases hx:az l (hn 10 0)with
  |none=>rfl
  |some r=>exact(hX (hn 10 0) (by rw[hx];simp) jE).elim
 have XK:∀i,az (l++[(hn 10 0,.var 283 (lr p++[.pt (hn 3 N.k) 0 0 0,aO eI 1 inp]))]) i=(az l i).or (if i=hn 10 0 then some (.var 283 (lr p++[.pt (hn 3 N.k) 0 0 0,aO eI 1 inp]))else none):=fun i=>by rw[wy];rfl
 have WL:=hR.root;have hok:fF 0 (l++[(hn 10 0,.var 283 (lr p++[.pt (hn 3 N.k) 0 0 0,aO eI 1 inp]))]):=by
  refine⟨fun i h0 h1=>?_,?_,fun i r hr=>?_⟩
  ·rw[XK,hR.ok.low i h1,if_neg (by have:=iJ 10 0;omega)];rfl
  ·have:ids (l++[(hn 10 0,Row.var 283 (lr p++[.pt (hn 3 N.k) 0 0 0,aO eI 1 inp]))])=ids l++[hn 10 0]:=by simp[ids]
   rw[this,List.nodup_append];refine⟨hR.ok.nodup,jE,fun a ha b hb e=>?_⟩;simp at hb;subst hb e;exact(lR _ _).1 ha Vd
  ·have hm:∀j,(ids l).contains j=true->(ids (l++[(hn 10 0,Row.var 283 (lr p++[.pt (hn 3 N.k) 0 0 0,aO eI 1 inp]))])).contains j=true:=fun j hj=>by
    rw[List.contains_iff_mem]at hj ⊢;simp[ids]at hj ⊢;exact .inl hj
   rw[XK]at hr;cases hx:az l i with
   |some r'=> rw[hx]at hr;cases hr;exact fR hm _ (hR.ok.closed i _ hx)
   |none=>
    rw[hx]at hr;have hr:(if i=hn 10 0 then some (Row.var 283 (lr p++[.pt (hn 3 N.k) 0 0 0,aO eI 1 inp]))else none)=some r:=hr;split at hr
    ·cases hr;have h3:=hm _ (fV WL);show aR _ (lr p++[.pt (hn 3 N.k) 0 0 0,aO eI 1 inp])=true;rw[s9,fR (q:=eo) (fun _ h=>by cases h) _ (SL p)];simp only[aR,AV.all,h3,Bool.and_true,Bool.true_and]
    ·cases hr
 have hEI:EI p inp N.k ⟨m1,N,l,l++[(hn 10 0,.var 283 (lr p++[.pt (hn 3 N.k) 0 0 0,aO eI 1 inp]))]⟩:=by
  have Wb:m1.in_<=(inp.length:Int):=by have:=hb.og;omega
  refine⟨hR,rfl,h1,⟨hb.deep,hb.slots,hb.heap,hb.outs,hb.nV,Wb,hb.ll⟩,by show 0<=m1.time;omega,by show m1.time<=100000;omega,hok,fun i r hr=>?_,?_,Vd⟩
  ·show az (l++_) i=some r;have hr:az l i=some r:=hr;rw[XK,hr];rfl
  ·show az (l++_) (hn 10 0)=_;rw[XK,Vd,if_pos rfl];rfl
 refine⟨⟨m1,N,l,_⟩,hEI,Yr,hg,O',?_⟩;have Wf:=T2 (T3 hp hF VR hi (k:=N.k) hE) (xp hp hF VR hi hE) hl _ hEI t ht (by show m1.time<=_;unfold fq;omega);have Wo:=(yS (xp hp hF VR hi (k:=N.k) hE) (t:=fq t) (by unfold fq;omega) ((fq t-jV ⟨m1,N,l,l++[(hn 10 0,.var 283 (lr p++[.pt (hn 3 N.k) 0 0 0,aO eI 1 inp]))]⟩).toNat+1) _ 0 false hEI (by show m1.time<=_;unfold fq;omega) (Nat.zero_le _)).1;generalize jy jV (stE p inp N.k F) (seE p inp N.k) E (fq t) ((fq t-jV ⟨m1,N,l,l++[(hn 10 0,.var 283 (lr p++[.pt (hn 3 N.k) 0 0 0,aO eI 1 inp]))]⟩).toNat+1) ⟨m1,N,l,l++[(hn 10 0,.var 283 (lr p++[.pt (hn 3 N.k) 0 0 0,aO eI 1 inp]))]⟩ 0 false=G at*;simp only at Wf ⊢;have Xe:cM prog 58 [.agg (dj p)] [] (.pt (hn 3 N.k) 0 0 0) l:=⟨hnw,⟨fun _ _ _=>rfl,List.nodup_nil,fun i r h=>by cases h⟩,hR.ok,fun i h=>(h rfl).elim,rfl⟩;have P':=hR.ok.low;have hbA:=Wo.tv;have Wu:=Wo.ok.low;have hpm:∀i,az (tie l [(4,.var 32 (dj p)),(hn 10 0,.var 283 (lr p++[.pt (hn 3 N.k) 0 0 0,aO eI 1 inp]))]) i=az (tie (l++[(hn 10 0,.var 283 (lr p++[.pt (hn 3 N.k) 0 0 0,aO eI 1 inp]))]) [(4,.var 32 (dj p))]) i:=fun i=>by
  rw[kg,kg,XK];simp only[az];have:=iJ 10 0;cases az l i
  ·(repeat' split)<;>first|rfl|omega
  ·rfl
 generalize hbad:pI E (fq t) G=bad at*;have hbB:=Wo.ok;generalize G.1.E=EE at*;generalize l++[(hn 10 0,.var 283 (lr p++[.pt (hn 3 N.k) 0 0 0,aO eI 1 inp]))]=E0 at*;refine aK func127 ntmps127 ?_
 (have W:=jA P' (jA Vd (jA hbA (Wu)));repeat' (first|refine au fun K hK=>?_|refine aq ?_|(with_reducible refine gR 1 ?_);refine dC 1 ([],[],[14]) [] [0,1,3,2,4,5,6] mixed ?_|(refine hK _ _ ?_;clear hK K)|(refine ar ?_ ?_<;>intro hc<;>try exact jz)|refine cL 4 ?_|refine cL (hn 10 0) ?_|(refine oQ (e:=[]) Xe (fun j _ h=>(h rfl).elim) ?_)|(refine PW Wf (tl:=[(4,.var 32 (dj p))]) hpm ?_;try refine S ?_)|(refine io ?_ ?_<;>intro hc<;>try exact jz)|refine av ?_|exact jI|(clear hK K)))
 exact eu (e:=[]) (B:=[]) rfl ⟨fun _ _ _=>rfl,List.nodup_nil,fun i r h=>by cases h⟩ hbB (tl:=[(4,.var 32 (dj p))]) (fun _=>rfl) (du jC dL) [.tmp 8,.tmp 9]
end Go.Proofs.YtjpcgmjaipfgdaaGreatDoor
namespace Go.Proofs.YtjpcgmjaipfgdaaGreatDoor
open Go Go.Gd Tryz
end Go.Proofs.YtjpcgmjaipfgdaaGreatDoor
namespace Go.Proofs.YtjpcgmjaipfgdaaGreatDoor
open Go Go.Gd Tryz Go.Gd.MV
open Classical in
noncomputable def m0V(p:ah):MV:=if h:∃m1,bh p (dp p) [] (pJ p (dp p)) m1/\m1.gy (dp p)then Classical.choose h else pJ p (dp p)
def PC{p:ah}{m:MV}(hg:bh p (dp p) [] (pJ p (dp p)) m)(O':m.gy (dp p)):m0V p=m:=by have h:∃m1,bh p (dp p) [] (pJ p (dp p)) m1/\m1.gy (dp p):=⟨m,hg,O'⟩;unfold m0V;rw[dif_pos h];obtain⟨⟨n,g⟩,s⟩:=Classical.choose_spec h;obtain⟨k,g2⟩:=hg;exact PL g g2 s O'
noncomputable def runM(p:ah)(F:UU->MV->MV)(inp:UU)(E:List aP)(t:Int):MV×Nat×Bool:=jy MV.time (F inp) (ng p (dp p)) E (fq t) ((fq t-(m0V p).time).toNat+1) (m0V p) 0 false
noncomputable def badM(p:ah)(F:UU->MV->MV)(inp:UU)(E:List aP)(t:Int):Int:=pI E (fq t) (runM p F inp E t)
noncomputable def shotM(p:ah)(F:UU->MV->MV)(inp:UU)(E:List aP)(t:Int):gM:=(runM p F inp E t).1.cC (dp p)
section
variable {p:ah}(hp:tM p){F:UU->MV->MV}(hF:dT p (dp p) F){inp:UU}(VR:inp.length<=1000)(hi:∀x∈inp,bG x){k:Nat}{E:List aP}(hE:∀k,k<E.length->bG (nth E k).v.n)
include hp hF VR hi hE
theorem Jj:∀(n:Nat) (x:ES) (j:Nat) (b:Bool),EI p inp k x->(fQ jV (seE p inp k) E n x j b).1.m=(fQ MV.time (ng p (dp p)) E n x.m j b).1/\(fQ jV (seE p inp k) E n x j b).2=(fQ MV.time (ng p (dp p)) E n x.m j b).2
 |0,x,j,b,_=>⟨rfl,rfl⟩
 |n+1,x,j,b,h=>by
  unfold fQ;have et:jV x=x.m.time:=rfl;rw[et];by_cases c:b=false/\j<E.length/\(nth E j).at_=x.m.time
  ·rw[if_pos c,if_pos c];cases e:seE p inp k x (nth E j).name (nth E j).v with
   |none=>rw[Kq hp h _ _ e];exact⟨rfl,rfl⟩
   |some x'=> obtain⟨m',e1,_,e3⟩:=A5 hp h _ _ (hE j c.2.1) e;rw[e1];have:=Jj n x' (j+1) false e3.2.1;rw[e3.1]at this;exact this
  ·rw[if_neg c,if_neg c];exact⟨rfl,rfl⟩
theorem G0{T:Int}(hT:T<=200):∀(n:Nat) (x:ES) (j:Nat) (b:Bool),EI p inp k x->x.m.time<=T->(jy jV (stE p inp k F) (seE p inp k) E T n x j b).1.m=(jy MV.time (F inp) (ng p (dp p)) E T n x.m j b).1/\(jy jV (stE p inp k F) (seE p inp k) E T n x j b).2=(jy MV.time (F inp) (ng p (dp p)) E T n x.m j b).2
 |0,x,j,b,_,_=>⟨rfl,rfl⟩
 |n+1,x,j,b,h,ht=>by
  obtain⟨a1,a2,_⟩:=yZ (xp hp hF VR hi hE) (E.length+1) x j b h;obtain⟨b1,b2⟩:=Jj hp hF VR hi hE (E.length+1) x j b h;unfold jy;generalize fQ MV.time (ng p (dp p)) E (E.length+1) x.m j b=Q at*;generalize fQ jV (seE p inp k) E (E.length+1) x j b=R at*;obtain⟨R1,R2⟩:=R;obtain⟨Q1,Q2⟩:=Q;have b1:R1.m=Q1:=b1;have b2:R2=Q2:=b2;subst b1 b2;have a1:EI p inp k R1:=a1;have a2:R1.m.time=x.m.time:=a2;simp only;have et:jV R1=R1.m.time:=rfl;rw[et];by_cases c:R1.m.time=T
  ·rw[if_pos c,if_pos c];exact⟨rfl,rfl⟩
  rw[if_neg c,if_neg c];have O':=B3 hp hF VR hi a1 jB;have e2:jV (stE p inp k F R1)=(F inp R1.m).time:=by show(stE p inp k F R1).m.time=_;rw[O'.1]
  have e3:=((xp hp hF VR hi (k:=k) hE).st R1 a1 (by show R1.m.time<200;omega)).2;rw[e2];by_cases d:(F inp R1.m).time=R1.m.time
  ·rw[if_pos d,if_pos d];exact⟨O'.1,rfl⟩
  ·rw[if_neg d,if_neg d];have:=G0 hT n (stE p inp k F R1) R2.1 R2.2 O'.2.1 (by
    show(stE p inp k F R1).m.time<=T;have e3:(stE p inp k F R1).m.time=R1.m.time\/(stE p inp k F R1).m.time=R1.m.time+1:=e3;omega)
   rw[O'.1]at this;exact this
theorem Dt(WE:je p)(hl:E.length<=1000)(t:Int)(ht:bG t):∃k EE,cM prog 127 [.agg (dj p),aO eI 1 inp,aO bQ 5 E,rI t] [] (.aY [.pt (hn 3 k) 0 0 0,rI (badM p F inp E t)]) EE/\cM prog 63 [.pt (hn 3 k) 0 0 0] EE (.agg (js (shotM p F inp E t))) EE/\MI p (dp p) (runM p F inp E t).1/\Bd inp.length (runM p F inp E t).1:=by
 obtain⟨x0,hEI,Yr,hg,O',hc⟩:=SV hp WE hF VR hi hE hl t ht;have e0:=PC hg O';have h0:x0.m.time<=fq t:=by unfold fq;omega
 have hT:fq t<=200:=by unfold fq;omega
 obtain⟨p1,p2⟩:=G0 hp hF VR hi (k:=x0.N.k) hE hT ((fq t-jV x0).toNat+1) x0 0 false hEI h0;have Wo:=(yS (xp hp hF VR hi (k:=x0.N.k) hE) hT ((fq t-jV x0).toNat+1) x0 0 false hEI h0 (Nat.zero_le _)).1;have er:runM p F inp E t=jy MV.time (F inp) (ng p (dp p)) E (fq t) ((fq t-jV x0).toNat+1) x0.m 0 false:=by unfold runM;rw[e0];rfl
 have eb:pI E (fq t) (jy jV (stE p inp x0.N.k F) (seE p inp x0.N.k) E (fq t) ((fq t-jV x0).toNat+1) x0 0 false)=badM p F inp E t:=by unfold badM pI;rw[er,p2]
 rw[eb]at hc;rw[<-er]at p1;generalize jy jV (stE p inp x0.N.k F) (seE p inp x0.N.k) E (fq t) ((fq t-jV x0).toNat+1) x0 0 false=G at*;have hC:=rk hp.ok;have:=hC.len;have:=hC.pL;have:=hp.ok.ok.aa.ak;have:=hp.ok.ok.size;have WJ:=xC (Wo.R.wl Wo.ok Wo.sub) (yy Wo.mi Wo.bd jB);have Yp:=Wo.key;rw[show mP G.1.N=.pt (hn 3 x0.N.k) 0 0 0 by unfold mP;rw[Yp]]at WJ;refine⟨x0.N.k,G.1.E,⟨hc,⟨fun _ _ _=>rfl,List.nodup_nil,fun i r h=>by cases h⟩,Wo.ok,fun i h=>(h rfl).elim,rfl⟩,?_,p1 ▸ Wo.mi,p1 ▸ Wo.bd⟩;unfold shotM;rw[<-p1];exact WJ
end
end Go.Proofs.YtjpcgmjaipfgdaaGreatDoor
namespace Go.Proofs.YtjpcgmjaipfgdaaGreatDoor
open Go Go.Gd Tryz
def zA(n y:Int)(l:UU)(i:Int):ii n (y::l) i=if y=n then i else ii n l (i+1):=rfl
theorem FE(n:Int):∀(l:UU) (i:Int) (x:Int),0<=i->ii n (l++[x]) i=if ii n l i<0 then(if x=n then i+l.length else -1)else ii n l i
 |[],i,x,hi=>by simp[ii]
 |y::l,i,x,hi=>by
  rw[List.cons_append,zA,zA];by_cases h:y=n
  ·simp only[if_pos h];rw[jN]
  ·simp only[if_neg h];rw[FE n l (i+1) x jB];simp only[List.length_cons];have:i+1+(l.length:Int)=i+((l.length+1:Nat):Int):=jB;rw[this]
theorem DQ(n:Int):∀(l:UU) (i:Int),0<=i->(ii n l i<0<->∀j,j<l.length->nth l j≠n)/\(ii n l i=-1\/(i<=ii n l i/\ii n l i<i+l.length))
 |[],i,hi=>⟨by simp[ii],.inl rfl⟩
 |y::l,i,hi=>by
  obtain⟨a,b⟩:=DQ n l (i+1) jB;simp only[ii];by_cases h:y=n
  ·rw[if_pos h];refine⟨⟨fun h'=>jB,fun h'=>(h' 0 jE h).elim⟩,.inr ⟨jB,by simp;omega⟩⟩
  ·rw[if_neg h];refine⟨⟨fun h' j hj=>?_,fun h'=>a.2 fun j hj=>h' (j+1) (by simpa using hj)⟩,?_⟩
   ·cases j with
    |zero=>exact h
    |succ j=>exact a.1 h' j (by simpa using hj)
   ·rcases b with b|b
    ·exact .inl b
    ·right;simp only[List.length_cons];omega
def EN(slots:List aj)(k t:Int):(dq slots k t).s.size<=40:=by
 unfold dq;split
 ·exact Nat.zero_le _
 split
 ·rename_i h;exact Fs h.1
 ·exact Nat.zero_le _
structure nM(p:ah)(s:gM):Prop where
 calls:s.calls.length<=8
 fn:∀k,k<s.calls.length->0<=(nth s.calls k).fn/\(nth s.calls k).fn<p.aa.ak.length
 node:∀k,k<s.calls.length->0<=(nth s.calls k).node/\(nth s.calls k).node.toNat<p.aa.nodes.length
 sl:∀k,k<s.calls.length->nk (nth s.calls k).slots/\(nth s.calls k).slots.length<=1000
 hp:pU s.heap
 hl:s.heap.length<=1000
 ni:∀k,k<s.heap.length->(nth s.heap k).length<=1000
theorem Dm(n:Int):∀(l:UU) (k:Int),0<=k->iU n l (mq l.length k)=if ii n l k<0 then none else some (.raw (.int .i64 (ii n l k+1)))
 |[],k,_=>rfl
 |v::l,k,hk=>by
  have ih:=Dm n l (k+1) jB;rw[zA];show(if n=v then some _ else iU n l (mq l.length (k+1)))=_;by_cases h:v=n
  ·rw[if_pos h.symm,if_pos h,jN]
  ·rw[if_neg (fun e=>h e.symm),if_neg h];exact ih
theorem FC(n:Int):∀(l:UU) (k:Int),0<=k->ii n l k<0->mj n l=l++[n]/\∀(x:AV) (vs:US),vs.length=l.length->lH n x l vs=vs++[x]
 |[],k,_,_=>⟨rfl,fun x vs h=>by rw[List.length_eq_zero_iff.1 h];rfl⟩
 |v::l,k,hk,h=>by
  rw[zA]at h;split at h
  ·omega
  ·rename_i VZ;obtain⟨a,b⟩:=FC n l (k+1) jB h;have hn:¬n=v:=fun e=>VZ e.symm
   refine⟨by show(if n=v then _ else v::mj n l)=_;rw[if_neg hn,a];rfl,fun x vs hl=>?_⟩;cases vs with
   |nil=>simp at hl
   |cons u vs=> show(if n=v then _ else u::lH n x l vs)=_;rw[if_neg hn,b x vs (by simpa using hl)];rfl
def qk(heap:UT)(seen:UU):UR:=[(0,.var 231 [z8 heap,.mr 1]),(1,.mp (seen.map (Value.int .i64)) (mq seen.length 0))]
attribute [go_sem] qk
def NB(heap:UT)(seen:UU)(n:Int)(hh:heap.length<=1000)(hl:∀k,k<heap.length->(nth heap k).length<=1000)(hr:pU heap)(hs:seen.length<=1000000)(v:aj)(hv:v.ty=4)(hn:v.n=n) :
  ab prog 224 [.pt 0 0 0 0,rI n] (qk heap seen) (fun r l'=>r=rS (lw heap seen v).1/\l'=qk heap (lw heap seen v).2):=by
 unfold lw;rw[if_pos hv,hn];by_cases Wb:1<=n/\n<=heap.length
 rotate_left
 ·rw[if_neg Wb];refine aK func224 ntmps224 ?_;refine S ?_
  (repeat' (first|refine au fun K hK=>?_|refine aq ?_|(refine hK _ _ ?_;clear hK K)|(refine ar ?_ ?_<;>intro hc<;>try exact jz)|refine av ?_|exact jI|(clear hK K)))
  (refine bL [.tmp 4] ?_ ?_<;>(try simp only[go_sem]))
 rw[if_pos Wb];have hL1:=hl (n-1).toNat jB;have hLr:∀y∈nth heap (n-1).toNat,bG y:=fun y hy=>hr _ (cV jB) y hy
 have hps:=DQ n seen 0 jB;have hmg:=Dm n seen 0 jB;generalize hL:nth heap (n-1).toNat=L at*;by_cases VK:ii n seen 0<0
 ·have hS':sK seen n=seen++[n]:=by unfold sK;rw[if_pos VK]
  obtain⟨Yg,hmp⟩:=FC n seen 0 jB VK;rw[if_pos VK]at hmg;have ZK:=Dm n (seen++[n]) 0 jB;have hps2:=DQ n (seen++[n]) 0 jB;have hbC:=FE n seen 0 n jB;rw[if_pos VK,if_pos rfl]at hbC;rw[jN]at ZK;rw[hS'];have VX:(seen++[n]).length=seen.length+1:=jE;have hbD:lH n (rI (seen.length+1)) seen (mq seen.length 0)=mq (seen++[n]).length 0:=by rw[hmp _ _ (KC _ _),VX,G4];simp
  generalize seen++[n]=S' at*;have hjs:=HN (L.map cA) (⟨#[44]⟩:UX) 21 fun x hx=>by obtain⟨y,hy,rfl⟩:=List.mem_map.1 hx;exact nJ (hLr y hy)
  have hjm:(L.map cA).length*(((⟨#[44]⟩:UX):UX).size+21)<=100000:=by rw[List.length_map];have:((⟨#[44]⟩:UX):UX).size=1:=rfl;rw[this];omega
  have hav:=qZ (ii n S' 0+1) (by unfold bG;omega);have hbF:=nJ (n:=ii n S' 0+1) (by unfold bG;omega);refine aK func224 ntmps224 ?_;refine S ?_
  (have W:=jA Yg (jA hbD (hL));repeat' (first|refine au fun K hK=>?_|refine aq ?_|(with_reducible refine gR 4 ?_);refine dE 4 (bf 0 12) mixed ?_|(refine hK _ _ ?_;clear hK K)|(refine ar ?_ ?_<;>intro hc<;>try exact jz)|refine pw seen (.int .i64 0) (rI 0) iF jG (by unfold jR;rw[if_neg jC,hmg];rfl) ?_|refine gl seen iF ?_|refine av ?_|exact jI|(clear hK K)))
  refine iQ (dM.nil 5 5 9 (sz:=1) rfl jC (Or.inl rfl)) ?_
  (refine S ?_;try exact jI)
  have U6:=hK;clear hK;refine dw (S:=Nat) [(5,1),(7,1),(46,10)] (fun j=>j<=L.length) (fun j=>[(46,rI j),(5,.rs 5 j 1 j)]) (fun j=>⟨[0,1],[(0,.var 231 [z8 heap,.mr 1]),(1,.mp (S'.map (Value.int .i64)) (mq S'.length 0)),(5,.aD 9 1 (((L.take j).map cA).map eS))]⟩) (fun j=>L.length-j) 0 jB (dx rfl bS) ?_;rintro j hj Kr U8;have Xh:((L.take j).map cA).length=j:=by simp;omega
  by_cases I':j<L.length
  ·have hit:=qZ (nth L j) (hLr _ (cV I'));refine S ?_
   (have W:=hL;repeat' (first|refine au fun K hK=>?_|refine aq ?_|(refine hK _ _ ?_;clear hK K)|(refine ar ?_ ?_<;>intro hc<;>try exact jz)|refine cp (hit) ?_|refine av ?_|exact jI|(clear hK K)))
   refine U8 _ _ (dO (j+1) jB (by show L.length-(j+1)<L.length-j;omega) ?_ bS);show Hp.mk _ [_,_,(5,_)]=Hp.mk _ [_,_,(5,.aD _ _ (((L.take (j+1)).map cA).map eS))];rw[nA I'];simp only[List.map_append];rfl
  ·have ZZ:j=L.length:=jB;subst ZZ;rw[List.take_length]at Xh ⊢;refine S ?_
   (repeat' (first|refine au fun K hK=>?_|refine aq ?_|(refine hK _ _ ?_;clear hK K)|(refine ar ?_ ?_<;>intro hc<;>try exact jz)|refine pw S' (.int .i64 0) (rI (ii n S' 0+1)) iF jG (by unfold jR;rw[if_neg jC,ZK];rfl) ?_|refine cp (hav) ?_|(refine cJ (L.map cA) (⟨#[44]⟩:UX) rfl Xh.symm jB jB jD ?_;refine S ?_)|refine U6 _ _ ?_|refine av ?_|exact jI|(clear hK K)))
   unfold uM;rw[Eo]
   (refine bu [.tmp 4] ?_;try simp only[go_sem])
 ·have hS':sK seen n=seen:=by unfold sK;rw[if_neg VK]
  rw[hS'];rw[if_neg VK]at hmg;have ZK:=hmg;have hjs:=HN (L.map cA) (⟨#[44]⟩:UX) 21 fun x hx=>by obtain⟨y,hy,rfl⟩:=List.mem_map.1 hx;exact nJ (hLr y hy)
  have hjm:(L.map cA).length*(((⟨#[44]⟩:UX):UX).size+21)<=100000:=by rw[List.length_map];have:((⟨#[44]⟩:UX):UX).size=1:=rfl;rw[this];omega
  have hav:=qZ (ii n seen 0+1) (by unfold bG;omega);have hbF:=nJ (n:=ii n seen 0+1) (by unfold bG;omega);refine aK func224 ntmps224 ?_;refine S ?_
  (have W:=hL;repeat' (first|refine au fun K hK=>?_|refine aq ?_|(refine hK _ _ ?_;clear hK K)|(refine ar ?_ ?_<;>intro hc<;>try exact jz)|refine pw seen (.int .i64 0) (rI (ii n seen 0+1)) iF jG (by unfold jR;rw[if_neg jC,hmg];rfl) ?_|refine av ?_|exact jI|(clear hK K)))
  refine iQ (dM.nil 5 5 9 (sz:=1) rfl jC (Or.inl rfl)) ?_
  (refine S ?_;try exact jI)
  have U6:=hK;clear hK;refine dw (S:=Nat) [(5,1),(7,1),(46,10)] (fun j=>j<=L.length) (fun j=>[(46,rI j),(5,.rs 5 j 1 j)]) (fun j=>⟨[0,1],[(0,.var 231 [z8 heap,.mr 1]),(1,.mp (seen.map (Value.int .i64)) (mq seen.length 0)),(5,.aD 9 1 (((L.take j).map cA).map eS))]⟩) (fun j=>L.length-j) 0 jB (dx rfl bS) ?_;rintro j hj Kr U8;have Xh:((L.take j).map cA).length=j:=by simp;omega
  by_cases I':j<L.length
  ·have hit:=qZ (nth L j) (hLr _ (cV I'));refine S ?_
   (have W:=hL;repeat' (first|refine au fun K hK=>?_|refine aq ?_|(refine hK _ _ ?_;clear hK K)|(refine ar ?_ ?_<;>intro hc<;>try exact jz)|refine cp (hit) ?_|refine av ?_|exact jI|(clear hK K)))
   refine U8 _ _ (dO (j+1) jB (by show L.length-(j+1)<L.length-j;omega) ?_ bS);show Hp.mk _ [_,_,(5,_)]=Hp.mk _ [_,_,(5,.aD _ _ (((L.take (j+1)).map cA).map eS))];rw[nA I'];simp only[List.map_append];rfl
  ·have ZZ:j=L.length:=jB;subst ZZ;rw[List.take_length]at Xh ⊢;refine S ?_
   (repeat' (first|refine au fun K hK=>?_|refine aq ?_|(refine hK _ _ ?_;clear hK K)|(refine ar ?_ ?_<;>intro hc<;>try exact jz)|refine pw seen (.int .i64 0) (rI (ii n seen 0+1)) iF jG (by unfold jR;rw[if_neg jC,ZK];rfl) ?_|refine cp (hav) ?_|(refine cJ (L.map cA) (⟨#[44]⟩:UX) rfl Xh.symm jB jB jD ?_;refine S ?_)|refine U6 _ _ ?_|refine av ?_|exact jI|(clear hK K)))
   unfold uM;rw[Eo]
   (refine bu [.tmp 4] ?_;try simp only[go_sem])
@[go_sem] def jwG(v:aj):(bW v).drop 3=[]:=(rfl)
attribute [go_sem] List.append_nil
def S7(heap:UT)(seen:UU)(slots:List aj)(x:ba)(hx:0<=x.slot)(hxs:x.slot<=1000000)(hh:heap.length<=1000)(hl:∀k,k<heap.length->(nth heap k).length<=1000)(hr:pU heap)(hs:seen.length<=1000000)(X4:nk slots)(VX:slots.length<=1000) :
  ab prog 178 [.pt 0 0 0 0,NF slots,.agg (lg x)] (qk heap seen) (fun r l'=>r=rS (lw heap seen (dq slots x.slot x.ty)).1/\l'=qk heap (lw heap seen (dq slots x.slot x.ty)).2):=by
 have hz:=Ao x.ty;have XR:=AR X4 x.slot x.ty;have hgs:=EN slots x.slot x.ty;have Vo:dq slots x.slot x.ty=if x.slot<slots.length then(if lS (nth slots x.slot.toNat)=true/\(nth slots x.slot.toNat).ty=x.ty then nth slots x.slot.toNat else vZ x.ty)else vZ x.ty:=by
  unfold dq;by_cases e:x.slot<slots.length
  ·rw[jN,if_pos e]
  ·rw[jP,if_neg e]
 generalize dq slots x.slot x.ty=X at*;have hq:=SG X XR jB;have hli:X.ty=4->_:=fun h4=>NB heap seen X.n hh hl hr hs X h4 rfl
 have htq:X.ty≠4->lw heap seen X=(tC X,seen):=fun h=>by unfold lw;rw[if_neg h]
 generalize lw heap seen X=T at*;have Wl:=vO (nth slots x.slot.toNat);by_cases e1:x.slot<slots.length
 ·rw[if_pos e1]at Vo;by_cases e2:(nth slots x.slot.toNat).ty=x.ty
  ·by_cases e3:lS (nth slots x.slot.toNat)=true
   ·rw[if_pos ⟨e3,e2⟩]at Vo;rw[<-Vo]at e2 e3 Wl;by_cases h4:X.ty=4
    ·have X3:=hli h4;refine aK func178 ntmps178 ?_;refine S ?_
     (have W:=jA e3 (jA e2 (Vo.symm));repeat' (first|refine au fun K hK=>?_|refine aq ?_|(with_reducible refine gR 2 ?_);refine dE 2 (bf 0 24) mixed ?_|(refine hK _ _ ?_;clear hK K)|(refine ar ?_ ?_<;>intro hc<;>try exact jz)|refine cL 5 ?_|refine fA 6 ?_|refine cp (hz) ?_|(first|refine cg (Wl) ?_|refine pP (Wl) ?_)|refine cm (X3) ?_|refine av ?_|exact jI|(clear hK K)))
     all_goals(refine bu [.tmp 6] ?_;try simp only[go_sem])
    ·rw[htq h4];refine aK func178 ntmps178 ?_;refine S ?_
     (have W:=jA e3 (jA e2 (Vo.symm));repeat' (first|refine au fun K hK=>?_|refine aq ?_|(with_reducible refine gR 2 ?_);refine dE 2 (bf 0 24) mixed ?_|(refine hK _ _ ?_;clear hK K)|(refine ar ?_ ?_<;>intro hc<;>try exact jz)|refine cL 5 ?_|refine fA 6 ?_|refine cp (hz) ?_|refine cp (hq) ?_|(first|refine cg (Wl) ?_|refine pP (Wl) ?_)|refine av ?_|exact jI|(clear hK K)))
     all_goals(refine bu [.tmp 6] ?_;try simp only[go_sem])
   ·rw[if_neg (fun h=>e3 h.1)]at Vo;have e3:lS (nth slots x.slot.toNat)=false:=by simpa using e3
    have e4:X.ty=x.ty:=by rw[Vo];rfl
    rw[<-Vo]at hz;by_cases h4:X.ty=4
    ·have X3:=hli h4;refine aK func178 ntmps178 ?_;refine S ?_
     (have W:=jA e3 (jA e2 (e4));repeat' (first|refine au fun K hK=>?_|refine aq ?_|(with_reducible refine gR 2 ?_);refine dE 2 (bf 0 24) mixed ?_|(refine hK _ _ ?_;clear hK K)|(refine ar ?_ ?_<;>intro hc<;>try exact jz)|refine cL 5 ?_|refine fA 6 ?_|refine cp (hz) ?_|(first|refine cg (Wl) ?_|refine pP (Wl) ?_)|refine cm (X3) ?_|refine av ?_|exact jI|(clear hK K)))
     all_goals(refine bu [.tmp 6] ?_;try simp only[go_sem])
    ·rw[htq h4];refine aK func178 ntmps178 ?_;refine S ?_
     (have W:=jA e3 (jA e2 (e4));repeat' (first|refine au fun K hK=>?_|refine aq ?_|(with_reducible refine gR 2 ?_);refine dE 2 (bf 0 24) mixed ?_|(refine hK _ _ ?_;clear hK K)|(refine ar ?_ ?_<;>intro hc<;>try exact jz)|refine cL 5 ?_|refine fA 6 ?_|refine cp (hz) ?_|refine cp (hq) ?_|(first|refine cg (Wl) ?_|refine pP (Wl) ?_)|refine av ?_|exact jI|(clear hK K)))
     all_goals(refine bu [.tmp 6] ?_;try simp only[go_sem])
  ·rw[if_neg (fun h=>e2 h.2)]at Vo;have e4:X.ty=x.ty:=by rw[Vo];rfl
   rw[<-Vo]at hz;have e2':=eq_false e2;by_cases h4:X.ty=4
   ·have X3:=hli h4;refine aK func178 ntmps178 ?_;refine S ?_
    (have W:=jA e2' e4;repeat' (first|refine au fun K hK=>?_|refine aq ?_|(with_reducible refine gR 2 ?_);refine dE 2 (bf 0 24) mixed ?_|(refine hK _ _ ?_;clear hK K)|(refine ar ?_ ?_<;>intro hc<;>try exact jz)|refine cL 5 ?_|refine fA 6 ?_|refine cp (hz) ?_|(first|refine cg (Wl) ?_|refine pP (Wl) ?_)|refine cm (X3) ?_|refine av ?_|exact jI|(clear hK K)))
    all_goals(refine bu [.tmp 6] ?_;try simp only[go_sem])
   ·rw[htq h4];refine aK func178 ntmps178 ?_;refine S ?_
    (have W:=jA e2' e4;repeat' (first|refine au fun K hK=>?_|refine aq ?_|(with_reducible refine gR 2 ?_);refine dE 2 (bf 0 24) mixed ?_|(refine hK _ _ ?_;clear hK K)|(refine ar ?_ ?_<;>intro hc<;>try exact jz)|refine cL 5 ?_|refine fA 6 ?_|refine cp (hz) ?_|refine cp (hq) ?_|(first|refine cg (Wl) ?_|refine pP (Wl) ?_)|refine av ?_|exact jI|(clear hK K)))
    all_goals(refine bu [.tmp 6] ?_;try simp only[go_sem])
 ·rw[if_neg e1]at Vo;have e4:X.ty=x.ty:=by rw[Vo];rfl
  rw[<-Vo]at hz;by_cases h4:X.ty=4
  ·have X3:=hli h4;refine aK func178 ntmps178 ?_;refine S ?_
   (have W:=e4;repeat' (first|refine au fun K hK=>?_|refine aq ?_|(with_reducible refine gR 2 ?_);refine dE 2 (bf 0 24) mixed ?_|(refine hK _ _ ?_;clear hK K)|(refine ar ?_ ?_<;>intro hc<;>try exact jz)|refine cL 5 ?_|refine fA 6 ?_|refine cp (hz) ?_|(first|refine cg (Wl) ?_|refine pP (Wl) ?_)|refine cm (X3) ?_|refine av ?_|exact jI|(clear hK K)))
   all_goals(refine bu [.tmp 6] ?_;try simp only[go_sem])
  ·rw[htq h4];refine aK func178 ntmps178 ?_;refine S ?_
   (have W:=e4;repeat' (first|refine au fun K hK=>?_|refine aq ?_|(with_reducible refine gR 2 ?_);refine dE 2 (bf 0 24) mixed ?_|(refine hK _ _ ?_;clear hK K)|(refine ar ?_ ?_<;>intro hc<;>try exact jz)|refine cL 5 ?_|refine fA 6 ?_|refine cp (hz) ?_|refine cp (hq) ?_|(first|refine cg (Wl) ?_|refine pP (Wl) ?_)|refine av ?_|exact jI|(clear hK K)))
   all_goals(refine bu [.tmp 6] ?_;try simp only[go_sem])
end Go.Proofs.YtjpcgmjaipfgdaaGreatDoor
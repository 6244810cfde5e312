/- Lemmas. No conditions. -/
import Derived.Test.YtjpcgmjaipfgdaaGreatDoorViM
import Derived.Laws.RangeAny
import Derived.Laws.RangeString
set_option linter.all false
set_option maxHeartbeats 8000000
set_option maxRecDepth 10000
namespace Go.Proofs.YtjpcgmjaipfgdaaGreatDoor
open Go Go.Gd Tryz
def sa(v:ba):Prop:=0<=v.slot/\v.slot<24
variable{p:ah}
def Lh(h:nC p){x:Int}(hx:x.toNat<p.aa.nodes.length)(kb:(nth p.aa.nodes x.toNat).kind=15\/(nth p.aa.nodes x.toNat).kind=16):∀y∈(nth p.aa.nodes x.toNat).l.drop 1,bT p.aa.nodes y=18:=fun y hy=>by
 have shx:=h.aa.shape x.toNat hx;rcases kb with kb|kb
 ·obtain⟨a,c,_,hb,hl|⟨d,hl,hd⟩⟩:=shx.1.lC kb
  ·rw[hl]at hy;simp at hy;subst hy;exact hb
  ·rw[hl]at hy;simp at hy;rcases hy with rfl|rfl
   ·exact hb
   ·exact hd
 ·obtain⟨a,c,hl,_,hb⟩:=shx.1.dP kb;rw[hl]at hy;simp at hy;subst hy;exact hb
theorem GZ{p:ah}(h:gF p){j:Nat}(hj:j<p.aa.ak.length)(node:Int):∀(n:Nat) (b:Int) (vars R:List ba),mb p j ⟨b,0⟩->(∀v∈vars,sa v)->gv p node n b vars=some R->∀v∈R,sa v
 |0,b,vars,R,_,_,e=>by cases e
 |n+1,b,vars,R,hb,hv,e=>by
  have ih:=GZ h hj node n;have hf:=h.ak j hj;have aC:∀(l:UU) (vs R:List ba),(∀y∈l,mb p j ⟨y,0⟩)->(∀v∈vs,sa v)->ld (gv p node n) vs l=some R->∀v∈R,sa v:=fun l=>by
   induction l with
   |nil=>intro vs R _ _ e;cases e
   |cons y l ihl=>
    intro vs R hl V' e;unfold ld at e;cases e1:gv p node n y vs with
    |none=>rw[e1]at e;exact ihl vs R (fun z hz=>hl z (by simp[hz])) V' e
    |some R'=>rw[e1]at e;cases e;exact ih y vs _ (hl y jE) V' e1
  have sc:∀(l:UU) (vs R:List ba),(∀x∈l,x∈wP p b)->(∀v∈vs,sa v)->mV (gv p node n) p node l vs=some R->∀v∈R,sa v:=fun l=>by
   induction l with
   |nil=>intro vs R _ _ e;cases e
   |cons x l ihl=>
    intro vs R hx V' e;obtain⟨x0,x1,x2,x3⟩:=hb.aC h (by omega:(0:Int)<=j) jB (hx x jE);have x1:x.toNat<b.toNat:=x1;have x2:kW p.aa j<=x.toNat:=by rw[Int.toNat_natCast]at x2;exact x2
    have XS:b.toNat<=(nth p.aa.ak j).body.toNat:=by have:=hb.hi;rw[Int.toNat_natCast]at this;exact this
    have Wa:=ou h.ok.aa hj;have Yj:x.toNat<p.aa.nodes.length:=by have:=Wa.1;have:=Wa.2;omega
    have WM:∀v∈iC p x vs,sa v:=fun v Ve=>by
     unfold iC at Ve;split at Ve
     ·rename_i k10;rcases List.mem_append.1 Ve with Ve|Ve
      ·exact V' v Ve
      ·rw[List.mem_singleton]at Ve;subst Ve;have k10:(nth p.aa.nodes x.toNat).kind=10:=k10;have:=hf.all x.toNat x2 jB (by unfold ju;omega);have hz:=hf.hi;exact⟨this.1,by show nth p.slots x.toNat<24;omega⟩
     ·exact V' v Ve
    unfold mV at e;split at e
    ·cases e;exact V'
    ·cases e1:(if(ap p x).kind=15\/(ap p x).kind=16 then ld (gv p node n) (iC p x vs) ((ap p x).l.drop 1)else none)with
     |none=>rw[e1]at e;exact ihl _ R (fun y hy=>hx y (by simp[hy])) WM e
     |some R'=>
      rw[e1]at e;cases e;split at e1
      ·rename_i kb;refine aC _ _ _ (fun y hy=>?_) WM e1;have YG:y∈(nth p.aa.nodes x.toNat).l:=List.mem_of_mem_drop hy;have ZG:=(h.ok.aa.shape x.toNat Yj).2.1 y YG;have P':=hf.chain.closed x.toNat x2 jB y YG;exact⟨ZG.1,by rw[Int.toNat_natCast];exact P',by rw[Int.toNat_natCast];show y.toNat<=_;omega,Lh h.ok Yj kb y hy,Int.le_refl _,by show(0:Int)<=_;omega⟩
      ·cases e1
  exact sc (ap p b).l vars R (fun x hx=>hx) hv e
theorem FG:∀(l:List bp) (i:Int),0<=i->i+l.length<=24->∀v∈iw l i,sa v
 |[],i,_,_,v,hv=>by cases hv
 |x::l,i,h0,h1,v,hv=>by
  simp only[List.length_cons]at h1;simp only[iw,List.mem_cons]at hv;rcases hv with rfl|hv
  ·exact⟨h0,by show i<24;omega⟩
  ·exact FG l (i+1) jB jB v hv
def S3(h:gF p)(VB:∀k,k<p.aa.nodes.length->0<=nth p.fn k/\nth p.fn k<p.aa.ak.length){node:Int}(h1:node.toNat<p.aa.nodes.length):∀v∈dV p node,sa v:=by
 obtain⟨f0,f1⟩:=VB _ h1;have XF:(nth p.fn node.toNat).toNat<p.aa.ak.length:=jB;have hps:=(h.ok.aa.fn _ (cV XF)).2;have Wa:=ou h.ok.aa XF;have hf:=h.ak _ XF;unfold dV;cases e:gv p node p.aa.nodes.length (nth p.aa.ak (nth p.fn node.toNat).toNat).body (iw (nth p.aa.ak (nth p.fn node.toNat).toNat).params 0)with
 |none=>intro v hv;cases hv
 |some R=> exact GZ h XF node _ _ _ R ⟨Wa.1,by rw[Int.toNat_natCast];exact hf.chain.le,by rw[Int.toNat_natCast];exact Nat.le_refl _,h.ok.aa.body _ (cV XF),Int.le_refl _,by show(0:Int)<=_;omega⟩ (FG _ _ (Int.le_refl _) jB) e
def LN(h:gF p)(VB:∀k,k<p.aa.nodes.length->0<=nth p.fn k/\nth p.fn k<p.aa.ak.length)(heap:UT)(seen:UU)(c:fh)(n0:0<=c.node)(n1:c.node.toNat<p.aa.nodes.length)(f0:0<=c.fn)(f1:c.fn<p.aa.ak.length)
  (hh:heap.length<=1000) (hl:∀k,k<heap.length->(nth heap k).length<=1000) (hr:pU heap) (hs:seen.length<=900000) (X4:nk c.slots) (VX:c.slots.length<=1000) :
  ab prog 128 [.pt 0 0 0 0,.agg (dj p),.agg (mT c)] (qk heap seen) (fun r l'=>r=.agg (jq ⟨(nth p.aa.ak c.fn.toNat).name,(ap p c.node).bA,(jK heap c.slots (dV p c.node) seen).1⟩)/\l'=qk heap (jK heap c.slots (dV p c.node) seen).2):=by
 have hbH:=BP h.ok VB c.node n0 n1;have V':=S3 h VB n1;have Ym:=wb h.ok VB n1;have Wm:c.fn.toNat<p.aa.ak.length:=jB;generalize dV p c.node=V at*;suffices key:∀Wz:List aG×UU,Wz=jK heap c.slots V seen->ab prog 128 [.pt 0 0 0 0,.agg (dj p),.agg (mT c)] (qk heap seen) (fun r l'=>r=.agg (jq ⟨(nth p.aa.ak c.fn.toNat).name,(ap p c.node).bA,Wz.1⟩)/\l'=qk heap Wz.2) from key _ rfl
 intro Wz hW;have Yd:ap p c.node=nth p.aa.nodes c.node.toNat:=rfl;rw[Yd];refine aK func128 ntmps128 ?_;refine S ?_
 (repeat' (first|refine au fun K hK=>?_|refine aq ?_|(with_reducible refine gR 1 ?_);refine dE 1 (bf 0 19) mixed ?_|(refine hK _ _ ?_;clear hK K)|(refine ar ?_ ?_<;>intro hc<;>try exact jz)|refine cL 5 ?_|refine cL 6 ?_|refine fA 7 ?_|refine fA 8 ?_|refine cp (hbH) ?_|refine av ?_|exact jI|(clear hK K)))
 refine iQ (dM.fz 9 8 2 80 2 rfl jC rfl rfl) ?_
 (refine S ?_;try exact jI)
 have U6:=hK;clear hK;refine dw (S:=Nat) [(9,1),(32,18)] (fun k=>k<=V.length) (fun k=>[(32,rI k)]) (fun k=>⟨[0,1],qk heap (jK heap c.slots (V.take k) seen).2++[(5,.var 32 (dj p)),(6,.var 137 (mT c)),(7,.var 78 [rS ⟨#[]⟩,rI 0,.raw (.slice none 0 0)]),(8,.var 78 [rS (nth p.aa.ak c.fn.toNat).name,rI (nth p.aa.nodes c.node.toNat).bA,.rs 9 k 2 k]),(9,.aD 80 2 ((jK heap c.slots (V.take k) seen).1.map j7))]⟩) (fun k=>V.length-k) 0 jB (dx rfl bS) ?_;rintro k hk Kr U8;obtain⟨Wc,hks⟩:=ze heap c.slots k (V.take k) seen jF;by_cases I':k<V.length
 ·have hsn:=GW heap c.slots (V.take k) (nth V k) seen;rw[<-nA I']at hsn;obtain⟨x0,x1⟩:=V' _ (cV I');generalize jK heap c.slots (V.take k) seen=A at*;generalize Zk:nth V k=x at*;unfold tY at hsn;have htx:=S7 heap A.2 c.slots x x0 jB hh hl hr jB X4 VX;generalize lw heap A.2 (dq c.slots x.slot x.ty)=T at*;refine S ?_
  (have W:=jA Zk Wc;repeat' (first|refine au fun K hK=>?_|refine aq ?_|(with_reducible refine gR 5 ?_);refine dC 5 ([1],[],[44,1000000]) [] (bf 0 14) mixed ?_|(refine hK _ _ ?_;clear hK K)|(refine ar ?_ ?_<;>intro hc<;>try exact jz)|refine fA 10 ?_|(refine sH htx ?_)|refine av ?_|exact jI|(clear hK K)))
  refine U8 _ _ (lc [10] (k+1) jB (by show V.length-(k+1)<V.length-k;omega) rfl Sd ?_ ie);show Hp.mk _ [_,(1,_),_,_,_,_,(9,_)]=Hp.mk _ (qk heap (jK heap c.slots (V.take (k+1)) seen).2++[_,_,_,_,(9,.aD _ _ (List.map j7 (jK heap c.slots (V.take (k+1)) seen).1))]);rw[hsn];simp only[List.map_append];rfl
 ·have WO:k=V.length:=jB;subst WO;rw[List.take_length]at Wc ⊢;rw[<-hW]at Wc ⊢;refine S ?_
  (have W:=Wc;repeat' (first|refine au fun K hK=>?_|refine aq ?_|(refine hK _ _ ?_;clear hK K)|(refine ar ?_ ?_<;>intro hc<;>try exact jz)|refine U6 _ _ ?_|refine av ?_|exact jI|(clear hK K)))
  refine iM [.cell 6 78] ?_;refine cn.agg (ds:=jq ⟨(nth p.aa.ak c.fn.toNat).name,(nth p.aa.nodes c.node.toNat).bA,Wz.1⟩) ⟨.same _ rfl,.same _ rfl,dn.row Wz.1 rfl rfl Wc.symm,trivial⟩
def UB(l:List UX)(hl:l.length<=1000000):aL prog 119 [aO eS 1 l] (aO eS 1 l):=by
 refine dG func119 ntmps119 ?_
 (repeat' (first|refine au fun K hK=>?_|refine aq ?_|(refine hK _ _ ?_;clear hK K)|(refine ar ?_ ?_<;>intro hc<;>try exact jz)|(with_reducible refine fun(b:Bool) hb=>?_)|refine av ?_|exact jI|(clear hK K)))
 ·have VM:l=[]:=by simpa using hb hc
  subst VM;refine iM [.tmp 2] ?_;exact dn.nil _ _
 ·refine iM [.tmp 2] ?_;exact dn.row l rfl rfl jE
def L9(h:gF p)(VB:∀k,k<p.aa.nodes.length->0<=nth p.fn k/\nth p.fn k<p.aa.ak.length){s:gM}(ho:nM p s)(hol:s.aS.length<=1000):aL prog 73 [.agg (dj p),.agg (js s)] (.agg (fv (k7 p s))):=by
 have U9:=ho.calls;have hhl:=ho.hl;have VW:=UB s.aS jB;refine dG func73 ntmps73 ?_
 (repeat' (first|refine au fun K hK=>?_|refine aq ?_|(with_reducible refine gR 2 ?_);refine dC 2 ([],[],[16]) [10] [0,1,3,4,5,6,7,8,2,9,10,11] mixed ?_|(with_reducible refine gR 6 ?_);refine dC 6 ([1],[],[36,1000000]) [] (bf 0 10) mixed ?_|(refine hK _ _ ?_;clear hK K)|(refine ar ?_ ?_<;>intro hc<;>try exact jz)|refine cL 5 ?_|refine cL 6 ?_|refine cL 0 ?_|refine nX 1 ?_|refine fA 7 ?_|refine fA 8 ?_|(refine cN VW ?_)|refine av ?_|exact jI|(clear hK K)))
 refine iQ (dM.fz 9 8 0 78 3 rfl jC rfl rfl) ?_
 (refine S ?_;try exact jI)
 have U6:=hK;clear hK;refine dw (S:=Nat) [(8,1),(27,14)] (fun i=>i<=s.calls.length/\(pm p s.heap (s.calls.take i)).2.length<=100000*i) (fun i=>[(27,rI i)]) (fun i=>⟨[],[(5,.var 32 (dj p)),(6,.var 45 (js s)),(7,.var 67 [.raw (.slice none 0 0),.raw (.slice none 0 0),rI 0,rI 0,rI 0]),(1,.mp ((pm p s.heap (s.calls.take i)).2.map (Value.int .i64)) (mq (pm p s.heap (s.calls.take i)).2.length 0)),(0,.var 231 [z8 s.heap,.mr 1]),(8,.var 67 [.rs 9 i 3 i,aO eS 1 s.aS,rI s.in_,rI s.status,rI s.bs]),(9,.aD 78 3 ((pm p s.heap (s.calls.take i)).1.map jq))]⟩) (fun i=>s.calls.length-i) 0 ⟨jB,Nat.zero_le _⟩ (dx rfl bS) ?_;rintro i ⟨Xm,Zm⟩ Kr U8;by_cases I':i<s.calls.length
 rotate_left
 ·have hie:i=s.calls.length:=jB;subst hie;rw[List.take_length]at*;have hbI:(pm p s.heap s.calls).1.length=s.calls.length:=xL p s.heap _ _ rfl;refine S ?_
  (repeat' (first|refine au fun K hK=>?_|refine aq ?_|(with_reducible refine gR 2 ?_);refine dC 2 ([],[],[16]) [10] [0,1,3,4,5,6,7,8,2,9,10,11] mixed ?_|(with_reducible refine gR 6 ?_);refine dC 6 ([1],[],[36,1000000]) [] (bf 0 10) mixed ?_|(refine hK _ _ ?_;clear hK K)|(refine ar ?_ ?_<;>intro hc<;>try exact jz)|refine U6 _ _ ?_|refine av ?_|exact jI|(clear hK K)))
  refine iM [.cell 4 67] ?_;refine cn.agg (ds:=fv (k7 p s)) ⟨dn.row (pm p s.heap s.calls).1 rfl rfl hbI.symm,.same _ rfl,.same _ rfl,.same _ rfl,.same _ rfl,trivial⟩
 obtain⟨n0,n1⟩:=ho.node i I';obtain⟨f0,f1⟩:=ho.fn i I';obtain⟨X4,VX⟩:=ho.sl i I';have Ym:=wb h.ok VB n1;have ZL:=Ij p s.heap (s.calls.take i) (nth s.calls i);rw[<-nA I']at ZL;have XN:(pm p s.heap (s.calls.take i)).1.length=i:=xL p s.heap i _ jF;generalize pm p s.heap (s.calls.take i)=C at*;generalize Zz:nth s.calls i=c at*;have hlc:=LN h VB s.heap C.2 c n0 n1 f0 f1 hhl ho.ni ho.hp jB X4 VX;have hvv:=(ze s.heap c.slots _ (dV p c.node) C.2 rfl).2;unfold tq at ZL;generalize jK s.heap c.slots (dV p c.node) C.2=Wz at*;refine S ?_
 (have W:=jA Zz XN;repeat' (first|refine au fun K hK=>?_|refine aq ?_|(with_reducible refine gR 2 ?_);refine dC 2 ([],[],[16]) [10] [0,1,3,4,5,6,7,8,2,9,10,11] mixed ?_|(with_reducible refine gR 6 ?_);refine dC 6 ([1],[],[36,1000000]) [] (bf 0 10) mixed ?_|(refine hK _ _ ?_;clear hK K)|(refine ar ?_ ?_<;>intro hc<;>try exact jz)|refine fA 10 ?_|(refine sH hlc ?_)|refine U6 _ _ ?_|refine av ?_|exact jI|(clear hK K)))
 refine U8 _ _ (lc [10] (i+1) ⟨jB,by rw[ZL];show Wz.2.length<=_;omega⟩ (by show s.calls.length-(i+1)<s.calls.length-i;omega) rfl Sd ?_ ?_)
 ·rw[ZL];simp only[List.map_append];rfl
 ·exact ie
end Go.Proofs.YtjpcgmjaipfgdaaGreatDoor
namespace Go.Gd
open Go
end Go.Gd
namespace Go.Proofs.YtjpcgmjaipfgdaaGreatDoor
open Go Go.Gd Tryz
def Ml(a b:List UX)(ha:a.length<=1000000000):aL prog 72 [aO eS 1 a,aO eS 1 b] (rB (decide (a=b))):=by
 refine dG func72 ntmps72 ?_
 (repeat' (first|refine au fun K hK=>?_|refine aq ?_|(with_reducible refine gR 6 ?_);refine dE 6 (bf 0 9) mixed ?_|(refine hK _ _ ?_;clear hK K)|(refine ar ?_ ?_<;>intro hc<;>try exact jz)|refine av ?_|exact jI|(clear hK K)))
 ·(refine bu [.tmp 4] ?_;try simp only[go_sem])
  rw[show decide (a=b)=false from decide_eq_false fun h=>hc (by rw[h])]
 have hl:a.length=b.length:=jB;have U6:=hK;clear hK;refine dw (S:=Nat) [(4,2),(11,15)] (fun k=>k<=a.length/\∀j,j<k->nth a j=nth b j) (fun k=>[(5,rI k)]) (fun k=>⟨[],[]⟩) (fun k=>a.length-k) 0 ⟨jB,fun j h=>jB⟩ (dx jD bS) ?_;rintro k ⟨Vs,Va⟩ Kr U8;refine S ?_
 (repeat' (first|refine au fun K hK=>?_|refine aq ?_|(with_reducible refine gR 6 ?_);refine dE 6 (bf 0 9) mixed ?_|(refine hK _ _ ?_;clear hK K)|(refine ar ?_ ?_<;>intro hc<;>try exact jz)|refine U6 _ _ ?_|refine av ?_|exact jI|(clear hK K)))
 ·(refine bu [.tmp 4] ?_;try simp only[go_sem])
  rw[show decide (a=b)=false from decide_eq_false fun h=>hc (by rw[h])]
 ·refine U8 _ _ (dO (k+1) ⟨jB,fun j hj=>?_⟩ jJ jD bS);by_cases h:j<k
  ·exact Va j h
  ·rw[show j=k from jB];exact hc
 ·(refine bu [.tmp 4] ?_;try simp only[go_sem])
  rw[show decide (a=b)=true from decide_eq_true (yP hl fun j hj=>Va j jB)]
def MQ(a b:cw)(h1:a.aS.length<=1000)(h2:a.calls.length<=1000)(h3:∀c∈a.calls,c.vars.length<=100000):aL prog 25 [.agg (fv a),.agg (fv b)] (rB (decide (a=b))):=by
 have no:∀{q:Prop},¬q->(a=b->q)->rB false=rB (decide (a=b)):=fun h1 h2=>by rw[decide_eq_false fun h=>h1 (h2 h)]
 have htx:=Ml a.aS b.aS jB;by_cases ho:a.aS=b.aS
 rotate_left
 ·rw[decide_eq_false ho]at htx;refine dG func25 ntmps25 ?_
  (repeat' (first|refine au fun K hK=>?_|refine aq ?_|(with_reducible refine gR 14 ?_);refine dE 14 (bf 0 11) mixed ?_|(refine hK _ _ ?_;clear hK K)|(refine ar ?_ ?_<;>intro hc<;>try exact jz)|refine cp (htx) ?_|refine av ?_|exact jI|(clear hK K)))
  all_goals(refine bu [.tmp 4] ?_;try simp only[go_sem])
  all_goals exact no ho (fun e=>by rw[e])
 rw[decide_eq_true ho]at htx;refine dG func25 ntmps25 ?_
 (repeat' (first|refine au fun K hK=>?_|refine aq ?_|(with_reducible refine gR 14 ?_);refine dE 14 (bf 0 11) mixed ?_|(refine hK _ _ ?_;clear hK K)|(refine ar ?_ ?_<;>intro hc<;>try exact jz)|refine cp (htx) ?_|refine av ?_|exact jI|(clear hK K)))
 ·(refine bu [.tmp 4] ?_;try simp only[go_sem])
  exact(no (fun h=>h) fun e=>by subst e;revert hc;simp)
 have VR:((a.in_=b.in_/\a.status=b.status)/\a.bs=b.bs)/\a.calls.length=b.calls.length:=by revert hc;simp only[Classical.not_not,not_or,Int.natCast_inj];exact id
 obtain⟨⟨⟨q1,q2⟩,q3⟩,q4⟩:=VR;clear hc;have U6:=hK;clear hK;refine dw (S:=Nat) [(4,1),(6,4),(47,56)] (fun k=>k<=a.calls.length/\∀j,j<k->nth a.calls j=nth b.calls j) (fun k=>[(6,rI k)]) (fun k=>⟨[],[(0,.var 67 (fv a)),(1,.var 67 (fv b))]⟩) (fun k=>a.calls.length-k) 0 ⟨jB,fun j h=>jB⟩ (dx rfl bS) ?_;rintro k ⟨Vs,Va⟩ Kr U8;by_cases hk:k<a.calls.length
 rotate_left
 ·have e5:a.calls=b.calls:=yP q4 fun j hj=>Va j jB
  have WO:k=a.calls.length:=jB;subst WO;refine S ?_
  (repeat' (first|refine au fun K hK=>?_|refine aq ?_|(with_reducible refine gR 14 ?_);refine dE 14 (bf 0 11) mixed ?_|(refine hK _ _ ?_;clear hK K)|(refine ar ?_ ?_<;>intro hc<;>try exact jz)|refine U6 _ _ ?_|refine av ?_|exact jI|(clear hK K)))
  (refine bu [.tmp 4] ?_;try simp only[go_sem])
  rw[decide_eq_true];cases a;cases b;simp_all
 have g2:=h3 _ (cV hk);generalize hx:nth a.calls k=x at*;generalize hy:nth b.calls k=y at*;refine S ?_
 (have W:=jA hx hy;repeat' (first|refine au fun K hK=>?_|refine aq ?_|(with_reducible refine gR 14 ?_);refine dE 14 (bf 0 11) mixed ?_|(refine hK _ _ ?_;clear hK K)|(refine ar ?_ ?_<;>intro hc<;>try exact jz)|refine U6 _ _ ?_|refine al 2 ?_|refine al 3 ?_|refine av ?_|exact jI|(clear hK K)))
 ·(refine bu [.tmp 4] ?_;try simp only[go_sem])
  exact no (fun h=>h) fun e=>by rw[e,hy]at hx;subst hx;revert hc;simp
 have VR:(x.name=y.name/\x.bA=y.bA)/\x.vars.length=y.vars.length:=by revert hc;simp only[Classical.not_not,not_or,Int.natCast_inj];exact id
 obtain⟨⟨r1,r2⟩,r3⟩:=VR;clear hc;have Zh:=hK;clear hK;refine dw (S:=Nat) [(4,1),(9,1),(85,18)] (fun i=>i<=x.vars.length/\∀j,j<i->nth x.vars j=nth y.vars j) (fun i=>[(9,rI i)]) (fun i=>⟨[],[(0,.var 67 (fv a)),(1,.var 67 (fv b)),(2,.var 78 (jq x)),(3,.var 78 (jq y))]⟩) (fun i=>x.vars.length-i) 0 ⟨jB,fun j h=>jB⟩ (dx rfl bS) ?_;rintro i ⟨Xm,Zm⟩ Ks ZW;by_cases hi:i<x.vars.length
 ·(refine S ?_;try exact jI)
  (repeat' (first|refine au fun K hK=>?_|refine aq ?_|(with_reducible refine gR 14 ?_);refine dE 14 (bf 0 11) mixed ?_|(refine hK _ _ ?_;clear hK K)|(refine ar ?_ ?_<;>intro hc<;>try exact jz)|refine Zh _ _ ?_|refine av ?_|exact jI|(clear hK K)))
  ·(refine bu [.tmp 4] ?_;try simp only[go_sem])
   exact no hc (fun e=>by rw[<-hx,<-hy,e])
  ·refine ZW _ _ (dO (i+1) ⟨jB,fun j hj=>?_⟩ jJ jD bS);by_cases h:j<i
   ·exact Zm j h
   ·rw[show j=i from jB];exact hc
 have e6:x.vars=y.vars:=yP r3 fun j hj=>Zm j jB
 have hie:i=x.vars.length:=jB;subst hie;refine S ?_
 (repeat' (first|refine au fun K hK=>?_|refine aq ?_|(with_reducible refine gR 14 ?_);refine dE 14 (bf 0 11) mixed ?_|(refine hK _ _ ?_;clear hK K)|(refine ar ?_ ?_<;>intro hc<;>try exact jz)|refine Zh _ _ ?_|refine av ?_|exact jI|(clear hK K)))
 refine U8 _ _ (lc [2,3] (k+1) ⟨jB,fun j hj=>?_⟩ jJ rfl Sd (by simp only[go_sem];(try rfl)) ie);by_cases h:j<k
 ·exact Va j h
 ·rw[show j=k from jB,hx,hy];cases x;cases y;simp_all
end Go.Proofs.YtjpcgmjaipfgdaaGreatDoor
namespace Go.Proofs.YtjpcgmjaipfgdaaGreatDoor
open Go Go.Gd Tryz Go.Gd.MV
def Dp{p:ah}{C:aE}{m:MV}{n:Nat}(h:MI p C m)(hb:Bd n m):nM p (m.cC C)/\(m.cC C).aS.length<=24:=by
 have hc:=hb.heap;have hl:(m.cC C).calls.length=m.calls.length:=by show((List.range m.calls.length).map _).length=_;rw[List.length_map,List.length_range]
 have hn:∀k,k<m.calls.length->nth (m.cC C).calls k=m.spot C k:=fun k hk=>by show nth ((List.range m.calls.length).map (m.spot C)) k=_;rw[ee (by simpa using hk)];simp
 rw[wg]at hc;refine⟨⟨by rw[hl];exact h.eO,fun k hk=>?_,fun k hk=>?_,fun k hk=>?_,h.rg,?_,fun k hk=>?_⟩,hb.outs⟩
 ·rw[hl]at hk;rw[hn k hk];have:=zd h hk;exact⟨this.f0,this.f1⟩
 ·rw[hl]at hk;rw[hn k hk];have:=zd h hk;exact⟨this.n0,this.n1⟩
 ·rw[hl]at hk;rw[hn k hk];have:=zd h hk;exact⟨this.rg,Nat.le_trans (hb.slots k hk) jC⟩
 ·show m.heap.length<=1000;omega
 ·have hk:k<m.heap.length:=hk;show(nth m.heap k).length<=1000;have Y5:=uu hk;have Vj:=vD m.heap (k+1);omega
theorem J6{p:ah}(h:nC p)(VB:∀k,k<p.aa.nodes.length->0<=nth p.fn k/\nth p.fn k<p.aa.ak.length){heap:UT}:∀(l:List fh) (a:List gH×UU),(∀c∈l,c.node.toNat<p.aa.nodes.length)->(∀x∈a.1,x.vars.length<=100000)->∀x∈(l.foldl (tq p heap) a).1,x.vars.length<=100000
 |[],a,_,h=>h
 |c::l,a,hv,hx=>by
  rw[List.foldl_cons];have Ym:=wb h VB (hv c jE);obtain⟨v1,_⟩:=ze heap c.slots _ (dV p c.node) a.2 rfl;refine J6 h VB l _ (fun w hw=>hv w (by simp[hw])) fun x Vr=>?_
  have Vr:x∈a.1++[_]:=Vr;rcases List.mem_append.1 Vr with Vr|Vr
  ·exact hx x Vr
  ·rw[List.mem_singleton]at Vr;subst Vr;show(jK heap c.slots (dV p c.node) a.2).1.length<=_;omega
def MH{p:ah}(h:nC p)(VB:∀k,k<p.aa.nodes.length->0<=nth p.fn k/\nth p.fn k<p.aa.ak.length){s:gM}(ho:nM p s):(k7 p s).calls.length<=1000/\∀c∈(k7 p s).calls,c.vars.length<=100000:=by refine⟨by rw[show(k7 p s).calls.length=s.calls.length from xL p s.heap _ s.calls rfl];have:=ho.calls;omega,?_⟩;refine J6 h VB s.calls ([],[]) (fun c hc=>?_) (fun x hx=>by cases hx);obtain⟨k,hk,rfl⟩:=List.getElem_of_mem hc;rw[<-ee hk];exact(ho.node k hk).2
theorem FM(n:Int):∀(l:UU) (i:Int),-1<=i->-1<=ii n l i/\ii n l i<=i+l.length
 |[],i,h=>by unfold ii;simp;omega
 |x::l,i,h=>by
  unfold ii;split
  ·simp;omega
  ·have:=FM n l (i+1) jB;simp only[List.length_cons];omega
structure nU(heap:List (List Int)):Prop where
 hp:pU heap
 hl:∀k,k<heap.length->(nth heap k).length<=1000
variable{seen:UU}
def Li(hn:seen.length<=1000000000)(n:Int){l:UU}(h:∀x∈l,bG x)(hl:l.length<=1000):(uM seen n l).size<=100000:=by
 have hp:=FM n seen 0 jC;have hr:bG (ii n seen 0+1):=by unfold bG;omega
 have h1:=nJ hr;have h2:=Gc l false ((⟨#[35]⟩:UX)++cA (ii n seen 0+1)++(⟨#[91]⟩:UX)) h;unfold uM;rw[ByteArray.size_append];rw[ByteArray.size_append,ByteArray.size_append]at h2;have e1:((⟨#[35]⟩:UX):UX).size=1:=rfl;have e2:((⟨#[91]⟩:UX):UX).size=1:=rfl;have e3:((⟨#[93]⟩:UX):UX).size=1:=rfl;rw[e1,e2]at h2;rw[e3];omega
def TX{heap:UT}(hh:nU heap){slots:List aj}(hr:nk slots)(hn:seen.length+1<=1000000000)(k t:Int):(lw heap seen (dq slots k t)).1.size<=100000:=by
 have h1:=EN slots k t;have h2:=AR hr k t;have hs:=EW seen (dq slots k t).n;generalize dq slots k t=v at*;unfold lw;split
 ·split
  ·rename_i e;have hk:(v.n-1).toNat<heap.length:=jB;exact Li jB _ (hh.hp _ (cV hk)) (hh.hl _ hk)
  ·show((⟨#[35,48,91,93]⟩:UX):UX).size<=_;exact Nat.le_trans (show((⟨#[35,48,91,93]⟩:UX):UX).size<=10 from jC) jB
 ·have:=Hs h2 h1;show(tC v).size<=_;unfold tC;split
  ·rw[ByteArray.size_append,ByteArray.size_append];have e1:(⟨#[34]⟩:UX).size=1:=rfl;rw[e1];omega
  ·omega
def G8(x:aG):Prop:=x.name.size<=1000/\x.text.size<=100000
theorem Ji{heap:UT}(hh:nU heap){slots:List aj}(hr:nk slots):∀(l:List ba) (a:List aG×UU),(∀v∈l,Cl v.name)->(∀x∈a.1,G8 x)->a.2.length+l.length<=1000000000->∀x∈(l.foldl (tY heap slots) a).1,G8 x
 |[],a,_,h,_=>h
 |v::l,a,hv,h,hn=>by
  rw[List.foldl_cons];have ht:=F2 heap a.2 (dq slots v.slot v.ty);simp only[List.length_cons]at hn;refine Ji hh hr l _ (fun w hw=>hv w (by simp[hw])) (fun x hx=>?_) (by show(lw heap a.2 (dq slots v.slot v.ty)).2.length+_<=_;omega);have hx:x∈a.1++[_]:=hx;rcases List.mem_append.1 hx with hx|hx
  ·exact h x hx
  ·rw[List.mem_singleton]at hx;subst hx;exact⟨Nat.le_trans (hv v jE).1 jC,TX hh hr jB _ _⟩
theorem F8{p:ah}(hp:nC p)(VB:∀k,k<p.aa.nodes.length->0<=nth p.fn k/\nth p.fn k<p.aa.ak.length)(Xe:∀j,j<p.aa.ak.length->qV p.aa (nth p.aa.ak j))(hc:fx p.aa){heap:UT}(hh:nU heap):∀(l:List fh) (a:List gH×UU),(∀c∈l,c.node.toNat<p.aa.nodes.length/\nk c.slots)->(∀x∈a.1,l9 x)->a.2.length+100000*l.length<=1000000->∀x∈(l.foldl (tq p heap) a).1,l9 x
 |[],a,_,h,_=>h
 |c::l,a,hv,h,hn=>by
  rw[List.foldl_cons];obtain⟨c1,c2⟩:=hv c jE;have Ym:=wb hp VB c1;obtain⟨v1,v2⟩:=ze heap c.slots _ (dV p c.node) a.2 rfl;simp only[List.length_cons]at hn;refine F8 hp VB Xe hc hh l _ (fun w hw=>hv w (by simp[hw])) (fun x hx=>?_) (by show(jK heap c.slots (dV p c.node) a.2).2.length+_<=_;omega);have hx:x∈a.1++[_]:=hx;rcases List.mem_append.1 hx with hx|hx
  ·exact h x hx
  ·rw[List.mem_singleton]at hx;subst hx;refine⟨?_,?_,?_,?_⟩
   ·show(jK heap c.slots (dV p c.node) a.2).1.length<=_;omega
   ·show(nth p.aa.ak c.fn.toNat).name.size<=_;rcases Bm p.aa.ak c.fn.toNat with e|e
    ·exact Nat.le_trans (hc.f _ e).n.1 jC
    ·rw[e];exact Nat.zero_le _
   ·show bG (ap p c.node).bA;obtain⟨q1,q2⟩:=(hc.n _ (cV c1)).2;unfold ap bG;omega
   ·exact Ji hh c2 _ _ (Cx VB Xe hc c1).2 (fun y hy=>by cases hy) (by show a.2.length+_<=_;omega)
def NR{p:ah}(hp:tM p)(Xe:∀j,j<p.aa.ak.length->qV p.aa (nth p.aa.ak j))(hc:fx p.aa){C:aE}{m:MV}{n:Nat}(hn:n<=1000)(h:MI p C m)(hb:Bd n m):gk (k7 p (m.cC C))/\VG (k7 p (m.cC C)):=by
 obtain⟨ZM,hol⟩:=Dp (C:=C) h hb;have h8:=ZM.calls;have Xn:∀c∈(m.cC C).calls,c.node.toNat<p.aa.nodes.length/\nk c.slots:=fun c hc=>by obtain⟨k,hk,rfl⟩:=List.getElem_of_mem hc;rw[<-ee hk];exact⟨(ZM.node k hk).2,(ZM.sl k hk).1⟩
 obtain⟨s1,s2⟩:=h.st;obtain⟨t1,t2⟩:=h.tr;refine⟨⟨?_,?_,?_,fun t ht=>Nat.le_trans (hb.ll t ht) jC,?_,s1,s2,?_⟩,NH hp.fn Xe hc (fun c hc=>(Xn c hc).1) fun c hc=>?_⟩
 ·rw[show(k7 p (m.cC C)).calls.length=(m.cC C).calls.length from xL p (m.cC C).heap _ (m.cC C).calls rfl];omega
 ·exact F8 hp.ok.ok hp.fn Xe hc ⟨ZM.hp,ZM.ni⟩ _ _ Xn (fun x hx=>by cases hx) (by show 0+_<=_;omega)
 ·show(m.cC C).aS.length<=1000;omega
 ·have:=hb.nV;have:=hb.og;show bG m.in_;unfold bG;omega
 ·show bG m.bs;unfold bG;omega
 ·obtain⟨k,hk,rfl⟩:=List.getElem_of_mem hc;rw[<-ee hk];have:=ZM.fn k hk;omega
def QR{s:UX}(he:(fI s).2.2=0):∀j,j<(fI s).1.aa.ak.length->qV (fI s).1.aa (nth (fI s).1.aa.ak j):=by
 unfold fI at he ⊢;split
 ·intro j hj;exact absurd hj (Nat.not_lt_zero j)
 rename_i h;rw[if_neg h]at he;simp only at he ⊢;split
 ·intro j hj;exact absurd hj (Nat.not_lt_zero j)
 rename_i h2;rw[if_neg h2]at he;split
 ·intro j hj;exact absurd hj (Nat.not_lt_zero j)
 rename_i h3;exact P3 (tp jB) jB
end Go.Proofs.YtjpcgmjaipfgdaaGreatDoor
namespace Go.Gd
open Go
def oZ(x:aP):List aP->List aP
 |[]=>[x]
 |y::l=>if x.at_<y.at_ then x::y::l else y::oZ x l
def k6:List aP->List aP->List aP
 |a,[]=>a
 |a,x::b=>k6 (oZ x a) b
def mc(x:aP):List aP->Nat
 |[]=>0
 |y::l=>if x.at_<y.at_ then 0 else mc x l+1
theorem CM(x:aP):∀l,mc x l<=l.length
 |[]=>Nat.le_refl _
 |y::l=>by
  unfold mc;split
  ·exact Nat.zero_le _
  ·have:=CM x l;simp only[List.length_cons];omega
theorem Bc(x:aP):∀l,oZ x l=l.take (mc x l)++x::l.drop (mc x l)
 |[]=>rfl
 |y::l=>by
  unfold oZ mc;split
  ·rfl
  ·rw[Bc x l];rfl
def lZ(x:aP)(l:List aP):(oZ x l).length=l.length+1:=by have:=CM x l;rw[Bc,List.length_append,List.length_cons,List.length_take,List.length_drop];omega
theorem Bl:∀(b a:List aP),(k6 a b).length=a.length+b.length
 |[],a=>rfl
 |x::b,a=>by show(k6 (oZ x a) b).length=_;rw[Bl b,lZ];simp only[List.length_cons];omega
theorem Fp{x y:aP}:∀{l:List aP},y∈oZ x l<->y=x\/y∈l
 |[]=>by simp[oZ]
 |z::l=>by
  unfold oZ;split
  ·simp
  ·rw[List.mem_cons,Fp,List.mem_cons];constructor
   ·rintro(h|h|h)
    ·exact .inr (.inl h)
    ·exact .inl h
    ·exact .inr (.inr h)
   ·rintro(h|h|h)
    ·exact .inr (.inl h)
    ·exact .inl h
    ·exact .inr (.inr h)
theorem HT{y:aP}:∀{b a:List aP},y∈k6 a b<->y∈a\/y∈b
 |[],a=>by simp[k6]
 |x::b,a=>by
  show y∈k6 (oZ x a) b<->_;rw[HT,Fp,List.mem_cons];constructor
  ·rintro((h|h)|h)
   ·exact .inr (.inl h)
   ·exact .inl h
   ·exact .inr (.inr h)
  ·rintro(h|h|h)
   ·exact .inl (.inr h)
   ·exact .inl (.inl h)
   ·exact .inr h
variable{A:UQ}
def Qw{S:UQ}{y:US}{k:Nat}(hk:k<A.length)(hS:0<S.length):fl (fl (A++S) (k+1) (A.drop k)) k [y]=A.take k++y::A.drop k++S.drop 1:=by
 unfold fl;simp only[List.length_drop,List.length_cons,List.length_nil];have h1:(A++S).take (k+1)=A.take (k+1):=by rw[List.take_append_of_le_length jB]
 have h2:(A++S).drop (k+1+(A.length-k))=S.drop 1:=by rw[show k+1+(A.length-k)=A.length+1 from jB,<-List.drop_drop,List.drop_left]
 have h3:(A.take (k+1)).length=k+1:=by rw[List.length_take];omega
 rw[h1,h2,List.append_assoc (A.take (k+1)),List.take_append_of_le_length (l₁:=A.take (k+1)) jB,List.take_take,Nat.min_eq_left jB];rw[show k+(0+1)=k+1 from jB];have h4:(A.take (k+1)++(A.drop k++S.drop 1)).drop (k+1)=A.drop k++S.drop 1:=by have:=List.drop_left (l₁:=A.take (k+1)) (l₂:=A.drop k++S.drop 1);rwa [h3]at this
 rw[h4];simp
def Sr{R:UQ}{y:US}{k:Nat}(hk:k<A.length)(hR:R.length=A.length+1-k):fl (fl (A.take k++R) k [y]) (k+1) (A.drop k)=A.take k++y::A.drop k:=by
 have h3:(A.take k).length=k:=by rw[List.length_take];omega
 unfold fl;simp only[List.length_drop,List.length_cons,List.length_nil];have h4:(A.take k++R).take k=A.take k:=by have:=List.take_left (l₁:=A.take k) (l₂:=R);rwa [h3]at this
 have h5:(A.take k++R).drop (k+(0+1))=R.drop 1:=by rw[show k+(0+1)=k+1 from jB,<-List.drop_drop];have:=List.drop_left (l₁:=A.take k) (l₂:=R);rw[h3]at this;rw[this]
 rw[h4,h5];have h6:(A.take k++[y]++R.drop 1).take (k+1)=A.take k++[y]:=by have:=List.take_left (l₁:=A.take k++[y]) (l₂:=R.drop 1);rwa [List.length_append,h3,List.length_cons,List.length_nil]at this
 have h7:(A.take k++[y]++R.drop 1).drop (k+1+(A.length-k))=[]:=by apply List.drop_of_length_le;rw[List.length_append,List.length_append,h3,List.length_drop];simp only[List.length_cons,List.length_nil];omega
 rw[h6,h7];simp
def vR:U1:=[.int .i64 0,.string ⟨#[]⟩,.int .i64 0,.int .i64 0,.string ⟨#[]⟩]
abbrev DD:US:=List.map AV.raw vR
theorem Km(q:U2):∀l:List aP,aR q (l.map bQ).flatten=true
 |[]=>rfl
 |x::l=>by rw[List.map_cons,List.flatten_cons,Af,Km q l,I1];rfl
end Go.Gd
namespace Go.Proofs.YtjpcgmjaipfgdaaGreatDoor
open Go Go.Gd Tryz
def Fy(l:List aP):Go.Gd.Good 5 (l.map bQ):=fun c hc=>by obtain⟨y,_,rfl⟩:=List.mem_map.1 hc;exact⟨rfl,rfl⟩
def Ot(l:List aP)(x:aP)(k:Nat)(hk:k<=l.length)(hl:l.length<=1000)(n:Nat)(hn:n=l.length):ab prog 131 [.rs 1 n 5 n,rI k,.sl true 5 [bQ x] []] [(1,.aD 56 5 (l.map bQ))] (fun r l'=>r=.rs 1 (n+1) 5 (n+1)/\l'=[(1,.aD 56 5 ((l.take k++x::l.drop k).map bQ))]):=by
 have Xs:(l.map bQ).length=n:=by rw[List.length_map,hn]
 by_cases hkn:k=n
 ·subst hkn;have e:l.take k++x::l.drop k=l++[x]:=by rw[hn,List.take_length,List.drop_length]
  rw[e,List.map_append];refine aK func131 ntmps131 ?_;refine S ?_
  (have W:=Xs;repeat' (first|refine au fun K hK=>?_|refine aq ?_|(refine hK _ _ ?_;clear hK K)|(refine ar ?_ ?_<;>intro hc<;>try exact jz)|refine av ?_|exact jI|(clear hK K)))
  (refine bL [.tmp 6] ?_ ?_<;>(try simp only[go_sem]))
 ·have XG:(l.take k++x::l.drop k).map bQ=(l.map bQ).take k++bQ x::(l.map bQ).drop k:=by rw[List.map_append,List.map_cons,List.map_take,List.map_drop]
  have hdr:(l.drop k).map bQ=(l.map bQ).drop k:=List.map_drop;have hg:=Fy (l.drop k);have VF:Go.Gd.Good 5 [bQ x]:=Fy [x];rw[hdr]at hg;have hdl:((l.map bQ).drop k).length=n-k:=by rw[List.length_drop,Xs]
  have hkI:¬(k:Int)=(n:Int):=jB;have Z2:∀j:Nat,1<=j->Nat.min 1 j=[bQ x].length:=fun j h=>Nat.min_eq_left h
  have Z3:∀j i:Nat,(j=n-k/\n-k<=i)\/(i=n-k/\n-k<=j)->Nat.min j i=((l.map bQ).drop k).length:=fun j i h=>by
   rw[hdl];rcases h with⟨h1,h2⟩|⟨h1,h2⟩
   ·rw[h1];exact Nat.min_eq_left h2
   ·rw[h1];exact Nat.min_eq_right h2
  refine ab.xn (i:=1) (css:=l.map bQ) (X:=(l.take k++x::l.drop k).map bQ) (l:=[(1,.aD 56 5 (l.map bQ))]) 9 jB rfl Xs.symm (fun j r h1 h2=>?_) (by rw[List.length_map,List.length_append,List.length_cons,List.length_take,List.length_drop];omega) (Km _ _) (fun y hy=>by obtain⟨z,_,rfl⟩:=List.mem_map.1 hy;rfl) rfl ?_ fun c hc=>?_
  ·simp only[az]at h1;split at h1
   ·rename_i e;exact(h2 e).elim
   ·cases h1
  ·have XK:(n:Int)+1>(n:Int):=jB;show ab _ _ _ [(1,.aD 56 5 (l.map bQ))] (fun r l'=>r=.rs 9 (n+1) 5 (n+1)/\l'=[(1,.aD 56 5 (l.map bQ)),(9,.aD 56 5 ((l.take k++x::l.drop k).map bQ))]);rw[XG];have Ze:=Sr (A:=l.map bQ) (R:=List.replicate (n+1-k) DD) (y:=bQ x) (k:=k) jB (by rw[List.length_replicate,Xs]);have Xb:((l.map bQ).drop k).take (n-k)=(l.map bQ).drop k:=List.take_of_length_le jB;have h9:n+1=((l.map bQ).take k++List.replicate (n+1-k) DD).length:=by rw[List.length_append,List.length_take,List.length_replicate,Xs];omega
   have h9':n+1=(fl ((l.map bQ).take k++List.replicate (n+1-k) DD) k [bQ x]).length:=by rw[xd _ jB,<-h9];simp only[List.length_cons,List.length_nil];omega
   generalize l.map bQ=A at*;refine aK func131 ntmps131 ?_;refine S ?_
   (have W:=jA Xs (jA hkI (XK));repeat' (first|refine au fun K hK=>?_|refine aq ?_|(with_reducible refine gR 11 ?_);refine dE 11 (bf 0 9) mixed ?_|(refine hK _ _ ?_;clear hK K)|(refine ar ?_ ?_<;>intro hc<;>try exact jz)|(refine QZ (zs:=vR) (j:=9) (k:=n+1-k) (n:=n+1) jG ⟨.i64,jG⟩ jG jG rfl jC rfl Xs.symm jB jB (by simp only[go_sem,room];omega) jB rfl jB ?_;refine S ?_)|(refine yx (k:=1) (ys:=[bQ x]) (zs:=vR) rfl h9 jG jG jG rfl jC jB jB (Eu (c:=True) rfl trivial VF) VF (Z2 _ jB) ?_;refine S ?_)|(refine yx (k:=n-k) (ys:=A.drop k) (zs:=vR) rfl h9' jG jG jG rfl jC jB jB (fun w vx h1 h2=>by have:=Fz (n:=n-k) (css:=A) rfl Xs.symm jB jl w vx h1 h2;rwa [Xb]at this) hg (Z3 _ _ jB) ?_;refine S ?_)|refine av ?_|exact jI|(clear hK K)))
   rw[Ze]
   (refine bL [.tmp 6] ?_ ?_<;>(try simp only[go_sem]))
  ·have XK:¬(n:Int)+1>(c:Int):=jB;show ab _ _ _ [(1,.aD 56 5 (l.map bQ++hZ 5 (c-n)))] (fun r l'=>r=.rc 1 c 5 (n+1)/\l'=[(1,.aD 56 5 ((l.take k++x::l.drop k).map bQ++hZ 5 (c-(n+1))))]);rw[XG];have hSl:(hZ 5 (c-n)).length=c-n:=A3;have hS1:(hZ 5 (c-n)).drop 1=hZ 5 (c-(n+1)):=by unfold hZ;rw[List.drop_replicate];congr 1
   have Ze:=Qw (A:=l.map bQ) (S:=hZ 5 (c-n)) (y:=bQ x) (k:=k) jB jB;rw[hS1]at Ze;have h8:c=(l.map bQ++hZ 5 (c-n)).length:=by rw[List.length_append,Xs,hSl];omega
   have h9:c=(fl (l.map bQ++hZ 5 (c-n)) (k+1) ((l.map bQ).drop k)).length:=by rw[xd _ jB,<-h8,hdl];omega
   have Xb:((l.map bQ++hZ 5 (c-n)).drop k).take (n-k)=(l.map bQ).drop k:=by rw[List.drop_append_of_le_length jB,List.take_append_of_le_length jB,List.take_of_length_le jB]
   have VV:n+1<=c:=jB;generalize hZ 5 (c-(n+1))=Sq at*;generalize hZ 5 (c-n)=Sp at*;generalize l.map bQ=A at*;refine aK func131 ntmps131 ?_;refine S ?_
   (have W:=jA Xs (jA hkI (XK));repeat' (first|refine au fun K hK=>?_|refine aq ?_|(with_reducible refine gR 15 ?_);refine dE 15 (bf 0 9) mixed ?_|(refine hK _ _ ?_;clear hK K)|(refine ar ?_ ?_<;>intro hc<;>try exact jz)|(refine Qu ?_;refine Sa (t:=50) (fn:=Tryz.f179) (tR:=4) func179 jG jG jG jG jG jG rfl h8 jB jB (Nat.zero_lt_succ 0) ?_;refine S ?_)|(refine yx (k:=n+1-k) (ys:=A.drop k) (zs:=vR) rfl h8 jG jG jG rfl jC jB jB (fun w vx h1 h2=>by have:=Fz (n:=n-k) (css:=A++Sp) rfl h8 jB jB w vx h1 h2;rwa [Xb]at this) hg (Z3 _ _ jB) ?_;refine S ?_)|(refine yx (k:=1) (ys:=[bQ x]) (zs:=vR) rfl h9 jG jG jG rfl jC jB jB (Eu (c:=True) rfl trivial VF) VF (Z2 _ jB) ?_;refine S ?_)|refine av ?_|exact jI|(clear hK K)))
   rw[Ze]
   (refine bL [.tmp 6] ?_ ?_<;>(try simp only[go_sem]))
end Go.Proofs.YtjpcgmjaipfgdaaGreatDoor
namespace Go.Gd
open Go
theorem Eb{x:aP}:∀{L:List aP} {k:Nat},(∀j,j<k->¬x.at_<(nth L j).at_)->k<L.length->x.at_<(nth L k).at_->mc x L=k
 |[],k,_,h,_=>by simp at h
 |y::L,0,_,_,h=>by exact if_pos h
 |y::L,k+1,h1,h2,h3=>by show(if x.at_<y.at_ then 0 else mc x L+1)=_;rw[if_neg (show¬x.at_<y.at_ from h1 0 jB),Eb (L:=L) (k:=k) (fun j hj=>h1 (j+1) jB) (by simpa using h2) h3]
theorem DX{x:aP}:∀{L:List aP},(∀j,j<L.length->¬x.at_<(nth L j).at_)->mc x L=L.length
 |[],_=>rfl
 |y::L,h=>by show(if x.at_<y.at_ then 0 else mc x L+1)=_;rw[if_neg (show¬x.at_<y.at_ from h 0 jE),DX (L:=L) (fun j hj=>h (j+1) jF)];rfl
def sP(x:aP)(L:List aP):Int:=if mc x L<L.length then(mc x L:Int)else -1
def R3(l:List aP):∀(a:List aP) (x:aP),k6 l (a++[x])=oZ x (k6 l a):=fun a=>by
 induction a generalizing l with
 |nil=>intro x;rfl
 |cons y a ih=>intro x;exact ih (oZ y l) x
end Go.Gd
namespace Go.Proofs.YtjpcgmjaipfgdaaGreatDoor
open Go Go.Gd Tryz
def RW(l:List aP)(hl:l.length<=1000)(i:Nat):ab prog 56 [aO bQ 5 l] [] (fun r l'=>r=.rs i l.length 5 l.length/\l'=[(i,.aD 56 5 (l.map bQ))]):=by
 refine aK func56 ntmps56 ?_
 (repeat' (first|refine au fun K hK=>?_|refine aq ?_|(refine hK _ _ ?_;clear hK K)|(refine ar ?_ ?_<;>intro hc<;>try exact jz)|(with_reducible refine fun(b:Bool) hb=>?_)|refine vH i ?_|refine av ?_|exact jI|(clear hK K)))
 ·have VM:l=[]:=by simpa using hb hc
  subst VM;exact zI i 56 5 jC [.tmp 2] rfl rfl trivial
 ·(refine bL [.tmp 2] ?_ ?_<;>(try simp only[go_sem]))
def Sf(y x:aP):ab prog 130 [.agg (bQ y),.pt 6 0 0 0] [(6,.var 56 (bQ x))] (fun r l=>r=rB (decide (x.at_<y.at_))/\l=[(6,.var 56 (bQ x))]):=by
 refine aK func130 ntmps130 ?_;refine S ?_
 (repeat' (first|refine au fun K hK=>?_|refine aq ?_|(refine hK _ _ ?_;clear hK K)|(refine ar ?_ ?_<;>intro hc<;>try exact jz)|refine bx 9 ?_|refine av ?_|exact jI|(clear hK K)))
 (refine bu [.tmp 3] ?_;try simp only[go_sem])
def Pa(x:aP)(L:List aP)(hL:L.length<=1000)(n:Nat)(hn:n=L.length):ab prog 129 [.rs 1 n 5 n,.eT 130 [.pt 6 0 0 0]] [(1,.aD 56 5 (L.map bQ)),(6,.var 56 (bQ x))] (fun r l=>r=rI (sP x L)/\l=[(1,.aD 56 5 (L.map bQ)),(6,.var 56 (bQ x))]):=by
 suffices key:∀z,sP x L=z->ab prog 129 [.rs 1 n 5 n,.eT 130 [.pt 6 0 0 0]] [(1,.aD 56 5 (L.map bQ)),(6,.var 56 (bQ x))] (fun r l=>r=rI z/\l=[(1,.aD 56 5 (L.map bQ)),(6,.var 56 (bQ x))]) from key _ rfl
 intro z hz;have Xs:(L.map bQ).length=n:=by rw[List.length_map,hn]
 refine aK func129 ntmps129 ?_;refine S ?_
 (repeat' (first|refine au fun K hK=>?_|refine aq ?_|(refine hK _ _ ?_;clear hK K)|(refine ar ?_ ?_<;>intro hc<;>try exact jz)|refine av ?_|exact jI|(clear hK K)))
 have U6:=hK;clear hK;refine dw (S:=Nat) [(4,2),(8,11)] (fun k=>k<=n/\∀j,j<k->¬x.at_<(nth L j).at_) (fun k=>[(8,rI k)]) (fun _=>⟨[1,6],[(1,.aD 56 5 (L.map bQ)),(6,.var 56 (bQ x))]⟩) (fun k=>n-k) 0 ⟨Nat.zero_le _,fun j h=>jB⟩ (dx rfl bS) ?_;rintro k ⟨hk,Vd⟩ Kr U8;by_cases I':k<n
 ·have WE:=Sf (nth L k) x;have Wc:k<L.length:=jB;by_cases c:x.at_<(nth L k).at_
  ·rw[decide_eq_true c]at WE;have hp:=Eb Vd Wc c;have:z=(k:Int):=by rw[<-hz];unfold sP;rw[hp,if_pos Wc]
   subst this;refine S ?_
   (have W:=jA I' (jA Xs (Wc));repeat' (first|refine au fun K hK=>?_|refine aq ?_|(refine hK _ _ ?_;clear hK K)|(refine ar ?_ ?_<;>intro hc<;>try exact jz)|(refine cl WE ?_)|refine av ?_|exact jI|(clear hK K)))
   (refine bu [.tmp 4] ?_;try simp only[go_sem])
  ·rw[decide_eq_false c]at WE;refine S ?_
   (have W:=jA I' (jA Xs (Wc));repeat' (first|refine au fun K hK=>?_|refine aq ?_|(refine hK _ _ ?_;clear hK K)|(refine ar ?_ ?_<;>intro hc<;>try exact jz)|(refine cl WE ?_)|refine av ?_|exact jI|(clear hK K)))
   exact U8 _ _ (dO (k+1) ⟨jB,fun j hj=>by
    by_cases e:j<k
    ·exact Vd j e
    ·rw[show j=k from jB];exact c⟩ (by show n-(k+1)<n-k;omega) rfl bS)
 ·have hp:=DX (x:=x) (L:=L) fun j hj=>Vd j jB
  have:z=-1:=by rw[<-hz];unfold sP;rw[hp,if_neg (Nat.lt_irrefl _)]
  subst this;refine S ?_
  (have W:=jA I' Xs;repeat' (first|refine au fun K hK=>?_|refine aq ?_|(refine hK _ _ ?_;clear hK K)|(refine ar ?_ ?_<;>intro hc<;>try exact jz)|refine U6 _ _ ?_|refine av ?_|exact jI|(clear hK K)))
  (refine bu [.tmp 4] ?_;try simp only[go_sem])
def Od(l all:List aP)(h1:l.length<=500)(h2:all.length<=500):aL prog 76 [aO bQ 5 l,aO bQ 5 all] (aO bQ 5 (k6 l all)):=by
 have U9:=RW l jB 1;refine dG func76 ntmps76 ?_
 (repeat' (first|refine au fun K hK=>?_|refine aq ?_|(refine hK _ _ ?_;clear hK K)|(refine ar ?_ ?_<;>intro hc<;>try exact jz)|refine cm (U9) ?_|refine av ?_|exact jI|(clear hK K)))
 have U6:=hK;clear hK;refine dw (S:=Nat) [(0,1),(6,2),(12,17)] (fun k=>k<=all.length) (fun k=>[(0,.rs 1 (l.length+k) 5 (l.length+k)),(12,rI k)]) (fun k=>⟨[],[(1,.aD 56 5 ((k6 l (all.take k)).map bQ))]⟩) (fun k=>all.length-k) 0 (Nat.zero_le _) (dx rfl bS) ?_;rintro k hk Kr U8;have J':=Bl (all.take k) l;rw[List.length_take,Nat.min_eq_left hk]at J';by_cases I':k<all.length
 ·have hsn:k6 l (all.take (k+1))=oZ (nth all k) (k6 l (all.take k)):=by rw[nA I',R3]
  have hex:(k6 l (all.take (k+1))).map bQ=((k6 l (all.take k)).take (mc (nth all k) (k6 l (all.take k)))++nth all k::(k6 l (all.take k)).drop (mc (nth all k) (k6 l (all.take k)))).map bQ:=by rw[hsn,Bc]
  generalize hx:nth all k=x at*;generalize hM:k6 l (all.take k)=M at*;have Yx:=Pa x M jB (l.length+k) J'.symm;have XP:=CM x M;have hpi:=Ot M x (mc x M) XP jB (l.length+k) J'.symm;have Y1:((l.length+k:Nat):Int)=(l.length:Int)+k:=by push_cast;rfl
  by_cases hq:mc x M<l.length+k
  ·have hi:sP x M=(mc x M:Int):=by unfold sP;rw[jP]
   rw[hi]at Yx;generalize mc x M=q at*;have hq0:¬(q:Int)<0:=jB;refine S ?_
   (have W:=jA I' (jA hq0 (hx));repeat' (first|refine au fun K hK=>?_|refine aq ?_|(refine hK _ _ ?_;clear hK K)|(refine ar ?_ ?_<;>intro hc<;>try exact jz)|refine al 6 ?_|refine cm (Yx) ?_|refine cm (hpi) ?_|refine av ?_|exact jI|(clear hK K)))
   refine U8 _ _ (lc [6] (k+1) jB (by show all.length-(k+1)<all.length-k;omega) rfl Sd ?_ ie);simp only[hex,List.map_append,List.map_cons];rfl
  ·have hi:sP x M=-1:=by unfold sP;rw[jN]
   rw[hi]at Yx;have XJ:mc x M=l.length+k:=jB;rw[XJ]at hpi hex;refine S ?_
   (have W:=jA I' hx;repeat' (first|refine au fun K hK=>?_|refine aq ?_|(refine hK _ _ ?_;clear hK K)|(refine ar ?_ ?_<;>intro hc<;>try exact jz)|refine al 6 ?_|refine cm (Yx) ?_|refine cm (hpi) ?_|refine av ?_|exact jI|(clear hK K)))
   refine U8 _ _ (lc [6] (k+1) jB (by show all.length-(k+1)<all.length-k;omega) rfl Sd ?_ ie);simp only[hex,List.map_append,List.map_cons];rfl
 ·have WO:k=all.length:=jB;subst WO;rw[List.take_length]at J' ⊢;refine S ?_
  (have W:=I';repeat' (first|refine au fun K hK=>?_|refine aq ?_|(refine hK _ _ ?_;clear hK K)|(refine ar ?_ ?_<;>intro hc<;>try exact jz)|refine U6 _ _ ?_|refine av ?_|exact jI|(clear hK K)))
  refine iM [.tmp 4] ?_;exact dn.row (k6 l all) rfl rfl (by simp[J'])
def MO(a b:List aP)(h1:a.length<=500)(h2:b.length<=500):aL prog 74 [aO bQ 5 a,aO bQ 5 b] (aO bQ 5 (k6 a b)):=by
 have h:=Od a b h1 h2;refine dG func74 ntmps74 ?_
 (repeat' (first|refine au fun K hK=>?_|refine aq ?_|(refine hK _ _ ?_;clear hK K)|(refine ar ?_ ?_<;>intro hc<;>try exact jz)|refine cp (h) ?_|refine av ?_|exact jI|(clear hK K)))
 (refine bu [.tmp 4] ?_;try simp only[go_sem])
end Go.Proofs.YtjpcgmjaipfgdaaGreatDoor
namespace Go.Gd
open Go
end Go.Gd
namespace Go.Proofs.YtjpcgmjaipfgdaaGreatDoor
open Go Go.Gd Tryz
end Go.Proofs.YtjpcgmjaipfgdaaGreatDoor
namespace Go.Gd
open Go
def sA(b:bo):List aP:=k6 b.base b.own
end Go.Gd
namespace Go.Proofs.YtjpcgmjaipfgdaaGreatDoor
open Go Go.Gd Tryz Go.Gd.MV
section
variable (p:ah)(F:UU->MV->MV)
noncomputable def atB(b:bo)(t:Int):gM:=shotM p F b.de (sA b) t
end
section
variable {p:ah}(hs:gF p){F:UU->MV->MV}(hF:dT p (dp p) F){inp:UU}(hi:∀x∈inp,bG x){E:List aP}(hE:∀x∈E,bG x.v.n)
def Bo(h:∀x∈E,bG x.v.n):∀k,k<E.length->bG (nth E k).v.n:=fun k hk=>h _ (cV hk)
include hF hi hE
include hs
end
def Sz:fF 0 []:=⟨fun _ _ _=>rfl,List.nodup_nil,fun i r h=>by cases h⟩
structure sF(b:bo):Prop where
 inl:b.de.length<=100
 Kh:b.base.length<=100
 Jv:b.own.length<=100
 inr:∀x∈b.de,bG x
 CA:∀x∈b.base,bG x.v.n
 B2:∀x∈b.own,bG x.v.n
def sF.uT{b:bo}(h:sF b):(sA b).length<=200:=by have:=h.Kh;have:=h.Jv;unfold sA;rw[Bl];omega
def sF.uX{b:bo}(h:sF b):∀x∈sA b,bG x.v.n:=fun x hx=>by
 unfold sA at hx;rcases HT.1 hx with hx|hx
 ·exact h.CA x hx
 ·exact h.B2 x hx
def TR{b:bo}(h:sF b):aL prog 27 [.agg (gr b)] (aO bQ 5 (sA b)):=by
 have hm:=MO b.base b.own (by have:=h.Kh;omega) (by have:=h.Jv;omega);refine dG func27 ntmps27 ?_
 (repeat' (first|refine au fun K hK=>?_|refine aq ?_|(refine hK _ _ ?_;clear hK K)|(refine ar ?_ ?_<;>intro hc<;>try exact jz)|refine bx 3 ?_|refine cp (hm) ?_|(refine io ?_ ?_<;>intro hc<;>try exact jz)|exact jI|(clear hK K)))
 (refine bu [.tmp 2] ?_;try simp only[go_sem])
 rfl
section
variable {p:ah}(hp:tM p)(WE:je p){F:UU->MV->MV}(hF:dT p (dp p) F)
include hp WE hF
theorem Nu{b:bo}(h:sF b)(t:Int)(ht:bG t):aL prog 70 [.agg (dj p),.agg (gr b),rI t] (.agg (js (atB p F b t))):=by
 have ZD:=TR h;obtain⟨k,EE,hmc,WZ,_,_⟩:=Dt hp hF (by have:=h.inl;omega) h.inr (Bo h.uX) WE (by have:=h.uT;omega) t ht;have key:ab prog 70 [.agg (dj p),.agg (gr b),rI t] [] fun r l=>r=.agg (js (atB p F b t))/\l=EE:=by
  unfold atB;generalize shotM p F b.de (sA b) t=Sh at*;generalize badM p F b.de (sA b) t=z at*;generalize sA b=A at*;have P':=hmc.e2.low;refine aK func70 ntmps70 ?_
  (have W:=P';repeat' (first|refine au fun K hK=>?_|refine aq ?_|(with_reducible refine gR 1 ?_);refine dC 1 ([],[14],[16]) [] (bf 0 12) mixed ?_|(refine hK _ _ ?_;clear hK K)|(refine ar ?_ ?_<;>intro hc<;>try exact jz)|refine cL 3 ?_|refine cL 4 ?_|refine fA 6 ?_|refine cp (ZD) ?_|refine cq (ZD) ?_|(refine oQ (e:=[]) hmc (fun j _ h=>(h rfl).elim) ?_)|refine cT WZ ?_|(refine io ?_ ?_<;>intro hc<;>try exact jz)|refine av ?_|exact jI|(clear hK K)))
  have h6:=P' 6 jC;exact eu (e:=[]) (B:=[]) rfl Sz hmc.e2 (tl:=[(3,.var 32 (dj p)),(4,.var 52 (gr b)),(6,.var 45 (js Sh))]) (fun _=>rfl) (du jC (du jC (du jC dL))) [.cell 6 45] (ho:=by simp(disch:=first|omega|assumption|fail) only[go_sem,↓reduceIte,h6];rfl) (hok:=by simp(disch:=first|omega|assumption|fail) only[go_sem,↓reduceIte,h6];first|done|decide|(repeat' (first|exact trivial|decide|(simp;done)|exact Nat.le_of_ble_eq_true rfl|refine jA ?_ ?_)))
 exact aL.S5 key (.same _ rfl)
end
end Go.Proofs.YtjpcgmjaipfgdaaGreatDoor
namespace Go.Gd
open Go
end Go.Gd
namespace Go.Proofs.YtjpcgmjaipfgdaaGreatDoor
open Go Go.Gd Tryz
end Go.Proofs.YtjpcgmjaipfgdaaGreatDoor
namespace Go.Proofs.YtjpcgmjaipfgdaaGreatDoor
open Go Go.Gd Tryz Go.Gd.MV
@[go_sem] def qe9:(∀(b:bo) (v:UU),List.take 1 (gr b)++[aO eI 1 v]++List.drop 2 (gr b)=gr { b with de:=v })/\(∀(b:bo) (v:List aP),List.take 2 (gr b)++[aO bQ 5 v]++List.drop 3 (gr b)=gr { b with base:=v })/\(∀(b:bo) (v:List aP),List.take 3 (gr b)++[aO bQ 5 v]++List.drop 4 (gr b)=gr { b with own:=v }):=by and_intros<;>(intros;rfl)
end Go.Proofs.YtjpcgmjaipfgdaaGreatDoor
namespace Go.Gd
open Go
end Go.Gd
namespace Go.Proofs.YtjpcgmjaipfgdaaGreatDoor
open Go Go.Gd Tryz Go.Gd.MV
end Go.Proofs.YtjpcgmjaipfgdaaGreatDoor
namespace Go.Gd
open Go
structure x9 where
 name:ByteArray
 x:aP
 t:Int
 n:Int
 deriving Inhabited,DecidableEq
def BH(x:x9):US:=[.raw (.string x.name),.raw (.int .i64 x.x.at_),.raw (.string x.x.name),.raw (.int .i64 x.x.v.ty),.raw (.int .i64 x.x.v.n),.raw (.string x.x.v.s),.raw (.int .i64 x.t),.raw (.int .i64 x.n)]
section
variable (x y:x9)
@[go_sem] def Ra(q:U2):aR q (BH x)=true:=by simp[BH,aR,AV.all]
instance:bD BH 8:=⟨fun _=>rfl,fun _=>rfl,fun x=>Ra x _⟩
end
def pY(s:UX):UX:=if 700<s.size then s.extract 0 700 else s
def N8(s:UX):(pY s).size<=1000000:=by
 unfold pY;split
 ·rw[ByteArray.size_extract];omega
 ·omega
def Bz(s:UX):UX:=if 20<s.size then s.extract 0 20 else s
def pC(x:aP):aP:={ x with name:=Bz x.name,v:={ x.v with s:=if 60<x.v.s.size then x.v.s.extract 0 60 else x.v.s } }
def py(l:List aP):List aP:=(l.take 10).map pC
def J8(l:List aP):(py l).length<=10:=by unfold py;simp;omega
def JP{l:List aP}{P:aP->Prop}(h:∀x∈l,P (pC x)):∀x∈py l,P x:=fun x hx=>by obtain⟨y,hy,rfl⟩:=List.mem_map.1 hx;exact h y (List.mem_of_mem_take hy)
def vh(b:bo):bo:=⟨Bz b.name,b.de.take 20,py b.base,py b.own⟩
end Go.Gd
namespace Go.Proofs.YtjpcgmjaipfgdaaGreatDoor
open Go Go.Gd Tryz
def M8{s:UX}(he:(fI s).2.2=0):tM (fI s).1:=⟨y9 he,Qp he⟩
end Go.Proofs.YtjpcgmjaipfgdaaGreatDoor
namespace Go.Proofs.YtjpcgmjaipfgdaaGreatDoor
open Go Go.Gd Tryz Go.Gd.MV
section
variable {p:ah}(hp:tM p)(WE:je p){F:UU->MV->MV}(hF:dT p (dp p) F)
include hp WE hF
theorem N9{b:bo}(h:sF b)(t:Int)(ht:bG t):aL prog 26 [.agg (dj p),.agg (gr b),rI t] (.agg (fv (k7 p (atB p F b t))))/\(k7 p (atB p F b t)).aS.length<=24/\(k7 p (atB p F b t)).calls.length<=1000/\∀c∈(k7 p (atB p F b t)).calls,c.vars.length<=100000:=by
 have VL:=Nu hp WE hF h t ht;obtain⟨k,EE,_,_,X8,Zj⟩:=Dt hp hF (by have:=h.inl;omega) h.inr (Bo h.uX) WE (by have:=h.uT;omega) t ht;obtain⟨ZM,hol⟩:=Dp (C:=dp p) X8 Zj;obtain⟨v1,v2⟩:=MH hp.ok.ok hp.fn ZM;refine⟨?_,hol,v1,v2⟩;have Ze:=L9 hp.ok hp.fn ZM jB;change aL _ _ [_,.agg (js (atB p F b t))] (.agg (fv (k7 p (atB p F b t))))at Ze
 generalize atB p F b t=Sh at*;refine dG func26 ntmps26 ?_
 (repeat' (first|refine au fun K hK=>?_|refine aq ?_|(with_reducible refine gR 1 ?_);refine dC 1 ([],[11,12],[]) [] (bf 0 7) mixed ?_|(refine hK _ _ ?_;clear hK K)|(refine ar ?_ ?_<;>intro hc<;>try exact jz)|refine cL 3 ?_|refine cL 4 ?_|refine fA 6 ?_|refine cp (VL) ?_|refine cq (VL) ?_|refine cp (Ze) ?_|refine cq (Ze) ?_|(refine io ?_ ?_<;>intro hc<;>try exact jz)|refine av ?_|exact jI|(clear hK K)))
 (refine bu [.cell 6 67] ?_;try simp only[go_sem])
end
structure BR(b:bo):Prop where
 inr:∀x∈b.de,bG x
 CA:∀x∈b.base,bG x.v.n
 B2:∀x∈b.own,bG x.v.n
def Jy{b:bo}(h:BR b):sF (vh b):=
 ⟨by show(b.de.take 20).length<=100;rw[List.length_take];omega,by have:=J8 b.base;show(py b.base).length<=100;omega,by have:=J8 b.own;show(py b.own).length<=100;omega,
   fun x hx=>h.inr x (List.mem_of_mem_take hx),JP (P:=fun x=>bG x.v.n) fun x hx=>h.CA x hx,JP (P:=fun x=>bG x.v.n) fun x hx=>h.B2 x hx⟩
def Fc(s:UX):aL prog 31 [rS s] (rS (pY s)):=by
 refine dG func31 ntmps31 ?_
 (repeat' (first|refine au fun K hK=>?_|refine aq ?_|(refine hK _ _ ?_;clear hK K)|(refine ar ?_ ?_<;>intro hc<;>try exact jz)|refine av ?_|exact jI|(clear hK K)))
 ·(refine bu [.tmp 2] ?_;try simp only[go_sem])
  unfold pY;rw[jP]
 ·(refine bu [.tmp 2] ?_;try simp only[go_sem])
  unfold pY;rw[jN]
def D3(l:List aP):aL prog 78 [aO bQ 5 l] (aO bQ 5 (py l)):=by
 refine dG func78 ntmps78 ?_
 (repeat' (first|refine au fun K hK=>?_|refine aq ?_|(refine hK _ _ ?_;clear hK K)|(refine ar ?_ ?_<;>intro hc<;>try exact jz)|refine vH 0 ?_|refine av ?_|exact jI|(clear hK K)))
 have U6:=hK;clear hK;refine dw (S:=Nat) [(3,3),(7,37)] (fun k=>k<=l.length/\k<=10) (fun k=>[(4,rI k),(3,.rs 0 k 5 k)]) (fun k=>⟨[],[(0,.aD 56 5 (((l.take k).map pC).map bQ))]⟩) (fun k=>10-k) 0 jB (dx rfl bS) ?_;rintro k ⟨hk,Va⟩ Kr U8;have Wc:(((l.take k).map pC).map bQ).length=k:=by simp;omega
 by_cases I':k<l.length/\k<10
 ·obtain⟨h1,h2⟩:=I';have hex:((l.take (k+1)).map pC).map bQ=((l.take k).map pC).map bQ++[bQ (pC (nth l k))]:=by
   rw[nA h1];simp
  have Wk:pC (nth l k)={ nth l k with name:=if 20<(nth l k).name.size then(nth l k).name.extract 0 20 else(nth l k).name,v:={ (nth l k).v with s:=if 60<(nth l k).v.s.size then(nth l k).v.s.extract 0 60 else(nth l k).v.s } }:=rfl;by_cases c1:20<(nth l k).name.size<;>by_cases c2:60<(nth l k).v.s.size
  all_goals
   first|rw[if_pos c1]at Wk|rw[if_neg c1]at Wk
   first|rw[if_pos c2]at Wk|rw[if_neg c2]at Wk
   refine S ?_
   (have W:=jA h1 (jA h2 (jA Wc (jA c1 (c2))));repeat' (first|refine au fun K hK=>?_|refine aq ?_|(refine hK _ _ ?_;clear hK K)|(refine ar ?_ ?_<;>intro hc<;>try exact jz)|refine fA 1 ?_|refine av ?_|exact jI|(clear hK K)))
   refine U8 _ _ (lc [1] (k+1) ⟨jB,jB⟩ (by show 10-(k+1)<10-k;omega) rfl Sd ?_ ie);show Hp.mk _ [(0,_)]=Hp.mk _ [(0,.aD _ _ (((l.take (k+1)).map pC).map bQ))];rw[hex,Wk]
 ·have e:py l=(l.take k).map pC:=by
   unfold py;rcases Nat.lt_or_ge k 10 with h|h
   ·rw[List.take_of_length_le (i:=10) jB,List.take_of_length_le (i:=k) jB]
   ·rw[show k=10 from jB]
  rw[e];by_cases h1:k<l.length
  ·have h2:¬k<10:=fun h=>I' ⟨h1,h⟩
   refine S ?_
   (have W:=jA h1 (jA h2 (Wc));repeat' (first|refine au fun K hK=>?_|refine aq ?_|(refine hK _ _ ?_;clear hK K)|(refine ar ?_ ?_<;>intro hc<;>try exact jz)|refine U6 _ _ ?_|refine av ?_|exact jI|(clear hK K)))
   refine iM [.tmp 2] ?_;rw[e];show dn _ _ (.rs 0 k 5 k) _;refine dn.row (enc:=bQ) ((l.take k).map pC) rfl rfl ?_;rw[List.length_map,List.length_take];omega
  ·(refine S ?_;try exact jI)
   (have W:=jA h1 Wc;repeat' (first|refine au fun K hK=>?_|refine aq ?_|(refine hK _ _ ?_;clear hK K)|(refine ar ?_ ?_<;>intro hc<;>try exact jz)|refine U6 _ _ ?_|refine av ?_|exact jI|(clear hK K)))
   refine iM [.tmp 2] ?_;rw[e];show dn _ _ (.rs 0 k 5 k) _;refine dn.row (enc:=bQ) ((l.take k).map pC) rfl rfl ?_;rw[List.length_map,List.length_take];omega
def F4(b:bo):aL prog 32 [.agg (gr b)] (.agg (gr (vh b))):=by
 have h1:=D3 b.base;have h2:=D3 b.own;have Wk:vh b=⟨if 20<b.name.size then b.name.extract 0 20 else b.name,if 20<b.de.length then b.de.take 20 else b.de,py b.base,py b.own⟩:=by
  unfold vh Bz;congr 1
  split
  ·rfl
  ·exact List.take_of_length_le jB
 generalize vh b=B at*;by_cases c1:20<b.name.size<;>by_cases c2:20<b.de.length
 all_goals
  first|rw[if_pos c1]at Wk|rw[if_neg c1]at Wk
  first|rw[if_pos c2]at Wk|rw[if_neg c2]at Wk
  refine dG func32 ntmps32 ?_
  (have W:=jA c1 c2;repeat' (first|refine au fun K hK=>?_|refine aq ?_|(refine hK _ _ ?_;clear hK K)|(refine ar ?_ ?_<;>intro hc<;>try exact jz)|refine cL 1 ?_|refine fA 2 ?_|refine cp (h1) ?_|refine cp (h2) ?_|refine av ?_|exact jI|(clear hK K)))
  rw[Wk]
  (refine bu [.cell 2 52] ?_;try simp only[go_sem])
def H6{sz:Nat}{cs ds d d':US}(h:pg cs ds)(hn:ds.length=sz):Sub (.sl true sz [cs] d) (.sl false sz [ds] d'):=fun w v hv=>by
 obtain⟨J',hg⟩:=h.get;cases hv with
 |sl x sz css a c vs XH hc hx Vb hb hH D' hr=>
  refine .sl false sz [ds] a c vs jE hc (fun e=>by cases e) (fun x hx=>by rw[List.mem_singleton]at hx;subst hx;exact hn) hb hH D' (fun i j u hi hu=>?_);have Xi:i=0:=by simpa using hi
  subst Xi;have hu:ds[j]?=some u:=hu;have hj:j<cs.length:=by rw[J'];exact(List.getElem?_eq_some_iff.1 hu).1
  exact hg j cs[j] u (List.getElem?_eq_getElem hj) hu w.bare _ (hr 0 j cs[j] jE (List.getElem?_eq_getElem hj))
def Nc{cs ds:US}(h:pg cs ds):Sub (.agg cs) (.agg ds):=fun w v hv=>by
 obtain⟨J',hg⟩:=h.get;cases hv with
 |agg _ vs hl hr=>
  refine .agg ds vs (J'.symm.trans hl) fun i a v ha hv=>?_
  have hj:i<cs.length:=by rw[J'];exact(List.getElem?_eq_some_iff.1 ha).1
  exact hg i cs[i] a (List.getElem?_eq_getElem hj) ha w v (hr i cs[i] v (List.getElem?_eq_getElem hj) hv)
def RT{P:U3}{f:FuncId}{args:US}{r r':AV}(hc:aL P f args r)(h:Sub r r'):aL P f args r':=fun w vs h1 h2=>by refine(hc w vs h1 h2).mono ?_;rintro e W ⟨v,r0,H',w',e0,e1,⟨rfl,e2⟩,g1,g2,g3⟩;exact⟨v,r',H',w',e0,e1,⟨rfl,e2⟩,g1,h _ _ g2,g3⟩
def oE(t:UX):cw:=⟨[⟨(⟨#[109,97,105,110]⟩:UX),2,[⟨(⟨#[97]⟩:UX),t⟩]⟩],[],0,0,0⟩
def N7(t:UX):aL prog 77 [rS t] (.agg [.sl true 3 [[rS (⟨#[109,97,105,110]⟩:UX),rI 2,.sl true 2 [[rS (⟨#[97]⟩:UX),rS t]] []]] [],.raw (.slice none 0 0),rI 0,rI 0,rI 0]):=by
 refine dG func77 ntmps77 ?_
 (repeat' (first|refine au fun K hK=>?_|refine aq ?_|(refine hK _ _ ?_;clear hK K)|(refine ar ?_ ?_<;>intro hc<;>try exact jz)|refine fA 0 ?_|refine av ?_|exact jI|(clear hK K)))
 (refine bu [.cell 2 67] ?_;try simp only[go_sem])
def D1(t:UX):aL prog 77 [rS t] (.agg (fv (oE t))):=by refine RT (N7 t) (Nc ⟨H6 (ds:=jq ⟨(⟨#[109,97,105,110]⟩:UX),2,[⟨(⟨#[97]⟩:UX),t⟩]⟩) ⟨Sub.refl _,Sub.refl _,H6 (ds:=j7 ⟨(⟨#[97]⟩:UX),t⟩) ⟨Sub.refl _,Sub.refl _,trivial⟩ rfl,trivial⟩ rfl,Sub.nil _ _,Sub.refl _,Sub.refl _,Sub.refl _,trivial⟩)
def An{t:UX}(h:t.size<=1000):gk (oE t):=by
 refine⟨by show 1<=1000;omega,fun c hc=>?_,by show 0<=1000;omega,fun t ht=>?_,by show bG 0;unfold bG;decide,by show(0:Int)<=0;decide,by show(0:Int)<=3;decide,by show bG 0;unfold bG;decide⟩
 ·rw[show(oE t).calls=[⟨(⟨#[109,97,105,110]⟩:UX),2,[⟨(⟨#[97]⟩:UX),t⟩]⟩] from rfl,List.mem_singleton]at hc;subst hc;refine⟨by show 1<=100000;omega,by show 4<=1000;omega,by show bG 2;unfold bG;decide,fun x hx=>?_⟩;rw[List.mem_singleton]at hx;subst hx;exact⟨by show 1<=1000;omega,Nat.le_trans h jC⟩
 ·rw[show(oE _).aS=[] from rfl]at ht;cases ht
def M6:nb (oE (⟨#[49]⟩:UX)) (oE (⟨#[53]⟩:UX))=[(⟨#[48,32,97,32,49,32,124,32,53]⟩:UX)]:=by decide +kernel
def NO:nb (oE (⟨#[49]⟩:UX)) (oE (⟨#[49]⟩:UX))=[]:=by decide +kernel
def Ki:aL prog 30 [] (rB true):=by
 have m1:=D1 (⟨#[49]⟩:UX);have m5:=D1 (⟨#[53]⟩:UX);have o1:=Dz (oE (⟨#[49]⟩:UX)) (oE (⟨#[53]⟩:UX)) (An jC) (An jC);have o2:=Dz (oE (⟨#[49]⟩:UX)) (oE (⟨#[49]⟩:UX)) (An jC) (An jC);rw[M6]at o1;rw[NO]at o2;generalize oE (⟨#[49]⟩:UX)=w1 at*;generalize oE (⟨#[53]⟩:UX)=w5 at*;refine dG func30 ntmps30 ?_
 (repeat' (first|refine au fun K hK=>?_|refine aq ?_|(refine hK _ _ ?_;clear hK K)|(refine ar ?_ ?_<;>intro hc<;>try exact jz)|refine cp (m1) ?_|refine cp (m5) ?_|refine cp (o1) ?_|refine cq (m1) ?_|refine cq (o2) ?_|refine av ?_|exact jI|(clear hK K)))
 (refine bu [.tmp 0] ?_;try simp only[go_sem])
def SD(n:Nat)(h:n<10):aL prog 34 [rI n] (rS (cA n)):=by
 have e:cA n=((⟨#[48,49,50,51,52,53,54,55,56,57]⟩:UX)).extract n (n+1):=by
  match n,h with
  |0,_|1,_|2,_|3,_|4,_|5,_|6,_|7,_|8,_|9,_=>decide +kernel
 rw[e];have h1:(n:Int).tmod 10=n:=Int.tmod_eq_of_lt jB jB;have h2:IntKind.i64.wrap ((n:Int)+1)=n+1:=rD jB;refine dG func34 ntmps34 ?_
 (have W:=jA h1 h2;repeat' (first|refine au fun K hK=>?_|refine aq ?_|(refine hK _ _ ?_;clear hK K)|(refine ar ?_ ?_<;>intro hc<;>try exact jz)|refine av ?_|exact jI|(clear hK K)))
 (refine bu [.tmp 2] ?_;try simp only[go_sem])
def DU{p:ah}(hp:tM p)(WE:je p){F:UU->MV->MV}(hF:dT p (dp p) F)(Xe:∀j,j<p.aa.ak.length->qV p.aa (nth p.aa.ak j))(hc:fx p.aa){b:bo}(h:sF b)(t:Int)(ht:bG t):aL prog 26 [.agg (dj p),.agg (gr b),rI t] (.agg (fv (k7 p (atB p F b t))))/\gk (k7 p (atB p F b t))/\VG (k7 p (atB p F b t))/\(k7 p (atB p F b t)).calls.length<=8:=by refine⟨(N9 hp WE hF h t ht).1,?_⟩;obtain⟨k,EE,_,_,X8,Zj⟩:=Dt hp hF (by have:=h.inl;omega) h.inr (Bo h.uX) WE (by have:=h.uT;omega) t ht;obtain⟨q1,q2⟩:=NR hp Xe hc (C:=dp p) (by have:=h.inl;omega) X8 Zj;refine⟨q1,q2,?_⟩;have h8:=(Dp (C:=dp p) X8 Zj).1.calls;exact Nat.le_trans (Nat.le_of_eq (xL p _ _ _ rfl)) h8
end Go.Proofs.YtjpcgmjaipfgdaaGreatDoor
namespace Go.Gd
open Go
def oH(a b:bo):US:=[.raw (.string a.name),aO eI 1 a.de,aO bQ 5 a.base,aO bQ 5 a.own,.raw (.string b.name),aO eI 1 b.de,aO bQ 5 b.base,aO bQ 5 b.own]
section
variable (a b:bo)
@[go_sem] def j6y:((oH a b).length=8)/\((oH a b).all AV.one=true):=by and_intros<;>(intros;rfl)
@[go_sem] def j6x(q:U2):aR q (oH a b)=true:=by simp[oH,aR,AV.all]
@[go_sem] def qcM:(List.take 4 (oH a b)=gr a)/\(List.take 4 (List.drop 4 (oH a b))=gr b):=by and_intros<;>(intros;rfl)
end
def sO(n:UX)(l:List aG):UX:=l.foldl (fun o x=>if x.name=n then x.text else o) (⟨#[45]⟩:UX)
def G7(n:UX){l:List aG}{k:Nat}(h:k<l.length):sO n (l.take (k+1))=if(nth l k).name=n then(nth l k).text else sO n (l.take k):=by unfold sO;rw[nA h,List.foldl_append];rfl
theorem E2{n:UX}:∀{l:List aG},(∀x∈l,x.name≠n)->na l n=none
 |[],_=>rfl
 |x::l,h=>by unfold na;rw[if_neg (h x jE)];exact E2 fun y hy=>h y (by simp[hy])
def G2{l:List aG}(h:uc l)(n:UX):sO n l=mm l n:=by
 have key:∀k,k<=l.length->sO n (l.take k)=mm (l.take k) n:=fun k=>by
  induction k with
  |zero=>intro _;rfl
  |succ k ih=>
   intro hk;have ih:=ih jB;rw[G7 n jB,nA jB,xi,zN];by_cases c:(nth l k).name=n
   ·rw[if_pos c,if_pos c,E2]
    ·rfl
    ·intro x hx e;obtain⟨j,hj,rfl⟩:=List.getElem_of_mem hx;rw[List.length_take]at hj;have e2:(l.take k)[j]'(by rw[List.length_take];omega)=nth l j:=by rw[List.getElem_take,<-ee jB]
     rw[e2]at e;have:=h j k jB jB (by rw[e,c]);omega
   ·rw[if_neg c,if_neg c,ih,xi];cases na (l.take k) n<;>rfl
 have:=key l.length jl;rwa [List.take_length]at this
def R0:∀(l:List aG) (n:UX),(∀x∈l,x.name.size<=1000/\x.text.size<=100000)->(sO n l).size<=100000:=fun l n h=>by
 have key:∀(l:List aG) (o:UX),(∀x∈l,x.text.size<=100000)->o.size<=100000->(l.foldl (fun o x=>if x.name=n then x.text else o) o).size<=100000:=fun l=>by
  induction l with
  |nil=>exact fun o _ h=>h
  |cons x l ih=>exact fun o h1 h2=>ih _ (fun y hy=>h1 y (by simp[hy])) (by show(if x.name=n then x.text else o).size<=_;split;exact h1 x jE;exact h2)
 exact key l _ (fun x hx=>(h x hx).2) jC
def rj(l:List UX)(t:UX):Bool:=l.any fun x=>decide (x=t)
def ur(l:List UX)(t:UX):rj l t=true<->t∈l:=by unfold rj;rw[List.any_eq_true];exact⟨fun⟨x,h,e⟩=>by rw[<-of_decide_eq_true e];exact h,fun h=>⟨t,h,jE⟩⟩
def RC{l:List UX}{k:Nat}(h:k<l.length)(t:UX):t∈l.take (k+1)<->t∈l.take k\/nth l k=t:=by rw[nA h,List.mem_append,List.mem_singleton];exact or_congr Iff.rfl eq_comm
end Go.Gd
namespace Go.Proofs.YtjpcgmjaipfgdaaGreatDoor
open Go Go.Gd Tryz Go.Gd.MV
def Sk(s:UX)(a b:bo)(t:Int)(hA:BR a)(hB:BR b)(ht:0<=t/\t<256):aL prog 6 [rS s,.agg (oH a b),.raw (.int .u8 t)] (rB true):=by
 have hs:=LX (pY s) (N8 s);have hok:=@M8 (pY s);have ZN:=@QI (pY s);have Xe:=@QR (pY s);have U9:=@Nv (pY s);generalize fI (pY s)=R at hs hok ZN Xe U9;obtain⟨p,x,e⟩:=R;simp only at hs hok ZN Xe U9;by_cases he:e=0
 rotate_left
 ·refine dG func6 ntmps6 ?_
  (have W:=he;repeat' (first|refine au fun K hK=>?_|refine aq ?_|(refine hK _ _ ?_;clear hK K)|(refine ar ?_ ?_<;>intro hc<;>try exact jz)|refine cp (Ki) ?_|refine cp (Fc _) ?_|refine cL 4 ?_|refine fA 8 ?_|refine cp (hs) ?_|refine av ?_|exact jI|(clear hK K)))
  (refine bu [.tmp 6] ?_;try simp only[go_sem])
 obtain⟨F,hF⟩:=ME (hok he).ok;have Xj:=F4 a;have hlb:=F4 b;have Yr:t.tmod 61=t % 61:=Int.tmod_eq_emod_of_nonneg ht.1;have htr:bG (t.tmod 61):=by rw[Yr];unfold bG;omega
 clear Yr;obtain⟨hva,da,ga,la⟩:=DU (hok he) (ZN he) hF (Xe he) (U9 he) (Jy hA) (t.tmod 61) htr;obtain⟨hvb,db,gb,lb⟩:=DU (hok he) (ZN he) hF (Xe he) (U9 he) (Jy hB) (t.tmod 61) htr;generalize vh a=a1 at*;generalize vh b=b1 at*;generalize k7 p (atB p F a1 (t.tmod 61))=v at*;generalize k7 p (atB p F b1 (t.tmod 61))=w at*;have Y5:=Dz v w da db;have J':=TU v w da db;have hsm:=MQ v w da.outs da.calls fun c hc=>(da.call c hc).n
 have VR:=@Qq v w ga gb;have hsw:decide (v=w)=decide (((nb v w).length:Int)=0):=by
  by_cases c:v=w
  ·rw[decide_eq_true c,c,Oj gb];rfl
  ·rw[decide_eq_false c,decide_eq_false];intro e;exact c (Mi (List.eq_nil_of_length_eq_zero jB))
 rw[hsw]at hsm;generalize nb v w=L at*;refine dG func6 ntmps6 ?_
 (have W:=he;repeat' (first|refine au fun K hK=>?_|refine aq ?_|(with_reducible refine gR 5 ?_);refine dC 5 ([],[],[37,41]) [8] [0,1,2,4,5,6,3,7,8,9] mixed ?_|(with_reducible refine gR 6 ?_);refine dC 6 ([],[],[45,49]) [8] [0,1,2,4,5,6,3,7,8,9] mixed ?_|(refine hK _ _ ?_;clear hK K)|(refine ar ?_ ?_<;>intro hc<;>try exact jz)|refine cp (Ki) ?_|refine cp (Fc _) ?_|refine cL 4 ?_|refine fA 8 ?_|refine fA 11 ?_|refine fA 12 ?_|refine cp (hs) ?_|refine cN Xj ?_|refine cN hlb ?_|refine cN hva ?_|refine cN hvb ?_|refine cp (Y5) ?_|refine cp (hsm) ?_|refine av ?_|exact jI|(clear hK K)))
 ·exact absurd hc jE
 have U6:=hK;clear hK;refine dw (S:=Nat) [(6,1),(15,8),(61,102)] (fun i=>i<=v.calls.length/\i<=w.calls.length) (fun i=>[(15,rI i)]) (fun i=>⟨[],[(4,.var 74 (oH a b)),(8,.var 32 (dj p)),(11,.var 67 (fv v)),(12,.var 67 (fv w))]⟩) (fun i=>v.calls.length-i) 0 ⟨jB,jB⟩ (dx rfl bS) ?_;rintro i ⟨Xm,Zm⟩ Kr U8;by_cases I':i<v.calls.length/\i<w.calls.length
 rotate_left
 ·by_cases g1:i<v.calls.length
  ·have g2:¬i<w.calls.length:=fun h=>I' ⟨g1,h⟩
   refine S ?_
   (have W:=jA g1 g2;repeat' (first|refine au fun K hK=>?_|refine aq ?_|(refine hK _ _ ?_;clear hK K)|(refine ar ?_ ?_<;>intro hc<;>try exact jz)|refine U6 _ _ ?_|refine av ?_|exact jI|(clear hK K)))
   (refine bu [.tmp 6] ?_;try simp only[go_sem])
  ·(refine S ?_;try exact jI)
   (have W:=g1;repeat' (first|refine au fun K hK=>?_|refine aq ?_|(refine hK _ _ ?_;clear hK K)|(refine ar ?_ ?_<;>intro hc<;>try exact jz)|refine U6 _ _ ?_|refine av ?_|exact jI|(clear hK K)))
   (refine bu [.tmp 6] ?_;try simp only[go_sem])
 obtain⟨g1,g2⟩:=I';have g3:(i:Int)<(v.calls.length:Int)/\(i:Int)<(w.calls.length:Int):=⟨jB,jB⟩;have hdl:=fun(y:aG) (hy:y∈(nth v.calls i).vars)=>VR g1 g2 hy
 have ca:=da.call _ (cV g1);have cb:=db.call _ (cV g2);have can:=ca.n;have cbn:=cb.n;have haU:=gb.yd _ (cV g2);have hdg:=SD i jB;have hig:=nJ (n:=(i:Int)) (by unfold bG;omega);generalize cA (i:Int)=D at*;generalize hx:nth v.calls i=x at*;generalize hz:nth w.calls i=z at*;refine S ?_
 (have W:=g3;repeat' (first|refine au fun K hK=>?_|refine aq ?_|(refine hK _ _ ?_;clear hK K)|(refine ar ?_ ?_<;>intro hc<;>try exact jz)|refine av ?_|exact jI|(clear hK K)))
 have Zh:=hK;clear hK;refine dw (S:=Nat) [(6,1),(16,7),(75,88)] (fun k=>k<=x.vars.length) (fun k=>[(16,rI k)]) (fun k=>⟨[],[(4,.var 74 (oH a b)),(8,.var 32 (dj p)),(11,.var 67 (fv v)),(12,.var 67 (fv w))]⟩) (fun k=>x.vars.length-k) 0 jB (dx rfl bS) ?_;rintro k hk Ks ZW;by_cases Wc:k<x.vars.length
 rotate_left
 ·(refine S ?_;try exact jI)
  (have W:=jA Wc (jA g1 (hx));repeat' (first|refine au fun K hK=>?_|refine aq ?_|(refine hK _ _ ?_;clear hK K)|(refine ar ?_ ?_<;>intro hc<;>try exact jz)|refine Zh _ _ ?_|refine av ?_|exact jI|(clear hK K)))
  refine U8 _ _ (dO (i+1) ⟨jB,jB⟩ (by show v.calls.length-(i+1)<v.calls.length-i;omega) rfl bS)
 have hym:=cV Wc;generalize hyd:nth x.vars k=y at*;have hdy:=hdl y hym;obtain⟨yn,yt⟩:=ca.var y hym;refine S ?_
 (have W:=jA Wc (jA g1 (jA hx (hyd)));repeat' (first|refine au fun K hK=>?_|refine aq ?_|(refine hK _ _ ?_;clear hK K)|(refine ar ?_ ?_<;>intro hc<;>try exact jz)|refine fA 17 ?_|refine av ?_|exact jI|(clear hK K)))
 have hKc:=hK;clear hK;have hKd:=hK;clear hK;have Wt:sO y.name []=(⟨#[45]⟩:UX):=rfl;refine dw (S:=Nat) [(18,2),(95,34)] (fun j=>j<=z.vars.length) (fun j=>[(19,rI j),(18,rS (sO y.name (z.vars.take j)))]) (fun j=>⟨[],[(4,.var 74 (oH a b)),(8,.var 32 (dj p)),(11,.var 67 (fv v)),(12,.var 67 (fv w)),(17,.var 80 (j7 y))]⟩) (fun j=>z.vars.length-j) 0 jB (dx rfl (by simp only[go_sem,kS,Nat.reduceAdd,AV.raw.injEq,Value.int.injEq,Value.slice.injEq,Value.pointer.injEq,AV.rs.injEq,Wt];try omega)) ?_;rintro j hj Kt hKt;by_cases Xh:j<z.vars.length
 ·have ni:=G7 y.name Xh;generalize hud:nth z.vars j=u at*;by_cases hn:u.name=y.name
  ·rw[if_pos hn]at ni;refine S ?_
   (have W:=jA Xh (jA g2 (jA hz (jA hud (hn))));repeat' (first|refine au fun K hK=>?_|refine aq ?_|(with_reducible refine gR 22 ?_);refine dE 22 (bf 0 13) mixed ?_|(refine hK _ _ ?_;clear hK K)|(refine ar ?_ ?_<;>intro hc<;>try exact jz)|refine av ?_|exact jI|(clear hK K)))
   refine hKt _ _ (dO (j+1) jB (by show z.vars.length-(j+1)<z.vars.length-j;omega) rfl (by rw[ni];exact bS))
  ·rw[if_neg hn]at ni;refine S ?_
   (have W:=jA Xh (jA g2 (jA hz (jA hud (hn))));repeat' (first|refine au fun K hK=>?_|refine aq ?_|(with_reducible refine gR 22 ?_);refine dE 22 (bf 0 13) mixed ?_|(refine hK _ _ ?_;clear hK K)|(refine ar ?_ ?_<;>intro hc<;>try exact jz)|refine av ?_|exact jI|(clear hK K)))
   refine hKt _ _ (dO (j+1) jB (by show z.vars.length-(j+1)<z.vars.length-j;omega) rfl (by rw[ni];exact bS))
 have ZZ:j=z.vars.length:=jB;subst ZZ;rw[List.take_length,G2 haU];have hos:(mm z.vars y.name).size<=100000:=by rw[<-G2 haU];exact R0 _ _ cb.var
 generalize mm z.vars y.name=o at*;generalize hLn:D++(⟨#[32]⟩:UX)++y.name++(⟨#[32]⟩:UX)++y.text++(⟨#[32,124,32]⟩:UX)++o=ln at*;refine S ?_
 (have W:=jA g2 hz;repeat' (first|refine au fun K hK=>?_|refine aq ?_|(with_reducible refine gR 24 ?_);refine dC 24 ([],[130],[]) [] (bf 0 14) mixed ?_|(refine hK _ _ ?_;clear hK K)|(refine ar ?_ ?_<;>intro hc<;>try exact jz)|refine cq (hdg) ?_|(refine hKc _ _ ?_)|refine av ?_|exact jI|(clear hK K)))
 have hKe:=hK;clear hK;have hh0:rj [] ln=false:=rfl;simp only[hLn];refine dw (S:=Nat) [(21,2),(142,15)] (fun j=>j<=L.length) (fun j=>[(22,rI j),(21,rB (rj (L.take j) ln))]) (fun j=>⟨[],[(4,.var 74 (oH a b)),(8,.var 32 (dj p)),(11,.var 67 (fv v)),(12,.var 67 (fv w)),(17,.var 80 (j7 y))]⟩) (fun j=>L.length-j) 0 jB (dx rfl (by simp only[go_sem,kS,Nat.reduceAdd,AV.raw.injEq,Value.int.injEq,Value.slice.injEq,Value.pointer.injEq,AV.rs.injEq,hh0];try omega)) ?_;rintro j hj Kt hKt;by_cases Xh:j<L.length
 ·have hmj:=RC Xh ln;by_cases Wb:ln∈L.take j
  ·have e1:rj (L.take j) ln=true:=(ur _ _).2 Wb;have e2:rj (L.take (j+1)) ln=true:=(ur _ _).2 (hmj.2 (.inl Wb));rw[e1];refine S ?_
   (have W:=Xh;repeat' (first|refine au fun K hK=>?_|refine aq ?_|(refine hK _ _ ?_;clear hK K)|(refine ar ?_ ?_<;>intro hc<;>try exact jz)|refine av ?_|exact jI|(clear hK K)))
   refine hKt _ _ (dO (j+1) jB (by show L.length-(j+1)<L.length-j;omega) rfl (by rw[e2];exact bS))
  ·have e1:rj (L.take j) ln=false:=Bool.eq_false_iff.2 fun h=>Wb ((ur _ _).1 h)
   have e2:rj (L.take (j+1)) ln=decide (nth L j=ln):=by
    by_cases c:nth L j=ln
    ·rw[decide_eq_true c];exact(ur _ _).2 (hmj.2 (.inr c))
    ·rw[decide_eq_false c];exact Bool.eq_false_iff.2 fun h=>(hmj.1 ((ur _ _).1 h)).elim Wb c
   rw[e1];refine S ?_
   (have W:=Xh;repeat' (first|refine au fun K hK=>?_|refine aq ?_|(refine hK _ _ ?_;clear hK K)|(refine ar ?_ ?_<;>intro hc<;>try exact jz)|refine av ?_|exact jI|(clear hK K)))
   refine hKt _ _ (dO (j+1) jB (by show L.length-(j+1)<L.length-j;omega) rfl (by rw[e2];exact bS))
 have ZZ:j=L.length:=jB;subst ZZ;rw[List.take_length];have hth:rj L ln=!decide (o=y.text):=by
  by_cases c:o=y.text
  ·rw[decide_eq_true c];exact Bool.eq_false_iff.2 fun h=>hdy.1 (by rw[<-hLn]at h;exact(ur _ _).1 h) c
  ·rw[decide_eq_false c];exact(ur _ _).2 (by rw[<-hLn];exact hdy.2 c)
 rw[hth];refine S ?_
 (repeat' (first|refine au fun K hK=>?_|refine aq ?_|(refine hK _ _ ?_;clear hK K)|(refine ar ?_ ?_<;>intro hc<;>try exact jz)|(refine hKe _ _ ?_)|(refine hKd _ _ ?_)|refine av ?_|exact jI|(clear hK K)))
 ·exact absurd hc jE
 refine ZW _ _ (lc [17] (k+1) jB (by show x.vars.length-(k+1)<x.vars.length-k;omega) rfl Sd (by rfl) ie)
def N5(s:UX)(x:bo×bo)(t:Int)(h:BR x.1/\BR x.2)(ht:0<=t/\t<256):aL prog 6 [rS s,.agg (oH x.1 x.2),.raw (.int .u8 t)] (rB true):=Sk s x.1 x.2 t h.1 h.2 ht
end Go.Proofs.YtjpcgmjaipfgdaaGreatDoor

/- Lemmas. No conditions. -/
import Derived.Test.YtjpcgmjaipfgdaaGreatDoorViP
import Derived.Laws.RangeAny
import Derived.Laws.RangeString
set_option linter.all false
set_option maxHeartbeats 4000000
set_option maxRecDepth 10000
namespace Go.Gd
open Go
def Rc{P:U6}{f:FuncId}{args:UU}{r:AV}(cO:U3)(v:Value)(ha:∀(w:NW) vs,bu w args vs->vs=cO)(hr:∀w:NW,ay w r v)(h:∀w:NW,kF w->Calls P f cO w.toWorld fun e w'=>e=.returned v/\RowKit.Below w.heap.size w.toWorld w'):aD P f args r:=by intro w vs h1 h2;have WI:=ha w vs h2;subst WI;refine(h w h1.bS).mono ?_;rintro e W ⟨rfl,hb⟩;have ex:Ext w (entry []) (w.to W) (entry []):={ size:=hb.size,free:=fun b VJ hO=>⟨hb.block b VJ,hO⟩,names:=fun _ _ _ _ h=>h,os:=hb.os,tape:=hb.tape,output:=hb.output,rest:=fun b VJ hO Vj=>⟨hb.block b VJ,hO,Vj⟩,base:=rfl };refine⟨v,r,entry [],w.to W,rfl,rfl,⟨rfl,rfl⟩,{ rows:=fun i row hi=>(by cases hi),dn:=h1.dn,inj:=h1.inj,own:=h1.own,bS:=h1.bS.aW ex.toKeep,fin:=fun b VJ=>Nat.lt_of_lt_of_le (h1.fin b VJ) hb.size },hr _,ex.pS⟩
def Mx{w:NW}{a b:AV}{vs:U3}(h:bu w [a,b] vs):∃x y,vs=#[x,y]/\ay w a x/\ay w b y:=by
 obtain⟨hl,hg⟩:=h;obtain⟨l⟩:=vs;match l,hl with
 |[x,y],_=>exact⟨x,y,rfl,hg 0 a x rfl rfl,hg 1 b y rfl rfl⟩
def Us{P:U6}{f:FuncId}{avs:UU}{v:Value}{args:U3}{W:World}(hg:kF (n0 W))(h:aD P f avs (.raw v))(ha:cn (n0 W) avs args.toList):Calls P f args W fun e W'=>e=.returned v/\RowKit.Below W.heap.size W W':=by refine(h (n0 W) args (Io W hg) ⟨by rw[ha.1];simp,fun i a v h1 h2=>ha.2 i a v h1 (by rw[Array.getElem?_toList];exact h2)⟩).mono ?_;rintro e w' ⟨v,r,H',w2,rfl,rfl,⟨rfl,_⟩,_,g2,g3⟩;have:=di g2;subst this;exact⟨rfl,⟨g3.os,g3.tape,g3.output,g3.size,fun k hk=>(g3.free k hk (fun h=>h)).1⟩⟩
def pk(r:Nat):Bool:=(decide (97<=r) && decide (r<=122)) || (decide (48<=r) && decide (r<=57))
def pP(r:Nat):Bool:=!(pk r)
def nP(s:U0):Bool:=decide (1<=s.size) && decide (s.size<=8) && s.data.toList.all fun b=>pk b.toNat
theorem H8(s:U0):∀f pos,s.size<=pos+f->(Lib.idxFuncFrom pP true s f pos<0<->∀k (h:k<s.size),pos<=k->pk (s[k]'h).toNat=true)
 |0,pos,h=>by unfold Lib.idxFuncFrom;exact⟨fun _ k hk hp=>jB,fun _=>jB⟩
 |f+1,pos,h=>by
  unfold Lib.idxFuncFrom;by_cases hp:pos<s.size
  ·rw[if_pos hp];by_cases ha:(s[pos]'hp).toNat<128
   ·rw[decode_ascii s pos hp ha];by_cases hn:pk (s[pos]'hp).toNat=true
    ·rw[if_neg (by unfold pP;rw[hn];decide),H8 s f (pos+1) jB];constructor
     ·intro h1 k hk hpk;by_cases e:k=pos
      ·subst e;exact hn
      ·exact h1 k hk jB
     ·intro h1 k hk hpk;exact h1 k hk jB
    ·rw[if_pos (by unfold pP;simpa using hn)];exact⟨fun h1=>jB,fun h1=>(hn (h1 pos hp jl)).elim⟩
   ·obtain⟨h1,h2⟩:=decode_high s pos hp jB;have hb:pP (Utf8.decode s pos).1=true:=by unfold pP pk;simp;omega
    rw[if_pos hb];refine⟨fun h1=>jB,fun h3=>?_⟩;have:=h3 pos hp jl;unfold pk at this;simp at this;omega
  ·rw[if_neg hp];exact⟨fun _ k hk hp'=>jB,fun _=>jB⟩
def S4(s:U0):decide (0<=Lib.idxFunc pP true s)=!(s.data.toList.all fun b=>pk b.toNat):=by
 have h:=H8 s s.size 0 jB;unfold Lib.idxFunc;have e:(s.data.toList.all fun b=>pk b.toNat)=true<->∀k (h:k<s.size),0<=k->pk (s[k]'h).toNat=true:=by
  rw[List.all_eq_true];constructor
  ·intro h k hk _;exact h _ (by
    have:s[k]=s.data.toList[k]'(by simpa using hk):=by simp[ByteArray.getElem_eq_getElem_data]
    rw[this];exact List.getElem_mem _)
  ·intro h b hb;obtain⟨k,hk,rfl⟩:=List.getElem_of_mem hb;have:=h k (by simpa using hk) (Nat.zero_le _);simpa[ByteArray.getElem_eq_getElem_data]using this
 by_cases hA:(s.data.toList.all fun b=>pk b.toNat)=true
 ·rw[hA];have:=h.2 (e.1 hA);simp;omega
 ·have hn:¬Lib.idxFuncFrom pP true s s.size 0<0:=fun h1=>hA (e.2 (h.1 h1))
  rw[Bool.eq_false_iff.2 hA];simp;omega
def AN{cs ds:UU}(h:oJ cs ds):Sub (.agg cs) (.agg ds):=fun w v hv=>by
 obtain⟨O',hg⟩:=h.get;cases hv with
 |agg _ vs hl hr=>
  refine .agg ds vs (O'.symm.trans hl) fun i a v ha hv=>?_
  have hi:i<cs.length:=by rw[O'];exact(List.getElem?_eq_some_iff.1 ha).1
  exact hg i cs[i] a (List.getElem?_eq_getElem hi) ha w v (hr i _ v (List.getElem?_eq_getElem hi) hv)
end Go.Gd
namespace Go.Proofs.YtjpcgmjaipfgdaaGreatDoor
open Go Go.Gd Tryz
def QU{p:ab}(h:fO p)(VD:∀k,k<p.aa.nodes.length->0<=nth p.fn k/\nth p.fn k<p.aa.ao.length)(heap:UW)(seen:UY)(c:gr)(n0:0<=c.node)(n1:c.node.toNat<p.aa.nodes.length)(f0:0<=c.fn)(f1:c.fn<p.aa.ao.length)
  (hh:heap.length<=1000) (hl:∀k,k<heap.length->(nth heap k).length<=1000) (hr:p8 heap) (hs:seen.length<=900000) (Yd:pH c.slots) (V5:c.slots.length<=1000) :
  af prog 128 [.pt 0 0 0 0,.agg (cY p),.agg (mK c)] (qf heap seen) (fun r l'=>r=.agg (l8 ⟨(nth p.aa.ao c.fn.toNat).name,(ak p c.node).ci,(ma heap c.slots (fL p c.node) seen).1⟩)/\l'=qf heap (ma heap c.slots (fL p c.node) seen).2):=by
 have hbV:=AW h.ok VD c.node n0 n1;have WI:=MB h VD n1;have YL:=xp h.ok VD n1;have Wp:c.fn.toNat<p.aa.ao.length:=jB;generalize fL p c.node=V at*;suffices key:∀W9:List iz×UY,W9=ma heap c.slots V seen->af prog 128 [.pt 0 0 0 0,.agg (cY p),.agg (mK c)] (qf heap seen) (fun r l'=>r=.agg (l8 ⟨(nth p.aa.ao c.fn.toNat).name,(ak p c.node).ci,W9.1⟩)/\l'=qf heap W9.2) from key _ rfl
 intro W9 hW;have Ze:ak p c.node=nth p.aa.nodes c.node.toNat:=rfl;rw[Ze];refine aQ func128 ntmps128 ?_;refine S ?_
 (repeat' (first|refine ar fun K hK=>?_|refine av ?_|(with_reducible refine gR 1 ?_);refine dE 1 (bf 0 19) mixed ?_|(refine hK _ _ ?_;clear hK K)|(refine au ?_ ?_<;>intro hc<;>try exact jz)|refine bv 5 ?_|refine bv 6 ?_|refine cC 7 ?_|refine cC 8 ?_|refine cp (hbV) ?_|refine aq ?_|exact jI|(clear hK K)))
 refine iW (dI.fS 9 8 2 80 2 rfl jC rfl rfl) ?_
 (refine S ?_;try exact jI)
 have Vc:=hK;clear hK;refine dJ (S:=Nat) [(9,1),(32,18)] (fun k=>k<=V.length) (fun k=>[(32,rI k)]) (fun k=>⟨[0,1],qf heap (ma heap c.slots (V.take k) seen).2++[(5,.var 32 (cY p)),(6,.var 137 (mK c)),(7,.var 78 [rS ⟨#[]⟩,rI 0,.raw (.slice none 0 0)]),(8,.var 78 [rS (nth p.aa.ao c.fn.toNat).name,rI (nth p.aa.nodes c.node.toNat).ci,.rs 9 k 2 k]),(9,.aJ 80 2 ((ma heap c.slots (V.take k) seen).1.map od))]⟩) (fun k=>V.length-k) 0 jB (dK rfl bU) ?_;rintro k hk Kr Vb;obtain⟨We,hks⟩:=Bb heap c.slots k (V.take k) seen jF;by_cases D':k<V.length
 ·have hsn:=IY heap c.slots (V.take k) (nth V k) seen;rw[<-pj D']at hsn;obtain⟨x0,x1⟩:=WI _ (fc D');generalize ma heap c.slots (V.take k) seen=A at*;generalize ZA:nth V k=x at*;unfold An at hsn;have htx:=Ta heap A.2 c.slots x x0 jB hh hl hr jB Yd V5;generalize pe heap A.2 (dU c.slots x.slot x.ty)=T at*;refine S ?_
  (have W:=jA ZA We;repeat' (first|refine ar fun K hK=>?_|refine av ?_|(with_reducible refine gR 5 ?_);refine dC 5 ([1],[],[44,1000000]) [] (bf 0 14) mixed ?_|(refine hK _ _ ?_;clear hK K)|(refine au ?_ ?_<;>intro hc<;>try exact jz)|refine cC 10 ?_|(refine zy htx ?_)|refine aq ?_|exact jI|(clear hK K)))
  refine Vb _ _ (nz [10] (k+1) jB (by show V.length-(k+1)<V.length-k;omega) rfl Sd ?_ iQ);show Hp.mk _ [_,(1,_),_,_,_,_,(9,_)]=Hp.mk _ (qf heap (ma heap c.slots (V.take (k+1)) seen).2++[_,_,_,_,(9,.aJ _ _ (List.map od (ma heap c.slots (V.take (k+1)) seen).1))]);rw[hsn];simp only[List.map_append];rfl
 ·have Xz:k=V.length:=jB;subst Xz;rw[List.take_length]at We ⊢;rw[<-hW]at We ⊢;refine S ?_
  (have W:=We;repeat' (first|refine ar fun K hK=>?_|refine av ?_|(refine hK _ _ ?_;clear hK K)|(refine au ?_ ?_<;>intro hc<;>try exact jz)|refine Vc _ _ ?_|refine aq ?_|exact jI|(clear hK K)))
  refine fy [.cell 6 78] ?_;refine bD.agg (ds:=l8 ⟨(nth p.aa.ao c.fn.toNat).name,(nth p.aa.nodes c.node.toNat).ci,W9.1⟩) ⟨.same _ rfl,.same _ rfl,db.row W9.1 rfl rfl We.symm,trivial⟩
def Rv(l:List U0)(hl:l.length<=1000000):aD prog 119 [aM eS 1 l] (aM eS 1 l):=by
 refine cB func119 ntmps119 ?_
 (repeat' (first|refine ar fun K hK=>?_|refine av ?_|(refine hK _ _ ?_;clear hK K)|(refine au ?_ ?_<;>intro hc<;>try exact jz)|(with_reducible refine fun(b:Bool) hb=>?_)|refine aq ?_|exact jI|(clear hK K)))
 ·have VJ:l=[]:=by simpa using hb hc
  subst VJ;refine fy [.tmp 2] ?_;exact db.nil _ _
 ·refine fy [.tmp 2] ?_;exact db.row l rfl rfl jE
def MO{p:ab}(h:fO p)(VD:∀k,k<p.aa.nodes.length->0<=nth p.fn k/\nth p.fn k<p.aa.ao.length){s:iq}(ho:nM p s)(hol:s.aZ.length<=1000):aD prog 73 [.agg (cY p),.agg (jS s)] (.agg (ig (gy p s))):=by
 have Vf:=ho.calls;have hhl:=ho.hl;have V3:=Rv s.aZ jB;refine cB func73 ntmps73 ?_
 (repeat' (first|refine ar fun K hK=>?_|refine av ?_|(with_reducible refine gR 2 ?_);refine dC 2 ([],[],[16]) [10] [0,1,3,4,5,6,7,8,2,9,10,11] mixed ?_|(with_reducible refine gR 6 ?_);refine dC 6 ([1],[],[36,1000000]) [] (bf 0 10) mixed ?_|(refine hK _ _ ?_;clear hK K)|(refine au ?_ ?_<;>intro hc<;>try exact jz)|refine bv 5 ?_|refine bv 6 ?_|refine bv 0 ?_|refine tI 1 ?_|refine cC 7 ?_|refine cC 8 ?_|(refine cN V3 ?_)|refine aq ?_|exact jI|(clear hK K)))
 refine iW (dI.fS 9 8 0 78 3 rfl jC rfl rfl) ?_
 (refine S ?_;try exact jI)
 have Vc:=hK;clear hK;refine dJ (S:=Nat) [(8,1),(27,14)] (fun i=>i<=s.calls.length/\(oV p s.heap (s.calls.take i)).2.length<=100000*i) (fun i=>[(27,rI i)]) (fun i=>⟨[],[(5,.var 32 (cY p)),(6,.var 45 (jS s)),(7,.var 67 [.raw (.slice none 0 0),.raw (.slice none 0 0),rI 0,rI 0,rI 0]),(1,.mp ((oV p s.heap (s.calls.take i)).2.map (Value.int .i64)) (l6 (oV p s.heap (s.calls.take i)).2.length 0)),(0,.var 231 [zn s.heap,.mr 1]),(8,.var 67 [.rs 9 i 3 i,aM eS 1 s.aZ,rI s.in_,rI s.status,rI s.cf]),(9,.aJ 78 3 ((oV p s.heap (s.calls.take i)).1.map l8))]⟩) (fun i=>s.calls.length-i) 0 ⟨jB,Nat.zero_le _⟩ (dK rfl bU) ?_;rintro i ⟨Xx,ZX⟩ Kr Vb;by_cases D':i<s.calls.length
 rotate_left
 ·have hie:i=s.calls.length:=jB;subst hie;rw[List.take_length]at*;have hbW:(oV p s.heap s.calls).1.length=s.calls.length:=AQ p s.heap _ _ rfl;refine S ?_
  (repeat' (first|refine ar fun K hK=>?_|refine av ?_|(with_reducible refine gR 2 ?_);refine dC 2 ([],[],[16]) [10] [0,1,3,4,5,6,7,8,2,9,10,11] mixed ?_|(with_reducible refine gR 6 ?_);refine dC 6 ([1],[],[36,1000000]) [] (bf 0 10) mixed ?_|(refine hK _ _ ?_;clear hK K)|(refine au ?_ ?_<;>intro hc<;>try exact jz)|refine Vc _ _ ?_|refine aq ?_|exact jI|(clear hK K)))
  refine fy [.cell 4 67] ?_;refine bD.agg (ds:=ig (gy p s)) ⟨db.row (oV p s.heap s.calls).1 rfl rfl hbW.symm,.same _ rfl,.same _ rfl,.same _ rfl,.same _ rfl,trivial⟩
 obtain⟨n0,n1⟩:=ho.node i D';obtain⟨f0,f1⟩:=ho.fn i D';obtain⟨Yd,V5⟩:=ho.sl i D';have YL:=xp h.ok VD n1;have ZW:=HZ p s.heap (s.calls.take i) (nth s.calls i);rw[<-pj D']at ZW;have XT:(oV p s.heap (s.calls.take i)).1.length=i:=AQ p s.heap i _ jF;generalize oV p s.heap (s.calls.take i)=C at*;generalize hcd:nth s.calls i=c at*;have hlc:=QU h VD s.heap C.2 c n0 n1 f0 f1 hhl ho.qL ho.hp jB Yd V5;have hvv:=(Bb s.heap c.slots _ (fL p c.node) C.2 rfl).2;unfold yb at ZW;generalize ma s.heap c.slots (fL p c.node) C.2=W9 at*;refine S ?_
 (have W:=jA hcd XT;repeat' (first|refine ar fun K hK=>?_|refine av ?_|(with_reducible refine gR 2 ?_);refine dC 2 ([],[],[16]) [10] [0,1,3,4,5,6,7,8,2,9,10,11] mixed ?_|(with_reducible refine gR 6 ?_);refine dC 6 ([1],[],[36,1000000]) [] (bf 0 10) mixed ?_|(refine hK _ _ ?_;clear hK K)|(refine au ?_ ?_<;>intro hc<;>try exact jz)|refine cC 10 ?_|(refine zy hlc ?_)|refine Vc _ _ ?_|refine aq ?_|exact jI|(clear hK K)))
 refine Vb _ _ (nz [10] (i+1) ⟨jB,by rw[ZW];show W9.2.length<=_;omega⟩ (by show s.calls.length-(i+1)<s.calls.length-i;omega) rfl Sd ?_ ?_)
 ·rw[ZW];simp only[List.map_append];rfl
 ·exact iQ
def Qr(a b:List U0)(ha:a.length<=1000000000):aD prog 72 [aM eS 1 a,aM eS 1 b] (rB (decide (a=b))):=by
 refine cB func72 ntmps72 ?_
 (repeat' (first|refine ar fun K hK=>?_|refine av ?_|(with_reducible refine gR 6 ?_);refine dE 6 (bf 0 9) mixed ?_|(refine hK _ _ ?_;clear hK K)|(refine au ?_ ?_<;>intro hc<;>try exact jz)|refine aq ?_|exact jI|(clear hK K)))
 ·(refine bq [.tmp 4] ?_;try simp only[go_sem])
  rw[show decide (a=b)=false from decide_eq_false fun h=>hc (by rw[h])]
 have hl:a.length=b.length:=jB;have Vc:=hK;clear hK;refine dJ (S:=Nat) [(4,2),(11,15)] (fun k=>k<=a.length/\∀j,j<k->nth a j=nth b j) (fun k=>[(5,rI k)]) (fun k=>⟨[],[]⟩) (fun k=>a.length-k) 0 ⟨jB,fun j h=>jB⟩ (dK jD bU) ?_;rintro k ⟨VA,Vk⟩ Kr Vb;refine S ?_
 (repeat' (first|refine ar fun K hK=>?_|refine av ?_|(with_reducible refine gR 6 ?_);refine dE 6 (bf 0 9) mixed ?_|(refine hK _ _ ?_;clear hK K)|(refine au ?_ ?_<;>intro hc<;>try exact jz)|refine Vc _ _ ?_|refine aq ?_|exact jI|(clear hK K)))
 ·(refine bq [.tmp 4] ?_;try simp only[go_sem])
  rw[show decide (a=b)=false from decide_eq_false fun h=>hc (by rw[h])]
 ·refine Vb _ _ (dT (k+1) ⟨jB,fun j hj=>?_⟩ jJ jD bU);by_cases h:j<k
  ·exact Vk j h
  ·rw[show j=k from jB];exact hc
 ·(refine bq [.tmp 4] ?_;try simp only[go_sem])
  rw[show decide (a=b)=true from decide_eq_true (AM hl fun j hj=>Vk j jB)]
def JH(a b:lC)(h1:a.aZ.length<=1000)(h2:a.calls.length<=1000)(h3:∀c∈a.calls,c.vars.length<=100000):aD prog 25 [.agg (ig a),.agg (ig b)] (rB (decide (a=b))):=by
 have no:∀{q:Prop},¬q->(a=b->q)->rB false=rB (decide (a=b)):=fun h1 h2=>by rw[decide_eq_false fun h=>h1 (h2 h)]
 have htx:=Qr a.aZ b.aZ jB;by_cases ho:a.aZ=b.aZ
 rotate_left
 ·rw[decide_eq_false ho]at htx;refine cB func25 ntmps25 ?_
  (repeat' (first|refine ar fun K hK=>?_|refine av ?_|(with_reducible refine gR 14 ?_);refine dE 14 (bf 0 11) mixed ?_|(refine hK _ _ ?_;clear hK K)|(refine au ?_ ?_<;>intro hc<;>try exact jz)|refine cp (htx) ?_|refine aq ?_|exact jI|(clear hK K)))
  all_goals(refine bq [.tmp 4] ?_;try simp only[go_sem])
  all_goals exact no ho (fun e=>by rw[e])
 rw[decide_eq_true ho]at htx;refine cB func25 ntmps25 ?_
 (repeat' (first|refine ar fun K hK=>?_|refine av ?_|(with_reducible refine gR 14 ?_);refine dE 14 (bf 0 11) mixed ?_|(refine hK _ _ ?_;clear hK K)|(refine au ?_ ?_<;>intro hc<;>try exact jz)|refine cp (htx) ?_|refine aq ?_|exact jI|(clear hK K)))
 ·(refine bq [.tmp 4] ?_;try simp only[go_sem])
  exact(no (fun h=>h) fun e=>by subst e;revert hc;simp)
 have V8:((a.in_=b.in_/\a.status=b.status)/\a.cf=b.cf)/\a.calls.length=b.calls.length:=by revert hc;simp only[Classical.not_not,not_or,Int.natCast_inj];exact id
 obtain⟨⟨⟨q1,q2⟩,q3⟩,q4⟩:=V8;clear hc;have Vc:=hK;clear hK;refine dJ (S:=Nat) [(4,1),(6,4),(47,56)] (fun k=>k<=a.calls.length/\∀j,j<k->nth a.calls j=nth b.calls j) (fun k=>[(6,rI k)]) (fun k=>⟨[],[(0,.var 67 (ig a)),(1,.var 67 (ig b))]⟩) (fun k=>a.calls.length-k) 0 ⟨jB,fun j h=>jB⟩ (dK rfl bU) ?_;rintro k ⟨VA,Vk⟩ Kr Vb;by_cases hk:k<a.calls.length
 rotate_left
 ·have e5:a.calls=b.calls:=AM q4 fun j hj=>Vk j jB
  have Xz:k=a.calls.length:=jB;subst Xz;refine S ?_
  (repeat' (first|refine ar fun K hK=>?_|refine av ?_|(with_reducible refine gR 14 ?_);refine dE 14 (bf 0 11) mixed ?_|(refine hK _ _ ?_;clear hK K)|(refine au ?_ ?_<;>intro hc<;>try exact jz)|refine Vc _ _ ?_|refine aq ?_|exact jI|(clear hK K)))
  (refine bq [.tmp 4] ?_;try simp only[go_sem])
  rw[decide_eq_true];cases a;cases b;simp_all
 have g2:=h3 _ (fc hk);generalize hx:nth a.calls k=x at*;generalize hy:nth b.calls k=y at*;refine S ?_
 (have W:=jA hx hy;repeat' (first|refine ar fun K hK=>?_|refine av ?_|(with_reducible refine gR 14 ?_);refine dE 14 (bf 0 11) mixed ?_|(refine hK _ _ ?_;clear hK K)|(refine au ?_ ?_<;>intro hc<;>try exact jz)|refine Vc _ _ ?_|refine al 2 ?_|refine al 3 ?_|refine aq ?_|exact jI|(clear hK K)))
 ·(refine bq [.tmp 4] ?_;try simp only[go_sem])
  exact no (fun h=>h) fun e=>by rw[e,hy]at hx;subst hx;revert hc;simp
 have V8:(x.name=y.name/\x.ci=y.ci)/\x.vars.length=y.vars.length:=by revert hc;simp only[Classical.not_not,not_or,Int.natCast_inj];exact id
 obtain⟨⟨r1,r2⟩,r3⟩:=V8;clear hc;have X9:=hK;clear hK;refine dJ (S:=Nat) [(4,1),(9,1),(85,18)] (fun i=>i<=x.vars.length/\∀j,j<i->nth x.vars j=nth y.vars j) (fun i=>[(9,rI i)]) (fun i=>⟨[],[(0,.var 67 (ig a)),(1,.var 67 (ig b)),(2,.var 78 (l8 x)),(3,.var 78 (l8 y))]⟩) (fun i=>x.vars.length-i) 0 ⟨jB,fun j h=>jB⟩ (dK rfl bU) ?_;rintro i ⟨Xx,ZX⟩ Ks hKs;by_cases hi:i<x.vars.length
 ·(refine S ?_;try exact jI)
  (repeat' (first|refine ar fun K hK=>?_|refine av ?_|(with_reducible refine gR 14 ?_);refine dE 14 (bf 0 11) mixed ?_|(refine hK _ _ ?_;clear hK K)|(refine au ?_ ?_<;>intro hc<;>try exact jz)|refine X9 _ _ ?_|refine aq ?_|exact jI|(clear hK K)))
  ·(refine bq [.tmp 4] ?_;try simp only[go_sem])
   exact no hc (fun e=>by rw[<-hx,<-hy,e])
  ·refine hKs _ _ (dT (i+1) ⟨jB,fun j hj=>?_⟩ jJ jD bU);by_cases h:j<i
   ·exact ZX j h
   ·rw[show j=i from jB];exact hc
 have e6:x.vars=y.vars:=AM r3 fun j hj=>ZX j jB
 have hie:i=x.vars.length:=jB;subst hie;refine S ?_
 (repeat' (first|refine ar fun K hK=>?_|refine av ?_|(with_reducible refine gR 14 ?_);refine dE 14 (bf 0 11) mixed ?_|(refine hK _ _ ?_;clear hK K)|(refine au ?_ ?_<;>intro hc<;>try exact jz)|refine X9 _ _ ?_|refine aq ?_|exact jI|(clear hK K)))
 refine Vb _ _ (nz [2,3] (k+1) ⟨jB,fun j hj=>?_⟩ jJ rfl Sd (by simp only[go_sem];(try rfl)) iQ);by_cases h:j<k
 ·exact Vk j h
 ·rw[show j=k from jB,hx,hy];cases x;cases y;simp_all
end Go.Proofs.YtjpcgmjaipfgdaaGreatDoor
namespace Go.Proofs.YtjpcgmjaipfgdaaGreatDoor
open Go Go.Gd Tryz Go.Gd.MV
def ML{p:ab}{C:aI}{m:MV}{n:Nat}(h:MI p C m)(hb:Bd n m):nM p (m.da C)/\(m.da C).aZ.length<=24:=by
 have hc:=hb.heap;have hl:(m.da C).calls.length=m.calls.length:=by show((List.range m.calls.length).map _).length=_;rw[List.length_map,List.length_range]
 have hn:∀k,k<m.calls.length->nth (m.da C).calls k=m.spot C k:=fun k hk=>by show nth ((List.range m.calls.length).map (m.spot C)) k=_;rw[fA (by simpa using hk)];simp
 rw[wu]at hc;refine⟨⟨by rw[hl];exact h.dY,fun k hk=>?_,fun k hk=>?_,fun k hk=>?_,h.rg,?_,fun k hk=>?_⟩,hb.outs⟩
 ·rw[hl]at hk;rw[hn k hk];have:=zc h hk;exact⟨this.f0,this.f1⟩
 ·rw[hl]at hk;rw[hn k hk];have:=zc h hk;exact⟨this.n0,this.n1⟩
 ·rw[hl]at hk;rw[hn k hk];have:=zc h hk;exact⟨this.rg,Nat.le_trans (hb.slots k hk) jC⟩
 ·show m.heap.length<=1000;omega
 ·have hk:k<m.heap.length:=hk;show(nth m.heap k).length<=1000;have hof:=uG hk;have Vd:=vu m.heap (k+1);omega
theorem I9{p:ab}(h:nU p)(VD:∀k,k<p.aa.nodes.length->0<=nth p.fn k/\nth p.fn k<p.aa.ao.length){heap:UW}:∀(l:List gr) (a:List kf×UY),(∀c∈l,c.node.toNat<p.aa.nodes.length)->(∀x∈a.1,x.vars.length<=100000)->∀x∈(l.foldl (yb p heap) a).1,x.vars.length<=100000
 |[],a,_,h=>h
 |c::l,a,hv,hx=>by
  rw[List.foldl_cons];have YL:=xp h VD (hv c jE);obtain⟨v1,_⟩:=Bb heap c.slots _ (fL p c.node) a.2 rfl;refine I9 h VD l _ (fun w hw=>hv w (by simp[hw])) fun x Vx=>?_
  have Vx:x∈a.1++[_]:=Vx;rcases List.mem_append.1 Vx with Vx|Vx
  ·exact hx x Vx
  ·rw[List.mem_singleton]at Vx;subst Vx;show(ma heap c.slots (fL p c.node) a.2).1.length<=_;omega
def Tz{p:ab}(h:nU p)(VD:∀k,k<p.aa.nodes.length->0<=nth p.fn k/\nth p.fn k<p.aa.ao.length){s:iq}(ho:nM p s):(gy p s).calls.length<=1000/\∀c∈(gy p s).calls,c.vars.length<=100000:=by refine⟨by rw[show(gy p s).calls.length=s.calls.length from AQ p s.heap _ s.calls rfl];have:=ho.calls;omega,?_⟩;refine I9 h VD s.calls ([],[]) (fun c hc=>?_) (fun x hx=>by cases hx);obtain⟨k,hk,rfl⟩:=List.getElem_of_mem hc;rw[<-fA hk];exact(ho.node k hk).2
def Ke:fQ 0 []:=⟨fun _ _ _=>rfl,List.nodup_nil,fun i r h=>by cases h⟩
structure gj(b:aE):Prop where
 inl:b.ax.length<=100
 mB:b.base.length<=100
 pM:b.own.length<=100
 inr:∀x∈b.ax,bz x
 pJ:∀x∈b.base,bz x.v.n
 vH:∀x∈b.own,bz x.v.n
def gj.oZ{b:aE}(h:gj b):(gb b).length<=200:=by have:=h.mB;have:=h.pM;unfold gb;rw[vF];omega
def gj.nO{b:aE}(h:gj b):∀x∈gb b,bz x.v.n:=fun x hx=>by
 unfold gb at hx;rcases CU.1 hx with hx|hx
 ·exact h.pJ x hx
 ·exact h.vH x hx
def wI{b:aE}(h:gj b):aD prog 27 [.agg (cr b)] (aM bj 5 (gb b)):=by
 have hm:=LF b.base b.own (by have:=h.mB;omega) (by have:=h.pM;omega);refine cB func27 ntmps27 ?_
 (repeat' (first|refine ar fun K hK=>?_|refine av ?_|(refine hK _ _ ?_;clear hK K)|(refine au ?_ ?_<;>intro hc<;>try exact jz)|refine bx 3 ?_|refine cp (hm) ?_|refine aq ?_|exact jI|(clear hK K)))
 (refine bq [.tmp 2] ?_;try simp only[go_sem])
 rfl
section
variable {p:ab}(hp:po p)(Vy:gG p){F:UY->MV->MV}(hF:cU p (bQ p) F)
include hp Vy hF
theorem BU{b:aE}(h:gj b)(t:Int)(ht:bz t):aD prog 70 [.agg (cY p),.agg (cr b),rI t] (.agg (jS (atB p F b t))):=by
 have Yr:=wI h;obtain⟨k,EE,hmc,WZ,_,_⟩:=DQ hp hF (by have:=h.inl;omega) h.inr (rZ h.nO) Vy (by have:=h.oZ;omega) t ht;have key:af prog 70 [.agg (cY p),.agg (cr b),rI t] [] fun r l=>r=.agg (jS (atB p F b t))/\l=EE:=by
  unfold atB;generalize shotM p F b.ax (gb b) t=Sh at*;generalize badM p F b.ax (gb b) t=z at*;generalize gb b=A at*;have U9:=hmc.e2.low;refine aQ func70 ntmps70 ?_
  (have W:=U9;repeat' (first|refine ar fun K hK=>?_|refine av ?_|(with_reducible refine gR 1 ?_);refine dC 1 ([],[14],[16]) [] (bf 0 12) mixed ?_|(refine hK _ _ ?_;clear hK K)|(refine au ?_ ?_<;>intro hc<;>try exact jz)|refine bv 3 ?_|refine bv 4 ?_|refine cC 6 ?_|refine cq (Yr) ?_|(refine o8 (e:=[]) hmc (fun j _ h=>(h rfl).elim) ?_)|refine cT WZ ?_|refine aq ?_|exact jI|(clear hK K)))
  have h6:=U9 6 jC;exact eO (e:=[]) (B:=[]) rfl Ke hmc.e2 (tl:=[(3,.var 32 (cY p)),(4,.var 52 (cr b)),(6,.var 45 (jS Sh))]) (fun _=>rfl) (dB jC (dB jC (dB jC dO))) [.cell 6 45] (ho:=by simp(disch:=first|omega|assumption|fail) only[go_sem,↓reduceIte,h6];rfl) (hok:=by simp(disch:=first|omega|assumption|fail) only[go_sem,↓reduceIte,h6];first|done|decide|(repeat' (first|exact trivial|decide|(simp;done)|exact Nat.le_of_ble_eq_true rfl|refine jA ?_ ?_)))
 exact aD.zk key (.same _ rfl)
theorem qD{b:aE}(h:gj b)(t:Int)(ht:bz t):aD prog 26 [.agg (cY p),.agg (cr b),rI t] (.agg (ig (gy p (atB p F b t))))/\(gy p (atB p F b t)).aZ.length<=24/\(gy p (atB p F b t)).calls.length<=1000/\∀c∈(gy p (atB p F b t)).calls,c.vars.length<=100000:=by
 have VL:=BU hp Vy hF h t ht;obtain⟨k,EE,_,_,Y7,hbd⟩:=DQ hp hF (by have:=h.inl;omega) h.inr (rZ h.nO) Vy (by have:=h.oZ;omega) t ht;obtain⟨hso,hol⟩:=ML (C:=bQ p) Y7 hbd;obtain⟨v1,v2⟩:=Tz hp.ok.ok hp.fn hso;refine⟨?_,hol,v1,v2⟩;have Yf:=MO hp.ok hp.fn hso jB;change aD _ _ [_,.agg (jS (atB p F b t))] (.agg (ig (gy p (atB p F b t))))at Yf
 generalize atB p F b t=Sh at*;refine cB func26 ntmps26 ?_
 (repeat' (first|refine ar fun K hK=>?_|refine av ?_|(with_reducible refine gR 1 ?_);refine dC 1 ([],[11,12],[]) [] (bf 0 7) mixed ?_|(refine hK _ _ ?_;clear hK K)|(refine au ?_ ?_<;>intro hc<;>try exact jz)|refine bv 3 ?_|refine bv 4 ?_|refine cC 6 ?_|refine cq (VL) ?_|refine cq (Yf) ?_|refine aq ?_|exact jI|(clear hK K)))
 (refine bq [.cell 6 67] ?_;try simp only[go_sem])
theorem UJ{inp:UY}(V8:inp.length<=1000)(hi:∀x∈inp,bz x){E:List aw}(hE:∀x∈E,bz x.v.n)(hl:E.length<=1000):aD prog 100 [.agg (cY p),aM eI 1 inp,aM bj 5 E] (rI (badM p F inp E 200)):=by
 obtain⟨k,EE,hmc,WZ,_,_⟩:=DQ hp hF V8 hi (rZ hE) Vy hl 200 ⟨jC,jC⟩;have key:af prog 100 [.agg (cY p),aM eI 1 inp,aM bj 5 E] [] fun r l=>r=rI (badM p F inp E 200)/\l=EE:=by
  generalize badM p F inp E 200=z at*;have U9:=hmc.e2.low;refine aQ func100 ntmps100 ?_
  (have W:=U9;repeat' (first|refine ar fun K hK=>?_|refine av ?_|(refine hK _ _ ?_;clear hK K)|(refine au ?_ ?_<;>intro hc<;>try exact jz)|refine bv 3 ?_|(refine cT (e:=[]) hmc ?_)|refine aq ?_|exact jI|(clear hK K)))
  exact eO (e:=[]) (B:=[]) rfl Ke hmc.e2 (tl:=[(3,.var 32 (cY p))]) (fun _=>rfl) (dB jC dO) [.tmp 6]
 exact aD.zk key (.same _ rfl)
end
end Go.Proofs.YtjpcgmjaipfgdaaGreatDoor
namespace Go.Proofs.YtjpcgmjaipfgdaaGreatDoor
open Go Go.Gd Tryz
abbrev qS(s:U0):AV:=.raw (.string s)
abbrev qB(b:Bool):AV:=.raw (.bool b)
def MR(r:Nat)(hr:r<=1114111):aD prog 122 [.raw (.int .i32 (r:Int))] (qB (pP r)):=by
 have e:pP r=((decide ((r:Int)<97) || decide (122<(r:Int))) && (decide ((r:Int)<48) || decide (57<(r:Int)))):=by unfold pP pk;by_cases h1:(r:Int)<97<;>by_cases h2:122<(r:Int)<;>by_cases h3:(r:Int)<48<;>by_cases h4:57<(r:Int)<;>simp[h1,h2,h3,h4]<;>omega
 rw[e];by_cases h1:(r:Int)<97<;>by_cases h2:122<(r:Int)<;>by_cases h3:(r:Int)<48<;>by_cases h4:57<(r:Int)<;>(try omega)
 all_goals
  refine cB func122 ntmps122 ?_
  (have W:=jA h1 (jA h2 (jA h3 (h4)));repeat' (first|refine ar fun K hK=>?_|refine av ?_|(refine hK _ _ ?_;clear hK K)|(refine au ?_ ?_<;>intro hc<;>try exact jz)|refine aq ?_|exact jI|(clear hK K)))
  (refine bq [.tmp 2] ?_;try simp only[go_sem])
  simp[h1,h2,h3,h4]
def P9(s:U0):aD prog 123 [qS s,.raw (.func (.func 122) #[] #[])] (qB (!(s.data.toList.all fun b=>pk b.toNat))):=by
 rw[<-S4];refine Rc #[.string s,.func (.func 122) #[] #[]] _ ?_ (fun w=>.raw _) fun w hgl=>?_
 ·intro w vs h;obtain⟨x,y,rfl,h1,h2⟩:=Mx h;rw[di h1,di h2]
 ·refine Tryz.strings_ContainsFunc_grows _ #[] (fun args w=>jG) pP s w fun W x hx hb=>?_
  exact Us (fun g vs hm=>by obtain⟨⟨cur,el,fr,h1,h2⟩,_⟩:=hgl g vs hm;have D':=(Array.getElem?_eq_some_iff.1 h1).1;exact⟨⟨cur,el,fr,(hb.block g D').trans h1,h2⟩,fun h=>h⟩) (MR x hx) (td (.raw _))
def Hz(s:U0):aD prog 67 [qS s] (qB (nP s)):=by
 have hcf:=P9 s;generalize hA:(s.data.toList.all fun b=>pk b.toNat)=A at hcf;have e:nP s=(decide (1<=(s.size:Int)) && decide ((s.size:Int)<=8) && A):=by
  unfold nP;rw[hA];congr 2
  ·simp;omega
  ·simp;omega
 rw[e];clear hA e;cases A<;>by_cases h1:1<=(s.size:Int)<;>by_cases h2:(s.size:Int)<=8<;>(try omega);all_goals
  refine cB func67 ntmps67 ?_
  (have W:=jA h1 h2;repeat' (first|refine ar fun K hK=>?_|refine av ?_|(refine hK _ _ ?_;clear hK K)|(refine au ?_ ?_<;>intro hc<;>try exact jz)|refine cq (hcf) ?_|refine⟨qB true,?_⟩|refine aq ?_|exact jI|(clear hK K)))
  (refine bq [.tmp 2] ?_;try simp only[go_sem])
  try simp[h1,h2]
end Go.Proofs.YtjpcgmjaipfgdaaGreatDoor
namespace Go.Proofs.YtjpcgmjaipfgdaaGreatDoor
open Go Go.Gd Tryz Go.Gd.MV
@[go_sem] def qfm:(∀(b:aE) (v:UY),List.take 1 (cr b)++[aM eI 1 v]++List.drop 2 (cr b)=cr { b with ax:=v })/\(∀(b:aE) (v:List aw),List.take 2 (cr b)++[aM bj 5 v]++List.drop 3 (cr b)=cr { b with base:=v })/\(∀(b:aE) (v:List aw),List.take 3 (cr b)++[aM bj 5 v]++List.drop 4 (cr b)=cr { b with own:=v })/\(∀(b:aE),(List.take 1 (cr b)).length=1)/\(∀(b:aE),(List.take 2 (cr b)).length=2)/\(∀(b c:aE),cr b++List.drop 4 (cr c)=cr b):=by and_intros<;>(intros;rfl)
def BS(l:UY)(hl:l.length<=1000):aD prog 55 [aM eI 1 l] (aM eI 1 l):=aD.zk (yF l hl 1) (db.row l rfl rfl rfl)
def wQ(l:List aw)(hl:l.length<=1000):aD prog 56 [aM bj 5 l] (aM bj 5 l):=aD.zk (Dj l hl 1) (db.row l rfl rfl rfl)
def nB{D:U5}{H:Hp}:db D H (.agg [.raw (.string ⟨#[]⟩),.raw (.slice none 0 0),.raw (.slice none 0 0),.raw (.slice none 0 0)]) (.agg (cr bZ)):=bD.agg (ds:=cr bZ) ⟨.same _ rfl,db.nil _ _,db.nil _ _,db.nil _ _,trivial⟩
def Uu{b:aE}(h:gj b):aD prog 75 [.agg (cr b)] (.agg (cr b)):=by
 have h1:=BS b.ax (by have:=h.inl;omega);have h2:=wQ b.base (by have:=h.mB;omega);have h3:=wQ b.own (by have:=h.pM;omega);refine cB func75 ntmps75 ?_
 (repeat' (first|refine ar fun K hK=>?_|refine av ?_|(with_reducible refine gR 1 ?_);refine dC 1 ([],[5,8,11],[]) [] (bf 0 15) mixed ?_|(refine hK _ _ ?_;clear hK K)|(refine au ?_ ?_<;>intro hc<;>try exact jz)|refine bv 3 ?_|refine cC 4 ?_|refine cq (h1) ?_|refine cq (h2) ?_|refine cq (h3) ?_|refine aq ?_|exact jI|(clear hK K)))
 (refine bq [.cell 2 52] ?_;try simp only[go_sem])
section
variable {p:ab}(hp:po p)(Vy:gG p){F:UY->MV->MV}(hF:cU p (bQ p) F)
include hp Vy hF
theorem KK{b:aE}(h:gj b):aD prog 84 [.agg (cY p),.agg (cr b)] (rI (badB p F b)):=by
 have h1:=wI h;have h2:=UJ hp Vy hF (inp:=b.ax) (by have:=h.inl;omega) h.inr h.nO (by have:=h.oZ;omega);change aD _ _ _ (rI (badB p F b))at h2
 generalize badB p F b=z at*;refine cB func84 ntmps84 ?_
 (repeat' (first|refine ar fun K hK=>?_|refine av ?_|(with_reducible refine gR 1 ?_);refine dC 1 ([],[9,10],[]) [] (bf 0 7) mixed ?_|(refine hK _ _ ?_;clear hK K)|(refine au ?_ ?_<;>intro hc<;>try exact jz)|refine bv 2 ?_|refine bv 3 ?_|refine cq (h1) ?_|refine cq (h2) ?_|refine aq ?_|exact jI|(clear hK K)))
 (refine bq [.tmp 4] ?_;try simp only[go_sem])
theorem Kw{b:aE}(h:gj b):aD prog 71 [.agg (cY p),.agg (cr b)] (.ba [.agg (cr (fineB p F b).1),rI (fineB p F b).2]):=by
 have h1:=KK hp Vy hF h;unfold fineB;generalize badB p F b=z at*;by_cases hz:z=0
 ·rw[if_neg (fun h=>h hz)];refine cB func71 ntmps71 ?_
  (have W:=hz;repeat' (first|refine ar fun K hK=>?_|refine av ?_|(refine hK _ _ ?_;clear hK K)|(refine au ?_ ?_<;>intro hc<;>try exact jz)|refine bv 2 ?_|refine bv 3 ?_|refine cC 4 ?_|refine cp (h1) ?_|refine aq ?_|exact jI|(clear hK K)))
  (refine bq [.cell 4 52,.tmp 5] ?_;try simp only[go_sem])
 ·rw[if_pos hz];refine cB func71 ntmps71 ?_
  (have W:=hz;repeat' (first|refine ar fun K hK=>?_|refine av ?_|(refine hK _ _ ?_;clear hK K)|(refine au ?_ ?_<;>intro hc<;>try exact jz)|refine bv 2 ?_|refine bv 3 ?_|refine cC 4 ?_|refine cp (h1) ?_|refine aq ?_|exact jI|(clear hK K)))
  refine fy [.cell 4 52,.tmp 5] ?_;exact bD.ba (ds:=[.agg (cr bZ),rI 65]) ⟨nB,.same _ rfl,trivial⟩
end
def TS{b:aE}(h:gj b):af prog 75 [.agg (cr b)] [] (fun r l=>r=.agg [rS b.name,.rs 2 b.ax.length 1 b.ax.length,aM bj 5 b.base,aM bj 5 b.own]/\l=[(2,.aJ 3 1 (b.ax.map eI))]):=by
 have h1:=yF b.ax (by have:=h.inl;omega) 2;have h2:=wQ b.base (by have:=h.mB;omega);have h3:=wQ b.own (by have:=h.pM;omega);obtain⟨nm,inp,base,own⟩:=b;simp only[cr];refine aQ func75 ntmps75 ?_
 (repeat' (first|refine ar fun K hK=>?_|refine av ?_|(with_reducible refine gR 1 ?_);refine dC 1 ([],[8,11],[5]) [] [0,1,3,4,6,7,2,5,8,9,10,11,12,13,14] mixed ?_|(refine hK _ _ ?_;clear hK K)|(refine au ?_ ?_<;>intro hc<;>try exact jz)|refine bv 4 ?_|refine cC 5 ?_|refine cN h1 ?_|refine cq (h2) ?_|refine cq (h3) ?_|refine aq ?_|exact jI|(clear hK K)))
 refine Sj [.cell 2 52] ?_ ?_ ?_ ?_
 ·rfl
 ·simp only[iV,go_sem];decide
 ·rfl
 ·rfl
section
variable {p:ab}(hp:po p)(Vy:gG p){F:UY->MV->MV}(hF:cU p (bQ p) F)
variable{b:aE}{x:aw}
def gj.early(h:gj b)(t:Int)(ht:(dh (gb b) t).length<=100)(nm:U0)(hx:bz x.v.n):gj ⟨nm,b.ax,dh (gb b) t,[x]⟩:=
 ⟨h.inl,ht,by show 1<=100;decide,h.inr,fun y hy=>h.nO y (vm hy).1,fun y hy=>by rw[List.mem_singleton.1 hy];exact hx⟩
def gj.ins(h:gj b)(hl:b.own.length<100)(hx:bz x.v.n):gj { b with own:=hZ x b.own }:=
 ⟨h.inl,h.mB,by show(hZ x b.own).length<=100;rw[Go.Gd.j5];omega,h.inr,h.pJ,fun y hy=>by
  rcases yg.1 hy with rfl|hy
  ·exact hx
  ·exact h.vH y hy⟩
def Su(l:List aw)(x:aw)(h1:l.length<=500):aD prog 76 [aM bj 5 l,.sl true 5 [bj x] []] (aM bj 5 (hZ x l)):=sC (G9 l [x] h1 jE) ⟨.refl _,.lit 5 [bj x] _ _,trivial⟩
include hp Vy hF
theorem Uq{nm:U0}{inp:UY}{base:List aw}(h:gj ⟨nm,inp,base,[x]⟩):aD prog 71 [.agg (cY p),.agg [rS nm,aM eI 1 inp,aM bj 5 base,.sl true 5 [bj x] []]] (.ba [.agg (cr (fineB p F ⟨nm,inp,base,[x]⟩).1),rI (fineB p F ⟨nm,inp,base,[x]⟩).2]):=sC (Kw hp Vy hF h) ⟨.refl _,AN ⟨.refl _,.refl _,.refl _,.lit 5 [bj x] _ _,trivial⟩,trivial⟩
theorem A6(h:gj b)(nm:U0)(hx:bz x.v.n)(hxa:bz x.at_):aD prog 24 [.agg (cY p),.agg (cr b),rS nm,.agg (bj x)] (.ba [.agg (cr (forkB p F (nP nm) b nm x).1),rI (forkB p F (nP nm) b nm x).2]):=by
 have h0:=Hz nm;have h1:=Ff x;have h2:=wI h;have h3:=KO (gb b) x.at_ (by have:=h.oZ;omega);have h4:=BU hp Vy hF h x.at_ hxa;have h5:=BS b.ax (by have:=h.inl;omega);have O':=yv (gb b) x.at_;have Ve:=h.oZ;have h6:=fun hl=>Uq hp Vy hF (h.early x.at_ hl nm hx)
 unfold forkB;generalize nP nm=ok at*;generalize oi x=my at*;generalize atB p F b x.at_=Sh at*;generalize gb b=A at*;generalize dh A x.at_=U at*;generalize hfb:fineB p F ⟨nm,b.ax,U,[x]⟩=fb at*;have hq:(ok=false/\True)\/(ok=true/\my=false)\/(ok=true/\my=true):=by cases ok<;>cases my<;>simp
 rcases hq with⟨q1,q2⟩|⟨q1,q2⟩|⟨q1,q2⟩
 ·rw[if_pos (.inl q1)];rw[q1]at h0;refine cB func24 ntmps24 ?_
  (repeat' (first|refine ar fun K hK=>?_|refine av ?_|(refine hK _ _ ?_;clear hK K)|(refine au ?_ ?_<;>intro hc<;>try exact jz)|refine bv 4 ?_|refine bv 5 ?_|refine bv 7 ?_|refine cC 8 ?_|refine cp (h0) ?_|refine⟨rB true,?_⟩|refine aq ?_|exact jI|(clear hK K)))
  refine fy [.cell 8 52,.tmp 9] ?_;exact bD.ba (ds:=[.agg (cr bZ),rI 1]) ⟨nB,.same _ rfl,trivial⟩
 ·rw[if_pos (.inr q2)];rw[q1]at h0;rw[q2]at h1;refine cB func24 ntmps24 ?_
  (repeat' (first|refine ar fun K hK=>?_|refine av ?_|(refine hK _ _ ?_;clear hK K)|(refine au ?_ ?_<;>intro hc<;>try exact jz)|refine bv 4 ?_|refine bv 5 ?_|refine bv 7 ?_|refine cC 8 ?_|refine cp (h0) ?_|refine cq (h1) ?_|refine aq ?_|exact jI|(clear hK K)))
  refine fy [.cell 8 52,.tmp 9] ?_;exact bD.ba (ds:=[.agg (cr bZ),rI 1]) ⟨nB,.same _ rfl,trivial⟩
 rw[if_neg (by rw[q1,q2];simp)];rw[q1]at h0;rw[q2]at h1;by_cases ht:Sh.time<x.at_
 ·rw[if_pos ht];refine cB func24 ntmps24 ?_
  (have W:=ht;repeat' (first|refine ar fun K hK=>?_|refine av ?_|(with_reducible refine gR 3 ?_);refine dC 3 ([],[21,24],[]) [] (bf 0 6) mixed ?_|(with_reducible refine gR 4 ?_);refine dC 4 ([],[30],[]) [] (bf 0 10) mixed ?_|(refine hK _ _ ?_;clear hK K)|(refine au ?_ ?_<;>intro hc<;>try exact jz)|refine bv 4 ?_|refine bv 5 ?_|refine bv 7 ?_|refine cC 8 ?_|refine cp (h0) ?_|refine cq (h1) ?_|refine cq (h2) ?_|refine cq (h3) ?_|refine cq (h4) ?_|refine aq ?_|exact jI|(clear hK K)))
  refine fy [.cell 8 52,.tmp 9] ?_;exact bD.ba (ds:=[.agg (cr bZ),rI 63]) ⟨nB,.same _ rfl,trivial⟩
 rw[if_neg ht];by_cases hu:8<=U.length
 ·rw[if_pos hu];have huI:(U.length:Int) >= 8:=jB;refine cB func24 ntmps24 ?_
  (have W:=jA ht huI;repeat' (first|refine ar fun K hK=>?_|refine av ?_|(with_reducible refine gR 3 ?_);refine dC 3 ([],[21,24],[]) [] (bf 0 6) mixed ?_|(with_reducible refine gR 4 ?_);refine dC 4 ([],[30],[]) [] (bf 0 10) mixed ?_|(refine hK _ _ ?_;clear hK K)|(refine au ?_ ?_<;>intro hc<;>try exact jz)|refine bv 4 ?_|refine bv 5 ?_|refine bv 7 ?_|refine cC 8 ?_|refine cp (h0) ?_|refine cq (h1) ?_|refine cq (h2) ?_|refine cq (h3) ?_|refine cq (h4) ?_|refine aq ?_|exact jI|(clear hK K)))
  refine fy [.cell 8 52,.tmp 9] ?_;exact bD.ba (ds:=[.agg (cr bZ),rI 62]) ⟨nB,.same _ rfl,trivial⟩
 ·rw[if_neg hu];have huI:¬(U.length:Int) >= 8:=jB;have h6:=h6 jB;refine cB func24 ntmps24 ?_
  (have W:=jA ht huI;repeat' (first|refine ar fun K hK=>?_|refine av ?_|(with_reducible refine gR 3 ?_);refine dC 3 ([],[21,24],[]) [] (bf 0 6) mixed ?_|(with_reducible refine gR 4 ?_);refine dC 4 ([],[30],[]) [] (bf 0 10) mixed ?_|(with_reducible refine gR 8 ?_);refine dC 8 ([],[45,50],[]) [] (bf 0 14) mixed ?_|(refine hK _ _ ?_;clear hK K)|(refine au ?_ ?_<;>intro hc<;>try exact jz)|refine bv 4 ?_|refine bv 5 ?_|refine bv 7 ?_|refine cC 8 ?_|refine cp (h0) ?_|refine cq (h1) ?_|refine cq (h2) ?_|refine cq (h3) ?_|refine cq (h4) ?_|refine cq (h5) ?_|refine cq (h6) ?_|refine aq ?_|exact jI|(clear hK K)))
  (refine bq [.cell 8 52,.tmp 9] ?_;try simp only[go_sem])
theorem IC(h:gj b)(nm:U0)(t n:Int)(ht:bz t):aD prog 28 [.agg (cY p),.agg (cr b),rS nm,rI t,rI n] (.ba [.agg (cr (inputB p F (nP nm) b nm t n).1),rI (inputB p F (nP nm) b nm t n).2]):=by
 have h0:=Hz nm;have h2:=wI h;have h3:=KO (gb b) t (by have:=h.oZ;omega);have h4:=BU hp Vy hF h t ht;have ZB:=(zP hp.ok hF h.inr h.nO t).1;have XQ:0<=(atB p F b t).in_:=ZB.i0;have Xx:(atB p F b t).in_<=b.ax.length:=ZB.i1;have Wz:=h.inl;unfold inputB;generalize nP nm=ok at*;generalize atB p F b t=Sh at*;generalize gb b=A at*;generalize dh A t=U at*;obtain⟨q,hq⟩:∃q:Nat,Sh.in_=(q:Int):=⟨Sh.in_.toNat,jB⟩;have h5:=yF (b.ax.take q) (by rw[List.length_take];omega) 2;have Zt:(b.ax.take q).length=q:=by rw[List.length_take];omega
 rw[Zt]at h5;have hqb:q<=b.ax.length:=jB;have hqI:(q:Int)<=(b.ax.length:Int):=jB;have VM:(ok=false/\True/\True)\/(ok=true/\t<0/\True)\/(ok=true/\¬t<0/\200<t)\/(ok=true/\¬t<0/\¬200<t):=by
  cases ok
  ·exact .inl ⟨rfl,trivial,trivial⟩
  ·by_cases a:t<0
   ·exact .inr (.inl ⟨rfl,a,trivial⟩)
   ·by_cases c:200<t
    ·exact .inr (.inr (.inl ⟨rfl,a,c⟩))
    ·exact .inr (.inr (.inr ⟨rfl,a,c⟩))
 rcases VM with⟨q1,q2,q3⟩|⟨q1,q2,q3⟩|⟨q1,q2,q3⟩|⟨q1,q2,q3⟩
 ·rw[if_pos (.inl q1)];rw[q1]at h0;refine cB func28 ntmps28 ?_
  (repeat' (first|refine ar fun K hK=>?_|refine av ?_|(refine hK _ _ ?_;clear hK K)|(refine au ?_ ?_<;>intro hc<;>try exact jz)|refine bv 5 ?_|refine bv 6 ?_|refine cC 10 ?_|refine cp (h0) ?_|refine aq ?_|exact jI|(clear hK K)))
  refine fy [.cell 10 52,.tmp 11] ?_;exact bD.ba (ds:=[.agg (cr bZ),rI 1]) ⟨nB,.same _ rfl,trivial⟩
 ·rw[if_pos (.inr (.inl q2))];rw[q1]at h0;refine cB func28 ntmps28 ?_
  (have W:=q2;repeat' (first|refine ar fun K hK=>?_|refine av ?_|(refine hK _ _ ?_;clear hK K)|(refine au ?_ ?_<;>intro hc<;>try exact jz)|refine bv 5 ?_|refine bv 6 ?_|refine cC 10 ?_|refine cp (h0) ?_|refine aq ?_|exact jI|(clear hK K)))
  refine fy [.cell 10 52,.tmp 11] ?_;exact bD.ba (ds:=[.agg (cr bZ),rI 1]) ⟨nB,.same _ rfl,trivial⟩
 ·rw[if_pos (.inr (.inr q3))];rw[q1]at h0;refine cB func28 ntmps28 ?_
  (have W:=jA q2 q3;repeat' (first|refine ar fun K hK=>?_|refine av ?_|(refine hK _ _ ?_;clear hK K)|(refine au ?_ ?_<;>intro hc<;>try exact jz)|refine bv 5 ?_|refine bv 6 ?_|refine cC 10 ?_|refine cp (h0) ?_|refine aq ?_|exact jI|(clear hK K)))
  refine fy [.cell 10 52,.tmp 11] ?_;exact bD.ba (ds:=[.agg (cr bZ),rI 1]) ⟨nB,.same _ rfl,trivial⟩
 rw[if_neg (by rw[q1];simp;omega)];rw[q1]at h0;by_cases c1:Sh.time<t
 ·rw[if_pos c1];refine cB func28 ntmps28 ?_
  (have W:=jA q2 (jA q3 (c1));repeat' (first|refine ar fun K hK=>?_|refine av ?_|(refine hK _ _ ?_;clear hK K)|(refine au ?_ ?_<;>intro hc<;>try exact jz)|refine bv 5 ?_|refine bv 6 ?_|refine cC 10 ?_|refine cC 12 ?_|refine cp (h0) ?_|refine cp (h4) ?_|refine aq ?_|exact jI|(clear hK K)))
  refine fy [.cell 10 52,.tmp 11] ?_;exact bD.ba (ds:=[.agg (cr bZ),rI 63]) ⟨nB,.same _ rfl,trivial⟩
 rw[if_neg c1];by_cases c2:16<=Sh.in_
 ·rw[if_pos c2];have c2':Sh.in_ >= 16:=c2;refine cB func28 ntmps28 ?_
  (have W:=jA q2 (jA q3 (jA c1 (c2')));repeat' (first|refine ar fun K hK=>?_|refine av ?_|(refine hK _ _ ?_;clear hK K)|(refine au ?_ ?_<;>intro hc<;>try exact jz)|refine bv 5 ?_|refine bv 6 ?_|refine cC 10 ?_|refine cC 12 ?_|refine cp (h0) ?_|refine cp (h4) ?_|refine aq ?_|exact jI|(clear hK K)))
  refine fy [.cell 10 52,.tmp 11] ?_;exact bD.ba (ds:=[.agg (cr bZ),rI 62]) ⟨nB,.same _ rfl,trivial⟩
 ·rw[if_neg c2];have c2':¬(q:Int) >= 16:=jB;rw[hq,Int.toNat_natCast];refine cB func28 ntmps28 ?_
  (have W:=jA q2 (jA q3 (jA c1 (jA hq (jA c2' (hqI)))));repeat' (first|refine ar fun K hK=>?_|refine av ?_|(refine hK _ _ ?_;clear hK K)|(refine au ?_ ?_<;>intro hc<;>try exact jz)|refine bv 5 ?_|refine bv 6 ?_|refine cC 10 ?_|refine cC 12 ?_|refine cp (h0) ?_|refine cp (h2) ?_|refine cp (h3) ?_|refine cm (h5) ?_|refine cp (h4) ?_|refine aq ?_|exact jI|(clear hK K)))
  refine fy [.cell 10 52,.tmp 11] ?_;exact bD.ba (ds:=[.agg (cr ⟨nm,b.ax.take q++[n],U,[]⟩),rI 0]) ⟨bD.agg (ds:=cr ⟨nm,b.ax.take q++[n],U,[]⟩) ⟨.same _ rfl,db.row (b.ax.take q++[n]) rfl (by rw[List.map_append];rfl) (by rw[List.length_append,Zt];rfl),.same _ rfl,db.nil _ _,trivial⟩,.same _ rfl,trivial⟩
theorem II(h:gj b)(hx:bz x.v.n):aD prog 29 [.agg (cY p),.agg (cr b),.agg (bj x)] (.ba [.agg (cr (addB p F b x).1),rI (addB p F b x).2]):=by
 have h1:=Ff x;have h2:=Uu h;have hba:=h.mB;have how:=h.pM;have h3:=Su b.own x (by have:=h.pM;omega);have h4:=fun hl=>Kw hp Vy hF (h.ins hl hx)
 unfold addB;generalize oi x=my at*;generalize hfb:fineB p F { b with own:=hZ x b.own }=fb at*;cases my
 ·rw[if_pos rfl];refine cB func29 ntmps29 ?_
  (repeat' (first|refine ar fun K hK=>?_|refine av ?_|(refine hK _ _ ?_;clear hK K)|(refine au ?_ ?_<;>intro hc<;>try exact jz)|refine bv 4 ?_|refine bv 5 ?_|refine bv 7 ?_|refine cC 8 ?_|refine cp (h1) ?_|refine aq ?_|exact jI|(clear hK K)))
  refine fy [.cell 6 52,.tmp 7] ?_;exact bD.ba (ds:=[.agg (cr bZ),rI 1]) ⟨nB,.same _ rfl,trivial⟩
 rw[if_neg jE];by_cases c:8<=b.base.length+b.own.length
 ·rw[if_pos c];have c':(b.base.length:Int)+b.own.length >= 8:=jB;refine cB func29 ntmps29 ?_
  (have W:=c';repeat' (first|refine ar fun K hK=>?_|refine av ?_|(refine hK _ _ ?_;clear hK K)|(refine au ?_ ?_<;>intro hc<;>try exact jz)|refine bv 4 ?_|refine bv 5 ?_|refine bv 7 ?_|refine cC 8 ?_|refine cp (h1) ?_|refine aq ?_|exact jI|(clear hK K)))
  refine fy [.cell 6 52,.tmp 7] ?_;exact bD.ba (ds:=[.agg (cr bZ),rI 62]) ⟨nB,.same _ rfl,trivial⟩
 ·rw[if_neg c];have c':¬(b.base.length:Int)+b.own.length >= 8:=jB;have h4:=h4 jB;refine cB func29 ntmps29 ?_
  (have W:=c';repeat' (first|refine ar fun K hK=>?_|refine av ?_|(refine hK _ _ ?_;clear hK K)|(refine au ?_ ?_<;>intro hc<;>try exact jz)|refine bv 4 ?_|refine bv 5 ?_|refine bv 7 ?_|refine cC 8 ?_|refine cp (h1) ?_|refine cp (h2) ?_|refine cp (h3) ?_|refine cp (h4) ?_|refine aq ?_|exact jI|(clear hK K)))
  (refine bq [.cell 6 52,.tmp 7] ?_;try simp only[go_sem])
omit hp Vy hF in
theorem Uv(h:gj b)(n:Int):aD prog 35 [.agg (cr b),rI n] (.ba [.agg (cr (uq b n).1),rI (uq b n).2]):=by
 have h2:=TS h;have Wz:=h.inl;unfold uq;by_cases c:16<=b.ax.length
 ·rw[if_pos c];have c':(b.ax.length:Int) >= 16:=jB;refine cB func35 ntmps35 ?_
  (have W:=c';repeat' (first|refine ar fun K hK=>?_|refine av ?_|(refine hK _ _ ?_;clear hK K)|(refine au ?_ ?_<;>intro hc<;>try exact jz)|refine bv 4 ?_|refine cC 5 ?_|refine aq ?_|exact jI|(clear hK K)))
  refine fy [.cell 4 52,.tmp 5] ?_;exact bD.ba (ds:=[.agg (cr bZ),rI 62]) ⟨nB,.same _ rfl,trivial⟩
 ·rw[if_neg c];have c':¬(b.ax.length:Int) >= 16:=jB;obtain⟨nm,inp,base,own⟩:=b;have c':¬(inp.length:Int) >= 16:=c';have Wz:inp.length<=100:=Wz;simp only[cr]at h2 ⊢;refine cB func35 ntmps35 ?_
  (have W:=c';repeat' (first|refine ar fun K hK=>?_|refine av ?_|(refine hK _ _ ?_;clear hK K)|(refine au ?_ ?_<;>intro hc<;>try exact jz)|refine bv 4 ?_|refine cC 5 ?_|refine cm (h2) ?_|refine aq ?_|exact jI|(clear hK K)))
  refine fy [.cell 4 52,.tmp 5] ?_;exact bD.ba (ds:=[.agg (cr ⟨nm,inp++[n],base,own⟩),rI 0]) ⟨bD.agg (ds:=cr ⟨nm,inp++[n],base,own⟩) ⟨.same _ rfl,db.row (inp++[n]) rfl (by rw[List.map_append];rfl) (by rw[List.length_append];rfl),.same _ rfl,.same _ rfl,trivial⟩,.same _ rfl,trivial⟩
omit hp Vy hF in
theorem gj.lO{a o:aE}(ha:gj a)(ho:gj o)(hl:(gb o).length<=100):gj ⟨a.name,o.ax,gb o,a.own⟩:=⟨ho.inl,hl,ha.pM,ho.inr,ho.nO,ha.vH⟩
theorem Ey{a o:aE}(ha:gj a)(ho:gj o)(hl:(gb o).length<=100):aD prog 36 [.agg (cY p),.agg (cr a),.agg (cr o)] (.ba [.agg (cr (rebaseB p F a o).1),rI (rebaseB p F a o).2.1,rI (rebaseB p F a o).2.2]):=by
 have h1:=BS o.ax (by have:=ho.inl;omega);have h2:=wI ho;have h3:=wQ a.own (by have:=ha.pM;omega);have h4:=KK hp Vy hF (ha.lO ho hl);have how:=ha.pM;unfold rebaseB;generalize hz:badB p F ⟨a.name,o.ax,gb o,a.own⟩=z at*;clear hz;generalize gb o=A at*;by_cases c:8<A.length+a.own.length
 ·rw[if_pos c];have c':(A.length:Int)+a.own.length>8:=jB;refine cB func36 ntmps36 ?_
  (have W:=c';repeat' (first|refine ar fun K hK=>?_|refine av ?_|(with_reducible refine gR 1 ?_);refine dC 1 ([],[],[15,17,20]) [11] [0,1,2,3,5,7,8,4,6,9,10,11,12] mixed ?_|(refine hK _ _ ?_;clear hK K)|(refine au ?_ ?_<;>intro hc<;>try exact jz)|refine bv 4 ?_|refine bv 5 ?_|refine bv 6 ?_|refine cC 7 ?_|refine cC 8 ?_|refine cN h1 ?_|refine cN h2 ?_|refine cN h3 ?_|refine aq ?_|exact jI|(clear hK K)))
  refine fy [.cell 6 52,.tmp 7,.tmp 8] ?_;exact bD.ba (ds:=[.agg (cr bZ),rI 0,rI 62]) ⟨nB,.same _ rfl,.same _ rfl,trivial⟩
 rw[if_neg c];have c':¬(A.length:Int)+a.own.length>8:=jB;by_cases d:z=0
 ·rw[if_neg (fun h=>h d)];refine cB func36 ntmps36 ?_
  (have W:=jA c' d;repeat' (first|refine ar fun K hK=>?_|refine av ?_|(with_reducible refine gR 1 ?_);refine dC 1 ([],[],[15,17,20]) [11] [0,1,2,3,5,7,8,4,6,9,10,11,12] mixed ?_|(refine hK _ _ ?_;clear hK K)|(refine au ?_ ?_<;>intro hc<;>try exact jz)|refine bv 4 ?_|refine bv 5 ?_|refine bv 6 ?_|refine cC 7 ?_|refine cC 8 ?_|refine cp (h4) ?_|refine cN h1 ?_|refine cN h2 ?_|refine cN h3 ?_|refine aq ?_|exact jI|(clear hK K)))
  (refine bq [.cell 6 52,.tmp 7,.tmp 8] ?_;try simp only[go_sem])
  rfl
 ·rw[if_pos d];refine cB func36 ntmps36 ?_
  (have W:=jA c' d;repeat' (first|refine ar fun K hK=>?_|refine av ?_|(with_reducible refine gR 1 ?_);refine dC 1 ([],[],[15,17,20]) [11] [0,1,2,3,5,7,8,4,6,9,10,11,12] mixed ?_|(refine hK _ _ ?_;clear hK K)|(refine au ?_ ?_<;>intro hc<;>try exact jz)|refine bv 4 ?_|refine bv 5 ?_|refine bv 6 ?_|refine cC 7 ?_|refine cC 8 ?_|refine cp (h4) ?_|refine cN h1 ?_|refine cN h2 ?_|refine cN h3 ?_|refine aq ?_|exact jI|(clear hK K)))
  refine fy [.cell 6 52,.tmp 7,.tmp 8] ?_;exact bD.ba (ds:=[.agg (cr bZ),rI z,rI 65]) ⟨nB,.same _ rfl,.same _ rfl,trivial⟩
end
end Go.Proofs.YtjpcgmjaipfgdaaGreatDoor
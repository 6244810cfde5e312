/- Lemmas. No conditions. -/
import Derived.Test.YtjpcgmjaipfgdaaGreatDoorTmC
set_option linter.all false
set_option maxHeartbeats 4000000
set_option maxRecDepth 10000
namespace Go.Gd
open Go
def k6(p:af):TE:=[aO eF 5 p.aa.nodes,aO fV 5 p.aa.aw,aO eI 1 p.types,aO eI 1 p.slots,aO eI 1 p.fn,aO eI 1 p.size]
attribute [go_sem] k6
def LL(p:af):aX eo (k6 p)=true:=rfl
def SF(p:af):cd p=k6 p:=rfl
section
variable {σ:Type}{tm:σ->Int}{st:σ->σ}{se:σ->TI->aj->Option σ}{E:List aD}{I:σ->Prop}{t:Int}
variable{n:Nat}{s:σ}
def wa{k:Nat}{b:Bool}(h:b=true\/E.length<=k):eW tm se E n s k b=(s,k,b):=by
 cases n with
 |zero=>rfl
 |succ n=>
  unfold eW;rw[if_neg];rintro⟨a,c,_⟩;rcases h with h|h
  ·rw[a]at h;cases h
  ·omega
def Mj{k:Nat}{b:Bool}(h:k<E.length->(nth E k).at_≠tm s):eW tm se E n s k b=(s,k,b):=by
 cases n with
 |zero=>rfl
 |succ n=> unfold eW;rw[if_neg];rintro⟨a,c,d⟩;exact h c d
def Nz{k:Nat}(h:k<E.length)(ha:(nth E k).at_=tm s)(e:se s (nth E k).name (nth E k).v=none):eW tm se E (n+1) s k false=(s,k,true):=by unfold eW;rw[if_pos ⟨rfl,h,ha⟩,e]
def LM{s':σ}{k:Nat}(h:k<E.length)(ha:(nth E k).at_=tm s)(e:se s (nth E k).name (nth E k).v=some s'):eW tm se E (n+1) s k false=eW tm se E n s' (k+1) false:=by
 conv=>lhs;unfold eW
 rw[if_pos ⟨rfl,h,ha⟩,e]
theorem DR:∀(n m:Nat) (s:σ) (k:Nat) (b:Bool),E.length<n+k->E.length<m+k->eW tm se E n s k b=eW tm se E m s k b
 |0,m,s,k,b,h1,_=>by rw[wa (n:=0) (.inr (by omega)),wa (.inr (by omega))]
 |n,0,s,k,b,_,h2=>by rw[wa (n:=0) (.inr jB),wa (.inr jB)]
 |n+1,m+1,s,k,b,h1,h2=>by
  unfold eW;split
  ·split
   ·exact DR n m _ (k+1) false jB jB
   ·rfl
  ·rfl
end
def Oe{P:TO}{f:FuncId}{args:TE}{B:TH}{L e l tl:TD}{K:TB}{r0:AV}(hd:cU P f args e r0 l)(hp:∀i,aA L i=aA (tie e tl) i)(k:K r0 ⟨B,tie l tl⟩)(hl:nW 0 tl:=by(repeat' first|exact dD|(refine dm (by decide) ?_)|fail))(h0:aU P f=true:=by exact dv):fa P (.raw (.func (.func f) #[] #[])) args ⟨B,L⟩ K:=by
 refine nQ h0 (MJ hp (zZ (E:=fun tl=>e++tl) (E':=fun tl=>l++tl) ?_ (hd.e1.bv hl) (hd.e2.bv hl) ?_ ?_ ?_ k ?_))
 ·simp only[List.append_nil];exact hd.c
 ·simp only[List.append_nil];exact hd.e2.nodup
 ·simp only[List.append_nil];exact hd.a
 ·simp only[List.append_nil];exact hd.e1.closed
 ·simp only[List.append_nil];exact hd.aZ
end Go.Gd
namespace Go.Proofs.YtjpcgmjaipfgdaaGreatDoor
open Go Go.Gd Tryz
end Go.Proofs.YtjpcgmjaipfgdaaGreatDoor
namespace Go.Proofs.YtjpcgmjaipfgdaaGreatDoor
open Go Go.Gd Tryz Go.Gd.MV
section
variable {p:af}{inp:TG}{k:Nat}{e:TD}(hE:fI 0 e)(hg:aA e (hn 10 0)=some (.var 283 (k6 p++[.pt (hn 3 k) 0 0 0,aO eI 1 inp])))
include hE hg
theorem LC{Sh:kV}(Vg:cU prog 63 [.pt (hn 3 k) 0 0 0] e (.agg (lI Sh)) e):cU prog 311 [.pt (hn 10 0) 0 0 0] e (rI Sh.time) e:=by
 have Tu:=hE.low;refine⟨?_,hE,hE,fun _ h=>h,by simp only[aX,AV.all,fW hg,Bool.and_self]⟩;refine aM (L:=ids e) func311 ntmps311 ?_ (hL:=rfl);generalize hB:ids e=B;refine eO ?_
 (have W:=jA Tu hg;repeat' (first|refine aq fun K hK=>?_|refine ap ?_|(refine hK _ _ ?_;clear hK K)|(refine ao ?_ ?_<;>intro hc<;>try exact jz)|refine cT Vg ?_|(refine bF ?_ ?_<;>intro hc<;>try exact jz)|refine ar ?_|exact jI|(clear hK K)))
 exact dY hB hE hE (tl:=[]) (fun _=>rfl) dD [.tmp 2]
variable{e':TD}
theorem RT(P':cU prog 117 [.pt (hn 3 k) 0 0 0,aO eI 1 inp] e (.aQ []) e'):cU prog 310 [.pt (hn 10 0) 0 0 0] e (.aQ []) e':=by
 have Tu:=hE.low;refine⟨?_,hE,P'.e2,P'.aZ,by simp only[aX,AV.all,fW hg,Bool.and_self]⟩;refine aM (L:=ids e) func310 ntmps310 ?_ (hL:=rfl);generalize hB:ids e=B;refine eO ?_
 (have W:=jA Tu hg;repeat' (first|refine aq fun K hK=>?_|refine ap ?_|(with_reducible refine gR 0 ?_);refine dE 0 (aW 0 9) mixed ?_|(refine hK _ _ ?_;clear hK K)|(refine ao ?_ ?_<;>intro hc<;>try exact jz)|refine cT P' ?_|(refine bF ?_ ?_<;>intro hc<;>try exact jz)|refine ar ?_|exact jI|(clear hK K)))
 exact dY hB hE P'.e2 (tl:=[]) (fun _=>rfl) dD []
theorem Ix{b:Bool}{nm:TI}{v:aj}(P':cU prog 116 [.agg (cd p),.pt (hn 3 k) 0 0 0,rS nm,.agg (bS v)] e (rB b) e'):cU prog 309 [.pt (hn 10 0) 0 0 0,rS nm,.agg (bS v)] e (rB b) e':=by
 have Tu:=hE.low;rw[SF]at P';simp only[k6]at P';refine⟨?_,hE,P'.e2,P'.aZ,by simp only[aX,AV.all,fW hg,Bool.and_self,Bool.and_true,bS]⟩;refine aM (L:=ids e) func309 ntmps309 ?_ (hL:=rfl);generalize hB:ids e=B;refine eO ?_
 (have W:=jA Tu hg;repeat' (first|refine aq fun K hK=>?_|refine ap ?_|(with_reducible refine gR 1 ?_);refine dE 1 (aW 0 12) mixed ?_|(refine hK _ _ ?_;clear hK K)|(refine ao ?_ ?_<;>intro hc<;>try exact jz)|refine aT 4 ?_|refine cT P' ?_|(refine bF ?_ ?_<;>intro hc<;>try exact jz)|refine ar ?_|exact jI|(clear hK K)))
 exact dY hB hE P'.e2 (tl:=[(4,.var 54 (bS v))]) (fun _=>rfl) (dm jC dD) [.tmp 6]
end
end Go.Proofs.YtjpcgmjaipfgdaaGreatDoor
namespace Go.Proofs.YtjpcgmjaipfgdaaGreatDoor
open Go Go.Gd Tryz
attribute [go_sem] Bool.false_and Bool.true_and
structure rA{σ:Type}(tm:σ->Int)(sp:σ->σ)(se:σ->ByteArray->aj->Option σ)(E:List aD)(I:σ->Prop)(g:σ->List (Nat×Row))(T:TypeId)(v:AV)(ft fs fe:FuncId):Prop where
 mt : oe prog T "furcate/trace.time" = some ft
 ms : oe prog T "furcate/trace.step" = some fs
 me : oe prog T "furcate/trace.set" = some fe
 ct:aU prog ft=true
 cs:aU prog fs=true
 ce:aU prog fe=true
 time:∀s,I s->cU prog ft [v] (g s) (rI (tm s)) (g s)
 step:∀s,I s->tm s<200->cU prog fs [v] (g s) (.aQ []) (g (sp s))
 set:∀s k,I s->k<E.length->cU prog fe [v,rS (nth E k).name,.agg (bS (nth E k).v)] (g s) (rB (se s (nth E k).name (nth E k).v).isSome) (g ((se s (nth E k).name (nth E k).v).getD s))
structure F6(σ:Type) where
 s:σ
 k:Nat
 b:Bool
section
variable {σ:Type}{tm:σ->Int}{sp:σ->σ}{se:σ->TI->aj->Option σ}{E:List aD}{I:σ->Prop}{g:σ->TD}{T:TJ}{v:AV}{ft fs fe:FuncId}
def rA.kept(h:rA tm sp se E I g T v ft fs fe)(ok:mQ tm sp se E I)(s0:σ):mQ tm sp se E fun s=>I s/\∀i,aA (g s0) i≠none->aA (g s) i≠none:=by
 refine⟨fun s k s' hs hk e=>?_,fun s hs ht=>?_,fun s hs=>ok.tm s hs.1⟩
 ·obtain⟨a,b⟩:=ok.se s k s' hs.1 hk e;have hd:=(h.set s k hs.1 hk).aZ;rw[e]at hd;exact⟨⟨a,fun i hi=>hd i (hs.2 i hi)⟩,b⟩
 ·obtain⟨a,b⟩:=ok.st s hs.1 ht;exact⟨⟨a,fun i hi=>(h.step s hs.1 ht).aZ i (hs.2 i hi)⟩,b⟩
def O8(h:rA tm sp se E I g T v ft fs fe)(ok:mQ tm sp se E I)(hl:E.length<=1000)(s0:σ)(hi:I s0)(t0:Int)(ht0:cf t0)(h0:tm s0<=eD t0) :
  cU prog 177 [.iG T v,aO bw 5 E,rI t0] (g s0) (rI (na E (eD t0) (iQ tm sp se E (eD t0) ((eD t0-tm s0).toNat+1) s0 0 false))) (g (iQ tm sp se E (eD t0) ((eD t0-tm s0).toNat+1) s0 0 false).1):=by
 have hc:eD t0=min (max t0 0) 200:=rfl;have ht2:eD t0<=200:=jB;have WW:0<=eD t0:=jB;obtain⟨⟨k1,k2⟩,k3,k4,k5⟩:=wN (h.kept ok s0) ht2 ((eD t0-tm s0).toNat+1) s0 0 false ⟨hi,fun i h=>h⟩ h0 (Nat.zero_le _);refine⟨?_,(h.time s0 hi).e1,(h.time _ k1).e1,k2,by have:=(h.time s0 hi).a;simp only[aX,AV.all,Bool.and_true]at this ⊢;rw[this]⟩;generalize hF:iQ tm sp se E (eD t0) ((eD t0-tm s0).toNat+1) s0 0 false=F at*;have Tx:(if 200<(if 0>t0 then 0 else t0)then 200 else(if 0>t0 then 0 else t0))=eD t0:=by unfold eD;(repeat' split)<;>omega
 clear hc;generalize eD t0=t at*;have hmt:=h.mt;have hms:=h.ms;have hme:=h.me;obtain⟨e,he⟩:∃e,g s0=e:=⟨_,rfl⟩;rw[he];refine aM (L:=ids e) func177 ntmps177 ?_ (hL:=rfl);generalize hB:ids e=B;refine eO ?_;subst he
 (have W:=Tx;repeat' (first|refine aq fun K hK=>?_|refine ap ?_|(with_reducible refine gR 3 ?_);refine dE 3 (aW 0 18) mixed ?_|(with_reducible refine gR 4 ?_);refine dE 4 (aW 0 17) mixed ?_|(refine hK _ _ ?_;clear hK K)|(refine ao ?_ ?_<;>intro hc<;>try exact jz)|(refine bF ?_ ?_<;>intro hc<;>try exact jz)|refine ar ?_|exact jI|(clear hK K)))
 have TX:=hK;clear hK;refine dV (S:=F6 σ) [(7,3),(13,49)] (fun x=>I x.s/\tm x.s<=t/\x.k<=E.length/\iQ tm sp se E t ((t-tm x.s).toNat+1) x.s x.k x.b=F) (fun x=>[(7,rI x.k),(8,rB x.b)]) (fun x=>⟨B,tie (g x.s) []⟩) (fun x=>(t-tm x.s).toNat) ⟨s0,0,false⟩ ⟨hi,h0,Nat.zero_le _,hF⟩ (dS rfl cv) ?_;rintro⟨s,k,b⟩ ⟨hs,ht,Vf,hg⟩ Kr TR;simp only at hs ht Vf hg;have hae:=(h.time s hs).e1.low;obtain⟨⟨u1,u2⟩,u3,u4⟩:=xN (h.kept ok s) (E.length+1) s k b ⟨hs,fun i h=>h⟩;obtain⟨Q,hQ⟩:∃Q,eW tm se E (E.length+1) s k b=Q:=⟨_,rfl⟩;refine S ?_
 (repeat' (first|refine aq fun K hK=>?_|refine ap ?_|(with_reducible refine gR 3 ?_);refine dE 3 (aW 0 18) mixed ?_|(with_reducible refine gR 4 ?_);refine dE 4 (aW 0 17) mixed ?_|(refine hK _ _ ?_;clear hK K)|(refine ao ?_ ?_<;>intro hc<;>try exact jz)|(refine bF ?_ ?_<;>intro hc<;>try exact jz)|refine ar ?_|exact jI|(clear hK K)))
 have X2:=hK;clear hK;refine dV (S:=F6 σ) [(7,2),(13,38)] (fun y=>I y.s/\tm y.s=tm s/\y.k<=E.length/\eW tm se E (E.length+1-y.k) y.s y.k y.b=Q) (fun y=>[(7,rI y.k),(8,rB y.b)]) (fun y=>⟨B,tie (g y.s) []⟩) (fun y=>2*(E.length-y.k)+(if y.b=true then 0 else 1)) ⟨s,k,b⟩ ⟨hs,rfl,Vf,?_⟩ (dS rfl cv) ?_
 ·exact(DR (E.length+1-k) (E.length+1) s k b jB jB).trans hQ
 rintro⟨s1,k1',b1⟩ ⟨Xt,Zj,Zk,WC⟩ Kr2 Xc;simp only at Xt Zj Zk WC;have WQ:=h.time s1 Xt;have Uc:=WQ.e1.low;have Vb:=h.ct;by_cases Zl:b1=false/\k1'<E.length/\(nth E k1').at_=tm s1
 ·obtain⟨cb,ck,ca⟩:=Zl;have Ty:=h.set s1 k1' Xt ck;have hce:=h.ce;have ck2:(k1':Int)<(E.length:Int):=jB;subst cb;rw[show E.length+1-k1'=(E.length-k1')+1 from jB]at WC;cases e:se s1 (nth E k1').name (nth E k1').v with
  |none=>
   rw[Nz ck ca e]at WC;rw[e]at Ty;refine S ?_
   (have W:=jA hmt (jA hme (jA Uc (jA ck2 (ca))));repeat' (first|refine aq fun K hK=>?_|refine ap ?_|(with_reducible refine gR 3 ?_);refine dE 3 (aW 0 18) mixed ?_|(with_reducible refine gR 4 ?_);refine dE 4 (aW 0 17) mixed ?_|(refine hK _ _ ?_;clear hK K)|(refine ao ?_ ?_<;>intro hc<;>try exact jz)|(refine mw WQ ?_ (h0:=Vb))|(refine cT Ty ?_ (h0:=hce))|(refine bF ?_ ?_<;>intro hc<;>try exact jz)|refine ar ?_|exact jI|(clear hK K)))
   exact Xc _ _ (eu ⟨s1,k1',true⟩ ⟨Xt,Zj,Zk,(wa (.inl rfl)).trans WC⟩ (by show 2*(E.length-k1')+0<2*(E.length-k1')+1;omega) rfl cv)
  |some s2=>
   rw[LM ck ca e]at WC;rw[e]at Ty;obtain⟨n1,n2⟩:=ok.se s1 k1' s2 Xt ck e;refine S ?_
   (have W:=jA hmt (jA hme (jA Uc (jA ck2 (ca))));repeat' (first|refine aq fun K hK=>?_|refine ap ?_|(with_reducible refine gR 3 ?_);refine dE 3 (aW 0 18) mixed ?_|(with_reducible refine gR 4 ?_);refine dE 4 (aW 0 17) mixed ?_|(refine hK _ _ ?_;clear hK K)|(refine ao ?_ ?_<;>intro hc<;>try exact jz)|(refine mw WQ ?_ (h0:=Vb))|(refine cT Ty ?_ (h0:=hce))|(refine bF ?_ ?_<;>intro hc<;>try exact jz)|refine ar ?_|exact jI|(clear hK K)))
   exact Xc _ _ (eu ⟨s2,k1'+1,false⟩ ⟨n1,n2.trans Zj,by show k1'+1<=E.length;omega,by show eW tm se E (E.length+1-(k1'+1)) s2 (k1'+1) false=Q;rw[show E.length+1-(k1'+1)=E.length-k1' from jB];exact WC⟩ (by show 2*(E.length-(k1'+1))+1<2*(E.length-k1')+1;omega) rfl cv)
 ·have hQ1:Q=(s1,k1',b1):=by
   rw[<-WC];by_cases a:b1=true\/E.length<=k1'
   ·exact wa a
   ·refine Mj fun hl e=>Zl ⟨?_,hl,e⟩
    cases b1
    ·rfl
    ·exact(a (.inl rfl)).elim
  have h3:(b1=true/\True/\True)\/(b1=false/\(k1':Int)<(E.length:Int)/\¬(nth E k1').at_=tm s1)\/(b1=false/\¬(k1':Int)<(E.length:Int)/\True):=by
   cases b1
   ·right
    by_cases ck:k1'<E.length
    ·exact .inl ⟨rfl,jB,fun e=>Zl ⟨rfl,ck,e⟩⟩
    ·exact .inr ⟨rfl,jB,trivial⟩
   ·exact .inl ⟨rfl,trivial,trivial⟩
  have hd3:(¬(k1':Int)<(E.length:Int)/\True/\∀z:σ,na E t (z,k1',b1)=0)\/((k1':Int)<(E.length:Int)/\(nth E k1').at_<=t/\∀z:σ,na E t (z,k1',b1)=(k1':Int)+1)\/((k1':Int)<(E.length:Int)/\¬(nth E k1').at_<=t/\∀z:σ,na E t (z,k1',b1)=0):=by
   by_cases ck:k1'<E.length
   ·by_cases d:(nth E k1').at_<=t
    ·exact .inr (.inl ⟨jB,d,fun z=>by unfold na;rw[if_pos ⟨ck,d⟩]⟩)
    ·exact .inr (.inr ⟨jB,d,fun z=>by unfold na;rw[if_neg (fun h=>d h.2)]⟩)
   ·exact .inl ⟨jB,trivial,fun z=>by unfold na;rw[if_neg (fun h=>ck h.1)]⟩
  rw[hQ1]at hQ;have Uo:iQ tm sp se E t ((t-tm s).toNat+1) s k b=if tm s1=t then(s1,k1',b1)else if tm (sp s1)=tm s1 then(sp s1,k1',b1)else iQ tm sp se E t (t-tm s).toNat (sp s1) k1' b1:=by
   conv=>lhs;unfold iQ
   rw[hQ]
  rw[hg]at Uo;by_cases a:tm s1=t
  ·rw[if_pos a]at Uo;subst Uo;rcases h3 with⟨cb,q1,q2⟩|⟨cb,q1,q2⟩|⟨cb,q1,q2⟩<;>subst cb<;>rcases hd3 with⟨d1,d2,d3⟩|⟨d1,d2,d3⟩|⟨d1,d2,d3⟩
   all_goals try omega
   all_goals
    refine S ?_
    (have W:=jA hmt (jA Uc (jA q1 (jA q2 (jA a (jA d1 (d2))))));repeat' (first|refine aq fun K hK=>?_|refine ap ?_|(with_reducible refine gR 3 ?_);refine dE 3 (aW 0 18) mixed ?_|(with_reducible refine gR 4 ?_);refine dE 4 (aW 0 17) mixed ?_|(refine hK _ _ ?_;clear hK K)|(refine ao ?_ ?_<;>intro hc<;>try exact jz)|(refine mw WQ ?_ (h0:=Vb))|(refine⟨rI 0,?_⟩;refine S ?_)|(refine⟨rI 0,fun h=>absurd h Bool.false_ne_true,?_⟩;refine S ?_)|(refine cT WQ ?_ (h0:=Vb))|refine X2 _ _ ?_|refine TX _ _ ?_|(refine bF ?_ ?_<;>intro hc<;>try exact jz)|refine ar ?_|exact jI|(clear hK K)))
    rw[d3];exact dY hB (h.time s0 hi).e1 WQ.e1 (tl:=[]) (fun _=>rfl) dD [.tmp 6]
  ·rw[if_neg a]at Uo;have O':tm s1<200:=jB;have P':=h.step s1 Xt O';obtain⟨w1,w2⟩:=ok.st s1 Xt O';have Yp:=h.time (sp s1) w1;have Ve:=Yp.e1.low;have UD:=h.cs;by_cases c:tm (sp s1)=tm s1
   ·rw[if_pos c]at Uo;subst Uo;rcases h3 with⟨cb,q1,q2⟩|⟨cb,q1,q2⟩|⟨cb,q1,q2⟩<;>subst cb<;>rcases hd3 with⟨d1,d2,d3⟩|⟨d1,d2,d3⟩|⟨d1,d2,d3⟩
    all_goals try omega
    all_goals
     refine S ?_
     (have W:=jA hmt (jA hms (jA Uc (jA Ve (jA q1 (jA q2 (jA a (jA c (jA d1 (d2)))))))));repeat' (first|refine aq fun K hK=>?_|refine ap ?_|(with_reducible refine gR 3 ?_);refine dE 3 (aW 0 18) mixed ?_|(with_reducible refine gR 4 ?_);refine dE 4 (aW 0 17) mixed ?_|(refine hK _ _ ?_;clear hK K)|(refine ao ?_ ?_<;>intro hc<;>try exact jz)|(refine mw WQ ?_ (h0:=Vb))|(refine⟨rI 0,?_⟩;refine S ?_)|(refine⟨rI 0,fun h=>absurd h Bool.false_ne_true,?_⟩;refine S ?_)|(refine cT WQ ?_ (h0:=Vb))|(refine cT P' ?_ (h0:=UD))|(refine cT Yp ?_ (h0:=Vb))|refine X2 _ _ ?_|refine TX _ _ ?_|(refine bF ?_ ?_<;>intro hc<;>try exact jz)|refine ar ?_|exact jI|(clear hK K)))
     rw[d3];exact dY hB (h.time s0 hi).e1 Yp.e1 (tl:=[]) (fun _=>rfl) dD [.tmp 6]
   ·rw[if_neg c]at Uo;rcases h3 with⟨cb,q1,q2⟩|⟨cb,q1,q2⟩|⟨cb,q1,q2⟩<;>subst cb
    all_goals
     refine S ?_
     (have W:=jA hmt (jA hms (jA Uc (jA Ve (jA q1 (jA q2 (jA a (c)))))));repeat' (first|refine aq fun K hK=>?_|refine ap ?_|(with_reducible refine gR 3 ?_);refine dE 3 (aW 0 18) mixed ?_|(with_reducible refine gR 4 ?_);refine dE 4 (aW 0 17) mixed ?_|(refine hK _ _ ?_;clear hK K)|(refine ao ?_ ?_<;>intro hc<;>try exact jz)|(refine mw WQ ?_ (h0:=Vb))|(refine⟨rI 0,?_⟩;refine S ?_)|(refine⟨rI 0,fun h=>absurd h Bool.false_ne_true,?_⟩;refine S ?_)|(refine cT WQ ?_ (h0:=Vb))|(refine cT P' ?_ (h0:=UD))|(refine cT Yp ?_ (h0:=Vb))|refine X2 _ _ ?_|(refine bF ?_ ?_<;>intro hc<;>try exact jz)|refine ar ?_|exact jI|(clear hK K)))
     have Vd:=Uo.symm;rw[show(t-tm s).toNat=(t-tm (sp s1)).toNat+1 from jB]at Vd;exact TR _ _ (eu ⟨sp s1,k1',_⟩ ⟨w1,by show tm (sp s1)<=t;omega,Zk,Vd⟩ (by show(t-tm (sp s1)).toNat<(t-tm s).toNat;omega) rfl cv)
end
end Go.Proofs.YtjpcgmjaipfgdaaGreatDoor
namespace Go.Proofs.YtjpcgmjaipfgdaaGreatDoor
open Go Go.Gd Tryz Go.Gd.MV
structure ES where
 m:MV
 N:NM
 e:List (Nat×Row)
 E:List (Nat×Row)
structure EI(p:af)(inp:List Int)(k:Nat)(x:ES):Prop where
 R:bJ p (ci p) x.m x.N x.e
 key:x.N.k=k
 mi:MI p (ci p) x.m
 bd:Bd inp.length x.m
 t0:0<=x.m.time
 t1:x.m.time<=100000
 ok:fI 0 x.E
 sub:∀i r,aA x.e i=some r->aA x.E i=some r
 rZ:aA x.E (hn 10 0)=some (.var 283 (k6 p++[.pt (hn 3 k) 0 0 0,aO eI 1 inp]))
 no:aA x.e (hn 10 0)=none
def C7(p:af)(inp:TG)(k:Nat)(F:TG->MV->MV)(x x':ES):Prop:=x'.m=F inp x.m/\EI p inp k x'/\cU prog 117 [.pt (hn 3 k) 0 0 0,aO eI 1 inp] x.E (.aQ []) x'.E
def CB(p:af)(inp:TG)(k:Nat)(m':MV)(nm:TI)(v:aj)(x x':ES):Prop:=x'.m=m'/\EI p inp k x'/\cU prog 116 [.agg (cd p),.pt (hn 3 k) 0 0 0,rS nm,.agg (bS v)] x.E (rB true) x'.E
section
variable {p:af}(hs:gj p)(UX:∀k,k<p.aa.nodes.length->0<=nth p.fn k/\nth p.fn k<p.aa.aw.length){F:TG->MV->MV}(hF:bQ p (ci p) F){inp:TG}(UE:inp.length<=1000)(hi:∀x∈inp,cf x){k:Nat}{x:ES}
include hs hF UE hi
theorem S9(h:EI p inp k x)(ht:x.m.time<200):∃x',C7 p inp k F x x':=by
 have ht0:=h.t0;obtain⟨N',l',⟨hR',T4,Uq⟩,hU,P'⟩:=MK hs hF UE hi h.R h.mi h.bd ⟨ht0,h.t1⟩ (ids x.E);have WX:∀i,aA l' i≠none->aA x.e i≠none\/aA x.E i=none:=fun i hi=>by
  rcases hU.new i hi with h1|h1
  ·exact .inl h1
  ·right
   cases hx:aA x.E i with
   |none=>rfl
   |some r=>exact(h1 ((lr _ _).2 (by rw[hx];simp))).elim
 have hd:=cU.more P' h.ok h.sub WX;have TS:aA l' (hn 10 0)=none:=by
  cases hx:aA l' (hn 10 0)with
  |none=>rfl
  |some r=>
   rcases WX (hn 10 0) (by rw[hx];simp)with h1|h1
   ·exact(h1 h.no).elim
   ·rw[h.rZ]at h1;cases h1
 have hp:=h.key;have eP:mP x.N=.pt (hn 3 k) 0 0 0:=by unfold mP;rw[hp]
 rw[eP]at hd;have WU:=hF.time hi h.mi;refine⟨⟨F inp x.m,N',l',gx x.E l'⟩,rfl,⟨hR',T4.trans hp,hF.mi hi h.mi,Uq,?_,?_,hd.e2,fun i r hr=>?_,?_,TS⟩,hd⟩
 ·show 0<=(F inp x.m).time;rcases WU with e|e<;>omega
 ·show(F inp x.m).time<=100000;rcases WU with e|e<;>omega
 ·show aA (gx x.E l') i=some r;have hr:aA l' i=some r:=hr;rw[uQ hR'.ok.nodup,hr];rfl
 ·show aA (gx x.E l') (hn 10 0)=_;rw[uQ hR'.ok.nodup,TS];exact h.rZ
omit hF UE hi
include UX
theorem L6(h:EI p inp k x)(nm:TI)(v:aj)(e:iy p (ci p) x.m nm v=none):cU prog 116 [.agg (cd p),.pt (hn 3 k) 0 0 0,rS nm,.agg (bS v)] x.E (rB false) x.E:=by
 have hp:=h.key;have eP:mP x.N=.pt (hn 3 k) 0 0 0:=by unfold mP;rw[hp]
 have hC:=rG hs;have hRE:=h.R.uI h.ok h.sub;have hk:=zP h.mi h.bd (by have:=hC.len;have:=hC.pj;have:=hs.ok.aa.aw;have:=hs.ok.size;omega);unfold iy at e;split at e
 ·rename_i c;have:=Rf hRE hk nm v c;rw[eP]at this;exact this
 rename_i c;split at e
 ·rename_i d;have hm:lQ v=true:=by
   cases hh:lQ v
   ·exact(c (.inr (.inl hh))).elim
   ·rfl
  have:=Pr hRE hk nm v hs UX h.mi (fun e=>c (.inl e)) hm (fun e=>c (.inr (.inr e))) d;rw[eP]at this;exact this
 ·cases e
theorem Ky(h:EI p inp k x)(nm:TI)(v:aj)(hv:cf v.n){m':MV}(e:iy p (ci p) x.m nm v=some m'):m'.time=x.m.time/\∃x',CB p inp k m' nm v x x':=by
 have hp:=h.key;have eP:mP x.N=.pt (hn 3 k) 0 0 0:=by unfold mP;rw[hp]
 have hC:=rG hs;have hRE:=h.R.uI h.ok h.sub;have hk:=zP h.mi h.bd (by have:=hC.len;have:=hC.pj;have:=hs.ok.aa.aw;have:=hs.ok.size;omega);unfold iy at e;split at e
 ·cases e
 rename_i c;split at e
 ·cases e
 rename_i d;cases e;have hm:lQ v=true:=by
  cases hh:lQ v
  ·exact(c (.inr (.inl hh))).elim
  ·rfl
 obtain⟨d1,d2⟩:=EO hRE hk nm v hs UX h.mi (fun e=>c (.inl e)) hm (fun e=>c (.inr (.inr e))) d;obtain⟨_,d4⟩:=EO h.R hk nm v hs UX h.mi (fun e=>c (.inl e)) hm (fun e=>c (.inr (.inr e))) d;rw[eP]at d1;have UK:hn 10 0≠hn 1 x.N.ah.c:=dh jC jC jC;have X8:=Fg h.mi (fun e=>c (.inl e)) (nth (gT p (gh (ci p) x.m)) (ij nm v.ty (gT p (gh (ci p) x.m)) 0).toNat).slot.toNat hv;generalize (nth (gT p (gh (ci p) x.m)) (ij nm v.ty (gT p (gh (ci p) x.m)) 0).toNat).slot.toNat=kk at*;obtain⟨h1,_⟩:=h.mi.ah fun e=>c (.inl (.inl e))
 refine⟨rfl,⟨⟨rJ x.m kk v,x.N,_,_⟩,rfl,⟨d4,hp,X8,?_,h.t0,h.t1,d2.ok,fun i r hr=>?_,?_,?_⟩,d1⟩⟩
 ·exact h.bd.bc (by show(x.m.ah.slots.set kk v).length<=24;rw[List.length_set];exact h.bd.ah h1)
 ·show aA (bh x.E _ _) i=some r;have hr:aA (bh x.e _ _) i=some r:=hr;rw[bO]at hr ⊢;split
  ·rename_i e;rw[if_pos e]at hr;exact hr
  ·rename_i e;rw[if_neg e]at hr;exact h.sub i r hr
 ·show aA (bh x.E _ _) (hn 10 0)=_;rw[bO,if_neg UK];exact h.rZ
 ·show aA (bh x.e _ _) (hn 10 0)=_;rw[bO,if_neg UK];exact h.no
end
end Go.Proofs.YtjpcgmjaipfgdaaGreatDoor
namespace Go.Proofs.YtjpcgmjaipfgdaaGreatDoor
open Go Go.Gd Tryz
@[go_sem] def j03(p:af)(l:TE):cd p++l=aO eF 5 p.aa.nodes::aO fV 5 p.aa.aw::aO eI 1 p.types::aO eI 1 p.slots::aO eI 1 p.fn::aO eI 1 p.size::l:=rfl
attribute [go_sem] List.append_nil
structure mA(p:af):Prop where
 ok:gj p
 fn:∀k,k<p.aa.nodes.length->0<=nth p.fn k/\nth p.fn k<p.aa.aw.length
end Go.Proofs.YtjpcgmjaipfgdaaGreatDoor
namespace Go.Proofs.YtjpcgmjaipfgdaaGreatDoor
open Go Go.Gd Tryz Go.Gd.MV
def PB : oe prog 281 "furcate/trace.time" = some 311 := by kernel_rfl
def OL : oe prog 281 "furcate/trace.step" = some 310 := by kernel_rfl
def RV : oe prog 281 "furcate/trace.set" = some 309 := by kernel_rfl
@[go_sem] def qbW:(prog).underlying 281=some (.pointer 283):=jG
def jL(x:ES):Int:=x.m.time
open Classical in
noncomputable def stE(p:af)(inp:List Int)(k:Nat)(F:List Int->MV->MV)(x:ES):ES:=if h:∃x',C7 p inp k F x x' then Classical.choose h else x
open Classical in
noncomputable def seE(p:af)(inp:List Int)(k:Nat)(x:ES)(nm:ByteArray)(v:aj):Option ES:=(iy p (ci p) x.m nm v).map fun m'=>if h:∃x',CB p inp k m' nm v x x' then Classical.choose h else x
section
variable {p:af}(hp:mA p){F:TG->MV->MV}(hF:bQ p (ci p) F){inp:TG}(UE:inp.length<=1000)(hi:∀x∈inp,cf x){k:Nat}{x:ES}{E:List aD}(hE:∀k,k<E.length->cf (nth E k).v.n)
include hp hF UE hi
theorem Cv(h:EI p inp k x)(ht:x.m.time<200):C7 p inp k F x (stE p inp k F x):=by have hx:=S9 hp.ok hF UE hi h ht;unfold stE;rw[dif_pos hx];exact Classical.choose_spec hx
omit hF UE hi
theorem IF(h:EI p inp k x)(nm:TI)(v:aj)(e:seE p inp k x nm v=none):iy p (ci p) x.m nm v=none:=by
 unfold seE at e;cases hh:iy p (ci p) x.m nm v with
 |none=>rfl
 |some m'=>rw[hh]at e;cases e
theorem Ar(h:EI p inp k x)(nm:TI)(v:aj)(hv:cf v.n){x':ES}(e:seE p inp k x nm v=some x'):∃m',iy p (ci p) x.m nm v=some m'/\m'.time=x.m.time/\CB p inp k m' nm v x x':=by
 unfold seE at e;cases hh:iy p (ci p) x.m nm v with
 |none=>rw[hh]at e;cases e
 |some m'=> rw[hh]at e;obtain⟨h1,hx⟩:=Ky hp.ok hp.fn h nm v hv hh;simp only[Option.map_some,dif_pos hx]at e;cases e;exact⟨m',rfl,h1,Classical.choose_spec hx⟩
include hF UE hi hE
theorem wW:mQ jL (stE p inp k F) (seE p inp k) E (EI p inp k):=by
 refine⟨fun s j s' h hj e=>?_,fun s h ht=>?_,fun s h=>h.t0⟩
 ·obtain⟨m',_,e2,e3⟩:=Ar hp h _ _ (hE j hj) e;refine⟨e3.2.1,?_⟩;show s'.m.time=s.m.time;rw[e3.1];exact e2
 ·have h1:=Cv hp hF UE hi h ht;refine⟨h1.2.1,?_⟩;show(stE p inp k F s).m.time=s.m.time\/(stE p inp k F s).m.time=s.m.time+1;rw[h1.1];rcases hF.time hi h.mi with e|e
  ·exact .inl e
  ·exact .inr e.1
theorem Mo:rA jL (stE p inp k F) (seE p inp k) E (EI p inp k) (fun x=>x.E) 281 (.pt (hn 10 0) 0 0 0) 311 310 309:=by
 refine⟨PB,OL,RV,jD,jD,jD,fun s h=>?_,fun s h ht=>?_,fun s j h hj=>?_⟩
 ·have hC:=rG hp.ok;have hk:=zP h.mi h.bd (by have:=hC.len;have:=hC.pj;have:=hp.ok.ok.aa.aw;have:=hp.ok.ok.size;omega);have Vg:=xM (h.R.uI h.ok h.sub) hk;rw[show mP s.N=.pt (hn 3 k) 0 0 0 by unfold mP;rw[h.key]]at Vg;exact LC h.ok h.rZ Vg
 ·exact RT h.ok h.rZ (Cv hp hF UE hi h ht).2.2
 ·cases e:seE p inp k s (nth E j).name (nth E j).v with
  |none=>exact Ix h.ok h.rZ (L6 hp.ok hp.fn h _ _ (IF hp h _ _ e))
  |some s'=> obtain⟨m',_,_,e3⟩:=Ar hp h _ _ (hE j hj) e;exact Ix h.ok h.rZ e3.2.2
end
def Ng{p:af}(hp:mA p)(T0:fu p){F:TG->MV->MV}(hF:bQ p (ci p) F){inp:TG}(UE:inp.length<=1000)(hi:∀x∈inp,cf x){E:List aD}(hE:∀k,k<E.length->cf (nth E k).v.n)(hl:E.length<=1000)(t:Int)(ht:cf t) :
  ∃x0:ES,EI p inp x0.N.k x0/\x0.m.time=0/\bf p (ci p) [] (lW p (ci p)) x0.m/\x0.m.dw (ci p)/\
   ab prog 127 [.agg (cd p),aO eI 1 inp,aO bw 5 E,rI t] [] (fun r l=>r=.aQ [.pt (hn 3 x0.N.k) 0 0 0,rI (na E (eD t) (iQ jL (stE p inp x0.N.k F) (seE p inp x0.N.k) E (eD t) ((eD t-jL x0).toNat+1) x0 0 false))]/\l=(iQ jL (stE p inp x0.N.k F) (seE p inp x0.N.k) E (eD t) ((eD t-jL x0).toNat+1) x0 0 false).1.E):=by
 obtain⟨m1,hg,P',h1,WU⟩:=Am T0.ok (wP T0.ok) [];have WU:m1.time=0:=WU;obtain⟨N,l,hR,hX,hb,ZA⟩:=P6 T0 [hn 10 0] hg P' (fun e0=>by obtain⟨hl,_,_,k0,n,a,ek,hm⟩:=h1.ah jB;have TZ:=hm.head.1;exact⟨hl,jB,jB⟩)
 have TS:aA l (hn 10 0)=none:=by
  cases hx:aA l (hn 10 0)with
  |none=>rfl
  |some r=>exact(hX (hn 10 0) (by rw[hx];simp) jE).elim
 have Wo:∀i,aA (l++[(hn 10 0,.var 283 (k6 p++[.pt (hn 3 N.k) 0 0 0,aO eI 1 inp]))]) i=(aA l i).or (if i=hn 10 0 then some (.var 283 (k6 p++[.pt (hn 3 N.k) 0 0 0,aO eI 1 inp]))else none):=fun i=>by rw[v7];rfl
 have Vu:=hR.root;have hok:fI 0 (l++[(hn 10 0,.var 283 (k6 p++[.pt (hn 3 N.k) 0 0 0,aO eI 1 inp]))]):=by
  refine⟨fun i h0 h1=>?_,?_,fun i r hr=>?_⟩
  ·rw[Wo,hR.ok.low i h1,if_neg (by have:=ix 10 0;omega)];rfl
  ·have:ids (l++[(hn 10 0,Row.var 283 (k6 p++[.pt (hn 3 N.k) 0 0 0,aO eI 1 inp]))])=ids l++[hn 10 0]:=by simp[ids]
   rw[this,List.nodup_append];refine⟨hR.ok.nodup,jE,fun a ha b hb e=>?_⟩;simp at hb;subst hb e;exact(lr _ _).1 ha TS
  ·have hm:∀j,(ids l).contains j=true->(ids (l++[(hn 10 0,Row.var 283 (k6 p++[.pt (hn 3 N.k) 0 0 0,aO eI 1 inp]))])).contains j=true:=fun j hj=>by
    rw[List.contains_iff_mem]at hj ⊢;simp[ids]at hj ⊢;exact .inl hj
   rw[Wo]at hr;cases hx:aA l i with
   |some r'=> rw[hx]at hr;cases hr;exact fS hm _ (hR.ok.closed i _ hx)
   |none=>
    rw[hx]at hr;have hr:(if i=hn 10 0 then some (Row.var 283 (k6 p++[.pt (hn 3 N.k) 0 0 0,aO eI 1 inp]))else none)=some r:=hr;split at hr
    ·cases hr;have h3:=hm _ (fW Vu);show aX _ (k6 p++[.pt (hn 3 N.k) 0 0 0,aO eI 1 inp])=true;rw[sx,fS (q:=eo) (fun _ h=>by cases h) _ (LL p)];simp only[aX,AV.all,h3,Bool.and_true,Bool.true_and]
    ·cases hr
 have ZB:EI p inp N.k ⟨m1,N,l,l++[(hn 10 0,.var 283 (k6 p++[.pt (hn 3 N.k) 0 0 0,aO eI 1 inp]))]⟩:=by
  have UW:m1.in_<=(inp.length:Int):=by have:=hb.oq;omega
  refine⟨hR,rfl,h1,⟨hb.deep,hb.slots,hb.heap,hb.outs,hb.n7,UW⟩,by show 0<=m1.time;omega,by show m1.time<=100000;omega,hok,fun i r hr=>?_,?_,TS⟩
  ·show aA (l++_) i=some r;have hr:aA l i=some r:=hr;rw[Wo,hr];rfl
  ·show aA (l++_) (hn 10 0)=_;rw[Wo,TS,if_pos rfl];rfl
 refine⟨⟨m1,N,l,_⟩,ZB,WU,hg,P',?_⟩;have UR:=O8 (Mo hp hF UE hi (k:=N.k) hE) (wW hp hF UE hi hE) hl _ ZB t ht (by show m1.time<=_;unfold eD;omega);have U8:=(wN (wW hp hF UE hi (k:=N.k) hE) (t:=eD t) (by unfold eD;omega) ((eD t-jL ⟨m1,N,l,l++[(hn 10 0,.var 283 (k6 p++[.pt (hn 3 N.k) 0 0 0,aO eI 1 inp]))]⟩).toNat+1) _ 0 false ZB (by show m1.time<=_;unfold eD;omega) (Nat.zero_le _)).1;generalize iQ jL (stE p inp N.k F) (seE p inp N.k) E (eD t) ((eD t-jL ⟨m1,N,l,l++[(hn 10 0,.var 283 (k6 p++[.pt (hn 3 N.k) 0 0 0,aO eI 1 inp]))]⟩).toNat+1) ⟨m1,N,l,l++[(hn 10 0,.var 283 (k6 p++[.pt (hn 3 N.k) 0 0 0,aO eI 1 inp]))]⟩ 0 false=G at*;simp only at UR ⊢;have Y0:cU prog 58 [.agg (cd p)] [] (.pt (hn 3 N.k) 0 0 0) l:=⟨ZA,⟨fun _ _ _=>rfl,List.nodup_nil,fun i r h=>by cases h⟩,hR.ok,fun i h=>(h rfl).elim,rfl⟩;have Tu:=hR.ok.low;have haK:=U8.rZ;have Ve:=U8.ok.low;have hpm:∀i,aA (tie l [(4,.var 32 (cd p)),(hn 10 0,.var 283 (k6 p++[.pt (hn 3 N.k) 0 0 0,aO eI 1 inp]))]) i=aA (tie (l++[(hn 10 0,.var 283 (k6 p++[.pt (hn 3 N.k) 0 0 0,aO eI 1 inp]))]) [(4,.var 32 (cd p))]) i:=fun i=>by
  rw[jO,jO,Wo];simp only[aA];have:=ix 10 0;cases aA l i
  ·(repeat' split)<;>first|rfl|omega
  ·rfl
 generalize hbad:na E (eD t) G=bad at*;have haL:=U8.ok;generalize G.1.E=EE at*;generalize l++[(hn 10 0,.var 283 (k6 p++[.pt (hn 3 N.k) 0 0 0,aO eI 1 inp]))]=E0 at*;refine aM func127 ntmps127 ?_
 (have W:=jA Tu (jA TS (jA haK (Ve)));repeat' (first|refine aq fun K hK=>?_|refine ap ?_|(with_reducible refine gR 1 ?_);refine dC 1 ([],[],[14]) [] [0,1,3,2,4,5,6] mixed ?_|(refine hK _ _ ?_;clear hK K)|(refine ao ?_ ?_<;>intro hc<;>try exact jz)|refine aT 4 ?_|refine aT (hn 10 0) ?_|(refine nU (e:=[]) Y0 (fun j _ h=>(h rfl).elim) ?_)|(refine Oe UR (tl:=[(4,.var 32 (cd p))]) hpm ?_;try refine S ?_)|(refine bF ?_ ?_<;>intro hc<;>try exact jz)|refine ar ?_|exact jI|(clear hK K)))
 exact dY (e:=[]) (B:=[]) rfl ⟨fun _ _ _=>rfl,List.nodup_nil,fun i r h=>by cases h⟩ haL (tl:=[(4,.var 32 (cd p))]) (fun _=>rfl) (dm jC dD) [.tmp 8,.tmp 9]
end Go.Proofs.YtjpcgmjaipfgdaaGreatDoor
namespace Go.Proofs.YtjpcgmjaipfgdaaGreatDoor
open Go Go.Gd Tryz
end Go.Proofs.YtjpcgmjaipfgdaaGreatDoor
namespace Go.Proofs.YtjpcgmjaipfgdaaGreatDoor
open Go Go.Gd Tryz Go.Gd.MV
section
variable {p:af}{C:aI}{inp:TG}
def Pb(m:MV)(x:ay):(m.ins p C inp x).in_=m.in_\/(x.op=14/\m.in_<(inp.length:Int)/\(m.ins p C inp x).in_=m.in_+1):=by
 by_cases h:x.op=14
 ·rw[MV.ji _ _ _ _ _ h];split
  ·exact .inl rfl
  ·exact .inr ⟨h,jB,rfl⟩
 ·left
  rcases RP (p:=p) (C:=C) (inp:=inp) m x with e|e
  ·exact e
  ·exfalso;have:(m.ins p C inp x).in_=m.in_:=by
    unfold MV.ins;simp only[h,↓reduceIte];repeat' (first|rfl|exact Dq _ _|exact Gy _ _|refine FF ?_ ?_)
   omega
def GA(m:MV):(m.one p C inp).in_=m.in_\/((m.bn C).op=14/\m.in_<(inp.length:Int)/\(m.one p C inp).in_=m.in_+1):=Pb (p:=p) (C:=C) (inp:=inp) (m.bc (m.ah.jump (m.ah.at_+1))) (m.bn C)
def GL{n:Nat}{m m':MV}(h:fh p C inp n m m'):m.in_<=m'.in_:=by
 induction h with|refl m=>exact Int.le_refl _|@step n m m' h0 h1 hok hg ih=> rcases GA (p:=p) (C:=C) (inp:=inp) m with e|⟨_,_,e⟩<;>omega
def Ig{n:Nat}{m m':MV}(h:fh p C inp n m m'):m.in_<=inp.length->m'.in_<=inp.length:=by
 induction h with|refl m=>exact id|@step n m m' h0 h1 hok hg ih=> intro hi;rcases GA (p:=p) (C:=C) (inp:=inp) m with e|⟨_,_,e⟩<;>exact ih jB
def Qw{F:TG->MV->MV}(hF:bQ p C F)(hi:∀x∈inp,cf x){m:MV}(h:MI p C m):m.in_<=(F inp m).in_/\(m.in_<=inp.length->(F inp m).in_<=inp.length):=by
 by_cases e:m.halt
 ·rw[hF.still _ m e];exact⟨Int.le_refl _,id⟩
 ·obtain⟨m1,⟨n,g⟩,d,e1⟩:=hF.step inp hi m h e;rw[e1];exact⟨(GL g:m.dX.in_<=m1.in_),fun h=>(Ig g (h:m.dX.in_<=inp.length):m1.in_<=inp.length)⟩
end
structure IM(p:af)(inp:List Int)(m:MV):Prop where
 mi:MI p (ci p) m
 t0:0<=m.time
 i0:0<=m.in_
 i1:m.in_<=inp.length
def FN{p:af}{m m':MV}{nm:TI}{v:aj}(e:iy p (ci p) m nm v=some m'):¬(m.status=2\/m.status=3)/\m'.time=m.time/\m'.in_=m.in_/\m'.status=m.status/\∃k,m'=rJ m k v:=by
 unfold iy at e;split at e
 ·cases e
 rename_i c;split at e
 ·cases e
 cases e;exact⟨fun e=>c (.inl e),rfl,rfl,rfl,_,rfl⟩
section
variable {p:af}{F:TG->MV->MV}(hF:bQ p (ci p) F){inp:TG}(hi:∀x∈inp,cf x){E:List aD}(hE:∀k,k<E.length->cf (nth E k).v.n)
include hF hi
theorem Bp{m:MV}(h:IM p inp m):IM p inp (F inp m)/\((F inp m).time=m.time\/((F inp m).time=m.time+1/\(F inp m).status≠1/\¬m.halt)):=by have e:=hF.time hi h.mi;obtain⟨a,b⟩:=Qw hF hi h.mi;have:=h.t0;have:=h.i0;exact⟨⟨hF.mi hi h.mi,by rcases e with e|⟨e,_⟩<;>omega,jB,b h.i1⟩,e⟩
include hE
omit hF hi in
theorem Qc{m m':MV}(h:IM p inp m){k:Nat}(hk:k<E.length)(e:iy p (ci p) m (nth E k).name (nth E k).v=some m'):IM p inp m':=by obtain⟨a,b,c,d,k',e⟩:=FN e;subst e;exact⟨Fg h.mi a _ (hE _ hk),h.t0,h.i0,h.i1⟩
theorem DU:mQ MV.time (F inp) (iy p (ci p)) E (IM p inp):=
 ⟨fun s k s' h hk e=>⟨Qc hE h hk e,(FN e).2.1⟩,fun s h _=>⟨(Bp hF hi h).1,(Bp hF hi h).2.imp id And.left⟩,fun s h=>h.t0⟩
omit hF hi hE
include hF hi hE
end
end Go.Proofs.YtjpcgmjaipfgdaaGreatDoor
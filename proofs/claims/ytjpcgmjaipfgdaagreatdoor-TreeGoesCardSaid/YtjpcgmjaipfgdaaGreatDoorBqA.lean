/- Lemmas. No conditions. -/
import Derived.Test.YtjpcgmjaipfgdaaGreatDoorTmC
set_option linter.all false
set_option maxHeartbeats 4000000
set_option maxRecDepth 10000
namespace Go.Gd
open Go
def k9(p:af):TB:=[aM eF 5 p.aa.nodes,aM fX 5 p.aa.av,aM eI 1 p.types,aM eI 1 p.slots,aM eI 1 p.fn,aM eI 1 p.size]
attribute [go_sem] k9
def Rv(p:af):aW dU (k9 p)=true:=rfl
def K7(p:af):ci p=k9 p:=rfl
section
variable {σ:Type}{tm:σ->Int}{st:σ->σ}{se:σ->TF->aj->Option σ}{E:List aD}{I:σ->Prop}{t:Int}
variable{n:Nat}{s:σ}
def vA{k:Nat}{b:Bool}(h:b=true\/E.length<=k):eT tm se E n s k b=(s,k,b):=by
 cases n with
 |zero=>rfl
 |succ n=>
  unfold eT;rw[if_neg];rintro⟨a,c,_⟩;rcases h with h|h
  ·rw[a]at h;cases h
  ·omega
def Rb{k:Nat}{b:Bool}(h:k<E.length->(nth E k).at_≠tm s):eT tm se E n s k b=(s,k,b):=by
 cases n with
 |zero=>rfl
 |succ n=> unfold eT;rw[if_neg];rintro⟨a,c,d⟩;exact h c d
def Sy{k:Nat}(h:k<E.length)(ha:(nth E k).at_=tm s)(e:se s (nth E k).name (nth E k).v=none):eT tm se E (n+1) s k false=(s,k,true):=by unfold eT;rw[if_pos ⟨rfl,h,ha⟩,e]
def LH{s':σ}{k:Nat}(h:k<E.length)(ha:(nth E k).at_=tm s)(e:se s (nth E k).name (nth E k).v=some s'):eT tm se E (n+1) s k false=eT tm se E n s' (k+1) false:=by
 conv=>lhs;unfold eT
 rw[if_pos ⟨rfl,h,ha⟩,e]
theorem GI:∀(n m:Nat) (s:σ) (k:Nat) (b:Bool),E.length<n+k->E.length<m+k->eT tm se E n s k b=eT tm se E m s k b
 |0,m,s,k,b,h1,_=>by rw[vA (n:=0) (.inr (by omega)),vA (.inr (by omega))]
 |n,0,s,k,b,_,h2=>by rw[vA (n:=0) (.inr jB),vA (.inr jB)]
 |n+1,m+1,s,k,b,h1,h2=>by
  unfold eT;split
  ·split
   ·exact GI n m _ (k+1) false jB jB
   ·rfl
  ·rfl
end
def RP{P:TL}{f:FuncId}{args:TB}{B:TE}{L e l tl:TA}{K:S8}{r0:AV}(hd:cV P f args e r0 l)(hp:∀i,aA L i=aA (tie e tl) i)(k:K r0 ⟨B,tie l tl⟩)(hl:nM 0 tl:=by(repeat' first|exact dz|(refine dm (by decide) ?_)|fail))(h0:aT P f=true:=by exact du):ff P (.raw (.func (.func f) #[] #[])) args ⟨B,L⟩ K:=by
 refine nG h0 (Ks hp (Bg (E:=fun tl=>e++tl) (E':=fun tl=>l++tl) ?_ (hd.e1.bv hl) (hd.e2.bv hl) ?_ ?_ ?_ k ?_))
 ·simp only[List.append_nil];exact hd.c
 ·simp only[List.append_nil];exact hd.e2.nodup
 ·simp only[List.append_nil];exact hd.a
 ·simp only[List.append_nil];exact hd.e1.closed
 ·simp only[List.append_nil];exact hd.aU
end Go.Gd
namespace Go.Proofs.YtjpcgmjaipfgdaaGreatDoor
open Go Go.Gd Tryz
end Go.Proofs.YtjpcgmjaipfgdaaGreatDoor
namespace Go.Proofs.YtjpcgmjaipfgdaaGreatDoor
open Go Go.Gd Tryz Go.Gd.MV
section
variable {p:af}{inp:TD}{k:Nat}{e:TA}(hE:fO 0 e)(hg:aA e (hn 10 0)=some (.var 283 (k9 p++[.pt (hn 3 k) 0 0 0,aM eI 1 inp])))
include hE hg
theorem OT{Sh:kZ}(UW:cV prog 63 [.pt (hn 3 k) 0 0 0] e (.agg (lj Sh)) e):cV prog 311 [.pt (hn 10 0) 0 0 0] e (rI Sh.time) e:=by
 have Ta:=hE.low;refine⟨?_,hE,hE,fun _ h=>h,by simp only[aW,AV.all,fV hg,Bool.and_self]⟩;refine aL (L:=ids e) func311 ntmps311 ?_ (hL:=rfl);generalize hB:ids e=B;refine eO ?_
 (have W:=jA Ta hg;repeat' (first|refine aq fun K hK=>?_|refine au ?_|(refine hK _ _ ?_;clear hK K)|(refine ap ?_ ?_<;>intro hc<;>try exact jz)|refine cT UW ?_|(refine bU ?_ ?_<;>intro hc<;>try exact jz)|refine ar ?_|exact jI|(clear hK K)))
 exact dZ hB hE hE (tl:=[]) (fun _=>rfl) dz [.tmp 2]
variable{e':TA}
theorem QO(P':cV prog 117 [.pt (hn 3 k) 0 0 0,aM eI 1 inp] e (.aP []) e'):cV prog 310 [.pt (hn 10 0) 0 0 0] e (.aP []) e':=by
 have Ta:=hE.low;refine⟨?_,hE,P'.e2,P'.aU,by simp only[aW,AV.all,fV hg,Bool.and_self]⟩;refine aL (L:=ids e) func310 ntmps310 ?_ (hL:=rfl);generalize hB:ids e=B;refine eO ?_
 (have W:=jA Ta hg;repeat' (first|refine aq fun K hK=>?_|refine au ?_|(with_reducible refine gR 0 ?_);refine dE 0 (bc 0 9) mixed ?_|(refine hK _ _ ?_;clear hK K)|(refine ap ?_ ?_<;>intro hc<;>try exact jz)|refine cT P' ?_|(refine bU ?_ ?_<;>intro hc<;>try exact jz)|refine ar ?_|exact jI|(clear hK K)))
 exact dZ hB hE P'.e2 (tl:=[]) (fun _=>rfl) dz []
theorem Iv{b:Bool}{nm:TF}{v:aj}(P':cV prog 116 [.agg (ci p),.pt (hn 3 k) 0 0 0,rS nm,.agg (bS v)] e (rB b) e'):cV prog 309 [.pt (hn 10 0) 0 0 0,rS nm,.agg (bS v)] e (rB b) e':=by
 have Ta:=hE.low;rw[K7]at P';simp only[k9]at P';refine⟨?_,hE,P'.e2,P'.aU,by simp only[aW,AV.all,fV hg,Bool.and_self,Bool.and_true,bS]⟩;refine aL (L:=ids e) func309 ntmps309 ?_ (hL:=rfl);generalize hB:ids e=B;refine eO ?_
 (have W:=jA Ta hg;repeat' (first|refine aq fun K hK=>?_|refine au ?_|(with_reducible refine gR 1 ?_);refine dE 1 (bc 0 12) mixed ?_|(refine hK _ _ ?_;clear hK K)|(refine ap ?_ ?_<;>intro hc<;>try exact jz)|refine aV 4 ?_|refine cT P' ?_|(refine bU ?_ ?_<;>intro hc<;>try exact jz)|refine ar ?_|exact jI|(clear hK K)))
 exact dZ hB hE P'.e2 (tl:=[(4,.var 54 (bS v))]) (fun _=>rfl) (dm jC dz) [.tmp 6]
end
end Go.Proofs.YtjpcgmjaipfgdaaGreatDoor
namespace Go.Proofs.YtjpcgmjaipfgdaaGreatDoor
open Go Go.Gd Tryz
attribute [go_sem] Bool.false_and Bool.true_and
structure re{σ:Type}(tm:σ->Int)(sp:σ->σ)(se:σ->ByteArray->aj->Option σ)(E:List aD)(I:σ->Prop)(g:σ->List (Nat×Row))(T:TypeId)(v:AV)(ft fs fe:FuncId):Prop where
 mt : oG prog T "furcate/trace.time" = some ft
 ms : oG prog T "furcate/trace.step" = some fs
 me : oG prog T "furcate/trace.set" = some fe
 ct:aT prog ft=true
 cs:aT prog fs=true
 ce:aT prog fe=true
 time:∀s,I s->cV prog ft [v] (g s) (rI (tm s)) (g s)
 step:∀s,I s->tm s<200->cV prog fs [v] (g s) (.aP []) (g (sp s))
 set:∀s k,I s->k<E.length->cV prog fe [v,rS (nth E k).name,.agg (bS (nth E k).v)] (g s) (rB (se s (nth E k).name (nth E k).v).isSome) (g ((se s (nth E k).name (nth E k).v).getD s))
structure Gq(σ:Type) where
 s:σ
 k:Nat
 b:Bool
section
variable {σ:Type}{tm:σ->Int}{sp:σ->σ}{se:σ->TF->aj->Option σ}{E:List aD}{I:σ->Prop}{g:σ->TA}{T:TG}{v:AV}{ft fs fe:FuncId}
def re.kept(h:re tm sp se E I g T v ft fs fe)(ok:mU tm sp se E I)(s0:σ):mU tm sp se E fun s=>I s/\∀i,aA (g s0) i≠none->aA (g s) i≠none:=by
 refine⟨fun s k s' hs hk e=>?_,fun s hs ht=>?_,fun s hs=>ok.tm s hs.1⟩
 ·obtain⟨a,b⟩:=ok.se s k s' hs.1 hk e;have hd:=(h.set s k hs.1 hk).aU;rw[e]at hd;exact⟨⟨a,fun i hi=>hd i (hs.2 i hi)⟩,b⟩
 ·obtain⟨a,b⟩:=ok.st s hs.1 ht;exact⟨⟨a,fun i hi=>(h.step s hs.1 ht).aU i (hs.2 i hi)⟩,b⟩
def RQ(h:re tm sp se E I g T v ft fs fe)(ok:mU tm sp se E I)(hl:E.length<=1000)(s0:σ)(hi:I s0)(t0:Int)(ht0:cn t0)(h0:tm s0<=dV t0) :
  cV prog 177 [.iG T v,aM bA 5 E,rI t0] (g s0) (rI (nh E (dV t0) (iq tm sp se E (dV t0) ((dV t0-tm s0).toNat+1) s0 0 false))) (g (iq tm sp se E (dV t0) ((dV t0-tm s0).toNat+1) s0 0 false).1):=by
 have hc:dV t0=min (max t0 0) 200:=rfl;have ht2:dV t0<=200:=jB;have WA:0<=dV t0:=jB;obtain⟨⟨k1,k2⟩,k3,k4,k5⟩:=wI (h.kept ok s0) ht2 ((dV t0-tm s0).toNat+1) s0 0 false ⟨hi,fun i h=>h⟩ h0 (Nat.zero_le _);refine⟨?_,(h.time s0 hi).e1,(h.time _ k1).e1,k2,by have:=(h.time s0 hi).a;simp only[aW,AV.all,Bool.and_true]at this ⊢;rw[this]⟩;generalize hF:iq tm sp se E (dV t0) ((dV t0-tm s0).toNat+1) s0 0 false=F at*;have Tc:(if 200<(if 0>t0 then 0 else t0)then 200 else(if 0>t0 then 0 else t0))=dV t0:=by unfold dV;(repeat' split)<;>omega
 clear hc;generalize dV t0=t at*;have Z2:=h.mt;have hms:=h.ms;have hme:=h.me;obtain⟨e,he⟩:∃e,g s0=e:=⟨_,rfl⟩;rw[he];refine aL (L:=ids e) func177 ntmps177 ?_ (hL:=rfl);generalize hB:ids e=B;refine eO ?_;subst he
 (have W:=Tc;repeat' (first|refine aq fun K hK=>?_|refine au ?_|(with_reducible refine gR 3 ?_);refine dE 3 (bc 0 18) mixed ?_|(with_reducible refine gR 4 ?_);refine dE 4 (bc 0 17) mixed ?_|(refine hK _ _ ?_;clear hK K)|(refine ap ?_ ?_<;>intro hc<;>try exact jz)|(refine bU ?_ ?_<;>intro hc<;>try exact jz)|refine ar ?_|exact jI|(clear hK K)))
 have Tk:=hK;clear hK;refine eu (S:=Gq σ) [(7,3),(13,49)] (fun x=>I x.s/\tm x.s<=t/\x.k<=E.length/\iq tm sp se E t ((t-tm x.s).toNat+1) x.s x.k x.b=F) (fun x=>[(7,rI x.k),(8,rB x.b)]) (fun x=>⟨B,tie (g x.s) []⟩) (fun x=>(t-tm x.s).toNat) ⟨s0,0,false⟩ ⟨hi,h0,Nat.zero_le _,hF⟩ (eD rfl cH) ?_;rintro⟨s,k,b⟩ ⟨hs,ht,UU,hg⟩ Kr Tg;simp only at hs ht UU hg;have ZZ:=(h.time s hs).e1.low;obtain⟨⟨u1,u2⟩,u3,u4⟩:=vo (h.kept ok s) (E.length+1) s k b ⟨hs,fun i h=>h⟩;obtain⟨Q,hQ⟩:∃Q,eT tm se E (E.length+1) s k b=Q:=⟨_,rfl⟩;refine S ?_
 (repeat' (first|refine aq fun K hK=>?_|refine au ?_|(with_reducible refine gR 3 ?_);refine dE 3 (bc 0 18) mixed ?_|(with_reducible refine gR 4 ?_);refine dE 4 (bc 0 17) mixed ?_|(refine hK _ _ ?_;clear hK K)|(refine ap ?_ ?_<;>intro hc<;>try exact jz)|(refine bU ?_ ?_<;>intro hc<;>try exact jz)|refine ar ?_|exact jI|(clear hK K)))
 have ZJ:=hK;clear hK;refine eu (S:=Gq σ) [(7,2),(13,38)] (fun y=>I y.s/\tm y.s=tm s/\y.k<=E.length/\eT tm se E (E.length+1-y.k) y.s y.k y.b=Q) (fun y=>[(7,rI y.k),(8,rB y.b)]) (fun y=>⟨B,tie (g y.s) []⟩) (fun y=>2*(E.length-y.k)+(if y.b=true then 0 else 1)) ⟨s,k,b⟩ ⟨hs,rfl,UU,?_⟩ (eD rfl cH) ?_
 ·exact(GI (E.length+1-k) (E.length+1) s k b jB jB).trans hQ
 rintro⟨s1,k1',b1⟩ ⟨Xb,YY,YZ,Wj⟩ Kr2 WR;simp only at Xb YY YZ Wj;have Wt:=h.time s1 Xb;have TT:=Wt.e1.low;have UK:=h.ct;by_cases Y0:b1=false/\k1'<E.length/\(nth E k1').at_=tm s1
 ·obtain⟨cb,ck,ca⟩:=Y0;have Td:=h.set s1 k1' Xb ck;have hce:=h.ce;have ck2:(k1':Int)<(E.length:Int):=jB;subst cb;rw[show E.length+1-k1'=(E.length-k1')+1 from jB]at Wj;cases e:se s1 (nth E k1').name (nth E k1').v with
  |none=>
   rw[Sy ck ca e]at Wj;rw[e]at Td;refine S ?_
   (have W:=jA Z2 (jA hme (jA TT (jA ck2 (ca))));repeat' (first|refine aq fun K hK=>?_|refine au ?_|(with_reducible refine gR 3 ?_);refine dE 3 (bc 0 18) mixed ?_|(with_reducible refine gR 4 ?_);refine dE 4 (bc 0 17) mixed ?_|(refine hK _ _ ?_;clear hK K)|(refine ap ?_ ?_<;>intro hc<;>try exact jz)|(refine mq Wt ?_ (h0:=UK))|(refine cT Td ?_ (h0:=hce))|(refine bU ?_ ?_<;>intro hc<;>try exact jz)|refine ar ?_|exact jI|(clear hK K)))
   exact WR _ _ (eJ ⟨s1,k1',true⟩ ⟨Xb,YY,YZ,(vA (.inl rfl)).trans Wj⟩ (by show 2*(E.length-k1')+0<2*(E.length-k1')+1;omega) rfl cH)
  |some s2=>
   rw[LH ck ca e]at Wj;rw[e]at Td;obtain⟨n1,n2⟩:=ok.se s1 k1' s2 Xb ck e;refine S ?_
   (have W:=jA Z2 (jA hme (jA TT (jA ck2 (ca))));repeat' (first|refine aq fun K hK=>?_|refine au ?_|(with_reducible refine gR 3 ?_);refine dE 3 (bc 0 18) mixed ?_|(with_reducible refine gR 4 ?_);refine dE 4 (bc 0 17) mixed ?_|(refine hK _ _ ?_;clear hK K)|(refine ap ?_ ?_<;>intro hc<;>try exact jz)|(refine mq Wt ?_ (h0:=UK))|(refine cT Td ?_ (h0:=hce))|(refine bU ?_ ?_<;>intro hc<;>try exact jz)|refine ar ?_|exact jI|(clear hK K)))
   exact WR _ _ (eJ ⟨s2,k1'+1,false⟩ ⟨n1,n2.trans YY,by show k1'+1<=E.length;omega,by show eT tm se E (E.length+1-(k1'+1)) s2 (k1'+1) false=Q;rw[show E.length+1-(k1'+1)=E.length-k1' from jB];exact Wj⟩ (by show 2*(E.length-(k1'+1))+1<2*(E.length-k1')+1;omega) rfl cH)
 ·have hQ1:Q=(s1,k1',b1):=by
   rw[<-Wj];by_cases a:b1=true\/E.length<=k1'
   ·exact vA a
   ·refine Rb fun hl e=>Y0 ⟨?_,hl,e⟩
    cases b1
    ·rfl
    ·exact(a (.inl rfl)).elim
  have h3:(b1=true/\True/\True)\/(b1=false/\(k1':Int)<(E.length:Int)/\¬(nth E k1').at_=tm s1)\/(b1=false/\¬(k1':Int)<(E.length:Int)/\True):=by
   cases b1
   ·right
    by_cases ck:k1'<E.length
    ·exact .inl ⟨rfl,jB,fun e=>Y0 ⟨rfl,ck,e⟩⟩
    ·exact .inr ⟨rfl,jB,trivial⟩
   ·exact .inl ⟨rfl,trivial,trivial⟩
  have hd3:(¬(k1':Int)<(E.length:Int)/\True/\∀z:σ,nh E t (z,k1',b1)=0)\/((k1':Int)<(E.length:Int)/\(nth E k1').at_<=t/\∀z:σ,nh E t (z,k1',b1)=(k1':Int)+1)\/((k1':Int)<(E.length:Int)/\¬(nth E k1').at_<=t/\∀z:σ,nh E t (z,k1',b1)=0):=by
   by_cases ck:k1'<E.length
   ·by_cases d:(nth E k1').at_<=t
    ·exact .inr (.inl ⟨jB,d,fun z=>by unfold nh;rw[if_pos ⟨ck,d⟩]⟩)
    ·exact .inr (.inr ⟨jB,d,fun z=>by unfold nh;rw[if_neg (fun h=>d h.2)]⟩)
   ·exact .inl ⟨jB,trivial,fun z=>by unfold nh;rw[if_neg (fun h=>ck h.1)]⟩
  rw[hQ1]at hQ;have T4:iq tm sp se E t ((t-tm s).toNat+1) s k b=if tm s1=t then(s1,k1',b1)else if tm (sp s1)=tm s1 then(sp s1,k1',b1)else iq tm sp se E t (t-tm s).toNat (sp s1) k1' b1:=by
   conv=>lhs;unfold iq
   rw[hQ]
  rw[hg]at T4;by_cases a:tm s1=t
  ·rw[if_pos a]at T4;subst T4;rcases h3 with⟨cb,q1,q2⟩|⟨cb,q1,q2⟩|⟨cb,q1,q2⟩<;>subst cb<;>rcases hd3 with⟨d1,d2,d3⟩|⟨d1,d2,d3⟩|⟨d1,d2,d3⟩
   all_goals try omega
   all_goals
    refine S ?_
    (have W:=jA Z2 (jA TT (jA q1 (jA q2 (jA a (jA d1 (d2))))));repeat' (first|refine aq fun K hK=>?_|refine au ?_|(with_reducible refine gR 3 ?_);refine dE 3 (bc 0 18) mixed ?_|(with_reducible refine gR 4 ?_);refine dE 4 (bc 0 17) mixed ?_|(refine hK _ _ ?_;clear hK K)|(refine ap ?_ ?_<;>intro hc<;>try exact jz)|(refine mq Wt ?_ (h0:=UK))|(refine⟨rI 0,?_⟩;refine S ?_)|(refine⟨rI 0,fun h=>absurd h Bool.false_ne_true,?_⟩;refine S ?_)|(refine cT Wt ?_ (h0:=UK))|refine ZJ _ _ ?_|refine Tk _ _ ?_|(refine bU ?_ ?_<;>intro hc<;>try exact jz)|refine ar ?_|exact jI|(clear hK K)))
    rw[d3];exact dZ hB (h.time s0 hi).e1 Wt.e1 (tl:=[]) (fun _=>rfl) dz [.tmp 6]
  ·rw[if_neg a]at T4;have O':tm s1<200:=jB;have P':=h.step s1 Xb O';obtain⟨w1,w2⟩:=ok.st s1 Xb O';have X8:=h.time (sp s1) w1;have UT:=X8.e1.low;have Ug:=h.cs;by_cases c:tm (sp s1)=tm s1
   ·rw[if_pos c]at T4;subst T4;rcases h3 with⟨cb,q1,q2⟩|⟨cb,q1,q2⟩|⟨cb,q1,q2⟩<;>subst cb<;>rcases hd3 with⟨d1,d2,d3⟩|⟨d1,d2,d3⟩|⟨d1,d2,d3⟩
    all_goals try omega
    all_goals
     refine S ?_
     (have W:=jA Z2 (jA hms (jA TT (jA UT (jA q1 (jA q2 (jA a (jA c (jA d1 (d2)))))))));repeat' (first|refine aq fun K hK=>?_|refine au ?_|(with_reducible refine gR 3 ?_);refine dE 3 (bc 0 18) mixed ?_|(with_reducible refine gR 4 ?_);refine dE 4 (bc 0 17) mixed ?_|(refine hK _ _ ?_;clear hK K)|(refine ap ?_ ?_<;>intro hc<;>try exact jz)|(refine mq Wt ?_ (h0:=UK))|(refine⟨rI 0,?_⟩;refine S ?_)|(refine⟨rI 0,fun h=>absurd h Bool.false_ne_true,?_⟩;refine S ?_)|(refine cT Wt ?_ (h0:=UK))|(refine cT P' ?_ (h0:=Ug))|(refine cT X8 ?_ (h0:=UK))|refine ZJ _ _ ?_|refine Tk _ _ ?_|(refine bU ?_ ?_<;>intro hc<;>try exact jz)|refine ar ?_|exact jI|(clear hK K)))
     rw[d3];exact dZ hB (h.time s0 hi).e1 X8.e1 (tl:=[]) (fun _=>rfl) dz [.tmp 6]
   ·rw[if_neg c]at T4;rcases h3 with⟨cb,q1,q2⟩|⟨cb,q1,q2⟩|⟨cb,q1,q2⟩<;>subst cb
    all_goals
     refine S ?_
     (have W:=jA Z2 (jA hms (jA TT (jA UT (jA q1 (jA q2 (jA a (c)))))));repeat' (first|refine aq fun K hK=>?_|refine au ?_|(with_reducible refine gR 3 ?_);refine dE 3 (bc 0 18) mixed ?_|(with_reducible refine gR 4 ?_);refine dE 4 (bc 0 17) mixed ?_|(refine hK _ _ ?_;clear hK K)|(refine ap ?_ ?_<;>intro hc<;>try exact jz)|(refine mq Wt ?_ (h0:=UK))|(refine⟨rI 0,?_⟩;refine S ?_)|(refine⟨rI 0,fun h=>absurd h Bool.false_ne_true,?_⟩;refine S ?_)|(refine cT Wt ?_ (h0:=UK))|(refine cT P' ?_ (h0:=Ug))|(refine cT X8 ?_ (h0:=UK))|refine ZJ _ _ ?_|(refine bU ?_ ?_<;>intro hc<;>try exact jz)|refine ar ?_|exact jI|(clear hK K)))
     have US:=T4.symm;rw[show(t-tm s).toNat=(t-tm (sp s1)).toNat+1 from jB]at US;exact Tg _ _ (eJ ⟨sp s1,k1',_⟩ ⟨w1,by show tm (sp s1)<=t;omega,YZ,US⟩ (by show(t-tm (sp s1)).toNat<(t-tm s).toNat;omega) rfl cH)
end
end Go.Proofs.YtjpcgmjaipfgdaaGreatDoor
namespace Go.Proofs.YtjpcgmjaipfgdaaGreatDoor
open Go Go.Gd Tryz Go.Gd.MV
structure ES where
 m:MV
 N:NM
 e:List (Nat×Row)
 E:List (Nat×Row)
structure EI(p:af)(inp:List Int)(k:Nat)(x:ES):Prop where
 R:bH p (cf p) x.m x.N x.e
 key:x.N.k=k
 mi:MI p (cf p) x.m
 bd:Bd inp.length x.m
 t0:0<=x.m.time
 t1:x.m.time<=100000
 ok:fO 0 x.E
 sub:∀i r,aA x.e i=some r->aA x.E i=some r
 te:aA x.E (hn 10 0)=some (.var 283 (k9 p++[.pt (hn 3 k) 0 0 0,aM eI 1 inp]))
 no:aA x.e (hn 10 0)=none
def BU(p:af)(inp:TD)(k:Nat)(F:TD->MV->MV)(x x':ES):Prop:=x'.m=F inp x.m/\EI p inp k x'/\cV prog 117 [.pt (hn 3 k) 0 0 0,aM eI 1 inp] x.E (.aP []) x'.E
def Aj(p:af)(inp:TD)(k:Nat)(m':MV)(nm:TF)(v:aj)(x x':ES):Prop:=x'.m=m'/\EI p inp k x'/\cV prog 116 [.agg (ci p),.pt (hn 3 k) 0 0 0,rS nm,.agg (bS v)] x.E (rB true) x'.E
section
variable {p:af}(hs:gk p)(UA:∀k,k<p.aa.nodes.length->0<=nth p.fn k/\nth p.fn k<p.aa.av.length){F:TD->MV->MV}(hF:bQ p (cf p) F){inp:TD}(Uk:inp.length<=1000)(hi:∀x∈inp,cn x){k:Nat}{x:ES}
include hs hF Uk hi
theorem P0(h:EI p inp k x)(ht:x.m.time<200):∃x',BU p inp k F x x':=by
 have ht0:=h.t0;obtain⟨N',l',⟨hR',Tv,T5⟩,hU,P'⟩:=Nt hs hF Uk hi h.R h.mi h.bd ⟨ht0,h.t1⟩ (ids x.E);have WC:∀i,aA l' i≠none->aA x.e i≠none\/aA x.E i=none:=fun i hi=>by
  rcases hU.new i hi with h1|h1
  ·exact .inl h1
  ·right
   cases hx:aA x.E i with
   |none=>rfl
   |some r=>exact(h1 ((lA _ _).2 (by rw[hx];simp))).elim
 have hd:=cV.more P' h.ok h.sub WC;have Te:aA l' (hn 10 0)=none:=by
  cases hx:aA l' (hn 10 0)with
  |none=>rfl
  |some r=>
   rcases WC (hn 10 0) (by rw[hx];simp)with h1|h1
   ·exact(h1 h.no).elim
   ·rw[h.te]at h1;cases h1
 have hp:=h.key;have eP:mP x.N=.pt (hn 3 k) 0 0 0:=by unfold mP;rw[hp]
 rw[eP]at hd;have Wy:=hF.time hi h.mi;refine⟨⟨F inp x.m,N',l',gu x.E l'⟩,rfl,⟨hR',Tv.trans hp,hF.mi hi h.mi,T5,?_,?_,hd.e2,fun i r hr=>?_,?_,Te⟩,hd⟩
 ·show 0<=(F inp x.m).time;rcases Wy with e|e<;>omega
 ·show(F inp x.m).time<=100000;rcases Wy with e|e<;>omega
 ·show aA (gu x.E l') i=some r;have hr:aA l' i=some r:=hr;rw[vy hR'.ok.nodup,hr];rfl
 ·show aA (gu x.E l') (hn 10 0)=_;rw[vy hR'.ok.nodup,Te];exact h.te
omit hF Uk hi
include UA
theorem OH(h:EI p inp k x)(nm:TF)(v:aj)(e:gX p (cf p) x.m nm v=none):cV prog 116 [.agg (ci p),.pt (hn 3 k) 0 0 0,rS nm,.agg (bS v)] x.E (rB false) x.E:=by
 have hp:=h.key;have eP:mP x.N=.pt (hn 3 k) 0 0 0:=by unfold mP;rw[hp]
 have hC:=qy hs;have hRE:=h.R.vD h.ok h.sub;have hk:=zt h.mi h.bd (by have:=hC.len;have:=hC.oS;have:=hs.ok.aa.av;have:=hs.ok.size;omega);unfold gX at e;split at e
 ·rename_i c;have:=PO hRE hk nm v c;rw[eP]at this;exact this
 rename_i c;split at e
 ·rename_i d;have hm:lU v=true:=by
   cases hh:lU v
   ·exact(c (.inr (.inl hh))).elim
   ·rfl
  have:=Ki hRE hk nm v hs UA h.mi (fun e=>c (.inl e)) hm (fun e=>c (.inr (.inr e))) d;rw[eP]at this;exact this
 ·cases e
theorem MX(h:EI p inp k x)(nm:TF)(v:aj)(hv:cn v.n){m':MV}(e:gX p (cf p) x.m nm v=some m'):m'.time=x.m.time/\∃x',Aj p inp k m' nm v x x':=by
 have hp:=h.key;have eP:mP x.N=.pt (hn 3 k) 0 0 0:=by unfold mP;rw[hp]
 have hC:=qy hs;have hRE:=h.R.vD h.ok h.sub;have hk:=zt h.mi h.bd (by have:=hC.len;have:=hC.oS;have:=hs.ok.aa.av;have:=hs.ok.size;omega);unfold gX at e;split at e
 ·cases e
 rename_i c;split at e
 ·cases e
 rename_i d;cases e;have hm:lU v=true:=by
  cases hh:lU v
  ·exact(c (.inr (.inl hh))).elim
  ·rfl
 obtain⟨d1,d2⟩:=Fa hRE hk nm v hs UA h.mi (fun e=>c (.inl e)) hm (fun e=>c (.inr (.inr e))) d;obtain⟨_,d4⟩:=Fa h.R hk nm v hs UA h.mi (fun e=>c (.inl e)) hm (fun e=>c (.inr (.inr e))) d;rw[eP]at d1;have UD:hn 10 0≠hn 1 x.N.ah.c:=dh jC jC jC;have XR:=GF h.mi (fun e=>c (.inl e)) (nth (gS p (gp (cf p) x.m)) (ik nm v.ty (gS p (gp (cf p) x.m)) 0).toNat).slot.toNat hv;generalize (nth (gS p (gp (cf p) x.m)) (ik nm v.ty (gS p (gp (cf p) x.m)) 0).toNat).slot.toNat=kk at*;obtain⟨h1,_⟩:=h.mi.ah fun e=>c (.inl (.inl e))
 refine⟨rfl,⟨⟨rk x.m kk v,x.N,_,_⟩,rfl,⟨d4,hp,XR,?_,h.t0,h.t1,d2.ok,fun i r hr=>?_,?_,?_⟩,d1⟩⟩
 ·exact h.bd.ba (by show(x.m.ah.slots.set kk v).length<=24;rw[List.length_set];exact h.bd.ah h1)
 ·show aA (bg x.E _ _) i=some r;have hr:aA (bg x.e _ _) i=some r:=hr;rw[bF]at hr ⊢;split
  ·rename_i e;rw[if_pos e]at hr;exact hr
  ·rename_i e;rw[if_neg e]at hr;exact h.sub i r hr
 ·show aA (bg x.E _ _) (hn 10 0)=_;rw[bF,if_neg UD];exact h.te
 ·show aA (bg x.e _ _) (hn 10 0)=_;rw[bF,if_neg UD];exact h.no
end
end Go.Proofs.YtjpcgmjaipfgdaaGreatDoor
namespace Go.Proofs.YtjpcgmjaipfgdaaGreatDoor
open Go Go.Gd Tryz
@[go_sem] def j0S(p:af)(l:TB):ci p++l=aM eF 5 p.aa.nodes::aM fX 5 p.aa.av::aM eI 1 p.types::aM eI 1 p.slots::aM eI 1 p.fn::aM eI 1 p.size::l:=rfl
attribute [go_sem] List.append_nil
structure mn(p:af):Prop where
 ok:gk p
 fn:∀k,k<p.aa.nodes.length->0<=nth p.fn k/\nth p.fn k<p.aa.av.length
end Go.Proofs.YtjpcgmjaipfgdaaGreatDoor
namespace Go.Proofs.YtjpcgmjaipfgdaaGreatDoor
open Go Go.Gd Tryz Go.Gd.MV
def Qx : oG prog 281 "furcate/trace.time" = some 311 := by kernel_rfl
def PM : oG prog 281 "furcate/trace.step" = some 310 := by kernel_rfl
def J4 : oG prog 281 "furcate/trace.set" = some 309 := by kernel_rfl
@[go_sem] def qbI:(prog).underlying 281=some (.pointer 283):=jG
def jm(x:ES):Int:=x.m.time
open Classical in
noncomputable def stE(p:af)(inp:List Int)(k:Nat)(F:List Int->MV->MV)(x:ES):ES:=if h:∃x',BU p inp k F x x' then Classical.choose h else x
open Classical in
noncomputable def seE(p:af)(inp:List Int)(k:Nat)(x:ES)(nm:ByteArray)(v:aj):Option ES:=(gX p (cf p) x.m nm v).map fun m'=>if h:∃x',Aj p inp k m' nm v x x' then Classical.choose h else x
section
variable {p:af}(hp:mn p){F:TD->MV->MV}(hF:bQ p (cf p) F){inp:TD}(Uk:inp.length<=1000)(hi:∀x∈inp,cn x){k:Nat}{x:ES}{E:List aD}(hE:∀k,k<E.length->cn (nth E k).v.n)
include hp hF Uk hi
theorem AD(h:EI p inp k x)(ht:x.m.time<200):BU p inp k F x (stE p inp k F x):=by have hx:=P0 hp.ok hF Uk hi h ht;unfold stE;rw[dif_pos hx];exact Classical.choose_spec hx
omit hF Uk hi
theorem E3(h:EI p inp k x)(nm:TF)(v:aj)(e:seE p inp k x nm v=none):gX p (cf p) x.m nm v=none:=by
 unfold seE at e;cases hh:gX p (cf p) x.m nm v with
 |none=>rfl
 |some m'=>rw[hh]at e;cases e
theorem Bi(h:EI p inp k x)(nm:TF)(v:aj)(hv:cn v.n){x':ES}(e:seE p inp k x nm v=some x'):∃m',gX p (cf p) x.m nm v=some m'/\m'.time=x.m.time/\Aj p inp k m' nm v x x':=by
 unfold seE at e;cases hh:gX p (cf p) x.m nm v with
 |none=>rw[hh]at e;cases e
 |some m'=> rw[hh]at e;obtain⟨h1,hx⟩:=MX hp.ok hp.fn h nm v hv hh;simp only[Option.map_some,dif_pos hx]at e;cases e;exact⟨m',rfl,h1,Classical.choose_spec hx⟩
include hF Uk hi hE
theorem wU:mU jm (stE p inp k F) (seE p inp k) E (EI p inp k):=by
 refine⟨fun s j s' h hj e=>?_,fun s h ht=>?_,fun s h=>h.t0⟩
 ·obtain⟨m',_,e2,e3⟩:=Bi hp h _ _ (hE j hj) e;refine⟨e3.2.1,?_⟩;show s'.m.time=s.m.time;rw[e3.1];exact e2
 ·have h1:=AD hp hF Uk hi h ht;refine⟨h1.2.1,?_⟩;show(stE p inp k F s).m.time=s.m.time\/(stE p inp k F s).m.time=s.m.time+1;rw[h1.1];rcases hF.time hi h.mi with e|e
  ·exact .inl e
  ·exact .inr e.1
theorem Lf:re jm (stE p inp k F) (seE p inp k) E (EI p inp k) (fun x=>x.E) 281 (.pt (hn 10 0) 0 0 0) 311 310 309:=by
 refine⟨Qx,PM,J4,jD,jD,jD,fun s h=>?_,fun s h ht=>?_,fun s j h hj=>?_⟩
 ·have hC:=qy hp.ok;have hk:=zt h.mi h.bd (by have:=hC.len;have:=hC.oS;have:=hp.ok.ok.aa.av;have:=hp.ok.ok.size;omega);have UW:=we (h.R.vD h.ok h.sub) hk;rw[show mP s.N=.pt (hn 3 k) 0 0 0 by unfold mP;rw[h.key]]at UW;exact OT h.ok h.te UW
 ·exact QO h.ok h.te (AD hp hF Uk hi h ht).2.2
 ·cases e:seE p inp k s (nth E j).name (nth E j).v with
  |none=>exact Iv h.ok h.te (OH hp.ok hp.fn h _ _ (E3 hp h _ _ e))
  |some s'=> obtain⟨m',_,_,e3⟩:=Bi hp h _ _ (hE j hj) e;exact Iv h.ok h.te e3.2.2
end
def RJ{p:af}(hp:mn p)(Tn:fq p){F:TD->MV->MV}(hF:bQ p (cf p) F){inp:TD}(Uk:inp.length<=1000)(hi:∀x∈inp,cn x){E:List aD}(hE:∀k,k<E.length->cn (nth E k).v.n)(hl:E.length<=1000)(t:Int)(ht:cn t) :
  ∃x0:ES,EI p inp x0.N.k x0/\x0.m.time=0/\bf p (cf p) [] (lQ p (cf p)) x0.m/\x0.m.dG (cf p)/\
   ab prog 127 [.agg (ci p),aM eI 1 inp,aM bA 5 E,rI t] [] (fun r l=>r=.aP [.pt (hn 3 x0.N.k) 0 0 0,rI (nh E (dV t) (iq jm (stE p inp x0.N.k F) (seE p inp x0.N.k) E (dV t) ((dV t-jm x0).toNat+1) x0 0 false))]/\l=(iq jm (stE p inp x0.N.k F) (seE p inp x0.N.k) E (dV t) ((dV t-jm x0).toNat+1) x0 0 false).1.E):=by
 obtain⟨m1,hg,P',h1,Wy⟩:=B5 Tn.ok (wT Tn.ok) [];have Wy:m1.time=0:=Wy;obtain⟨N,l,hR,hX,hb,Z3⟩:=Mg Tn [hn 10 0] hg P' (fun e0=>by obtain⟨hl,_,_,k0,n,a,ek,hm⟩:=h1.ah jB;have Tt:=hm.head.1;exact⟨hl,jB,jB⟩)
 have Te:aA l (hn 10 0)=none:=by
  cases hx:aA l (hn 10 0)with
  |none=>rfl
  |some r=>exact(hX (hn 10 0) (by rw[hx];simp) jE).elim
 have V4:∀i,aA (l++[(hn 10 0,.var 283 (k9 p++[.pt (hn 3 N.k) 0 0 0,aM eI 1 inp]))]) i=(aA l i).or (if i=hn 10 0 then some (.var 283 (k9 p++[.pt (hn 3 N.k) 0 0 0,aM eI 1 inp]))else none):=fun i=>by rw[uT];rfl
 have U9:=hR.root;have hok:fO 0 (l++[(hn 10 0,.var 283 (k9 p++[.pt (hn 3 N.k) 0 0 0,aM eI 1 inp]))]):=by
  refine⟨fun i h0 h1=>?_,?_,fun i r hr=>?_⟩
  ·rw[V4,hR.ok.low i h1,if_neg (by have:=ix 10 0;omega)];rfl
  ·have:ids (l++[(hn 10 0,Row.var 283 (k9 p++[.pt (hn 3 N.k) 0 0 0,aM eI 1 inp]))])=ids l++[hn 10 0]:=by simp[ids]
   rw[this,List.nodup_append];refine⟨hR.ok.nodup,jE,fun a ha b hb e=>?_⟩;simp at hb;subst hb e;exact(lA _ _).1 ha Te
  ·have hm:∀j,(ids l).contains j=true->(ids (l++[(hn 10 0,Row.var 283 (k9 p++[.pt (hn 3 N.k) 0 0 0,aM eI 1 inp]))])).contains j=true:=fun j hj=>by
    rw[List.contains_iff_mem]at hj ⊢;simp[ids]at hj ⊢;exact .inl hj
   rw[V4]at hr;cases hx:aA l i with
   |some r'=> rw[hx]at hr;cases hr;exact fT hm _ (hR.ok.closed i _ hx)
   |none=>
    rw[hx]at hr;have hr:(if i=hn 10 0 then some (Row.var 283 (k9 p++[.pt (hn 3 N.k) 0 0 0,aM eI 1 inp]))else none)=some r:=hr;split at hr
    ·cases hr;have h3:=hm _ (fV U9);show aW _ (k9 p++[.pt (hn 3 N.k) 0 0 0,aM eI 1 inp])=true;rw[sn,fT (q:=dU) (fun _ h=>by cases h) _ (Rv p)];simp only[aW,AV.all,h3,Bool.and_true,Bool.true_and]
    ·cases hr
 have Zd:EI p inp N.k ⟨m1,N,l,l++[(hn 10 0,.var 283 (k9 p++[.pt (hn 3 N.k) 0 0 0,aM eI 1 inp]))]⟩:=by
  have Uy:m1.in_<=(inp.length:Int):=by have:=hb.oA;omega
  refine⟨hR,rfl,h1,⟨hb.deep,hb.slots,hb.heap,hb.outs,hb.nB,Uy⟩,by show 0<=m1.time;omega,by show m1.time<=100000;omega,hok,fun i r hr=>?_,?_,Te⟩
  ·show aA (l++_) i=some r;have hr:aA l i=some r:=hr;rw[V4,hr];rfl
  ·show aA (l++_) (hn 10 0)=_;rw[V4,Te,if_pos rfl];rfl
 refine⟨⟨m1,N,l,_⟩,Zd,Wy,hg,P',?_⟩;have Uu:=RQ (Lf hp hF Uk hi (k:=N.k) hE) (wU hp hF Uk hi hE) hl _ Zd t ht (by show m1.time<=_;unfold dV;omega);have UO:=(wI (wU hp hF Uk hi (k:=N.k) hE) (t:=dV t) (by unfold dV;omega) ((dV t-jm ⟨m1,N,l,l++[(hn 10 0,.var 283 (k9 p++[.pt (hn 3 N.k) 0 0 0,aM eI 1 inp]))]⟩).toNat+1) _ 0 false Zd (by show m1.time<=_;unfold dV;omega) (Nat.zero_le _)).1;generalize iq jm (stE p inp N.k F) (seE p inp N.k) E (dV t) ((dV t-jm ⟨m1,N,l,l++[(hn 10 0,.var 283 (k9 p++[.pt (hn 3 N.k) 0 0 0,aM eI 1 inp]))]⟩).toNat+1) ⟨m1,N,l,l++[(hn 10 0,.var 283 (k9 p++[.pt (hn 3 N.k) 0 0 0,aM eI 1 inp]))]⟩ 0 false=G at*;simp only at Uu ⊢;have YI:cV prog 58 [.agg (ci p)] [] (.pt (hn 3 N.k) 0 0 0) l:=⟨Z3,⟨fun _ _ _=>rfl,List.nodup_nil,fun i r h=>by cases h⟩,hR.ok,fun i h=>(h rfl).elim,rfl⟩;have Ta:=hR.ok.low;have haB:=UO.te;have UT:=UO.ok.low;have hpm:∀i,aA (tie l [(4,.var 32 (ci p)),(hn 10 0,.var 283 (k9 p++[.pt (hn 3 N.k) 0 0 0,aM eI 1 inp]))]) i=aA (tie (l++[(hn 10 0,.var 283 (k9 p++[.pt (hn 3 N.k) 0 0 0,aM eI 1 inp]))]) [(4,.var 32 (ci p))]) i:=fun i=>by
  rw[j9,j9,V4];simp only[aA];have:=ix 10 0;cases aA l i
  ·(repeat' split)<;>first|rfl|omega
  ·rfl
 generalize hbad:nh E (dV t) G=bad at*;have haC:=UO.ok;generalize G.1.E=EE at*;generalize l++[(hn 10 0,.var 283 (k9 p++[.pt (hn 3 N.k) 0 0 0,aM eI 1 inp]))]=E0 at*;refine aL func127 ntmps127 ?_
 (have W:=jA Ta (jA Te (jA haB (UT)));repeat' (first|refine aq fun K hK=>?_|refine au ?_|(with_reducible refine gR 1 ?_);refine dC 1 ([],[],[14]) [] [0,1,3,2,4,5,6] mixed ?_|(refine hK _ _ ?_;clear hK K)|(refine ap ?_ ?_<;>intro hc<;>try exact jz)|refine aV 4 ?_|refine aV (hn 10 0) ?_|(refine nS (e:=[]) YI (fun j _ h=>(h rfl).elim) ?_)|(refine RP Uu (tl:=[(4,.var 32 (ci p))]) hpm ?_;try refine S ?_)|(refine bU ?_ ?_<;>intro hc<;>try exact jz)|refine ar ?_|exact jI|(clear hK K)))
 exact dZ (e:=[]) (B:=[]) rfl ⟨fun _ _ _=>rfl,List.nodup_nil,fun i r h=>by cases h⟩ haC (tl:=[(4,.var 32 (ci p))]) (fun _=>rfl) (dm jC dz) [.tmp 8,.tmp 9]
end Go.Proofs.YtjpcgmjaipfgdaaGreatDoor
namespace Go.Proofs.YtjpcgmjaipfgdaaGreatDoor
open Go Go.Gd Tryz
end Go.Proofs.YtjpcgmjaipfgdaaGreatDoor
namespace Go.Proofs.YtjpcgmjaipfgdaaGreatDoor
open Go Go.Gd Tryz Go.Gd.MV
section
variable {p:af}{C:aH}{inp:TD}
def PH(m:MV)(x:ax):(m.ins p C inp x).in_=m.in_\/(x.op=14/\m.in_<(inp.length:Int)/\(m.ins p C inp x).in_=m.in_+1):=by
 by_cases h:x.op=14
 ·rw[MV.jt _ _ _ _ _ h];split
  ·exact .inl rfl
  ·exact .inr ⟨h,jB,rfl⟩
 ·left
  rcases MM (p:=p) (C:=C) (inp:=inp) m x with e|e
  ·exact e
  ·exfalso;have:(m.ins p C inp x).in_=m.in_:=by
    unfold MV.ins;simp only[h,↓reduceIte];repeat' (first|rfl|exact GA _ _|exact FO _ _|refine HD ?_ ?_)
   omega
def Gz(m:MV):(m.one p C inp).in_=m.in_\/((m.bn C).op=14/\m.in_<(inp.length:Int)/\(m.one p C inp).in_=m.in_+1):=PH (p:=p) (C:=C) (inp:=inp) (m.ba (m.ah.jump (m.ah.at_+1))) (m.bn C)
def EP{n:Nat}{m m':MV}(h:fA p C inp n m m'):m.in_<=m'.in_:=by
 induction h with|refl m=>exact Int.le_refl _|@step n m m' h0 h1 hok hg ih=> rcases Gz (p:=p) (C:=C) (inp:=inp) m with e|⟨_,_,e⟩<;>omega
def Dr{n:Nat}{m m':MV}(h:fA p C inp n m m'):m.in_<=inp.length->m'.in_<=inp.length:=by
 induction h with|refl m=>exact id|@step n m m' h0 h1 hok hg ih=> intro hi;rcases Gz (p:=p) (C:=C) (inp:=inp) m with e|⟨_,_,e⟩<;>exact ih jB
def Ru{F:TD->MV->MV}(hF:bQ p C F)(hi:∀x∈inp,cn x){m:MV}(h:MI p C m):m.in_<=(F inp m).in_/\(m.in_<=inp.length->(F inp m).in_<=inp.length):=by
 by_cases e:m.halt
 ·rw[hF.still _ m e];exact⟨Int.le_refl _,id⟩
 ·obtain⟨m1,⟨n,g⟩,d,e1⟩:=hF.step inp hi m h e;rw[e1];exact⟨(EP g:m.dW.in_<=m1.in_),fun h=>(Dr g (h:m.dW.in_<=inp.length):m1.in_<=inp.length)⟩
end
structure IM(p:af)(inp:List Int)(m:MV):Prop where
 mi:MI p (cf p) m
 t0:0<=m.time
 i0:0<=m.in_
 i1:m.in_<=inp.length
def C9{p:af}{m m':MV}{nm:TF}{v:aj}(e:gX p (cf p) m nm v=some m'):¬(m.status=2\/m.status=3)/\m'.time=m.time/\m'.in_=m.in_/\m'.status=m.status/\∃k,m'=rk m k v:=by
 unfold gX at e;split at e
 ·cases e
 rename_i c;split at e
 ·cases e
 cases e;exact⟨fun e=>c (.inl e),rfl,rfl,rfl,_,rfl⟩
section
variable {p:af}{F:TD->MV->MV}(hF:bQ p (cf p) F){inp:TD}(hi:∀x∈inp,cn x){E:List aD}(hE:∀k,k<E.length->cn (nth E k).v.n)
include hF hi
theorem yO{m:MV}(h:IM p inp m):IM p inp (F inp m)/\((F inp m).time=m.time\/((F inp m).time=m.time+1/\(F inp m).status≠1/\¬m.halt)):=by have e:=hF.time hi h.mi;obtain⟨a,b⟩:=Ru hF hi h.mi;have:=h.t0;have:=h.i0;exact⟨⟨hF.mi hi h.mi,by rcases e with e|⟨e,_⟩<;>omega,jB,b h.i1⟩,e⟩
include hE
omit hF hi in
theorem RI{m m':MV}(h:IM p inp m){k:Nat}(hk:k<E.length)(e:gX p (cf p) m (nth E k).name (nth E k).v=some m'):IM p inp m':=by obtain⟨a,b,c,d,k',e⟩:=C9 e;subst e;exact⟨GF h.mi a _ (hE _ hk),h.t0,h.i0,h.i1⟩
theorem Bn:mU MV.time (F inp) (gX p (cf p)) E (IM p inp):=
 ⟨fun s k s' h hk e=>⟨RI hE h hk e,(C9 e).2.1⟩,fun s h _=>⟨(yO hF hi h).1,(yO hF hi h).2.imp id And.left⟩,fun s h=>h.t0⟩
omit hF hi hE
include hF hi hE
end
end Go.Proofs.YtjpcgmjaipfgdaaGreatDoor
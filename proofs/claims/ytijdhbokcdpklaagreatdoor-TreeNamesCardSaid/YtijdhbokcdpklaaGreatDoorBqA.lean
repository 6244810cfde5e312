/- Lemmas. No conditions. -/
import Derived.Test.YtijdhbokcdpklaaGreatDoorTmC
set_option linter.all false
set_option maxHeartbeats 4000000
set_option maxRecDepth 10000
namespace Go.Gd
open Go
def kZ(p:af):UM:=[aM eN 5 p.aa.nodes,aM fY 5 p.aa.aw,aM eI 1 p.types,aM eI 1 p.slots,aM eI 1 p.fn,aM eI 1 p.size]
attribute [go_sem] kZ
def NJ(p:af):aZ eJ (kZ p)=true:=rfl
def OJ(p:af):cf p=kZ p:=rfl
section
variable {σ:Type}{tm:σ->Int}{st:σ->σ}{se:σ->UR->aj->Option σ}{E:List az}{I:σ->Prop}{t:Int}
variable{n k:Nat}{s:σ}
def vu{b:Bool}(h:b=true\/E.length<=k):cz tm se E n s k b=(s,k,b):=by
 cases n with
 |zero=>rfl
 |succ n=>
  unfold cz;rw[if_neg];rintro⟨a,c,_⟩;rcases h with h|h
  ·rw[a]at h;cases h
  ·omega
def Ql{b:Bool}(h:k<E.length->(nth E k).at_≠tm s):cz tm se E n s k b=(s,k,b):=by
 cases n with
 |zero=>rfl
 |succ n=> unfold cz;rw[if_neg];rintro⟨a,c,d⟩;exact h c d
def Uz(h:k<E.length)(ha:(nth E k).at_=tm s)(e:se s (nth E k).name (nth E k).v=none):cz tm se E (n+1) s k false=(s,k,true):=by unfold cz;rw[if_pos ⟨rfl,h,ha⟩,e]
def Nt{s':σ}(h:k<E.length)(ha:(nth E k).at_=tm s)(e:se s (nth E k).name (nth E k).v=some s'):cz tm se E (n+1) s k false=cz tm se E n s' (k+1) false:=by
 conv=>lhs;unfold cz
 rw[if_pos ⟨rfl,h,ha⟩,e]
theorem JG:∀(n m:Nat) (s:σ) (k:Nat) (b:Bool),E.length<n+k->E.length<m+k->cz tm se E n s k b=cz tm se E m s k b
 |0,m,s,k,b,h1,_=>by rw[vu (n:=0) (.inr (by omega)),vu (.inr (by omega))]
 |n,0,s,k,b,_,h2=>by rw[vu (n:=0) (.inr jB),vu (.inr jB)]
 |n+1,m+1,s,k,b,h1,h2=>by
  unfold cz;split
  ·split
   ·exact JG n m _ (k+1) false jB jB
   ·rfl
  ·rfl
theorem Kh{K:Nat}(hk:lD tm st se E I)(hK:∀k,K<=k->k<E.length->t<(nth E k).at_):∀(n:Nat) (s:σ) (k:Nat) (b:Bool),I s->tm s<=t->k<=K->(cz tm se E n s k b).2.1<=K
 |0,s,k,b,hs,h1,h2=>h2
 |n+1,s,k,b,hs,h1,h2=>by
  unfold cz;split
  ·rename_i hc;have I':k<K:=by
    apply Classical.byContradiction;intro h;have:=hK k jB hc.2.1;have:=hc.2.2;omega
   split
   ·rename_i s' e;obtain⟨a1,a2⟩:=hk.se s k s' hs hc.2.1 e;exact Kh hk hK n s' (k+1) false a1 jB jB
   ·exact h2
  ·exact h2
theorem B9{K:Nat}(hk:lD tm st se E I)(ht:t<=200)(hK:∀k,K<=k->k<E.length->t<(nth E k).at_):∀(n:Nat) (s:σ) (k:Nat) (b:Bool),I s->tm s<=t->k<=K->(da tm st se E t n s k b).2.1<=K
 |0,s,k,b,hs,h1,h2=>h2
 |n+1,s,k,b,hs,h1,h2=>by
  have h3:=Kh hk hK (E.length+1) s k b hs h1 h2;obtain⟨a1,a2,_⟩:=nw hk (E.length+1) s k b hs;unfold da;split
  ·exact h3
  rename_i VM;obtain⟨c1,c2⟩:=hk.st _ a1 jB;split
  ·exact h3
  ·exact B9 hk ht hK n _ _ _ c1 jB h3
end
def Ms{P:UY}{f:FuncId}{args:UM}{B:UQ}{L e l tl:UL}{K:UJ}{r0:AV}(hd:cW P f args e r0 l)(hp:∀i,aC L i=aC (tie e tl) i)(k:K r0 ⟨B,tie l tl⟩)(hl:nW 0 tl:=by(repeat' first|exact dK|(refine dq (by decide) ?_)|fail))(h0:aS P f=true:=by exact dD):fh P (.raw (.func (.func f) #[] #[])) args ⟨B,L⟩ K:=by
 refine nQ h0 (LN hp (Cj (E:=fun tl=>e++tl) (E':=fun tl=>l++tl) ?_ (hd.e1.bw hl) (hd.e2.bw hl) ?_ ?_ ?_ k ?_))
 ·simp only[List.append_nil];exact hd.c
 ·simp only[List.append_nil];exact hd.e2.nodup
 ·simp only[List.append_nil];exact hd.a
 ·simp only[List.append_nil];exact hd.e1.closed
 ·simp only[List.append_nil];exact hd.aY
def fv(n:Int)(a b:UP):Prop:=∀j:Nat,(j:Int)<n->j<a.length/\j<b.length/\nth a j=nth b j
variable{n:Int}{a:UP}
def fv.le{m:Int}{b:UP}(h:fv n a b)(e:m<=n):fv m a b:=fun j hj=>h j jB
def GO{y:UP}(h:n<=a.length):fv n a (a++y):=fun j hj=>⟨jB,by rw[List.length_append];omega,by unfold nth;rw[List.getD_eq_getElem?_getD,List.getD_eq_getElem?_getD,List.getElem?_append_left jB]⟩
def Gu{y:UP}(h:n<=a.length):fv n a (a.take n.toNat++y):=fun j hj=>by
 have hl:(a.take n.toNat).length=n.toNat:=by rw[List.length_take];omega
 refine⟨jB,by rw[List.length_append];omega,?_⟩;rw[<-zX (l:=a) (n:=n.toNat) (k:=j) jB];unfold nth;rw[List.getD_eq_getElem?_getD,List.getD_eq_getElem?_getD,List.getElem?_append_left jB]
end Go.Gd
namespace Go.Proofs.YtijdhbokcdpklaaGreatDoor
open Go Go.Gd Tryz
end Go.Proofs.YtijdhbokcdpklaaGreatDoor
namespace Go.Proofs.YtijdhbokcdpklaaGreatDoor
open Go Go.Gd Tryz Go.Gd.MV
section
variable {p:af}{inp:UP}{k:Nat}{e:UL}(hE:fO 0 e)(hg:aC e (hn 10 0)=some (.var 158 (kZ p++[.pt (hn 3 k) 0 0 0,aM eI 1 inp])))
include hE hg
theorem Tv{Sh:k6}(Wz:cW prog 63 [.pt (hn 3 k) 0 0 0] e (.agg (lQ Sh)) e):cW prog 226 [.pt (hn 10 0) 0 0 0] e (rI Sh.time) e:=by
 have U1:=hE.low;refine⟨?_,hE,hE,fun _ h=>h,by simp only[aZ,AV.all,gf hg,Bool.and_self]⟩;refine aO (L:=ids e) func226 ntmps226 ?_ (hL:=rfl);generalize hB:ids e=B;refine fc ?_
 (have W:=jA U1 hg;repeat' (first|refine aq fun K hK=>?_|refine ak ?_|(refine hK _ _ ?_;clear hK K)|(refine ao ?_ ?_<;>intro hc<;>try exact jz)|refine cT Wz ?_|refine ap ?_|exact jI|(clear hK K)))
 exact eG hB hE hE (tl:=[]) (fun _=>rfl) dK [.tmp 2]
variable{e':UL}
theorem LU(P':cW prog 228 [.pt (hn 3 k) 0 0 0,aM eI 1 inp] e (.aQ []) e'):cW prog 225 [.pt (hn 10 0) 0 0 0] e (.aQ []) e':=by
 have U1:=hE.low;refine⟨?_,hE,P'.e2,P'.aY,by simp only[aZ,AV.all,gf hg,Bool.and_self]⟩;refine aO (L:=ids e) func225 ntmps225 ?_ (hL:=rfl);generalize hB:ids e=B;refine fc ?_
 (have W:=jA U1 hg;repeat' (first|refine aq fun K hK=>?_|refine ak ?_|(with_reducible refine gR 0 ?_);refine dE 0 (ba 0 9) mixed ?_|(refine hK _ _ ?_;clear hK K)|(refine ao ?_ ?_<;>intro hc<;>try exact jz)|refine cT P' ?_|refine ap ?_|exact jI|(clear hK K)))
 exact eG hB hE P'.e2 (tl:=[]) (fun _=>rfl) dK []
theorem J8{b:Bool}{nm:UR}{v:aj}(P':cW prog 227 [.agg (cf p),.pt (hn 3 k) 0 0 0,rS nm,.agg (bW v)] e (rB b) e'):cW prog 224 [.pt (hn 10 0) 0 0 0,rS nm,.agg (bW v)] e (rB b) e':=by
 have U1:=hE.low;rw[OJ]at P';simp only[kZ]at P';refine⟨?_,hE,P'.e2,P'.aY,by simp only[aZ,AV.all,gf hg,Bool.and_self,Bool.and_true,bW]⟩;refine aO (L:=ids e) func224 ntmps224 ?_ (hL:=rfl);generalize hB:ids e=B;refine fc ?_
 (have W:=jA U1 hg;repeat' (first|refine aq fun K hK=>?_|refine ak ?_|(with_reducible refine gR 1 ?_);refine dE 1 (ba 0 12) mixed ?_|(refine hK _ _ ?_;clear hK K)|(refine ao ?_ ?_<;>intro hc<;>try exact jz)|refine aV 4 ?_|refine cT P' ?_|refine ap ?_|exact jI|(clear hK K)))
 exact eG hB hE P'.e2 (tl:=[(4,.var 42 (bW v))]) (fun _=>rfl) (dq jC dK) [.tmp 6]
end
end Go.Proofs.YtijdhbokcdpklaaGreatDoor
namespace Go.Proofs.YtijdhbokcdpklaaGreatDoor
open Go Go.Gd Tryz
attribute [go_sem] Bool.false_and Bool.true_and
structure qP{σ:Type}(tm:σ->Int)(sp:σ->σ)(se:σ->ByteArray->aj->Option σ)(E:List az)(I:σ->Prop)(g:σ->List (Nat×Row))(T:TypeId)(v:AV)(ft fs fe:FuncId):Prop where
 mt : oA prog T "furcate/trace.time" = some ft
 ms : oA prog T "furcate/trace.step" = some fs
 me : oA prog T "furcate/trace.set" = some fe
 ct:aS prog ft=true
 cs:aS prog fs=true
 ce:aS prog fe=true
 time:∀s,I s->cW prog ft [v] (g s) (rI (tm s)) (g s)
 step:∀s,I s->tm s<200->cW prog fs [v] (g s) (.aQ []) (g (sp s))
 set:∀s k,I s->k<E.length->cW prog fe [v,rS (nth E k).name,.agg (bW (nth E k).v)] (g s) (rB (se s (nth E k).name (nth E k).v).isSome) (g ((se s (nth E k).name (nth E k).v).getD s))
structure Ff(σ:Type) where
 s:σ
 k:Nat
 b:Bool
section
variable {σ:Type}{tm:σ->Int}{sp:σ->σ}{se:σ->UR->aj->Option σ}{E:List az}{I:σ->Prop}{g:σ->UL}{T:US}{v:AV}{ft fs fe:FuncId}
def qP.kept(h:qP tm sp se E I g T v ft fs fe)(ok:lD tm sp se E I)(s0:σ):lD tm sp se E fun s=>I s/\∀i,aC (g s0) i≠none->aC (g s) i≠none:=by
 refine⟨fun s k s' hs hk e=>?_,fun s hs ht=>?_,fun s hs=>ok.tm s hs.1⟩
 ·obtain⟨a,b⟩:=ok.se s k s' hs.1 hk e;have hd:=(h.set s k hs.1 hk).aY;rw[e]at hd;exact⟨⟨a,fun i hi=>hd i (hs.2 i hi)⟩,b⟩
 ·obtain⟨a,b⟩:=ok.st s hs.1 ht;exact⟨⟨a,fun i hi=>(h.step s hs.1 ht).aY i (hs.2 i hi)⟩,b⟩
def Ow(h:qP tm sp se E I g T v ft fs fe)(ok:lD tm sp se E I)(hl:E.length<=1000)(s0:σ)(hi:I s0)(t0:Int)(ht0:bE t0)(h0:tm s0<=dM t0) :
  cW prog 88 [.iQ T v,aM bv 5 E,rI t0] (g s0) (rI (l5 E (dM t0) (da tm sp se E (dM t0) ((dM t0-tm s0).toNat+1) s0 0 false))) (g (da tm sp se E (dM t0) ((dM t0-tm s0).toNat+1) s0 0 false).1):=by
 have hc:dM t0=min (max t0 0) 200:=rfl;have ht2:dM t0<=200:=jB;have XM:0<=dM t0:=jB;obtain⟨⟨k1,k2⟩,k3,k4,k5⟩:=sP (h.kept ok s0) ht2 ((dM t0-tm s0).toNat+1) s0 0 false ⟨hi,fun i h=>h⟩ h0 (Nat.zero_le _);refine⟨?_,(h.time s0 hi).e1,(h.time _ k1).e1,k2,by have:=(h.time s0 hi).a;simp only[aZ,AV.all,Bool.and_true]at this ⊢;rw[this]⟩;generalize hF:da tm sp se E (dM t0) ((dM t0-tm s0).toNat+1) s0 0 false=F at*;have U4:(if 200<(if 0>t0 then 0 else t0)then 200 else(if 0>t0 then 0 else t0))=dM t0:=by unfold dM;(repeat' split)<;>omega
 clear hc;generalize dM t0=t at*;have hmt:=h.mt;have hms:=h.ms;have hme:=h.me;obtain⟨e,he⟩:∃e,g s0=e:=⟨_,rfl⟩;rw[he];refine aO (L:=ids e) func88 ntmps88 ?_ (hL:=rfl);generalize hB:ids e=B;refine fc ?_;subst he
 (have W:=U4;repeat' (first|refine aq fun K hK=>?_|refine ak ?_|(refine hK _ _ ?_;clear hK K)|(refine ao ?_ ?_<;>intro hc<;>try exact jz)|refine ap ?_|exact jI|(clear hK K)))
 have Vb:=hK;clear hK;refine ee (S:=Ff σ) [(7,3),(13,49)] (fun x=>I x.s/\tm x.s<=t/\x.k<=E.length/\da tm sp se E t ((t-tm x.s).toNat+1) x.s x.k x.b=F) (fun x=>[(7,rI x.k),(8,rB x.b)]) (fun x=>⟨B,tie (g x.s) []⟩) (fun x=>(t-tm x.s).toNat) ⟨s0,0,false⟩ ⟨hi,h0,Nat.zero_le _,hF⟩ (dZ rfl cr) ?_;rintro⟨s,k,b⟩ ⟨hs,ht,Wy,hg⟩ Kr U5;simp only at hs ht Wy hg;have haQ:=(h.time s hs).e1.low;obtain⟨⟨u1,u2⟩,u3,u4⟩:=nw (h.kept ok s) (E.length+1) s k b ⟨hs,fun i h=>h⟩;obtain⟨Q,hQ⟩:∃Q,cz tm se E (E.length+1) s k b=Q:=⟨_,rfl⟩;refine S ?_
 (repeat' (first|refine aq fun K hK=>?_|refine ak ?_|(refine hK _ _ ?_;clear hK K)|(refine ao ?_ ?_<;>intro hc<;>try exact jz)|refine ap ?_|exact jI|(clear hK K)))
 have hKb:=hK;clear hK;refine ee (S:=Ff σ) [(7,2),(13,38)] (fun y=>I y.s/\tm y.s=tm s/\y.k<=E.length/\cz tm se E (E.length+1-y.k) y.s y.k y.b=Q) (fun y=>[(7,rI y.k),(8,rB y.b)]) (fun y=>⟨B,tie (g y.s) []⟩) (fun y=>2*(E.length-y.k)+(if y.b=true then 0 else 1)) ⟨s,k,b⟩ ⟨hs,rfl,Wy,?_⟩ (dZ rfl cr) ?_
 ·exact(JG (E.length+1-k) (E.length+1) s k b jB jB).trans hQ
 rintro⟨s1,k1',b1⟩ ⟨YJ,ham,hao,X1⟩ Kr2 Ys;simp only at YJ ham hao X1;have Yd:=h.time s1 YJ;have Vu:=Yd.e1.low;have Wt:=h.ct;by_cases haq:b1=false/\k1'<E.length/\(nth E k1').at_=tm s1
 ·obtain⟨cb,ck,ca⟩:=haq;have U2:=h.set s1 k1' YJ ck;have hce:=h.ce;have ck2:(k1':Int)<(E.length:Int):=jB;subst cb;rw[show E.length+1-k1'=(E.length-k1')+1 from jB]at X1;cases e:se s1 (nth E k1').name (nth E k1').v with
  |none=>
   rw[Uz ck ca e]at X1;rw[e]at U2;refine S ?_
   (have W:=jA hmt (jA hme (jA Vu (jA ck2 (ca))));repeat' (first|refine aq fun K hK=>?_|refine ak ?_|(with_reducible refine gR 3 ?_);refine dE 3 (ba 0 18) mixed ?_|(with_reducible refine gR 4 ?_);refine dE 4 (ba 0 17) mixed ?_|(refine hK _ _ ?_;clear hK K)|(refine ao ?_ ?_<;>intro hc<;>try exact jz)|(refine mN Yd ?_ (h0:=Wt))|(refine cT U2 ?_ (h0:=hce))|refine ap ?_|exact jI|(clear hK K)))
   exact Ys _ _ (dY ⟨s1,k1',true⟩ ⟨YJ,ham,hao,(vu (.inl rfl)).trans X1⟩ (by show 2*(E.length-k1')+0<2*(E.length-k1')+1;omega) rfl cr)
  |some s2=>
   rw[Nt ck ca e]at X1;rw[e]at U2;obtain⟨n1,n2⟩:=ok.se s1 k1' s2 YJ ck e;refine S ?_
   (have W:=jA hmt (jA hme (jA Vu (jA ck2 (ca))));repeat' (first|refine aq fun K hK=>?_|refine ak ?_|(with_reducible refine gR 3 ?_);refine dE 3 (ba 0 18) mixed ?_|(with_reducible refine gR 4 ?_);refine dE 4 (ba 0 17) mixed ?_|(refine hK _ _ ?_;clear hK K)|(refine ao ?_ ?_<;>intro hc<;>try exact jz)|(refine mN Yd ?_ (h0:=Wt))|(refine cT U2 ?_ (h0:=hce))|refine ap ?_|exact jI|(clear hK K)))
   exact Ys _ _ (dY ⟨s2,k1'+1,false⟩ ⟨n1,n2.trans ham,by show k1'+1<=E.length;omega,by show cz tm se E (E.length+1-(k1'+1)) s2 (k1'+1) false=Q;rw[show E.length+1-(k1'+1)=E.length-k1' from jB];exact X1⟩ (by show 2*(E.length-(k1'+1))+1<2*(E.length-k1')+1;omega) rfl cr)
 ·have hQ1:Q=(s1,k1',b1):=by
   rw[<-X1];by_cases a:b1=true\/E.length<=k1'
   ·exact vu a
   ·refine Ql fun hl e=>haq ⟨?_,hl,e⟩
    cases b1
    ·rfl
    ·exact(a (.inl rfl)).elim
  have h3:(b1=true/\True/\True)\/(b1=false/\(k1':Int)<(E.length:Int)/\¬(nth E k1').at_=tm s1)\/(b1=false/\¬(k1':Int)<(E.length:Int)/\True):=by
   cases b1
   ·right
    by_cases ck:k1'<E.length
    ·exact .inl ⟨rfl,jB,fun e=>haq ⟨rfl,ck,e⟩⟩
    ·exact .inr ⟨rfl,jB,trivial⟩
   ·exact .inl ⟨rfl,trivial,trivial⟩
  have hd3:(¬(k1':Int)<(E.length:Int)/\True/\∀z:σ,l5 E t (z,k1',b1)=0)\/((k1':Int)<(E.length:Int)/\(nth E k1').at_<=t/\∀z:σ,l5 E t (z,k1',b1)=(k1':Int)+1)\/((k1':Int)<(E.length:Int)/\¬(nth E k1').at_<=t/\∀z:σ,l5 E t (z,k1',b1)=0):=by
   by_cases ck:k1'<E.length
   ·by_cases d:(nth E k1').at_<=t
    ·exact .inr (.inl ⟨jB,d,fun z=>by unfold l5;rw[if_pos ⟨ck,d⟩]⟩)
    ·exact .inr (.inr ⟨jB,d,fun z=>by unfold l5;rw[if_neg (fun h=>d h.2)]⟩)
   ·exact .inl ⟨jB,trivial,fun z=>by unfold l5;rw[if_neg (fun h=>ck h.1)]⟩
  rw[hQ1]at hQ;have VD:da tm sp se E t ((t-tm s).toNat+1) s k b=if tm s1=t then(s1,k1',b1)else if tm (sp s1)=tm s1 then(sp s1,k1',b1)else da tm sp se E t (t-tm s).toNat (sp s1) k1' b1:=by
   conv=>lhs;unfold da
   rw[hQ]
  rw[hg]at VD;by_cases a:tm s1=t
  ·rw[if_pos a]at VD;subst VD;rcases h3 with⟨cb,q1,q2⟩|⟨cb,q1,q2⟩|⟨cb,q1,q2⟩<;>subst cb<;>rcases hd3 with⟨d1,d2,d3⟩|⟨d1,d2,d3⟩|⟨d1,d2,d3⟩
   all_goals try omega
   all_goals
    refine S ?_
    (have W:=jA hmt (jA Vu (jA q1 (jA q2 (jA a (jA d1 (d2))))));repeat' (first|refine aq fun K hK=>?_|refine ak ?_|(with_reducible refine gR 3 ?_);refine dE 3 (ba 0 18) mixed ?_|(refine hK _ _ ?_;clear hK K)|(refine ao ?_ ?_<;>intro hc<;>try exact jz)|(refine mN Yd ?_ (h0:=Wt))|(refine⟨rI 0,?_⟩;refine S ?_)|(refine⟨rI 0,fun h=>absurd h Bool.false_ne_true,?_⟩;refine S ?_)|(refine cT Yd ?_ (h0:=Wt))|refine hKb _ _ ?_|refine Vb _ _ ?_|refine ap ?_|exact jI|(clear hK K)))
    rw[d3];exact eG hB (h.time s0 hi).e1 Yd.e1 (tl:=[]) (fun _=>rfl) dK [.tmp 6]
  ·rw[if_neg a]at VD;have I':tm s1<200:=jB;have P':=h.step s1 YJ I';obtain⟨w1,w2⟩:=ok.st s1 YJ I';have ZF:=h.time (sp s1) w1;have Wx:=ZF.e1.low;have VV:=h.cs;by_cases c:tm (sp s1)=tm s1
   ·rw[if_pos c]at VD;subst VD;rcases h3 with⟨cb,q1,q2⟩|⟨cb,q1,q2⟩|⟨cb,q1,q2⟩<;>subst cb<;>rcases hd3 with⟨d1,d2,d3⟩|⟨d1,d2,d3⟩|⟨d1,d2,d3⟩
    all_goals try omega
    all_goals
     refine S ?_
     (have W:=jA hmt (jA hms (jA Vu (jA Wx (jA q1 (jA q2 (jA a (jA c (jA d1 (d2)))))))));repeat' (first|refine aq fun K hK=>?_|refine ak ?_|(with_reducible refine gR 3 ?_);refine dE 3 (ba 0 18) mixed ?_|(refine hK _ _ ?_;clear hK K)|(refine ao ?_ ?_<;>intro hc<;>try exact jz)|(refine mN Yd ?_ (h0:=Wt))|(refine⟨rI 0,?_⟩;refine S ?_)|(refine⟨rI 0,fun h=>absurd h Bool.false_ne_true,?_⟩;refine S ?_)|(refine cT Yd ?_ (h0:=Wt))|(refine cT P' ?_ (h0:=VV))|(refine cT ZF ?_ (h0:=Wt))|refine hKb _ _ ?_|refine Vb _ _ ?_|refine ap ?_|exact jI|(clear hK K)))
     rw[d3];exact eG hB (h.time s0 hi).e1 ZF.e1 (tl:=[]) (fun _=>rfl) dK [.tmp 6]
   ·rw[if_neg c]at VD;rcases h3 with⟨cb,q1,q2⟩|⟨cb,q1,q2⟩|⟨cb,q1,q2⟩<;>subst cb
    all_goals
     refine S ?_
     (have W:=jA hmt (jA hms (jA Vu (jA Wx (jA q1 (jA q2 (jA a (c)))))));repeat' (first|refine aq fun K hK=>?_|refine ak ?_|(with_reducible refine gR 3 ?_);refine dE 3 (ba 0 18) mixed ?_|(refine hK _ _ ?_;clear hK K)|(refine ao ?_ ?_<;>intro hc<;>try exact jz)|(refine mN Yd ?_ (h0:=Wt))|(refine⟨rI 0,?_⟩;refine S ?_)|(refine⟨rI 0,fun h=>absurd h Bool.false_ne_true,?_⟩;refine S ?_)|(refine cT Yd ?_ (h0:=Wt))|(refine cT P' ?_ (h0:=VV))|(refine cT ZF ?_ (h0:=Wt))|refine hKb _ _ ?_|refine ap ?_|exact jI|(clear hK K)))
     have Ww:=VD.symm;rw[show(t-tm s).toNat=(t-tm (sp s1)).toNat+1 from jB]at Ww;exact U5 _ _ (dY ⟨sp s1,k1',_⟩ ⟨w1,by show tm (sp s1)<=t;omega,hao,Ww⟩ (by show(t-tm (sp s1)).toNat<(t-tm s).toNat;omega) rfl cr)
end
end Go.Proofs.YtijdhbokcdpklaaGreatDoor
namespace Go.Proofs.YtijdhbokcdpklaaGreatDoor
open Go Go.Gd Tryz Go.Gd.MV
structure ES where
 m:MV
 N:NM
 e:List (Nat×Row)
 E:List (Nat×Row)
structure EI(p:af)(inp:List Int)(k:Nat)(x:ES):Prop where
 R:bL p (bA p) x.m x.N x.e
 key:x.N.k=k
 mi:MI p (bA p) x.m
 bd:Bd inp.length x.m
 t0:0<=x.m.time
 t1:x.m.time<=100000
 ok:fO 0 x.E
 sub:∀i r,aC x.e i=some r->aC x.E i=some r
 sV:aC x.E (hn 10 0)=some (.var 158 (kZ p++[.pt (hn 3 k) 0 0 0,aM eI 1 inp]))
 no:aC x.e (hn 10 0)=none
def Df(p:af)(inp:UP)(k:Nat)(F:UP->MV->MV)(x x':ES):Prop:=x'.m=F inp x.m/\EI p inp k x'/\cW prog 228 [.pt (hn 3 k) 0 0 0,aM eI 1 inp] x.E (.aQ []) x'.E
def Dq(p:af)(inp:UP)(k:Nat)(m':MV)(nm:UR)(v:aj)(x x':ES):Prop:=x'.m=m'/\EI p inp k x'/\cW prog 227 [.agg (cf p),.pt (hn 3 k) 0 0 0,rS nm,.agg (bW v)] x.E (rB true) x'.E
section
variable {p:af}(hs:gi p)(VY:∀k,k<p.aa.nodes.length->0<=nth p.fn k/\nth p.fn k<p.aa.aw.length){F:UP->MV->MV}(hF:bH p (bA p) F){inp:UP}(VU:inp.length<=1000)(hi:∀x∈inp,bE x){k:Nat}{x:ES}
include hs hF VU hi
theorem M7(h:EI p inp k x)(ht:x.m.time<200):∃x',Df p inp k F x x':=by
 have ht0:=h.t0;obtain⟨N',l',⟨hR',Vk,VQ⟩,hU,P'⟩:=LY hs hF VU hi h.R h.mi h.bd ⟨ht0,h.t1⟩ (ids x.E);have Yi:∀i,aC l' i≠none->aC x.e i≠none\/aC x.E i=none:=fun i hi=>by
  rcases hU.new i hi with h1|h1
  ·exact .inl h1
  ·right
   cases hx:aC x.E i with
   |none=>rfl
   |some r=>exact(h1 ((lH _ _).2 (by rw[hx];simp))).elim
 have hd:=cW.more P' h.ok h.sub Yi;have U8:aC l' (hn 10 0)=none:=by
  cases hx:aC l' (hn 10 0)with
  |none=>rfl
  |some r=>
   rcases Yi (hn 10 0) (by rw[hx];simp)with h1|h1
   ·exact(h1 h.no).elim
   ·rw[h.sV]at h1;cases h1
 have hp:=h.key;have eP:mP x.N=.pt (hn 3 k) 0 0 0:=by unfold mP;rw[hp]
 rw[eP]at hd;have XL:=hF.time hi h.mi;refine⟨⟨F inp x.m,N',l',gx x.E l'⟩,rfl,⟨hR',Vk.trans hp,hF.mi hi h.mi,VQ,?_,?_,hd.e2,fun i r hr=>?_,?_,U8⟩,hd⟩
 ·show 0<=(F inp x.m).time;rcases XL with e|e<;>omega
 ·show(F inp x.m).time<=100000;rcases XL with e|e<;>omega
 ·show aC (gx x.E l') i=some r;have hr:aC l' i=some r:=hr;rw[wi hR'.ok.nodup,hr];rfl
 ·show aC (gx x.E l') (hn 10 0)=_;rw[wi hR'.ok.nodup,U8];exact h.sV
omit hF VU hi
include VY
theorem NL(h:EI p inp k x)(nm:UR)(v:aj)(e:dw p (bA p) x.m nm v=none):cW prog 227 [.agg (cf p),.pt (hn 3 k) 0 0 0,rS nm,.agg (bW v)] x.E (rB false) x.E:=by
 have hp:=h.key;have eP:mP x.N=.pt (hn 3 k) 0 0 0:=by unfold mP;rw[hp]
 have hC:=rl hs;have hRE:=h.R.wb h.ok h.sub;have hk:=Ay h.mi h.bd (by have:=hC.len;have:=hC.px;have:=hs.ok.aa.aw;have:=hs.ok.size;omega);unfold dw at e;split at e
 ·rename_i c;have:=R3 hRE hk nm v c;rw[eP]at this;exact this
 rename_i c;split at e
 ·rename_i d;have hm:mg v=true:=by
   cases hh:mg v
   ·exact(c (.inr (.inl hh))).elim
   ·rfl
  have:=NE hRE hk nm v hs VY h.mi (fun e=>c (.inl e)) hm (fun e=>c (.inr (.inr e))) d;rw[eP]at this;exact this
 ·cases e
theorem L5(h:EI p inp k x)(nm:UR)(v:aj)(hv:bE v.n){m':MV}(e:dw p (bA p) x.m nm v=some m'):m'.time=x.m.time/\∃x',Dq p inp k m' nm v x x':=by
 have hp:=h.key;have eP:mP x.N=.pt (hn 3 k) 0 0 0:=by unfold mP;rw[hp]
 have hC:=rl hs;have hRE:=h.R.wb h.ok h.sub;have hk:=Ay h.mi h.bd (by have:=hC.len;have:=hC.px;have:=hs.ok.aa.aw;have:=hs.ok.size;omega);unfold dw at e;split at e
 ·cases e
 rename_i c;split at e
 ·cases e
 rename_i d;cases e;have hm:mg v=true:=by
  cases hh:mg v
  ·exact(c (.inr (.inl hh))).elim
  ·rfl
 obtain⟨d1,d2⟩:=IJ hRE hk nm v hs VY h.mi (fun e=>c (.inl e)) hm (fun e=>c (.inr (.inr e))) d;obtain⟨_,d4⟩:=IJ h.R hk nm v hs VY h.mi (fun e=>c (.inl e)) hm (fun e=>c (.inr (.inr e))) d;rw[eP]at d1;have VM:hn 10 0≠hn 1 x.N.ah.c:=dj jC jC jC;have Zp:=HN h.mi (fun e=>c (.inl e)) (nth (ii p (gu (bA p) x.m)) (iB nm v.ty (ii p (gu (bA p) x.m)) 0).toNat).slot.toNat hv;generalize (nth (ii p (gu (bA p) x.m)) (iB nm v.ty (ii p (gu (bA p) x.m)) 0).toNat).slot.toNat=kk at*;obtain⟨h1,_⟩:=h.mi.ah fun e=>c (.inl (.inl e))
 refine⟨rfl,⟨⟨rC x.m kk v,x.N,_,_⟩,rfl,⟨d4,hp,Zp,?_,h.t0,h.t1,d2.ok,fun i r hr=>?_,?_,?_⟩,d1⟩⟩
 ·exact h.bd.aX (by show(x.m.ah.slots.set kk v).length<=24;rw[List.length_set];exact h.bd.ah h1)
 ·show aC (bg x.E _ _) i=some r;have hr:aC (bg x.e _ _) i=some r:=hr;rw[bS]at hr ⊢;split
  ·rename_i e;rw[if_pos e]at hr;exact hr
  ·rename_i e;rw[if_neg e]at hr;exact h.sub i r hr
 ·show aC (bg x.E _ _) (hn 10 0)=_;rw[bS,if_neg VM];exact h.sV
 ·show aC (bg x.e _ _) (hn 10 0)=_;rw[bS,if_neg VM];exact h.no
end
end Go.Proofs.YtijdhbokcdpklaaGreatDoor
namespace Go.Proofs.YtijdhbokcdpklaaGreatDoor
open Go Go.Gd Tryz
@[go_sem] def j18(p:af)(l:UM):cf p++l=aM eN 5 p.aa.nodes::aM fY 5 p.aa.aw::aM eI 1 p.types::aM eI 1 p.slots::aM eI 1 p.fn::aM eI 1 p.size::l:=rfl
attribute [go_sem] List.append_nil
structure mf(p:af):Prop where
 ok:gi p
 fn:∀k,k<p.aa.nodes.length->0<=nth p.fn k/\nth p.fn k<p.aa.aw.length
end Go.Proofs.YtijdhbokcdpklaaGreatDoor
namespace Go.Proofs.YtijdhbokcdpklaaGreatDoor
open Go Go.Gd Tryz Go.Gd.MV
def MB : oA prog 155 "furcate/trace.time" = some 226 := by kernel_rfl
def OM : oA prog 155 "furcate/trace.step" = some 225 := by kernel_rfl
def Ug : oA prog 155 "furcate/trace.set" = some 224 := by kernel_rfl
@[go_sem] def qcC:(prog).underlying 155=some (.pointer 158):=jG
def jL(x:ES):Int:=x.m.time
open Classical in
noncomputable def stE(p:af)(inp:List Int)(k:Nat)(F:List Int->MV->MV)(x:ES):ES:=if h:∃x',Df p inp k F x x' then Classical.choose h else x
open Classical in
noncomputable def seE(p:af)(inp:List Int)(k:Nat)(x:ES)(nm:ByteArray)(v:aj):Option ES:=(dw p (bA p) x.m nm v).map fun m'=>if h:∃x',Dq p inp k m' nm v x x' then Classical.choose h else x
section
variable {p:af}(hp:mf p){F:UP->MV->MV}(hF:bH p (bA p) F){inp:UP}(VU:inp.length<=1000)(hi:∀x∈inp,bE x){k:Nat}{x:ES}{E:List az}(hE:∀k,k<E.length->bE (nth E k).v.n)
include hp hF VU hi
theorem AX(h:EI p inp k x)(ht:x.m.time<200):Df p inp k F x (stE p inp k F x):=by have hx:=M7 hp.ok hF VU hi h ht;unfold stE;rw[dif_pos hx];exact Classical.choose_spec hx
omit hF VU hi
theorem G9(h:EI p inp k x)(nm:UR)(v:aj)(e:seE p inp k x nm v=none):dw p (bA p) x.m nm v=none:=by
 unfold seE at e;cases hh:dw p (bA p) x.m nm v with
 |none=>rfl
 |some m'=>rw[hh]at e;cases e
theorem DD(h:EI p inp k x)(nm:UR)(v:aj)(hv:bE v.n){x':ES}(e:seE p inp k x nm v=some x'):∃m',dw p (bA p) x.m nm v=some m'/\m'.time=x.m.time/\Dq p inp k m' nm v x x':=by
 unfold seE at e;cases hh:dw p (bA p) x.m nm v with
 |none=>rw[hh]at e;cases e
 |some m'=> rw[hh]at e;obtain⟨h1,hx⟩:=L5 hp.ok hp.fn h nm v hv hh;simp only[Option.map_some,dif_pos hx]at e;cases e;exact⟨m',rfl,h1,Classical.choose_spec hx⟩
include hF VU hi hE
theorem wY:lD jL (stE p inp k F) (seE p inp k) E (EI p inp k):=by
 refine⟨fun s j s' h hj e=>?_,fun s h ht=>?_,fun s h=>h.t0⟩
 ·obtain⟨m',_,e2,e3⟩:=DD hp h _ _ (hE j hj) e;refine⟨e3.2.1,?_⟩;show s'.m.time=s.m.time;rw[e3.1];exact e2
 ·have h1:=AX hp hF VU hi h ht;refine⟨h1.2.1,?_⟩;show(stE p inp k F s).m.time=s.m.time\/(stE p inp k F s).m.time=s.m.time+1;rw[h1.1];rcases hF.time hi h.mi with e|e
  ·exact .inl e
  ·exact .inr e.1
theorem RP:qP jL (stE p inp k F) (seE p inp k) E (EI p inp k) (fun x=>x.E) 155 (.pt (hn 10 0) 0 0 0) 226 225 224:=by
 refine⟨MB,OM,Ug,jD,jD,jD,fun s h=>?_,fun s h ht=>?_,fun s j h hj=>?_⟩
 ·have hC:=rl hp.ok;have hk:=Ay h.mi h.bd (by have:=hC.len;have:=hC.px;have:=hp.ok.ok.aa.aw;have:=hp.ok.ok.size;omega);have Wz:=xh (h.R.wb h.ok h.sub) hk;rw[show mP s.N=.pt (hn 3 k) 0 0 0 by unfold mP;rw[h.key]]at Wz;exact Tv h.ok h.sV Wz
 ·exact LU h.ok h.sV (AX hp hF VU hi h ht).2.2
 ·cases e:seE p inp k s (nth E j).name (nth E j).v with
  |none=>exact J8 h.ok h.sV (NL hp.ok hp.fn h _ _ (G9 hp h _ _ e))
  |some s'=> obtain⟨m',_,_,e3⟩:=DD hp h _ _ (hE j hj) e;exact J8 h.ok h.sV e3.2.2
end
def ND{p:af}(hp:mf p)(U7:fg p){F:UP->MV->MV}(hF:bH p (bA p) F){inp:UP}(VU:inp.length<=1000)(hi:∀x∈inp,bE x){E:List az}(hE:∀k,k<E.length->bE (nth E k).v.n)(hl:E.length<=1000)(t:Int)(ht:bE t) :
  ∃x0:ES,EI p inp x0.N.k x0/\x0.m.time=0/\bf p (bA p) [] (l4 p (bA p)) x0.m/\x0.m.dF (bA p)/\
   ab prog 61 [.agg (cf p),aM eI 1 inp,aM bv 5 E,rI t] [] (fun r l=>r=.aQ [.pt (hn 3 x0.N.k) 0 0 0,rI (l5 E (dM t) (da jL (stE p inp x0.N.k F) (seE p inp x0.N.k) E (dM t) ((dM t-jL x0).toNat+1) x0 0 false))]/\l=(da jL (stE p inp x0.N.k F) (seE p inp x0.N.k) E (dM t) ((dM t-jL x0).toNat+1) x0 0 false).1.E):=by
 obtain⟨m1,hg,P',h1,XL⟩:=BF U7.ok (yd U7.ok) [];have XL:m1.time=0:=XL;obtain⟨N,l,hR,hX,hb,ZG⟩:=NT U7 [hn 10 0] hg P' (fun e0=>by obtain⟨hl,_,_,k0,n,a,ek,hm⟩:=h1.ah jB;have Vh:=hm.head.1;exact⟨hl,jB,jB⟩)
 have U8:aC l (hn 10 0)=none:=by
  cases hx:aC l (hn 10 0)with
  |none=>rfl
  |some r=>exact(hX (hn 10 0) (by rw[hx];simp) jE).elim
 have XN:∀i,aC (l++[(hn 10 0,.var 158 (kZ p++[.pt (hn 3 N.k) 0 0 0,aM eI 1 inp]))]) i=(aC l i).or (if i=hn 10 0 then some (.var 158 (kZ p++[.pt (hn 3 N.k) 0 0 0,aM eI 1 inp]))else none):=fun i=>by rw[v7];rfl
 have WO:=hR.root;have hok:fO 0 (l++[(hn 10 0,.var 158 (kZ p++[.pt (hn 3 N.k) 0 0 0,aM eI 1 inp]))]):=by
  refine⟨fun i h0 h1=>?_,?_,fun i r hr=>?_⟩
  ·rw[XN,hR.ok.low i h1,if_neg (by have:=iK 10 0;omega)];rfl
  ·have:ids (l++[(hn 10 0,Row.var 158 (kZ p++[.pt (hn 3 N.k) 0 0 0,aM eI 1 inp]))])=ids l++[hn 10 0]:=by simp[ids]
   rw[this,List.nodup_append];refine⟨hR.ok.nodup,jE,fun a ha b hb e=>?_⟩;simp at hb;subst hb e;exact(lH _ _).1 ha U8
  ·have hm:∀j,(ids l).contains j=true->(ids (l++[(hn 10 0,Row.var 158 (kZ p++[.pt (hn 3 N.k) 0 0 0,aM eI 1 inp]))])).contains j=true:=fun j hj=>by
    rw[List.contains_iff_mem]at hj ⊢;simp[ids]at hj ⊢;exact .inl hj
   rw[XN]at hr;cases hx:aC l i with
   |some r'=> rw[hx]at hr;cases hr;exact fX hm _ (hR.ok.closed i _ hx)
   |none=>
    rw[hx]at hr;have hr:(if i=hn 10 0 then some (Row.var 158 (kZ p++[.pt (hn 3 N.k) 0 0 0,aM eI 1 inp]))else none)=some r:=hr;split at hr
    ·cases hr;have h3:=hm _ (gf WO);show aZ _ (kZ p++[.pt (hn 3 N.k) 0 0 0,aM eI 1 inp])=true;rw[tE,fX (q:=eJ) (fun _ h=>by cases h) _ (NJ p)];simp only[aZ,AV.all,h3,Bool.and_true,Bool.true_and]
    ·cases hr
 have hEI:EI p inp N.k ⟨m1,N,l,l++[(hn 10 0,.var 158 (kZ p++[.pt (hn 3 N.k) 0 0 0,aM eI 1 inp]))]⟩:=by
  have V3:m1.in_<=(inp.length:Int):=by have:=hb.oF;omega
  refine⟨hR,rfl,h1,⟨hb.deep,hb.slots,hb.heap,hb.outs,hb.od,V3⟩,by show 0<=m1.time;omega,by show m1.time<=100000;omega,hok,fun i r hr=>?_,?_,U8⟩
  ·show aC (l++_) i=some r;have hr:aC l i=some r:=hr;rw[XN,hr];rfl
  ·show aC (l++_) (hn 10 0)=_;rw[XN,U8,if_pos rfl];rfl
 refine⟨⟨m1,N,l,_⟩,hEI,XL,hg,P',?_⟩;have V9:=Ow (RP hp hF VU hi (k:=N.k) hE) (wY hp hF VU hi hE) hl _ hEI t ht (by show m1.time<=_;unfold dM;omega);have Wn:=(sP (wY hp hF VU hi (k:=N.k) hE) (t:=dM t) (by unfold dM;omega) ((dM t-jL ⟨m1,N,l,l++[(hn 10 0,.var 158 (kZ p++[.pt (hn 3 N.k) 0 0 0,aM eI 1 inp]))]⟩).toNat+1) _ 0 false hEI (by show m1.time<=_;unfold dM;omega) (Nat.zero_le _)).1;generalize da jL (stE p inp N.k F) (seE p inp N.k) E (dM t) ((dM t-jL ⟨m1,N,l,l++[(hn 10 0,.var 158 (kZ p++[.pt (hn 3 N.k) 0 0 0,aM eI 1 inp]))]⟩).toNat+1) ⟨m1,N,l,l++[(hn 10 0,.var 158 (kZ p++[.pt (hn 3 N.k) 0 0 0,aM eI 1 inp]))]⟩ 0 false=G at*;simp only at V9 ⊢;have hnd:cW prog 87 [.agg (cf p)] [] (.pt (hn 3 N.k) 0 0 0) l:=⟨ZG,⟨fun _ _ _=>rfl,List.nodup_nil,fun i r h=>by cases h⟩,hR.ok,fun i h=>(h rfl).elim,rfl⟩;have U1:=hR.ok.low;have hbA:=Wn.sV;have Wx:=Wn.ok.low;have hpm:∀i,aC (tie l [(4,.var 30 (cf p)),(hn 10 0,.var 158 (kZ p++[.pt (hn 3 N.k) 0 0 0,aM eI 1 inp]))]) i=aC (tie (l++[(hn 10 0,.var 158 (kZ p++[.pt (hn 3 N.k) 0 0 0,aM eI 1 inp]))]) [(4,.var 30 (cf p))]) i:=fun i=>by
  rw[kf,kf,XN];simp only[aC];have:=iK 10 0;cases aC l i
  ·(repeat' split)<;>first|rfl|omega
  ·rfl
 generalize hbad:l5 E (dM t) G=bad at*;have hbB:=Wn.ok;generalize G.1.E=EE at*;generalize l++[(hn 10 0,.var 158 (kZ p++[.pt (hn 3 N.k) 0 0 0,aM eI 1 inp]))]=E0 at*;refine aO func61 ntmps61 ?_
 (have W:=jA U1 (jA U8 (jA hbA (Wx)));repeat' (first|refine aq fun K hK=>?_|refine ak ?_|(with_reducible refine gR 1 ?_);refine dC 1 ([],[],[14]) [] [0,1,3,2,4,5,6] mixed ?_|(refine hK _ _ ?_;clear hK K)|(refine ao ?_ ?_<;>intro hc<;>try exact jz)|refine aV 4 ?_|refine aV (hn 10 0) ?_|(refine oc (e:=[]) hnd (fun j _ h=>(h rfl).elim) ?_)|(refine Ms V9 (tl:=[(4,.var 30 (cf p))]) hpm ?_;try refine S ?_)|refine ap ?_|exact jI|(clear hK K)))
 exact eG (e:=[]) (B:=[]) rfl ⟨fun _ _ _=>rfl,List.nodup_nil,fun i r h=>by cases h⟩ hbB (tl:=[(4,.var 30 (cf p))]) (fun _=>rfl) (dq jC dK) [.tmp 8,.tmp 9]
end Go.Proofs.YtijdhbokcdpklaaGreatDoor
namespace Go.Proofs.YtijdhbokcdpklaaGreatDoor
open Go Go.Gd Tryz
end Go.Proofs.YtijdhbokcdpklaaGreatDoor
namespace Go.Proofs.YtijdhbokcdpklaaGreatDoor
open Go Go.Gd Tryz Go.Gd.MV
section
variable {p:af}{C:aI}{inp:UP}
def P3(m:MV)(x:ay):(m.ins p C inp x).in_=m.in_\/(x.op=14/\m.in_<(inp.length:Int)/\(m.ins p C inp x).in_=m.in_+1):=by
 by_cases h:x.op=14
 ·rw[MV.gK _ _ _ _ _ h];split
  ·exact .inl rfl
  ·exact .inr ⟨h,jB,rfl⟩
 ·left
  rcases K9 (p:=p) (C:=C) (inp:=inp) m x with e|e
  ·exact e
  ·exfalso;have:(m.ins p C inp x).in_=m.in_:=by
    unfold MV.ins;simp only[h,↓reduceIte];repeat' (first|rfl|exact H9 _ _|exact FR _ _|refine JU ?_ ?_)
   omega
def CH(m:MV):(m.one p C inp).in_=m.in_\/((m.bh C).op=14/\m.in_<(inp.length:Int)/\(m.one p C inp).in_=m.in_+1):=P3 (p:=p) (C:=C) (inp:=inp) (m.aX (m.ah.jump (m.ah.at_+1))) (m.bh C)
variable{n:Nat}{m m':MV}
def Br(h:eo p C inp n m m'):m.in_<=m'.in_:=by
 induction h with|refl m=>exact Int.le_refl _|@step n m m' h0 h1 hok hg ih=> rcases CH (p:=p) (C:=C) (inp:=inp) m with e|⟨_,_,e⟩<;>omega
def JA(h:eo p C inp n m m'):m.in_<=inp.length->m'.in_<=inp.length:=by
 induction h with|refl m=>exact id|@step n m m' h0 h1 hok hg ih=> intro hi;rcases CH (p:=p) (C:=C) (inp:=inp) m with e|⟨_,_,e⟩<;>exact ih jB
def S8(a:(m.bh C).op=14)(b:(inp.length:Int)<=m.in_):m.one p C inp=(m.aX (m.ah.jump (m.ah.at_+1))).stops 1 0:=by show(m.aX _).ins p C inp _=_;rw[MV.gK _ _ _ _ _ a];exact if_pos b
def AG(a:(m.bh C).op=14)(b:¬(inp.length:Int)<=m.in_):m.one p C inp={ (m.aX (m.ah.jump (m.ah.at_+1))).push (vI (nth inp m.in_.toNat))with in_:=m.in_+1 }:=by show(m.aX _).ins p C inp _=_;rw[MV.gK _ _ _ _ _ a];exact if_neg b
def RY{t:Int}(hg:eo p C inp n (m.stops 1 t) m'):m'=m.stops 1 t:=by cases hg with|refl=>rfl|step h0'=>have h0':(1:Int)=0:=h0';omega
def S4(h:eo p C inp n m m'):0<=m.in_->m'.status≠1->∀{inp':UP},fv m'.in_ inp inp'->eo p C inp' n m m':=by
 induction h with|refl m=>intro _ _ _ _;exact .refl m|@step n m m' h0 h1 hok hg ih=>
  intro hi hs inp' ha;have V3:0<=(m.one p C inp).in_:=by rcases CH (p:=p) (C:=C) (inp:=inp) m with e|⟨_,_,e⟩<;>omega
  have e:m.one p C inp'=m.one p C inp:=by
   by_cases h:(m.bh C).op=14
   ·have I':¬(inp.length:Int)<=m.in_:=fun b=>by
     rw[S8 h b]at hg;exact hs (by rw[RY hg];rfl)
    have h2:(m.one p C inp).in_=m.in_+1:=by rw[AG h I']
    have h3:=Br hg;obtain⟨_,a2,a3⟩:=ha m.in_.toNat jB;rw[AG h (show¬(inp'.length:Int)<=m.in_ from jB),AG h I',a3]
   ·show(m.aX _).ins p C inp' _=(m.aX _).ins p C inp _;unfold MV.ins;simp only[h,↓reduceIte]
  exact .step h0 h1 hok (by rw[e];exact ih V3 hs ha)
variable{F:UP->MV->MV}
def Cb(hF:bH p C F)(hi:∀x∈inp,bE x)(h:MI p C m):m.in_<=(F inp m).in_/\(m.in_<=inp.length->(F inp m).in_<=inp.length):=by
 by_cases e:m.halt
 ·rw[hF.still _ m e];exact⟨Int.le_refl _,id⟩
 ·obtain⟨m1,⟨n,g⟩,d,e1⟩:=hF.step inp hi m h e;rw[e1];exact⟨(Br g:m.eH.in_<=m1.in_),fun h=>(JA g (h:m.eH.in_<=inp.length):m1.in_<=inp.length)⟩
def DJ(hF:bH p C F){inp':UP}(hi:∀x∈inp,bE x)(VE:∀x∈inp',bE x)(h:MI p C m)(h0:0<=m.in_)(hw:(F inp m).status≠1)(ha:fv (F inp m).in_ inp inp'):F inp' m=F inp m:=by
 by_cases e:m.halt
 ·rw[hF.still _ m e,hF.still _ m e]
 ·obtain⟨m1,⟨n,g⟩,d,e1⟩:=hF.step inp hi m h e;obtain⟨m2,⟨k,g2⟩,d2,e2⟩:=hF.step inp' VE m h e;rw[e1]at hw ha;have:=IN (S4 g h0 hw ha) g2 d.1 d2.1;rw[e1,e2,this]
end
structure IM(p:af)(inp:List Int)(m:MV):Prop where
 mi:MI p (bA p) m
 t0:0<=m.time
 i0:0<=m.in_
 i1:m.in_<=inp.length
def Da{p:af}{m m':MV}{nm:UR}{v:aj}(e:dw p (bA p) m nm v=some m'):¬(m.status=2\/m.status=3)/\m'.time=m.time/\m'.in_=m.in_/\m'.status=m.status/\∃k,m'=rC m k v:=by
 unfold dw at e;split at e
 ·cases e
 rename_i c;split at e
 ·cases e
 cases e;exact⟨fun e=>c (.inl e),rfl,rfl,rfl,_,rfl⟩
section
variable {p:af}{F:UP->MV->MV}(hF:bH p (bA p) F){inp:UP}(hi:∀x∈inp,bE x){E:List az}(hE:∀k,k<E.length->bE (nth E k).v.n)
include hF hi
theorem pq{m:MV}(h:IM p inp m):IM p inp (F inp m)/\((F inp m).time=m.time\/((F inp m).time=m.time+1/\(F inp m).status≠1/\¬m.halt)):=by have e:=hF.time hi h.mi;obtain⟨a,b⟩:=Cb hF hi h.mi;have:=h.t0;have:=h.i0;exact⟨⟨hF.mi hi h.mi,by rcases e with e|⟨e,_⟩<;>omega,jB,b h.i1⟩,e⟩
include hE
omit hF hi in
theorem KQ{m m':MV}(h:IM p inp m){k:Nat}(hk:k<E.length)(e:dw p (bA p) m (nth E k).name (nth E k).v=some m'):IM p inp m':=by obtain⟨a,b,c,d,k',e⟩:=Da e;subst e;exact⟨HN h.mi a _ (hE _ hk),h.t0,h.i0,h.i1⟩
theorem mS:lD MV.time (F inp) (dw p (bA p)) E (IM p inp):=
 ⟨fun s k s' h hk e=>⟨KQ hE h hk e,(Da e).2.1⟩,fun s h _=>⟨(pq hF hi h).1,(pq hF hi h).2.imp id And.left⟩,fun s h=>h.t0⟩
omit hF hi hE
theorem GQ:∀(n:Nat) (s:MV) (k:Nat) (b:Bool),(cz MV.time (dw p (bA p)) E n s k b).1.in_=s.in_/\(cz MV.time (dw p (bA p)) E n s k b).1.status=s.status
 |0,s,k,b=>⟨rfl,rfl⟩|n+1,s,k,b=>by
  unfold cz;split
  ·split
   ·rename_i s' e;obtain⟨_,_,c,d,_⟩:=Da e;obtain⟨a1,a2⟩:=GQ n s' (k+1) false;exact⟨a1.trans c,a2.trans d⟩
   ·exact⟨rfl,rfl⟩
  ·exact⟨rfl,rfl⟩
include hF hi hE
theorem Cr{T:Int}(h1:T<=200):∀(n:Nat) (s:MV) (k:Nat) (b:Bool),IM p inp s->s.time<=T->s.in_<=(da MV.time (F inp) (dw p (bA p)) E T n s k b).1.in_
 |0,s,k,b,_,_=>Int.le_refl _|n+1,s,k,b,h,ht=>by
  obtain⟨a1,a2,_⟩:=nw (mS hF hi hE) (E.length+1) s k b h;obtain⟨b1,b2⟩:=GQ (p:=p) (E:=E) (E.length+1) s k b;unfold da;generalize cz MV.time (dw p (bA p)) E (E.length+1) s k b=Q at*;split
  ·omega
  have hf:=(Cb hF hi a1.mi).1;split
  ·show s.in_<=(F inp Q.1).in_;omega
  ·obtain⟨c1,c2⟩:=pq hF hi a1;have:=Cr h1 n _ Q.2.1 Q.2.2 c1 (by rcases c2 with e|⟨e,_⟩<;>omega);omega
theorem DO{T:Int}(h1:T<=200){inp':UP}(VE:∀x∈inp',bE x):∀(n:Nat) (s:MV) (k:Nat) (b:Bool),IM p inp s->s.time<=T->((da MV.time (F inp) (dw p (bA p)) E T n s k b).1.time=T\/(da MV.time (F inp) (dw p (bA p)) E T n s k b).1.status≠1)->fv (da MV.time (F inp) (dw p (bA p)) E T n s k b).1.in_ inp inp'->da MV.time (F inp') (dw p (bA p)) E T n s k b=da MV.time (F inp) (dw p (bA p)) E T n s k b
 |0,s,k,b,_,_,_,_=>rfl|n+1,s,k,b,h,ht,h2,h3=>by
  obtain⟨a1,a2,_⟩:=nw (mS hF hi hE) (E.length+1) s k b h;unfold da at h2 h3 ⊢;generalize cz MV.time (dw p (bA p)) E (E.length+1) s k b=Q at*;by_cases c:Q.1.time=T
  ·rw[if_pos c,if_pos c]
  rw[if_neg c]at h2 h3 ⊢;rw[if_neg c];obtain⟨c1,c2⟩:=pq hF hi a1;by_cases d:(F inp Q.1).time=Q.1.time
  ·rw[if_pos d]at h2 h3;have h2:(F inp Q.1).time=T\/(F inp Q.1).status≠1:=h2;have h3:fv (F inp Q.1).in_ inp inp':=h3;have e:F inp' Q.1=F inp Q.1:=DJ hF hi VE a1.mi a1.i0 (h2.elim (fun e=>(c jB).elim) id) h3;rw[e,if_pos d,if_pos d]
  ·rw[if_neg d]at h2 h3;have h4:(F inp Q.1).time=Q.1.time+1/\(F inp Q.1).status≠1:=c2.elim (fun e=>(d e).elim) fun e=>⟨e.1,e.2.1⟩
   have V3:=Cr hF hi hE h1 n _ Q.2.1 Q.2.2 c1 jB;have e:F inp' Q.1=F inp Q.1:=DJ hF hi VE a1.mi a1.i0 h4.2 (h3.le V3);rw[e,if_neg d,if_neg d];exact DO h1 VE n _ Q.2.1 Q.2.2 c1 jB h2 h3
end
end Go.Proofs.YtijdhbokcdpklaaGreatDoor
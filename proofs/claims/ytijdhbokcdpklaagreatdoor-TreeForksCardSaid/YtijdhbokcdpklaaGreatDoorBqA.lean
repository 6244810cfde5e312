/- Lemmas. No conditions. -/
import Derived.Test.YtijdhbokcdpklaaGreatDoorTmC
set_option linter.all false
set_option maxHeartbeats 4000000
set_option maxRecDepth 10000
namespace Go.Gd
open Go
def la(p:af):UE:=[aP eH 5 p.aa.nodes,aP fZ 5 p.aa.aw,aP eI 1 p.types,aP eI 1 p.slots,aP eI 1 p.fn,aP eI 1 p.size]
attribute [go_sem] la
def PQ(p:af):aY eu (la p)=true:=rfl
def N7(p:af):cn p=la p:=rfl
section
variable {σ:Type}{tm:σ->Int}{st:σ->σ}{se:σ->UI->aj->Option σ}{E:List aB}{I:σ->Prop}{t:Int}
variable{n k:Nat}{s:σ}
def ww{b:Bool}(h:b=true\/E.length<=k):cv tm se E n s k b=(s,k,b):=by
 cases n with
 |zero=>rfl
 |succ n=>
  unfold cv;rw[if_neg];rintro⟨a,c,_⟩;rcases h with h|h
  ·rw[a]at h;cases h
  ·omega
def SP{b:Bool}(h:k<E.length->(nth E k).at_≠tm s):cv tm se E n s k b=(s,k,b):=by
 cases n with
 |zero=>rfl
 |succ n=> unfold cv;rw[if_neg];rintro⟨a,c,d⟩;exact h c d
def Oo(h:k<E.length)(ha:(nth E k).at_=tm s)(e:se s (nth E k).name (nth E k).v=none):cv tm se E (n+1) s k false=(s,k,true):=by unfold cv;rw[if_pos ⟨rfl,h,ha⟩,e]
def Py{s':σ}(h:k<E.length)(ha:(nth E k).at_=tm s)(e:se s (nth E k).name (nth E k).v=some s'):cv tm se E (n+1) s k false=cv tm se E n s' (k+1) false:=by
 conv=>lhs;unfold cv
 rw[if_pos ⟨rfl,h,ha⟩,e]
theorem Jf:∀(n m:Nat) (s:σ) (k:Nat) (b:Bool),E.length<n+k->E.length<m+k->cv tm se E n s k b=cv tm se E m s k b
 |0,m,s,k,b,h1,_=>by rw[ww (n:=0) (.inr (by omega)),ww (.inr (by omega))]
 |n,0,s,k,b,_,h2=>by rw[ww (n:=0) (.inr jB),ww (.inr jB)]
 |n+1,m+1,s,k,b,h1,h2=>by
  unfold cv;split
  ·split
   ·exact Jf n m _ (k+1) false jB jB
   ·rfl
  ·rfl
theorem JW{K:Nat}(hk:lF tm st se E I)(hK:∀k,K<=k->k<E.length->t<(nth E k).at_):∀(n:Nat) (s:σ) (k:Nat) (b:Bool),I s->tm s<=t->k<=K->(cv tm se E n s k b).2.1<=K
 |0,s,k,b,hs,h1,h2=>h2
 |n+1,s,k,b,hs,h1,h2=>by
  unfold cv;split
  ·rename_i hc;have O':k<K:=by
    apply Classical.byContradiction;intro h;have:=hK k jB hc.2.1;have:=hc.2.2;omega
   split
   ·rename_i s' e;obtain⟨a1,a2⟩:=hk.se s k s' hs hc.2.1 e;exact JW hk hK n s' (k+1) false a1 jB jB
   ·exact h2
  ·exact h2
theorem Cs{K:Nat}(hk:lF tm st se E I)(ht:t<=200)(hK:∀k,K<=k->k<E.length->t<(nth E k).at_):∀(n:Nat) (s:σ) (k:Nat) (b:Bool),I s->tm s<=t->k<=K->(cZ tm st se E t n s k b).2.1<=K
 |0,s,k,b,hs,h1,h2=>h2
 |n+1,s,k,b,hs,h1,h2=>by
  have h3:=JW hk hK (E.length+1) s k b hs h1 h2;obtain⟨a1,a2,_⟩:=na hk (E.length+1) s k b hs;unfold cZ;split
  ·exact h3
  rename_i Vu;obtain⟨c1,c2⟩:=hk.st _ a1 jB;split
  ·exact h3
  ·exact Cs hk ht hK n _ _ _ c1 jB h3
end
def Sc{P:UP}{f:FuncId}{args:UE}{B:UH}{L e l tl:UD}{K:UB}{r0:AV}(hd:cW P f args e r0 l)(hp:∀i,aA L i=aA (tie e tl) i)(k:K r0 ⟨B,tie l tl⟩)(hl:oa 0 tl:=by(repeat' first|exact dK|(refine dp (by decide) ?_)|fail))(h0:aS P f=true:=by exact dD):fg P (.raw (.func (.func f) #[] #[])) args ⟨B,L⟩ K:=by
 refine nZ h0 (MG hp (C9 (E:=fun tl=>e++tl) (E':=fun tl=>l++tl) ?_ (hd.e1.bv hl) (hd.e2.bv hl) ?_ ?_ ?_ k ?_))
 ·simp only[List.append_nil];exact hd.c
 ·simp only[List.append_nil];exact hd.e2.nodup
 ·simp only[List.append_nil];exact hd.a
 ·simp only[List.append_nil];exact hd.e1.closed
 ·simp only[List.append_nil];exact hd.aX
def fu(n:Int)(a b:UG):Prop:=∀j:Nat,(j:Int)<n->j<a.length/\j<b.length/\nth a j=nth b j
variable{n:Int}{a:UG}
def fu.le{m:Int}{b:UG}(h:fu n a b)(e:m<=n):fu m a b:=fun j hj=>h j jB
def JI{y:UG}(h:n<=a.length):fu n a (a++y):=fun j hj=>⟨jB,by rw[List.length_append];omega,by unfold nth;rw[List.getD_eq_getElem?_getD,List.getD_eq_getElem?_getD,List.getElem?_append_left jB]⟩
def Eh{y:UG}(h:n<=a.length):fu n a (a.take n.toNat++y):=fun j hj=>by
 have hl:(a.take n.toNat).length=n.toNat:=by rw[List.length_take];omega
 refine⟨jB,by rw[List.length_append];omega,?_⟩;rw[<-zK (l:=a) (n:=n.toNat) (k:=j) jB];unfold nth;rw[List.getD_eq_getElem?_getD,List.getD_eq_getElem?_getD,List.getElem?_append_left jB]
end Go.Gd
namespace Go.Proofs.YtijdhbokcdpklaaGreatDoor
open Go Go.Gd Tryz
end Go.Proofs.YtijdhbokcdpklaaGreatDoor
namespace Go.Proofs.YtijdhbokcdpklaaGreatDoor
open Go Go.Gd Tryz Go.Gd.MV
section
variable {p:af}{inp:UG}{k:Nat}{e:UD}(hE:fQ 0 e)(hg:aA e (hn 10 0)=some (.var 158 (la p++[.pt (hn 3 k) 0 0 0,aP eI 1 inp])))
include hE hg
theorem K4{Sh:lg}(Wb:cW prog 63 [.pt (hn 3 k) 0 0 0] e (.agg (lp Sh)) e):cW prog 226 [.pt (hn 10 0) 0 0 0] e (rI Sh.time) e:=by
 have Ul:=hE.low;refine⟨?_,hE,hE,fun _ h=>h,by simp only[aY,AV.all,ga hg,Bool.and_self]⟩;refine aM (L:=ids e) func226 ntmps226 ?_ (hL:=rfl);generalize hB:ids e=B;refine eW ?_
 (have W:=jA Ul hg;repeat' (first|refine av fun K hK=>?_|refine au ?_|(refine hK _ _ ?_;clear hK K)|(refine ar ?_ ?_<;>intro hc<;>try exact jz)|refine cT Wb ?_|(refine bY ?_ ?_<;>intro hc<;>try exact jz)|refine aq ?_|exact jI|(clear hK K)))
 exact eD hB hE hE (tl:=[]) (fun _=>rfl) dK [.tmp 2]
variable{e':UD}
theorem Sx(P':cW prog 228 [.pt (hn 3 k) 0 0 0,aP eI 1 inp] e (.aQ []) e'):cW prog 225 [.pt (hn 10 0) 0 0 0] e (.aQ []) e':=by
 have Ul:=hE.low;refine⟨?_,hE,P'.e2,P'.aX,by simp only[aY,AV.all,ga hg,Bool.and_self]⟩;refine aM (L:=ids e) func225 ntmps225 ?_ (hL:=rfl);generalize hB:ids e=B;refine eW ?_
 (have W:=jA Ul hg;repeat' (first|refine av fun K hK=>?_|refine au ?_|(with_reducible refine gR 0 ?_);refine dE 0 (bf 0 9) mixed ?_|(refine hK _ _ ?_;clear hK K)|(refine ar ?_ ?_<;>intro hc<;>try exact jz)|refine cT P' ?_|(refine bY ?_ ?_<;>intro hc<;>try exact jz)|refine aq ?_|exact jI|(clear hK K)))
 exact eD hB hE P'.e2 (tl:=[]) (fun _=>rfl) dK []
theorem Gh{b:Bool}{nm:UI}{v:aj}(P':cW prog 227 [.agg (cn p),.pt (hn 3 k) 0 0 0,rS nm,.agg (bV v)] e (rB b) e'):cW prog 224 [.pt (hn 10 0) 0 0 0,rS nm,.agg (bV v)] e (rB b) e':=by
 have Ul:=hE.low;rw[N7]at P';simp only[la]at P';refine⟨?_,hE,P'.e2,P'.aX,by simp only[aY,AV.all,ga hg,Bool.and_self,Bool.and_true,bV]⟩;refine aM (L:=ids e) func224 ntmps224 ?_ (hL:=rfl);generalize hB:ids e=B;refine eW ?_
 (have W:=jA Ul hg;repeat' (first|refine av fun K hK=>?_|refine au ?_|(with_reducible refine gR 1 ?_);refine dE 1 (bf 0 12) mixed ?_|(refine hK _ _ ?_;clear hK K)|(refine ar ?_ ?_<;>intro hc<;>try exact jz)|refine aV 4 ?_|refine cT P' ?_|(refine bY ?_ ?_<;>intro hc<;>try exact jz)|refine aq ?_|exact jI|(clear hK K)))
 exact eD hB hE P'.e2 (tl:=[(4,.var 42 (bV v))]) (fun _=>rfl) (dp jC dK) [.tmp 6]
end
end Go.Proofs.YtijdhbokcdpklaaGreatDoor
namespace Go.Proofs.YtijdhbokcdpklaaGreatDoor
open Go Go.Gd Tryz
attribute [go_sem] Bool.false_and Bool.true_and
structure re{σ:Type}(tm:σ->Int)(sp:σ->σ)(se:σ->ByteArray->aj->Option σ)(E:List aB)(I:σ->Prop)(g:σ->List (Nat×Row))(T:TypeId)(v:AV)(ft fs fe:FuncId):Prop where
 mt : oK prog T "furcate/trace.time" = some ft
 ms : oK prog T "furcate/trace.step" = some fs
 me : oK prog T "furcate/trace.set" = some fe
 ct:aS prog ft=true
 cs:aS prog fs=true
 ce:aS prog fe=true
 time:∀s,I s->cW prog ft [v] (g s) (rI (tm s)) (g s)
 step:∀s,I s->tm s<200->cW prog fs [v] (g s) (.aQ []) (g (sp s))
 set:∀s k,I s->k<E.length->cW prog fe [v,rS (nth E k).name,.agg (bV (nth E k).v)] (g s) (rB (se s (nth E k).name (nth E k).v).isSome) (g ((se s (nth E k).name (nth E k).v).getD s))
structure Il(σ:Type) where
 s:σ
 k:Nat
 b:Bool
section
variable {σ:Type}{tm:σ->Int}{sp:σ->σ}{se:σ->UI->aj->Option σ}{E:List aB}{I:σ->Prop}{g:σ->UD}{T:UJ}{v:AV}{ft fs fe:FuncId}
def re.kept(h:re tm sp se E I g T v ft fs fe)(ok:lF tm sp se E I)(s0:σ):lF tm sp se E fun s=>I s/\∀i,aA (g s0) i≠none->aA (g s) i≠none:=by
 refine⟨fun s k s' hs hk e=>?_,fun s hs ht=>?_,fun s hs=>ok.tm s hs.1⟩
 ·obtain⟨a,b⟩:=ok.se s k s' hs.1 hk e;have hd:=(h.set s k hs.1 hk).aX;rw[e]at hd;exact⟨⟨a,fun i hi=>hd i (hs.2 i hi)⟩,b⟩
 ·obtain⟨a,b⟩:=ok.st s hs.1 ht;exact⟨⟨a,fun i hi=>(h.step s hs.1 ht).aX i (hs.2 i hi)⟩,b⟩
def Nx(h:re tm sp se E I g T v ft fs fe)(ok:lF tm sp se E I)(hl:E.length<=1000)(s0:σ)(hi:I s0)(t0:Int)(ht0:bD t0)(h0:tm s0<=dL t0) :
  cW prog 88 [.iK T v,aP bA 5 E,rI t0] (g s0) (rI (l5 E (dL t0) (cZ tm sp se E (dL t0) ((dL t0-tm s0).toNat+1) s0 0 false))) (g (cZ tm sp se E (dL t0) ((dL t0-tm s0).toNat+1) s0 0 false).1):=by
 have hc:dL t0=min (max t0 0) 200:=rfl;have ht2:dL t0<=200:=jB;have XU:0<=dL t0:=jB;obtain⟨⟨k1,k2⟩,k3,k4,k5⟩:=sF (h.kept ok s0) ht2 ((dL t0-tm s0).toNat+1) s0 0 false ⟨hi,fun i h=>h⟩ h0 (Nat.zero_le _);refine⟨?_,(h.time s0 hi).e1,(h.time _ k1).e1,k2,by have:=(h.time s0 hi).a;simp only[aY,AV.all,Bool.and_true]at this ⊢;rw[this]⟩;generalize hF:cZ tm sp se E (dL t0) ((dL t0-tm s0).toNat+1) s0 0 false=F at*;have Uo:(if 200<(if 0>t0 then 0 else t0)then 200 else(if 0>t0 then 0 else t0))=dL t0:=by unfold dL;(repeat' split)<;>omega
 clear hc;generalize dL t0=t at*;have hmt:=h.mt;have hms:=h.ms;have hme:=h.me;obtain⟨e,he⟩:∃e,g s0=e:=⟨_,rfl⟩;rw[he];refine aM (L:=ids e) func88 ntmps88 ?_ (hL:=rfl);generalize hB:ids e=B;refine eW ?_;subst he
 (have W:=Uo;repeat' (first|refine av fun K hK=>?_|refine au ?_|(with_reducible refine gR 3 ?_);refine dE 3 (bf 0 18) mixed ?_|(with_reducible refine gR 4 ?_);refine dE 4 (bf 0 17) mixed ?_|(refine hK _ _ ?_;clear hK K)|(refine ar ?_ ?_<;>intro hc<;>try exact jz)|(refine bY ?_ ?_<;>intro hc<;>try exact jz)|refine aq ?_|exact jI|(clear hK K)))
 have Ux:=hK;clear hK;refine eN (S:=Il σ) [(7,3),(13,49)] (fun x=>I x.s/\tm x.s<=t/\x.k<=E.length/\cZ tm sp se E t ((t-tm x.s).toNat+1) x.s x.k x.b=F) (fun x=>[(7,rI x.k),(8,rB x.b)]) (fun x=>⟨B,tie (g x.s) []⟩) (fun x=>(t-tm x.s).toNat) ⟨s0,0,false⟩ ⟨hi,h0,Nat.zero_le _,hF⟩ (eR rfl cH) ?_;rintro⟨s,k,b⟩ ⟨hs,ht,Wa,hg⟩ Kr Ut;simp only at hs ht Wa hg;have haH:=(h.time s hs).e1.low;obtain⟨⟨u1,u2⟩,u3,u4⟩:=na (h.kept ok s) (E.length+1) s k b ⟨hs,fun i h=>h⟩;obtain⟨Q,hQ⟩:∃Q,cv tm se E (E.length+1) s k b=Q:=⟨_,rfl⟩;refine S ?_
 (repeat' (first|refine av fun K hK=>?_|refine au ?_|(with_reducible refine gR 3 ?_);refine dE 3 (bf 0 18) mixed ?_|(with_reducible refine gR 4 ?_);refine dE 4 (bf 0 17) mixed ?_|(refine hK _ _ ?_;clear hK K)|(refine ar ?_ ?_<;>intro hc<;>try exact jz)|(refine bY ?_ ?_<;>intro hc<;>try exact jz)|refine aq ?_|exact jI|(clear hK K)))
 have hKb:=hK;clear hK;refine eN (S:=Il σ) [(7,2),(13,38)] (fun y=>I y.s/\tm y.s=tm s/\y.k<=E.length/\cv tm se E (E.length+1-y.k) y.s y.k y.b=Q) (fun y=>[(7,rI y.k),(8,rB y.b)]) (fun y=>⟨B,tie (g y.s) []⟩) (fun y=>2*(E.length-y.k)+(if y.b=true then 0 else 1)) ⟨s,k,b⟩ ⟨hs,rfl,Wa,?_⟩ (eR rfl cH) ?_
 ·exact(Jf (E.length+1-k) (E.length+1) s k b jB jB).trans hQ
 rintro⟨s1,k1',b1⟩ ⟨Yo,haa,hac,XD⟩ Kr2 X7;simp only at Yo haa hac XD;have XO:=h.time s1 Yo;have U6:=XO.e1.low;have V6:=h.ct;by_cases had:b1=false/\k1'<E.length/\(nth E k1').at_=tm s1
 ·obtain⟨cb,ck,ca⟩:=had;have Um:=h.set s1 k1' Yo ck;have hce:=h.ce;have ck2:(k1':Int)<(E.length:Int):=jB;subst cb;rw[show E.length+1-k1'=(E.length-k1')+1 from jB]at XD;cases e:se s1 (nth E k1').name (nth E k1').v with
  |none=>
   rw[Oo ck ca e]at XD;rw[e]at Um;refine S ?_
   (have W:=jA hmt (jA hme (jA U6 (jA ck2 (ca))));repeat' (first|refine av fun K hK=>?_|refine au ?_|(with_reducible refine gR 3 ?_);refine dE 3 (bf 0 18) mixed ?_|(with_reducible refine gR 4 ?_);refine dE 4 (bf 0 17) mixed ?_|(refine hK _ _ ?_;clear hK K)|(refine ar ?_ ?_<;>intro hc<;>try exact jz)|(refine mS XO ?_ (h0:=V6))|(refine cT Um ?_ (h0:=hce))|(refine bY ?_ ?_<;>intro hc<;>try exact jz)|refine aq ?_|exact jI|(clear hK K)))
   exact X7 _ _ (eQ ⟨s1,k1',true⟩ ⟨Yo,haa,hac,(ww (.inl rfl)).trans XD⟩ (by show 2*(E.length-k1')+0<2*(E.length-k1')+1;omega) rfl cH)
  |some s2=>
   rw[Py ck ca e]at XD;rw[e]at Um;obtain⟨n1,n2⟩:=ok.se s1 k1' s2 Yo ck e;refine S ?_
   (have W:=jA hmt (jA hme (jA U6 (jA ck2 (ca))));repeat' (first|refine av fun K hK=>?_|refine au ?_|(with_reducible refine gR 3 ?_);refine dE 3 (bf 0 18) mixed ?_|(with_reducible refine gR 4 ?_);refine dE 4 (bf 0 17) mixed ?_|(refine hK _ _ ?_;clear hK K)|(refine ar ?_ ?_<;>intro hc<;>try exact jz)|(refine mS XO ?_ (h0:=V6))|(refine cT Um ?_ (h0:=hce))|(refine bY ?_ ?_<;>intro hc<;>try exact jz)|refine aq ?_|exact jI|(clear hK K)))
   exact X7 _ _ (eQ ⟨s2,k1'+1,false⟩ ⟨n1,n2.trans haa,by show k1'+1<=E.length;omega,by show cv tm se E (E.length+1-(k1'+1)) s2 (k1'+1) false=Q;rw[show E.length+1-(k1'+1)=E.length-k1' from jB];exact XD⟩ (by show 2*(E.length-(k1'+1))+1<2*(E.length-k1')+1;omega) rfl cH)
 ·have hQ1:Q=(s1,k1',b1):=by
   rw[<-XD];by_cases a:b1=true\/E.length<=k1'
   ·exact ww a
   ·refine SP fun hl e=>had ⟨?_,hl,e⟩
    cases b1
    ·rfl
    ·exact(a (.inl rfl)).elim
  have h3:(b1=true/\True/\True)\/(b1=false/\(k1':Int)<(E.length:Int)/\¬(nth E k1').at_=tm s1)\/(b1=false/\¬(k1':Int)<(E.length:Int)/\True):=by
   cases b1
   ·right
    by_cases ck:k1'<E.length
    ·exact .inl ⟨rfl,jB,fun e=>had ⟨rfl,ck,e⟩⟩
    ·exact .inr ⟨rfl,jB,trivial⟩
   ·exact .inl ⟨rfl,trivial,trivial⟩
  have hd3:(¬(k1':Int)<(E.length:Int)/\True/\∀z:σ,l5 E t (z,k1',b1)=0)\/((k1':Int)<(E.length:Int)/\(nth E k1').at_<=t/\∀z:σ,l5 E t (z,k1',b1)=(k1':Int)+1)\/((k1':Int)<(E.length:Int)/\¬(nth E k1').at_<=t/\∀z:σ,l5 E t (z,k1',b1)=0):=by
   by_cases ck:k1'<E.length
   ·by_cases d:(nth E k1').at_<=t
    ·exact .inr (.inl ⟨jB,d,fun z=>by unfold l5;rw[if_pos ⟨ck,d⟩]⟩)
    ·exact .inr (.inr ⟨jB,d,fun z=>by unfold l5;rw[if_neg (fun h=>d h.2)]⟩)
   ·exact .inl ⟨jB,trivial,fun z=>by unfold l5;rw[if_neg (fun h=>ck h.1)]⟩
  rw[hQ1]at hQ;have Vh:cZ tm sp se E t ((t-tm s).toNat+1) s k b=if tm s1=t then(s1,k1',b1)else if tm (sp s1)=tm s1 then(sp s1,k1',b1)else cZ tm sp se E t (t-tm s).toNat (sp s1) k1' b1:=by
   conv=>lhs;unfold cZ
   rw[hQ]
  rw[hg]at Vh;by_cases a:tm s1=t
  ·rw[if_pos a]at Vh;subst Vh;rcases h3 with⟨cb,q1,q2⟩|⟨cb,q1,q2⟩|⟨cb,q1,q2⟩<;>subst cb<;>rcases hd3 with⟨d1,d2,d3⟩|⟨d1,d2,d3⟩|⟨d1,d2,d3⟩
   all_goals try omega
   all_goals
    refine S ?_
    (have W:=jA hmt (jA U6 (jA q1 (jA q2 (jA a (jA d1 (d2))))));repeat' (first|refine av fun K hK=>?_|refine au ?_|(with_reducible refine gR 3 ?_);refine dE 3 (bf 0 18) mixed ?_|(with_reducible refine gR 4 ?_);refine dE 4 (bf 0 17) mixed ?_|(refine hK _ _ ?_;clear hK K)|(refine ar ?_ ?_<;>intro hc<;>try exact jz)|(refine mS XO ?_ (h0:=V6))|(refine⟨rI 0,?_⟩;refine S ?_)|(refine⟨rI 0,fun h=>absurd h Bool.false_ne_true,?_⟩;refine S ?_)|(refine cT XO ?_ (h0:=V6))|refine hKb _ _ ?_|refine Ux _ _ ?_|(refine bY ?_ ?_<;>intro hc<;>try exact jz)|refine aq ?_|exact jI|(clear hK K)))
    rw[d3];exact eD hB (h.time s0 hi).e1 XO.e1 (tl:=[]) (fun _=>rfl) dK [.tmp 6]
  ·rw[if_neg a]at Vh;have O':tm s1<200:=jB;have P':=h.step s1 Yo O';obtain⟨w1,w2⟩:=ok.st s1 Yo O';have Zi:=h.time (sp s1) w1;have V':=Zi.e1.low;have Vy:=h.cs;by_cases c:tm (sp s1)=tm s1
   ·rw[if_pos c]at Vh;subst Vh;rcases h3 with⟨cb,q1,q2⟩|⟨cb,q1,q2⟩|⟨cb,q1,q2⟩<;>subst cb<;>rcases hd3 with⟨d1,d2,d3⟩|⟨d1,d2,d3⟩|⟨d1,d2,d3⟩
    all_goals try omega
    all_goals
     refine S ?_
     (have W:=jA hmt (jA hms (jA U6 (jA V' (jA q1 (jA q2 (jA a (jA c (jA d1 (d2)))))))));repeat' (first|refine av fun K hK=>?_|refine au ?_|(with_reducible refine gR 3 ?_);refine dE 3 (bf 0 18) mixed ?_|(with_reducible refine gR 4 ?_);refine dE 4 (bf 0 17) mixed ?_|(refine hK _ _ ?_;clear hK K)|(refine ar ?_ ?_<;>intro hc<;>try exact jz)|(refine mS XO ?_ (h0:=V6))|(refine⟨rI 0,?_⟩;refine S ?_)|(refine⟨rI 0,fun h=>absurd h Bool.false_ne_true,?_⟩;refine S ?_)|(refine cT XO ?_ (h0:=V6))|(refine cT P' ?_ (h0:=Vy))|(refine cT Zi ?_ (h0:=V6))|refine hKb _ _ ?_|refine Ux _ _ ?_|(refine bY ?_ ?_<;>intro hc<;>try exact jz)|refine aq ?_|exact jI|(clear hK K)))
     rw[d3];exact eD hB (h.time s0 hi).e1 Zi.e1 (tl:=[]) (fun _=>rfl) dK [.tmp 6]
   ·rw[if_neg c]at Vh;rcases h3 with⟨cb,q1,q2⟩|⟨cb,q1,q2⟩|⟨cb,q1,q2⟩<;>subst cb
    all_goals
     refine S ?_
     (have W:=jA hmt (jA hms (jA U6 (jA V' (jA q1 (jA q2 (jA a (c)))))));repeat' (first|refine av fun K hK=>?_|refine au ?_|(with_reducible refine gR 3 ?_);refine dE 3 (bf 0 18) mixed ?_|(with_reducible refine gR 4 ?_);refine dE 4 (bf 0 17) mixed ?_|(refine hK _ _ ?_;clear hK K)|(refine ar ?_ ?_<;>intro hc<;>try exact jz)|(refine mS XO ?_ (h0:=V6))|(refine⟨rI 0,?_⟩;refine S ?_)|(refine⟨rI 0,fun h=>absurd h Bool.false_ne_true,?_⟩;refine S ?_)|(refine cT XO ?_ (h0:=V6))|(refine cT P' ?_ (h0:=Vy))|(refine cT Zi ?_ (h0:=V6))|refine hKb _ _ ?_|(refine bY ?_ ?_<;>intro hc<;>try exact jz)|refine aq ?_|exact jI|(clear hK K)))
     have V9:=Vh.symm;rw[show(t-tm s).toNat=(t-tm (sp s1)).toNat+1 from jB]at V9;exact Ut _ _ (eQ ⟨sp s1,k1',_⟩ ⟨w1,by show tm (sp s1)<=t;omega,hac,V9⟩ (by show(t-tm (sp s1)).toNat<(t-tm s).toNat;omega) rfl cH)
end
end Go.Proofs.YtijdhbokcdpklaaGreatDoor
namespace Go.Proofs.YtijdhbokcdpklaaGreatDoor
open Go Go.Gd Tryz Go.Gd.MV
structure ES where
 m:MV
 N:NM
 e:List (Nat×Row)
 E:List (Nat×Row)
structure EI(p:af)(inp:List Int)(k:Nat)(x:ES):Prop where
 R:bL p (bz p) x.m x.N x.e
 key:x.N.k=k
 mi:MI p (bz p) x.m
 bd:Bd inp.length x.m
 t0:0<=x.m.time
 t1:x.m.time<=100000
 ok:fQ 0 x.E
 sub:∀i r,aA x.e i=some r->aA x.E i=some r
 tf:aA x.E (hn 10 0)=some (.var 158 (la p++[.pt (hn 3 k) 0 0 0,aP eI 1 inp]))
 no:aA x.e (hn 10 0)=none
def Dj(p:af)(inp:UG)(k:Nat)(F:UG->MV->MV)(x x':ES):Prop:=x'.m=F inp x.m/\EI p inp k x'/\cW prog 228 [.pt (hn 3 k) 0 0 0,aP eI 1 inp] x.E (.aQ []) x'.E
def Bx(p:af)(inp:UG)(k:Nat)(m':MV)(nm:UI)(v:aj)(x x':ES):Prop:=x'.m=m'/\EI p inp k x'/\cW prog 227 [.agg (cn p),.pt (hn 3 k) 0 0 0,rS nm,.agg (bV v)] x.E (rB true) x'.E
section
variable {p:af}(hs:fX p)(VO:∀k,k<p.aa.nodes.length->0<=nth p.fn k/\nth p.fn k<p.aa.aw.length){F:UG->MV->MV}(hF:bF p (bz p) F){inp:UG}(VB:inp.length<=1000)(hi:∀x∈inp,bD x){k:Nat}{x:ES}
include hs hF VB hi
theorem Ls(h:EI p inp k x)(ht:x.m.time<200):∃x',Dj p inp k F x x':=by
 have ht0:=h.t0;obtain⟨N',l',⟨hR',UY,Vv⟩,hU,P'⟩:=RL hs hF VB hi h.R h.mi h.bd ⟨ht0,h.t1⟩ (ids x.E);have XW:∀i,aA l' i≠none->aA x.e i≠none\/aA x.E i=none:=fun i hi=>by
  rcases hU.new i hi with h1|h1
  ·exact .inl h1
  ·right
   cases hx:aA x.E i with
   |none=>rfl
   |some r=>exact(h1 ((lJ _ _).2 (by rw[hx];simp))).elim
 have hd:=cW.more P' h.ok h.sub XW;have Ur:aA l' (hn 10 0)=none:=by
  cases hx:aA l' (hn 10 0)with
  |none=>rfl
  |some r=>
   rcases XW (hn 10 0) (by rw[hx];simp)with h1|h1
   ·exact(h1 h.no).elim
   ·rw[h.tf]at h1;cases h1
 have hp:=h.key;have eP:mP x.N=.pt (hn 3 k) 0 0 0:=by unfold mP;rw[hp]
 rw[eP]at hd;have Xn:=hF.time hi h.mi;refine⟨⟨F inp x.m,N',l',gF x.E l'⟩,rfl,⟨hR',UY.trans hp,hF.mi hi h.mi,Vv,?_,?_,hd.e2,fun i r hr=>?_,?_,Ur⟩,hd⟩
 ·show 0<=(F inp x.m).time;rcases Xn with e|e<;>omega
 ·show(F inp x.m).time<=100000;rcases Xn with e|e<;>omega
 ·show aA (gF x.E l') i=some r;have hr:aA l' i=some r:=hr;rw[u9 hR'.ok.nodup,hr];rfl
 ·show aA (gF x.E l') (hn 10 0)=_;rw[u9 hR'.ok.nodup,Ur];exact h.tf
omit hF VB hi
include VO
theorem Qf(h:EI p inp k x)(nm:UI)(v:aj)(e:dv p (bz p) x.m nm v=none):cW prog 227 [.agg (cn p),.pt (hn 3 k) 0 0 0,rS nm,.agg (bV v)] x.E (rB false) x.E:=by
 have hp:=h.key;have eP:mP x.N=.pt (hn 3 k) 0 0 0:=by unfold mP;rw[hp]
 have hC:=rX hs;have hRE:=h.R.vE h.ok h.sub;have hk:=yX h.mi h.bd (by have:=hC.len;have:=hC.o0;have:=hs.ok.aa.aw;have:=hs.ok.size;omega);unfold dv at e;split at e
 ·rename_i c;have:=PW hRE hk nm v c;rw[eP]at this;exact this
 rename_i c;split at e
 ·rename_i d;have hm:lW v=true:=by
   cases hh:lW v
   ·exact(c (.inr (.inl hh))).elim
   ·rfl
  have:=My hRE hk nm v hs VO h.mi (fun e=>c (.inl e)) hm (fun e=>c (.inr (.inr e))) d;rw[eP]at this;exact this
 ·cases e
theorem N8(h:EI p inp k x)(nm:UI)(v:aj)(hv:bD v.n){m':MV}(e:dv p (bz p) x.m nm v=some m'):m'.time=x.m.time/\∃x',Bx p inp k m' nm v x x':=by
 have hp:=h.key;have eP:mP x.N=.pt (hn 3 k) 0 0 0:=by unfold mP;rw[hp]
 have hC:=rX hs;have hRE:=h.R.vE h.ok h.sub;have hk:=yX h.mi h.bd (by have:=hC.len;have:=hC.o0;have:=hs.ok.aa.aw;have:=hs.ok.size;omega);unfold dv at e;split at e
 ·cases e
 rename_i c;split at e
 ·cases e
 rename_i d;cases e;have hm:lW v=true:=by
  cases hh:lW v
  ·exact(c (.inr (.inl hh))).elim
  ·rfl
 obtain⟨d1,d2⟩:=E3 hRE hk nm v hs VO h.mi (fun e=>c (.inl e)) hm (fun e=>c (.inr (.inr e))) d;obtain⟨_,d4⟩:=E3 h.R hk nm v hs VO h.mi (fun e=>c (.inl e)) hm (fun e=>c (.inr (.inr e))) d;rw[eP]at d1;have Vu:hn 10 0≠hn 1 x.N.ah.c:=dj jC jC jC;have Y1:=E1 h.mi (fun e=>c (.inl e)) (nth (ij p (gq (bz p) x.m)) (iz nm v.ty (ij p (gq (bz p) x.m)) 0).toNat).slot.toNat hv;generalize (nth (ij p (gq (bz p) x.m)) (iz nm v.ty (ij p (gq (bz p) x.m)) 0).toNat).slot.toNat=kk at*;obtain⟨h1,_⟩:=h.mi.ah fun e=>c (.inl (.inl e))
 refine⟨rfl,⟨⟨rF x.m kk v,x.N,_,_⟩,rfl,⟨d4,hp,Y1,?_,h.t0,h.t1,d2.ok,fun i r hr=>?_,?_,?_⟩,d1⟩⟩
 ·exact h.bd.aW (by show(x.m.ah.slots.set kk v).length<=24;rw[List.length_set];exact h.bd.ah h1)
 ·show aA (bj x.E _ _) i=some r;have hr:aA (bj x.e _ _) i=some r:=hr;rw[bP]at hr ⊢;split
  ·rename_i e;rw[if_pos e]at hr;exact hr
  ·rename_i e;rw[if_neg e]at hr;exact h.sub i r hr
 ·show aA (bj x.E _ _) (hn 10 0)=_;rw[bP,if_neg Vu];exact h.tf
 ·show aA (bj x.e _ _) (hn 10 0)=_;rw[bP,if_neg Vu];exact h.no
end
end Go.Proofs.YtijdhbokcdpklaaGreatDoor
namespace Go.Proofs.YtijdhbokcdpklaaGreatDoor
open Go Go.Gd Tryz
@[go_sem] def j1Q(p:af)(l:UE):cn p++l=aP eH 5 p.aa.nodes::aP fZ 5 p.aa.aw::aP eI 1 p.types::aP eI 1 p.slots::aP eI 1 p.fn::aP eI 1 p.size::l:=rfl
attribute [go_sem] List.append_nil
structure mJ(p:af):Prop where
 ok:fX p
 fn:∀k,k<p.aa.nodes.length->0<=nth p.fn k/\nth p.fn k<p.aa.aw.length
end Go.Proofs.YtijdhbokcdpklaaGreatDoor
namespace Go.Proofs.YtijdhbokcdpklaaGreatDoor
open Go Go.Gd Tryz Go.Gd.MV
def Rq : oK prog 155 "furcate/trace.time" = some 226 := by kernel_rfl
def NE : oK prog 155 "furcate/trace.step" = some 225 := by kernel_rfl
def O1 : oK prog 155 "furcate/trace.set" = some 224 := by kernel_rfl
@[go_sem] def qch:(prog).underlying 155=some (.pointer 158):=jG
def jS(x:ES):Int:=x.m.time
open Classical in
noncomputable def stE(p:af)(inp:List Int)(k:Nat)(F:List Int->MV->MV)(x:ES):ES:=if h:∃x',Dj p inp k F x x' then Classical.choose h else x
open Classical in
noncomputable def seE(p:af)(inp:List Int)(k:Nat)(x:ES)(nm:ByteArray)(v:aj):Option ES:=(dv p (bz p) x.m nm v).map fun m'=>if h:∃x',Bx p inp k m' nm v x x' then Classical.choose h else x
section
variable {p:af}(hp:mJ p){F:UG->MV->MV}(hF:bF p (bz p) F){inp:UG}(VB:inp.length<=1000)(hi:∀x∈inp,bD x){k:Nat}{x:ES}{E:List aB}(hE:∀k,k<E.length->bD (nth E k).v.n)
include hp hF VB hi
theorem A3(h:EI p inp k x)(ht:x.m.time<200):Dj p inp k F x (stE p inp k F x):=by have hx:=Ls hp.ok hF VB hi h ht;unfold stE;rw[dif_pos hx];exact Classical.choose_spec hx
omit hF VB hi
theorem JP(h:EI p inp k x)(nm:UI)(v:aj)(e:seE p inp k x nm v=none):dv p (bz p) x.m nm v=none:=by
 unfold seE at e;cases hh:dv p (bz p) x.m nm v with
 |none=>rfl
 |some m'=>rw[hh]at e;cases e
theorem B9(h:EI p inp k x)(nm:UI)(v:aj)(hv:bD v.n){x':ES}(e:seE p inp k x nm v=some x'):∃m',dv p (bz p) x.m nm v=some m'/\m'.time=x.m.time/\Bx p inp k m' nm v x x':=by
 unfold seE at e;cases hh:dv p (bz p) x.m nm v with
 |none=>rw[hh]at e;cases e
 |some m'=> rw[hh]at e;obtain⟨h1,hx⟩:=N8 hp.ok hp.fn h nm v hv hh;simp only[Option.map_some,dif_pos hx]at e;cases e;exact⟨m',rfl,h1,Classical.choose_spec hx⟩
include hF VB hi hE
theorem xA:lF jS (stE p inp k F) (seE p inp k) E (EI p inp k):=by
 refine⟨fun s j s' h hj e=>?_,fun s h ht=>?_,fun s h=>h.t0⟩
 ·obtain⟨m',_,e2,e3⟩:=B9 hp h _ _ (hE j hj) e;refine⟨e3.2.1,?_⟩;show s'.m.time=s.m.time;rw[e3.1];exact e2
 ·have h1:=A3 hp hF VB hi h ht;refine⟨h1.2.1,?_⟩;show(stE p inp k F s).m.time=s.m.time\/(stE p inp k F s).m.time=s.m.time+1;rw[h1.1];rcases hF.time hi h.mi with e|e
  ·exact .inl e
  ·exact .inr e.1
theorem Kz:re jS (stE p inp k F) (seE p inp k) E (EI p inp k) (fun x=>x.E) 155 (.pt (hn 10 0) 0 0 0) 226 225 224:=by
 refine⟨Rq,NE,O1,jD,jD,jD,fun s h=>?_,fun s h ht=>?_,fun s j h hj=>?_⟩
 ·have hC:=rX hp.ok;have hk:=yX h.mi h.bd (by have:=hC.len;have:=hC.o0;have:=hp.ok.ok.aa.aw;have:=hp.ok.ok.size;omega);have Wb:=xz (h.R.vE h.ok h.sub) hk;rw[show mP s.N=.pt (hn 3 k) 0 0 0 by unfold mP;rw[h.key]]at Wb;exact K4 h.ok h.tf Wb
 ·exact Sx h.ok h.tf (A3 hp hF VB hi h ht).2.2
 ·cases e:seE p inp k s (nth E j).name (nth E j).v with
  |none=>exact Gh h.ok h.tf (Qf hp.ok hp.fn h _ _ (JP hp h _ _ e))
  |some s'=> obtain⟨m',_,_,e3⟩:=B9 hp h _ _ (hE j hj) e;exact Gh h.ok h.tf e3.2.2
end
def P5{p:af}(hp:mJ p)(Uw:fw p){F:UG->MV->MV}(hF:bF p (bz p) F){inp:UG}(VB:inp.length<=1000)(hi:∀x∈inp,bD x){E:List aB}(hE:∀k,k<E.length->bD (nth E k).v.n)(hl:E.length<=1000)(t:Int)(ht:bD t) :
  ∃x0:ES,EI p inp x0.N.k x0/\x0.m.time=0/\bc p (bz p) [] (l4 p (bz p)) x0.m/\x0.m.dF (bz p)/\
   ab prog 61 [.agg (cn p),aP eI 1 inp,aP bA 5 E,rI t] [] (fun r l=>r=.aQ [.pt (hn 3 x0.N.k) 0 0 0,rI (l5 E (dL t) (cZ jS (stE p inp x0.N.k F) (seE p inp x0.N.k) E (dL t) ((dL t-jS x0).toNat+1) x0 0 false))]/\l=(cZ jS (stE p inp x0.N.k F) (seE p inp x0.N.k) E (dL t) ((dL t-jS x0).toNat+1) x0 0 false).1.E):=by
 obtain⟨m1,hg,P',h1,Xn⟩:=AO Uw.ok (xu Uw.ok) [];have Xn:m1.time=0:=Xn;obtain⟨N,l,hR,hX,hb,hnw⟩:=T3 Uw [hn 10 0] hg P' (fun e0=>by obtain⟨hl,_,_,k0,n,a,ek,hm⟩:=h1.ah jB;have UW:=hm.head.1;exact⟨hl,jB,jB⟩)
 have Ur:aA l (hn 10 0)=none:=by
  cases hx:aA l (hn 10 0)with
  |none=>rfl
  |some r=>exact(hX (hn 10 0) (by rw[hx];simp) jE).elim
 have Xo:∀i,aA (l++[(hn 10 0,.var 158 (la p++[.pt (hn 3 N.k) 0 0 0,aP eI 1 inp]))]) i=(aA l i).or (if i=hn 10 0 then some (.var 158 (la p++[.pt (hn 3 N.k) 0 0 0,aP eI 1 inp]))else none):=fun i=>by rw[uT];rfl
 have Wo:=hR.root;have hok:fQ 0 (l++[(hn 10 0,.var 158 (la p++[.pt (hn 3 N.k) 0 0 0,aP eI 1 inp]))]):=by
  refine⟨fun i h0 h1=>?_,?_,fun i r hr=>?_⟩
  ·rw[Xo,hR.ok.low i h1,if_neg (by have:=iA 10 0;omega)];rfl
  ·have:ids (l++[(hn 10 0,Row.var 158 (la p++[.pt (hn 3 N.k) 0 0 0,aP eI 1 inp]))])=ids l++[hn 10 0]:=by simp[ids]
   rw[this,List.nodup_append];refine⟨hR.ok.nodup,jE,fun a ha b hb e=>?_⟩;simp at hb;subst hb e;exact(lJ _ _).1 ha Ur
  ·have hm:∀j,(ids l).contains j=true->(ids (l++[(hn 10 0,Row.var 158 (la p++[.pt (hn 3 N.k) 0 0 0,aP eI 1 inp]))])).contains j=true:=fun j hj=>by
    rw[List.contains_iff_mem]at hj ⊢;simp[ids]at hj ⊢;exact .inl hj
   rw[Xo]at hr;cases hx:aA l i with
   |some r'=> rw[hx]at hr;cases hr;exact fV hm _ (hR.ok.closed i _ hx)
   |none=>
    rw[hx]at hr;have hr:(if i=hn 10 0 then some (Row.var 158 (la p++[.pt (hn 3 N.k) 0 0 0,aP eI 1 inp]))else none)=some r:=hr;split at hr
    ·cases hr;have h3:=hm _ (ga Wo);show aY _ (la p++[.pt (hn 3 N.k) 0 0 0,aP eI 1 inp])=true;rw[sI,fV (q:=eu) (fun _ h=>by cases h) _ (PQ p)];simp only[aY,AV.all,h3,Bool.and_true,Bool.true_and]
    ·cases hr
 have hEI:EI p inp N.k ⟨m1,N,l,l++[(hn 10 0,.var 158 (la p++[.pt (hn 3 N.k) 0 0 0,aP eI 1 inp]))]⟩:=by
  have Vo:m1.in_<=(inp.length:Int):=by have:=hb.oF;omega
  refine⟨hR,rfl,h1,⟨hb.deep,hb.slots,hb.heap,hb.outs,hb.nQ,Vo⟩,by show 0<=m1.time;omega,by show m1.time<=100000;omega,hok,fun i r hr=>?_,?_,Ur⟩
  ·show aA (l++_) i=some r;have hr:aA l i=some r:=hr;rw[Xo,hr];rfl
  ·show aA (l++_) (hn 10 0)=_;rw[Xo,Ur,if_pos rfl];rfl
 refine⟨⟨m1,N,l,_⟩,hEI,Xn,hg,P',?_⟩;have VL:=Nx (Kz hp hF VB hi (k:=N.k) hE) (xA hp hF VB hi hE) hl _ hEI t ht (by show m1.time<=_;unfold dL;omega);have V2:=(sF (xA hp hF VB hi (k:=N.k) hE) (t:=dL t) (by unfold dL;omega) ((dL t-jS ⟨m1,N,l,l++[(hn 10 0,.var 158 (la p++[.pt (hn 3 N.k) 0 0 0,aP eI 1 inp]))]⟩).toNat+1) _ 0 false hEI (by show m1.time<=_;unfold dL;omega) (Nat.zero_le _)).1;generalize cZ jS (stE p inp N.k F) (seE p inp N.k) E (dL t) ((dL t-jS ⟨m1,N,l,l++[(hn 10 0,.var 158 (la p++[.pt (hn 3 N.k) 0 0 0,aP eI 1 inp]))]⟩).toNat+1) ⟨m1,N,l,l++[(hn 10 0,.var 158 (la p++[.pt (hn 3 N.k) 0 0 0,aP eI 1 inp]))]⟩ 0 false=G at*;simp only at VL ⊢;have ZS:cW prog 87 [.agg (cn p)] [] (.pt (hn 3 N.k) 0 0 0) l:=⟨hnw,⟨fun _ _ _=>rfl,List.nodup_nil,fun i r h=>by cases h⟩,hR.ok,fun i h=>(h rfl).elim,rfl⟩;have Ul:=hR.ok.low;have hbh:=V2.tf;have V':=V2.ok.low;have hpm:∀i,aA (tie l [(4,.var 30 (cn p)),(hn 10 0,.var 158 (la p++[.pt (hn 3 N.k) 0 0 0,aP eI 1 inp]))]) i=aA (tie (l++[(hn 10 0,.var 158 (la p++[.pt (hn 3 N.k) 0 0 0,aP eI 1 inp]))]) [(4,.var 30 (cn p))]) i:=fun i=>by
  rw[kg,kg,Xo];simp only[aA];have:=iA 10 0;cases aA l i
  ·(repeat' split)<;>first|rfl|omega
  ·rfl
 generalize hbad:l5 E (dL t) G=bad at*;have hbi:=V2.ok;generalize G.1.E=EE at*;generalize l++[(hn 10 0,.var 158 (la p++[.pt (hn 3 N.k) 0 0 0,aP eI 1 inp]))]=E0 at*;refine aM func61 ntmps61 ?_
 (have W:=jA Ul (jA Ur (jA hbh (V')));repeat' (first|refine av fun K hK=>?_|refine au ?_|(with_reducible refine gR 1 ?_);refine dC 1 ([],[],[14]) [] [0,1,3,2,4,5,6] mixed ?_|(refine hK _ _ ?_;clear hK K)|(refine ar ?_ ?_<;>intro hc<;>try exact jz)|refine aV 4 ?_|refine aV (hn 10 0) ?_|(refine nN (e:=[]) ZS (fun j _ h=>(h rfl).elim) ?_)|(refine Sc VL (tl:=[(4,.var 30 (cn p))]) hpm ?_;try refine S ?_)|(refine bY ?_ ?_<;>intro hc<;>try exact jz)|refine aq ?_|exact jI|(clear hK K)))
 exact eD (e:=[]) (B:=[]) rfl ⟨fun _ _ _=>rfl,List.nodup_nil,fun i r h=>by cases h⟩ hbi (tl:=[(4,.var 30 (cn p))]) (fun _=>rfl) (dp jC dK) [.tmp 8,.tmp 9]
end Go.Proofs.YtijdhbokcdpklaaGreatDoor
namespace Go.Proofs.YtijdhbokcdpklaaGreatDoor
open Go Go.Gd Tryz
end Go.Proofs.YtijdhbokcdpklaaGreatDoor
namespace Go.Proofs.YtijdhbokcdpklaaGreatDoor
open Go Go.Gd Tryz Go.Gd.MV
section
variable {p:af}{C:aI}{inp:UG}
def SJ(m:MV)(x:ay):(m.ins p C inp x).in_=m.in_\/(x.op=14/\m.in_<(inp.length:Int)/\(m.ins p C inp x).in_=m.in_+1):=by
 by_cases h:x.op=14
 ·rw[MV.gT _ _ _ _ _ h];split
  ·exact .inl rfl
  ·exact .inr ⟨h,jB,rfl⟩
 ·left
  rcases S6 (p:=p) (C:=C) (inp:=inp) m x with e|e
  ·exact e
  ·exfalso;have:(m.ins p C inp x).in_=m.in_:=by
    unfold MV.ins;simp only[h,↓reduceIte];repeat' (first|rfl|exact J4 _ _|exact IY _ _|refine Ge ?_ ?_)
   omega
def Dt(m:MV):(m.one p C inp).in_=m.in_\/((m.bg C).op=14/\m.in_<(inp.length:Int)/\(m.one p C inp).in_=m.in_+1):=SJ (p:=p) (C:=C) (inp:=inp) (m.aW (m.ah.jump (m.ah.at_+1))) (m.bg C)
variable{n:Nat}{m m':MV}
def Be(h:dY p C inp n m m'):m.in_<=m'.in_:=by
 induction h with|refl m=>exact Int.le_refl _|@step n m m' h0 h1 hok hg ih=> rcases Dt (p:=p) (C:=C) (inp:=inp) m with e|⟨_,_,e⟩<;>omega
def Jz(h:dY p C inp n m m'):m.in_<=inp.length->m'.in_<=inp.length:=by
 induction h with|refl m=>exact id|@step n m m' h0 h1 hok hg ih=> intro hi;rcases Dt (p:=p) (C:=C) (inp:=inp) m with e|⟨_,_,e⟩<;>exact ih jB
def MM(a:(m.bg C).op=14)(b:(inp.length:Int)<=m.in_):m.one p C inp=(m.aW (m.ah.jump (m.ah.at_+1))).stops 1 0:=by show(m.aW _).ins p C inp _=_;rw[MV.gT _ _ _ _ _ a];exact if_pos b
def C7(a:(m.bg C).op=14)(b:¬(inp.length:Int)<=m.in_):m.one p C inp={ (m.aW (m.ah.jump (m.ah.at_+1))).push (vI (nth inp m.in_.toNat))with in_:=m.in_+1 }:=by show(m.aW _).ins p C inp _=_;rw[MV.gT _ _ _ _ _ a];exact if_neg b
def SL{t:Int}(hg:dY p C inp n (m.stops 1 t) m'):m'=m.stops 1 t:=by cases hg with|refl=>rfl|step h0'=>have h0':(1:Int)=0:=h0';omega
def Mf(h:dY p C inp n m m'):0<=m.in_->m'.status≠1->∀{inp':UG},fu m'.in_ inp inp'->dY p C inp' n m m':=by
 induction h with|refl m=>intro _ _ _ _;exact .refl m|@step n m m' h0 h1 hok hg ih=>
  intro hi hs inp' ha;have Vo:0<=(m.one p C inp).in_:=by rcases Dt (p:=p) (C:=C) (inp:=inp) m with e|⟨_,_,e⟩<;>omega
  have e:m.one p C inp'=m.one p C inp:=by
   by_cases h:(m.bg C).op=14
   ·have O':¬(inp.length:Int)<=m.in_:=fun b=>by
     rw[MM h b]at hg;exact hs (by rw[SL hg];rfl)
    have h2:(m.one p C inp).in_=m.in_+1:=by rw[C7 h O']
    have h3:=Be hg;obtain⟨_,a2,a3⟩:=ha m.in_.toNat jB;rw[C7 h (show¬(inp'.length:Int)<=m.in_ from jB),C7 h O',a3]
   ·show(m.aW _).ins p C inp' _=(m.aW _).ins p C inp _;unfold MV.ins;simp only[h,↓reduceIte]
  exact .step h0 h1 hok (by rw[e];exact ih Vo hs ha)
variable{F:UG->MV->MV}
def CL(hF:bF p C F)(hi:∀x∈inp,bD x)(h:MI p C m):m.in_<=(F inp m).in_/\(m.in_<=inp.length->(F inp m).in_<=inp.length):=by
 by_cases e:m.halt
 ·rw[hF.still _ m e];exact⟨Int.le_refl _,id⟩
 ·obtain⟨m1,⟨n,g⟩,d,e1⟩:=hF.step inp hi m h e;rw[e1];exact⟨(Be g:m.eo.in_<=m1.in_),fun h=>(Jz g (h:m.eo.in_<=inp.length):m1.in_<=inp.length)⟩
def Dx(hF:bF p C F){inp':UG}(hi:∀x∈inp,bD x)(Vi:∀x∈inp',bD x)(h:MI p C m)(h0:0<=m.in_)(hw:(F inp m).status≠1)(ha:fu (F inp m).in_ inp inp'):F inp' m=F inp m:=by
 by_cases e:m.halt
 ·rw[hF.still _ m e,hF.still _ m e]
 ·obtain⟨m1,⟨n,g⟩,d,e1⟩:=hF.step inp hi m h e;obtain⟨m2,⟨k,g2⟩,d2,e2⟩:=hF.step inp' Vi m h e;rw[e1]at hw ha;have:=DR (Mf g h0 hw ha) g2 d.1 d2.1;rw[e1,e2,this]
end
structure IM(p:af)(inp:List Int)(m:MV):Prop where
 mi:MI p (bz p) m
 t0:0<=m.time
 i0:0<=m.in_
 i1:m.in_<=inp.length
def CH{p:af}{m m':MV}{nm:UI}{v:aj}(e:dv p (bz p) m nm v=some m'):¬(m.status=2\/m.status=3)/\m'.time=m.time/\m'.in_=m.in_/\m'.status=m.status/\∃k,m'=rF m k v:=by
 unfold dv at e;split at e
 ·cases e
 rename_i c;split at e
 ·cases e
 cases e;exact⟨fun e=>c (.inl e),rfl,rfl,rfl,_,rfl⟩
section
variable {p:af}{F:UG->MV->MV}(hF:bF p (bz p) F){inp:UG}(hi:∀x∈inp,bD x){E:List aB}(hE:∀k,k<E.length->bD (nth E k).v.n)
include hF hi
theorem pi{m:MV}(h:IM p inp m):IM p inp (F inp m)/\((F inp m).time=m.time\/((F inp m).time=m.time+1/\(F inp m).status≠1/\¬m.halt)):=by have e:=hF.time hi h.mi;obtain⟨a,b⟩:=CL hF hi h.mi;have:=h.t0;have:=h.i0;exact⟨⟨hF.mi hi h.mi,by rcases e with e|⟨e,_⟩<;>omega,jB,b h.i1⟩,e⟩
include hE
omit hF hi in
theorem KG{m m':MV}(h:IM p inp m){k:Nat}(hk:k<E.length)(e:dv p (bz p) m (nth E k).name (nth E k).v=some m'):IM p inp m':=by obtain⟨a,b,c,d,k',e⟩:=CH e;subst e;exact⟨E1 h.mi a _ (hE _ hk),h.t0,h.i0,h.i1⟩
theorem mW:lF MV.time (F inp) (dv p (bz p)) E (IM p inp):=
 ⟨fun s k s' h hk e=>⟨KG hE h hk e,(CH e).2.1⟩,fun s h _=>⟨(pi hF hi h).1,(pi hF hi h).2.imp id And.left⟩,fun s h=>h.t0⟩
omit hF hi hE
theorem Fj:∀(n:Nat) (s:MV) (k:Nat) (b:Bool),(cv MV.time (dv p (bz p)) E n s k b).1.in_=s.in_/\(cv MV.time (dv p (bz p)) E n s k b).1.status=s.status
 |0,s,k,b=>⟨rfl,rfl⟩|n+1,s,k,b=>by
  unfold cv;split
  ·split
   ·rename_i s' e;obtain⟨_,_,c,d,_⟩:=CH e;obtain⟨a1,a2⟩:=Fj n s' (k+1) false;exact⟨a1.trans c,a2.trans d⟩
   ·exact⟨rfl,rfl⟩
  ·exact⟨rfl,rfl⟩
include hF hi hE
theorem Bs{T:Int}(h1:T<=200):∀(n:Nat) (s:MV) (k:Nat) (b:Bool),IM p inp s->s.time<=T->s.in_<=(cZ MV.time (F inp) (dv p (bz p)) E T n s k b).1.in_
 |0,s,k,b,_,_=>Int.le_refl _|n+1,s,k,b,h,ht=>by
  obtain⟨a1,a2,_⟩:=na (mW hF hi hE) (E.length+1) s k b h;obtain⟨b1,b2⟩:=Fj (p:=p) (E:=E) (E.length+1) s k b;unfold cZ;generalize cv MV.time (dv p (bz p)) E (E.length+1) s k b=Q at*;split
  ·omega
  have hf:=(CL hF hi a1.mi).1;split
  ·show s.in_<=(F inp Q.1).in_;omega
  ·obtain⟨c1,c2⟩:=pi hF hi a1;have:=Bs h1 n _ Q.2.1 Q.2.2 c1 (by rcases c2 with e|⟨e,_⟩<;>omega);omega
theorem B7{T:Int}(h1:T<=200){inp':UG}(Vi:∀x∈inp',bD x):∀(n:Nat) (s:MV) (k:Nat) (b:Bool),IM p inp s->s.time<=T->((cZ MV.time (F inp) (dv p (bz p)) E T n s k b).1.time=T\/(cZ MV.time (F inp) (dv p (bz p)) E T n s k b).1.status≠1)->fu (cZ MV.time (F inp) (dv p (bz p)) E T n s k b).1.in_ inp inp'->cZ MV.time (F inp') (dv p (bz p)) E T n s k b=cZ MV.time (F inp) (dv p (bz p)) E T n s k b
 |0,s,k,b,_,_,_,_=>rfl|n+1,s,k,b,h,ht,h2,h3=>by
  obtain⟨a1,a2,_⟩:=na (mW hF hi hE) (E.length+1) s k b h;unfold cZ at h2 h3 ⊢;generalize cv MV.time (dv p (bz p)) E (E.length+1) s k b=Q at*;by_cases c:Q.1.time=T
  ·rw[if_pos c,if_pos c]
  rw[if_neg c]at h2 h3 ⊢;rw[if_neg c];obtain⟨c1,c2⟩:=pi hF hi a1;by_cases d:(F inp Q.1).time=Q.1.time
  ·rw[if_pos d]at h2 h3;have h2:(F inp Q.1).time=T\/(F inp Q.1).status≠1:=h2;have h3:fu (F inp Q.1).in_ inp inp':=h3;have e:F inp' Q.1=F inp Q.1:=Dx hF hi Vi a1.mi a1.i0 (h2.elim (fun e=>(c jB).elim) id) h3;rw[e,if_pos d,if_pos d]
  ·rw[if_neg d]at h2 h3;have h4:(F inp Q.1).time=Q.1.time+1/\(F inp Q.1).status≠1:=c2.elim (fun e=>(d e).elim) fun e=>⟨e.1,e.2.1⟩
   have Vo:=Bs hF hi hE h1 n _ Q.2.1 Q.2.2 c1 jB;have e:F inp' Q.1=F inp Q.1:=Dx hF hi Vi a1.mi a1.i0 h4.2 (h3.le Vo);rw[e,if_neg d,if_neg d];exact B7 h1 Vi n _ Q.2.1 Q.2.2 c1 jB h2 h3
end
end Go.Proofs.YtijdhbokcdpklaaGreatDoor
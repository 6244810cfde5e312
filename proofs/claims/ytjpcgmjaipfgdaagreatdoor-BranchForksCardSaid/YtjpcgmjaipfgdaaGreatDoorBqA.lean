/- Lemmas. No conditions. -/
import Derived.Test.YtjpcgmjaipfgdaaGreatDoorTmC
set_option linter.all false
set_option maxHeartbeats 4000000
set_option maxRecDepth 10000
namespace Go.Gd
open Go
def lu(p:ab):UU:=[aM eT 5 p.aa.nodes,aM gg 5 p.aa.ao,aM eI 1 p.types,aM eI 1 p.slots,aM eI 1 p.fn,aM eI 1 p.size]
attribute [go_sem] lu
def Sn(p:ab):aY eJ (lu p)=true:=rfl
def Ld(p:ab):cY p=lu p:=rfl
section
variable {σ:Type}{tm:σ->Int}{st:σ->σ}{se:σ->U0->aj->Option σ}{E:List aw}{I:σ->Prop}{t:Int}
variable{n k:Nat}{s:σ}
def vP{b:Bool}(h:b=true\/E.length<=k):cL tm se E n s k b=(s,k,b):=by
 cases n with
 |zero=>rfl
 |succ n=>
  unfold cL;rw[if_neg];rintro⟨a,c,_⟩;rcases h with h|h
  ·rw[a]at h;cases h
  ·omega
def S2{b:Bool}(h:k<E.length->(nth E k).at_≠tm s):cL tm se E n s k b=(s,k,b):=by
 cases n with
 |zero=>rfl
 |succ n=> unfold cL;rw[if_neg];rintro⟨a,c,d⟩;exact h c d
def SO(h:k<E.length)(ha:(nth E k).at_=tm s)(e:se s (nth E k).name (nth E k).v=none):cL tm se E (n+1) s k false=(s,k,true):=by unfold cL;rw[if_pos ⟨rfl,h,ha⟩,e]
def SC{s':σ}(h:k<E.length)(ha:(nth E k).at_=tm s)(e:se s (nth E k).name (nth E k).v=some s'):cL tm se E (n+1) s k false=cL tm se E n s' (k+1) false:=by
 conv=>lhs;unfold cL
 rw[if_pos ⟨rfl,h,ha⟩,e]
theorem JB:∀(n m:Nat) (s:σ) (k:Nat) (b:Bool),E.length<n+k->E.length<m+k->cL tm se E n s k b=cL tm se E m s k b
 |0,m,s,k,b,h1,_=>by rw[vP (n:=0) (.inr (by omega)),vP (.inr (by omega))]
 |n,0,s,k,b,_,h2=>by rw[vP (n:=0) (.inr jB),vP (.inr jB)]
 |n+1,m+1,s,k,b,h1,h2=>by
  unfold cL;split
  ·split
   ·exact JB n m _ (k+1) false jB jB
   ·rfl
  ·rfl
theorem G4{K:Nat}(hk:lS tm st se E I)(hK:∀k,K<=k->k<E.length->t<(nth E k).at_):∀(n:Nat) (s:σ) (k:Nat) (b:Bool),I s->tm s<=t->k<=K->(cL tm se E n s k b).2.1<=K
 |0,s,k,b,hs,h1,h2=>h2
 |n+1,s,k,b,hs,h1,h2=>by
  unfold cL;split
  ·rename_i hc;have D':k<K:=by
    apply Classical.byContradiction;intro h;have:=hK k jB hc.2.1;have:=hc.2.2;omega
   split
   ·rename_i s' e;obtain⟨a1,a2⟩:=hk.se s k s' hs hc.2.1 e;exact G4 hk hK n s' (k+1) false a1 jB jB
   ·exact h2
  ·exact h2
theorem HX{K:Nat}(hk:lS tm st se E I)(ht:t<=200)(hK:∀k,K<=k->k<E.length->t<(nth E k).at_):∀(n:Nat) (s:σ) (k:Nat) (b:Bool),I s->tm s<=t->k<=K->(eN tm st se E t n s k b).2.1<=K
 |0,s,k,b,hs,h1,h2=>h2
 |n+1,s,k,b,hs,h1,h2=>by
  have h3:=G4 hk hK (E.length+1) s k b hs h1 h2;obtain⟨a1,a2,_⟩:=qU hk (E.length+1) s k b hs;unfold eN;split
  ·exact h3
  rename_i Wg;obtain⟨c1,c2⟩:=hk.st _ a1 jB;split
  ·exact h3
  ·exact HX hk ht hK n _ _ _ c1 jB h3
end
def Lj{P:U6}{f:FuncId}{args:UU}{B:UZ}{L e l tl:UT}{K:UR}{r0:AV}(hd:de P f args e r0 l)(hp:∀i,aC L i=aC (tie e tl) i)(k:K r0 ⟨B,tie l tl⟩)(hl:oe 0 tl:=by(repeat' first|exact dO|(refine dB (by decide) ?_)|fail))(h0:aX P f=true:=by exact dv):fi P (.raw (.func (.func f) #[] #[])) args ⟨B,L⟩ K:=by
 refine nw h0 (MM hp (BF (E:=fun tl=>e++tl) (E':=fun tl=>l++tl) ?_ (hd.e1.bA hl) (hd.e2.bA hl) ?_ ?_ ?_ k ?_))
 ·simp only[List.append_nil];exact hd.c
 ·simp only[List.append_nil];exact hd.e2.nodup
 ·simp only[List.append_nil];exact hd.a
 ·simp only[List.append_nil];exact hd.e1.closed
 ·simp only[List.append_nil];exact hd.aW
def fJ(n:Int)(a b:UY):Prop:=∀j:Nat,(j:Int)<n->j<a.length/\j<b.length/\nth a j=nth b j
variable{n:Int}{a:UY}
def fJ.le{m:Int}{b:UY}(h:fJ n a b)(e:m<=n):fJ m a b:=fun j hj=>h j jB
def IV{y:UY}(h:n<=a.length):fJ n a (a++y):=fun j hj=>⟨jB,by rw[List.length_append];omega,by unfold nth;rw[List.getD_eq_getElem?_getD,List.getD_eq_getElem?_getD,List.getElem?_append_left jB]⟩
def Od{y:UY}(h:n<=a.length):fJ n a (a.take n.toNat++y):=fun j hj=>by
 have hl:(a.take n.toNat).length=n.toNat:=by rw[List.length_take];omega
 refine⟨jB,by rw[List.length_append];omega,?_⟩;rw[<-Du (l:=a) (n:=n.toNat) (k:=j) jB];unfold nth;rw[List.getD_eq_getElem?_getD,List.getD_eq_getElem?_getD,List.getElem?_append_left jB]
end Go.Gd
namespace Go.Proofs.YtjpcgmjaipfgdaaGreatDoor
open Go Go.Gd Tryz
end Go.Proofs.YtjpcgmjaipfgdaaGreatDoor
namespace Go.Proofs.YtjpcgmjaipfgdaaGreatDoor
open Go Go.Gd Tryz Go.Gd.MV
section
variable {p:ab}{inp:UY}{k:Nat}{e:UT}(hE:fQ 0 e)(hg:aC e (hn 10 0)=some (.var 283 (lu p++[.pt (hn 3 k) 0 0 0,aM eI 1 inp])))
include hE hg
theorem Qj{Sh:iq}(WH:de prog 63 [.pt (hn 3 k) 0 0 0] e (.agg (jS Sh)) e):de prog 311 [.pt (hn 10 0) 0 0 0] e (rI Sh.time) e:=by
 have U9:=hE.low;refine⟨?_,hE,hE,fun _ h=>h,by simp only[aY,AV.all,gl hg,Bool.and_self]⟩;refine aQ (L:=ids e) func311 ntmps311 ?_ (hL:=rfl);generalize hB:ids e=B;refine fg ?_
 (have W:=jA U9 hg;repeat' (first|refine ar fun K hK=>?_|refine av ?_|(refine hK _ _ ?_;clear hK K)|(refine au ?_ ?_<;>intro hc<;>try exact jz)|refine cT WH ?_|(refine gh ?_ ?_<;>intro hc<;>try exact jz)|refine aq ?_|exact jI|(clear hK K)))
 exact eO hB hE hE (tl:=[]) (fun _=>rfl) dO [.tmp 2]
variable{e':UT}
theorem Nx(P':de prog 117 [.pt (hn 3 k) 0 0 0,aM eI 1 inp] e (.ba []) e'):de prog 310 [.pt (hn 10 0) 0 0 0] e (.ba []) e':=by
 have U9:=hE.low;refine⟨?_,hE,P'.e2,P'.aW,by simp only[aY,AV.all,gl hg,Bool.and_self]⟩;refine aQ (L:=ids e) func310 ntmps310 ?_ (hL:=rfl);generalize hB:ids e=B;refine fg ?_
 (have W:=jA U9 hg;repeat' (first|refine ar fun K hK=>?_|refine av ?_|(with_reducible refine gR 0 ?_);refine dE 0 (bf 0 9) mixed ?_|(refine hK _ _ ?_;clear hK K)|(refine au ?_ ?_<;>intro hc<;>try exact jz)|refine cT P' ?_|(refine gh ?_ ?_<;>intro hc<;>try exact jz)|refine aq ?_|exact jI|(clear hK K)))
 exact eO hB hE P'.e2 (tl:=[]) (fun _=>rfl) dO []
theorem JI{b:Bool}{nm:U0}{v:aj}(P':de prog 116 [.agg (cY p),.pt (hn 3 k) 0 0 0,rS nm,.agg (bY v)] e (rB b) e'):de prog 309 [.pt (hn 10 0) 0 0 0,rS nm,.agg (bY v)] e (rB b) e':=by
 have U9:=hE.low;rw[Ld]at P';simp only[lu]at P';refine⟨?_,hE,P'.e2,P'.aW,by simp only[aY,AV.all,gl hg,Bool.and_self,Bool.and_true,bY]⟩;refine aQ (L:=ids e) func309 ntmps309 ?_ (hL:=rfl);generalize hB:ids e=B;refine fg ?_
 (have W:=jA U9 hg;repeat' (first|refine ar fun K hK=>?_|refine av ?_|(with_reducible refine gR 1 ?_);refine dE 1 (bf 0 12) mixed ?_|(refine hK _ _ ?_;clear hK K)|(refine au ?_ ?_<;>intro hc<;>try exact jz)|refine bv 4 ?_|refine cT P' ?_|(refine gh ?_ ?_<;>intro hc<;>try exact jz)|refine aq ?_|exact jI|(clear hK K)))
 exact eO hB hE P'.e2 (tl:=[(4,.var 54 (bY v))]) (fun _=>rfl) (dB jC dO) [.tmp 6]
end
end Go.Proofs.YtjpcgmjaipfgdaaGreatDoor
namespace Go.Proofs.YtjpcgmjaipfgdaaGreatDoor
open Go Go.Gd Tryz
attribute [go_sem] Bool.false_and Bool.true_and
structure rl{σ:Type}(tm:σ->Int)(sp:σ->σ)(se:σ->ByteArray->aj->Option σ)(E:List aw)(I:σ->Prop)(g:σ->List (Nat×Row))(T:TypeId)(v:AV)(ft fs fe:FuncId):Prop where
 mt : o0 prog T "furcate/trace.time" = some ft
 ms : o0 prog T "furcate/trace.step" = some fs
 me : o0 prog T "furcate/trace.set" = some fe
 ct:aX prog ft=true
 cs:aX prog fs=true
 ce:aX prog fe=true
 time:∀s,I s->de prog ft [v] (g s) (rI (tm s)) (g s)
 step:∀s,I s->tm s<200->de prog fs [v] (g s) (.ba []) (g (sp s))
 set:∀s k,I s->k<E.length->de prog fe [v,rS (nth E k).name,.agg (bY (nth E k).v)] (g s) (rB (se s (nth E k).name (nth E k).v).isSome) (g ((se s (nth E k).name (nth E k).v).getD s))
structure Ek(σ:Type) where
 s:σ
 k:Nat
 b:Bool
section
variable {σ:Type}{tm:σ->Int}{sp:σ->σ}{se:σ->U0->aj->Option σ}{E:List aw}{I:σ->Prop}{g:σ->UT}{T:U1}{v:AV}{ft fs fe:FuncId}
def rl.kept(h:rl tm sp se E I g T v ft fs fe)(ok:lS tm sp se E I)(s0:σ):lS tm sp se E fun s=>I s/\∀i,aC (g s0) i≠none->aC (g s) i≠none:=by
 refine⟨fun s k s' hs hk e=>?_,fun s hs ht=>?_,fun s hs=>ok.tm s hs.1⟩
 ·obtain⟨a,b⟩:=ok.se s k s' hs.1 hk e;have hd:=(h.set s k hs.1 hk).aW;rw[e]at hd;exact⟨⟨a,fun i hi=>hd i (hs.2 i hi)⟩,b⟩
 ·obtain⟨a,b⟩:=ok.st s hs.1 ht;exact⟨⟨a,fun i hi=>(h.step s hs.1 ht).aW i (hs.2 i hi)⟩,b⟩
def PG(h:rl tm sp se E I g T v ft fs fe)(ok:lS tm sp se E I)(hl:E.length<=1000)(s0:σ)(hi:I s0)(t0:Int)(ht0:bz t0)(h0:tm s0<=eQ t0) :
  de prog 177 [.iZ T v,aM bj 5 E,rI t0] (g s0) (rI (nt E (eQ t0) (eN tm sp se E (eQ t0) ((eQ t0-tm s0).toNat+1) s0 0 false))) (g (eN tm sp se E (eQ t0) ((eQ t0-tm s0).toNat+1) s0 0 false).1):=by
 have hc:eQ t0=min (max t0 0) 200:=rfl;have ht2:eQ t0<=200:=jB;have YG:0<=eQ t0:=jB;obtain⟨⟨k1,k2⟩,k3,k4,k5⟩:=xN (h.kept ok s0) ht2 ((eQ t0-tm s0).toNat+1) s0 0 false ⟨hi,fun i h=>h⟩ h0 (Nat.zero_le _);refine⟨?_,(h.time s0 hi).e1,(h.time _ k1).e1,k2,by have:=(h.time s0 hi).a;simp only[aY,AV.all,Bool.and_true]at this ⊢;rw[this]⟩;generalize hF:eN tm sp se E (eQ t0) ((eQ t0-tm s0).toNat+1) s0 0 false=F at*;have Vf:(if 200<(if 0>t0 then 0 else t0)then 200 else(if 0>t0 then 0 else t0))=eQ t0:=by unfold eQ;(repeat' split)<;>omega
 clear hc;generalize eQ t0=t at*;have hmt:=h.mt;have hms:=h.ms;have hme:=h.me;obtain⟨e,he⟩:∃e,g s0=e:=⟨_,rfl⟩;rw[he];refine aQ (L:=ids e) func177 ntmps177 ?_ (hL:=rfl);generalize hB:ids e=B;refine fg ?_;subst he
 (have W:=Vf;repeat' (first|refine ar fun K hK=>?_|refine av ?_|(with_reducible refine gR 3 ?_);refine dE 3 (bf 0 18) mixed ?_|(with_reducible refine gR 4 ?_);refine dE 4 (bf 0 17) mixed ?_|(refine hK _ _ ?_;clear hK K)|(refine au ?_ ?_<;>intro hc<;>try exact jz)|(refine gh ?_ ?_<;>intro hc<;>try exact jz)|refine aq ?_|exact jI|(clear hK K)))
 have Vc:=hK;clear hK;refine dJ (S:=Ek σ) [(7,3),(13,49)] (fun x=>I x.s/\tm x.s<=t/\x.k<=E.length/\eN tm sp se E t ((t-tm x.s).toNat+1) x.s x.k x.b=F) (fun x=>[(7,rI x.k),(8,rB x.b)]) (fun x=>⟨B,tie (g x.s) []⟩) (fun x=>(t-tm x.s).toNat) ⟨s0,0,false⟩ ⟨hi,h0,Nat.zero_le _,hF⟩ (dK rfl bU) ?_;rintro⟨s,k,b⟩ ⟨hs,ht,We,hg⟩ Kr Vb;simp only at hs ht We hg;have ha5:=(h.time s hs).e1.low;obtain⟨⟨u1,u2⟩,u3,u4⟩:=qU (h.kept ok s) (E.length+1) s k b ⟨hs,fun i h=>h⟩;obtain⟨Q,hQ⟩:∃Q,cL tm se E (E.length+1) s k b=Q:=⟨_,rfl⟩;refine S ?_
 (repeat' (first|refine ar fun K hK=>?_|refine av ?_|(with_reducible refine gR 3 ?_);refine dE 3 (bf 0 18) mixed ?_|(with_reducible refine gR 4 ?_);refine dE 4 (bf 0 17) mixed ?_|(refine hK _ _ ?_;clear hK K)|(refine au ?_ ?_<;>intro hc<;>try exact jz)|(refine gh ?_ ?_<;>intro hc<;>try exact jz)|refine aq ?_|exact jI|(clear hK K)))
 have X9:=hK;clear hK;refine dJ (S:=Ek σ) [(7,2),(13,38)] (fun y=>I y.s/\tm y.s=tm s/\y.k<=E.length/\cL tm se E (E.length+1-y.k) y.s y.k y.b=Q) (fun y=>[(7,rI y.k),(8,rB y.b)]) (fun y=>⟨B,tie (g y.s) []⟩) (fun y=>2*(E.length-y.k)+(if y.b=true then 0 else 1)) ⟨s,k,b⟩ ⟨hs,rfl,We,?_⟩ (dK rfl bU) ?_
 ·exact(JB (E.length+1-k) (E.length+1) s k b jB jB).trans hQ
 rintro⟨s1,k1',b1⟩ ⟨YU,haC,haD,X6⟩ Kr2 YB;simp only at YU haC haD X6;have Yk:=h.time s1 YU;have Vz:=Yk.e1.low;have WK:=h.ct;by_cases haE:b1=false/\k1'<E.length/\(nth E k1').at_=tm s1
 ·obtain⟨cb,ck,ca⟩:=haE;have Va:=h.set s1 k1' YU ck;have hce:=h.ce;have ck2:(k1':Int)<(E.length:Int):=jB;subst cb;rw[show E.length+1-k1'=(E.length-k1')+1 from jB]at X6;cases e:se s1 (nth E k1').name (nth E k1').v with
  |none=>
   rw[SO ck ca e]at X6;rw[e]at Va;refine S ?_
   (have W:=jA hmt (jA hme (jA Vz (jA ck2 (ca))));repeat' (first|refine ar fun K hK=>?_|refine av ?_|(with_reducible refine gR 3 ?_);refine dE 3 (bf 0 18) mixed ?_|(with_reducible refine gR 4 ?_);refine dE 4 (bf 0 17) mixed ?_|(refine hK _ _ ?_;clear hK K)|(refine au ?_ ?_<;>intro hc<;>try exact jz)|(refine nh Yk ?_ (h0:=WK))|(refine cT Va ?_ (h0:=hce))|(refine gh ?_ ?_<;>intro hc<;>try exact jz)|refine aq ?_|exact jI|(clear hK K)))
   exact YB _ _ (dT ⟨s1,k1',true⟩ ⟨YU,haC,haD,(vP (.inl rfl)).trans X6⟩ (by show 2*(E.length-k1')+0<2*(E.length-k1')+1;omega) rfl bU)
  |some s2=>
   rw[SC ck ca e]at X6;rw[e]at Va;obtain⟨n1,n2⟩:=ok.se s1 k1' s2 YU ck e;refine S ?_
   (have W:=jA hmt (jA hme (jA Vz (jA ck2 (ca))));repeat' (first|refine ar fun K hK=>?_|refine av ?_|(with_reducible refine gR 3 ?_);refine dE 3 (bf 0 18) mixed ?_|(with_reducible refine gR 4 ?_);refine dE 4 (bf 0 17) mixed ?_|(refine hK _ _ ?_;clear hK K)|(refine au ?_ ?_<;>intro hc<;>try exact jz)|(refine nh Yk ?_ (h0:=WK))|(refine cT Va ?_ (h0:=hce))|(refine gh ?_ ?_<;>intro hc<;>try exact jz)|refine aq ?_|exact jI|(clear hK K)))
   exact YB _ _ (dT ⟨s2,k1'+1,false⟩ ⟨n1,n2.trans haC,by show k1'+1<=E.length;omega,by show cL tm se E (E.length+1-(k1'+1)) s2 (k1'+1) false=Q;rw[show E.length+1-(k1'+1)=E.length-k1' from jB];exact X6⟩ (by show 2*(E.length-(k1'+1))+1<2*(E.length-k1')+1;omega) rfl bU)
 ·have hQ1:Q=(s1,k1',b1):=by
   rw[<-X6];by_cases a:b1=true\/E.length<=k1'
   ·exact vP a
   ·refine S2 fun hl e=>haE ⟨?_,hl,e⟩
    cases b1
    ·rfl
    ·exact(a (.inl rfl)).elim
  have h3:(b1=true/\True/\True)\/(b1=false/\(k1':Int)<(E.length:Int)/\¬(nth E k1').at_=tm s1)\/(b1=false/\¬(k1':Int)<(E.length:Int)/\True):=by
   cases b1
   ·right
    by_cases ck:k1'<E.length
    ·exact .inl ⟨rfl,jB,fun e=>haE ⟨rfl,ck,e⟩⟩
    ·exact .inr ⟨rfl,jB,trivial⟩
   ·exact .inl ⟨rfl,trivial,trivial⟩
  have hd3:(¬(k1':Int)<(E.length:Int)/\True/\∀z:σ,nt E t (z,k1',b1)=0)\/((k1':Int)<(E.length:Int)/\(nth E k1').at_<=t/\∀z:σ,nt E t (z,k1',b1)=(k1':Int)+1)\/((k1':Int)<(E.length:Int)/\¬(nth E k1').at_<=t/\∀z:σ,nt E t (z,k1',b1)=0):=by
   by_cases ck:k1'<E.length
   ·by_cases d:(nth E k1').at_<=t
    ·exact .inr (.inl ⟨jB,d,fun z=>by unfold nt;rw[if_pos ⟨ck,d⟩]⟩)
    ·exact .inr (.inr ⟨jB,d,fun z=>by unfold nt;rw[if_neg (fun h=>d h.2)]⟩)
   ·exact .inl ⟨jB,trivial,fun z=>by unfold nt;rw[if_neg (fun h=>ck h.1)]⟩
  rw[hQ1]at hQ;have VN:eN tm sp se E t ((t-tm s).toNat+1) s k b=if tm s1=t then(s1,k1',b1)else if tm (sp s1)=tm s1 then(sp s1,k1',b1)else eN tm sp se E t (t-tm s).toNat (sp s1) k1' b1:=by
   conv=>lhs;unfold eN
   rw[hQ]
  rw[hg]at VN;by_cases a:tm s1=t
  ·rw[if_pos a]at VN;subst VN;rcases h3 with⟨cb,q1,q2⟩|⟨cb,q1,q2⟩|⟨cb,q1,q2⟩<;>subst cb<;>rcases hd3 with⟨d1,d2,d3⟩|⟨d1,d2,d3⟩|⟨d1,d2,d3⟩
   all_goals try omega
   all_goals
    refine S ?_
    (have W:=jA hmt (jA Vz (jA q1 (jA q2 (jA a (jA d1 (d2))))));repeat' (first|refine ar fun K hK=>?_|refine av ?_|(with_reducible refine gR 3 ?_);refine dE 3 (bf 0 18) mixed ?_|(with_reducible refine gR 4 ?_);refine dE 4 (bf 0 17) mixed ?_|(refine hK _ _ ?_;clear hK K)|(refine au ?_ ?_<;>intro hc<;>try exact jz)|(refine nh Yk ?_ (h0:=WK))|(refine⟨rI 0,?_⟩;refine S ?_)|(refine⟨rI 0,fun h=>absurd h Bool.false_ne_true,?_⟩;refine S ?_)|(refine cT Yk ?_ (h0:=WK))|refine X9 _ _ ?_|refine Vc _ _ ?_|(refine gh ?_ ?_<;>intro hc<;>try exact jz)|refine aq ?_|exact jI|(clear hK K)))
    rw[d3];exact eO hB (h.time s0 hi).e1 Yk.e1 (tl:=[]) (fun _=>rfl) dO [.tmp 6]
  ·rw[if_neg a]at VN;have D':tm s1<200:=jB;have P':=h.step s1 YU D';obtain⟨w1,w2⟩:=ok.st s1 YU D';have ZU:=h.time (sp s1) w1;have V6:=ZU.e1.low;have V3:=h.cs;by_cases c:tm (sp s1)=tm s1
   ·rw[if_pos c]at VN;subst VN;rcases h3 with⟨cb,q1,q2⟩|⟨cb,q1,q2⟩|⟨cb,q1,q2⟩<;>subst cb<;>rcases hd3 with⟨d1,d2,d3⟩|⟨d1,d2,d3⟩|⟨d1,d2,d3⟩
    all_goals try omega
    all_goals
     refine S ?_
     (have W:=jA hmt (jA hms (jA Vz (jA V6 (jA q1 (jA q2 (jA a (jA c (jA d1 (d2)))))))));repeat' (first|refine ar fun K hK=>?_|refine av ?_|(with_reducible refine gR 3 ?_);refine dE 3 (bf 0 18) mixed ?_|(with_reducible refine gR 4 ?_);refine dE 4 (bf 0 17) mixed ?_|(refine hK _ _ ?_;clear hK K)|(refine au ?_ ?_<;>intro hc<;>try exact jz)|(refine nh Yk ?_ (h0:=WK))|(refine⟨rI 0,?_⟩;refine S ?_)|(refine⟨rI 0,fun h=>absurd h Bool.false_ne_true,?_⟩;refine S ?_)|(refine cT Yk ?_ (h0:=WK))|(refine cT P' ?_ (h0:=V3))|(refine cT ZU ?_ (h0:=WK))|refine X9 _ _ ?_|refine Vc _ _ ?_|(refine gh ?_ ?_<;>intro hc<;>try exact jz)|refine aq ?_|exact jI|(clear hK K)))
     rw[d3];exact eO hB (h.time s0 hi).e1 ZU.e1 (tl:=[]) (fun _=>rfl) dO [.tmp 6]
   ·rw[if_neg c]at VN;rcases h3 with⟨cb,q1,q2⟩|⟨cb,q1,q2⟩|⟨cb,q1,q2⟩<;>subst cb
    all_goals
     refine S ?_
     (have W:=jA hmt (jA hms (jA Vz (jA V6 (jA q1 (jA q2 (jA a (c)))))));repeat' (first|refine ar fun K hK=>?_|refine av ?_|(with_reducible refine gR 3 ?_);refine dE 3 (bf 0 18) mixed ?_|(with_reducible refine gR 4 ?_);refine dE 4 (bf 0 17) mixed ?_|(refine hK _ _ ?_;clear hK K)|(refine au ?_ ?_<;>intro hc<;>try exact jz)|(refine nh Yk ?_ (h0:=WK))|(refine⟨rI 0,?_⟩;refine S ?_)|(refine⟨rI 0,fun h=>absurd h Bool.false_ne_true,?_⟩;refine S ?_)|(refine cT Yk ?_ (h0:=WK))|(refine cT P' ?_ (h0:=V3))|(refine cT ZU ?_ (h0:=WK))|refine X9 _ _ ?_|(refine gh ?_ ?_<;>intro hc<;>try exact jz)|refine aq ?_|exact jI|(clear hK K)))
     have WB:=VN.symm;rw[show(t-tm s).toNat=(t-tm (sp s1)).toNat+1 from jB]at WB;exact Vb _ _ (dT ⟨sp s1,k1',_⟩ ⟨w1,by show tm (sp s1)<=t;omega,haD,WB⟩ (by show(t-tm (sp s1)).toNat<(t-tm s).toNat;omega) rfl bU)
end
end Go.Proofs.YtjpcgmjaipfgdaaGreatDoor
namespace Go.Proofs.YtjpcgmjaipfgdaaGreatDoor
open Go Go.Gd Tryz Go.Gd.MV
structure ES where
 m:MV
 N:NM
 e:List (Nat×Row)
 E:List (Nat×Row)
structure EI(p:ab)(inp:List Int)(k:Nat)(x:ES):Prop where
 R:bO p (bQ p) x.m x.N x.e
 key:x.N.k=k
 mi:MI p (bQ p) x.m
 bd:Bd inp.length x.m
 t0:0<=x.m.time
 t1:x.m.time<=100000
 ok:fQ 0 x.E
 sub:∀i r,aC x.e i=some r->aC x.E i=some r
 tO:aC x.E (hn 10 0)=some (.var 283 (lu p++[.pt (hn 3 k) 0 0 0,aM eI 1 inp]))
 no:aC x.e (hn 10 0)=none
def Bz(p:ab)(inp:UY)(k:Nat)(F:UY->MV->MV)(x x':ES):Prop:=x'.m=F inp x.m/\EI p inp k x'/\de prog 117 [.pt (hn 3 k) 0 0 0,aM eI 1 inp] x.E (.ba []) x'.E
def DC(p:ab)(inp:UY)(k:Nat)(m':MV)(nm:U0)(v:aj)(x x':ES):Prop:=x'.m=m'/\EI p inp k x'/\de prog 116 [.agg (cY p),.pt (hn 3 k) 0 0 0,rS nm,.agg (bY v)] x.E (rB true) x'.E
section
variable {p:ab}(hs:fO p)(VD:∀k,k<p.aa.nodes.length->0<=nth p.fn k/\nth p.fn k<p.aa.ao.length){F:UY->MV->MV}(hF:cU p (bQ p) F){inp:UY}(V8:inp.length<=1000)(hi:∀x∈inp,bz x){k:Nat}{x:ES}
include hs hF V8 hi
theorem Pu(h:EI p inp k x)(ht:x.m.time<200):∃x',Bz p inp k F x x':=by
 have ht0:=h.t0;obtain⟨N',l',⟨hR',Vv,VJ⟩,hU,P'⟩:=OK hs hF V8 hi h.R h.mi h.bd ⟨ht0,h.t1⟩ (ids x.E);have Ys:∀i,aC l' i≠none->aC x.e i≠none\/aC x.E i=none:=fun i hi=>by
  rcases hU.new i hi with h1|h1
  ·exact .inl h1
  ·right
   cases hx:aC x.E i with
   |none=>rfl
   |some r=>exact(h1 ((lT _ _).2 (by rw[hx];simp))).elim
 have hd:=de.more P' h.ok h.sub Ys;have Vj:aC l' (hn 10 0)=none:=by
  cases hx:aC l' (hn 10 0)with
  |none=>rfl
  |some r=>
   rcases Ys (hn 10 0) (by rw[hx];simp)with h1|h1
   ·exact(h1 h.no).elim
   ·rw[h.tO]at h1;cases h1
 have hp:=h.key;have eP:mP x.N=.pt (hn 3 k) 0 0 0:=by unfold mP;rw[hp]
 rw[eP]at hd;have XR:=hF.time hi h.mi;refine⟨⟨F inp x.m,N',l',gI x.E l'⟩,rfl,⟨hR',Vv.trans hp,hF.mi hi h.mi,VJ,?_,?_,hd.e2,fun i r hr=>?_,?_,Vj⟩,hd⟩
 ·show 0<=(F inp x.m).time;rcases XR with e|e<;>omega
 ·show(F inp x.m).time<=100000;rcases XR with e|e<;>omega
 ·show aC (gI x.E l') i=some r;have hr:aC l' i=some r:=hr;rw[wJ hR'.ok.nodup,hr];rfl
 ·show aC (gI x.E l') (hn 10 0)=_;rw[wJ hR'.ok.nodup,Vj];exact h.tO
omit hF V8 hi
include VD
theorem S9(h:EI p inp k x)(nm:U0)(v:aj)(e:fj p (bQ p) x.m nm v=none):de prog 116 [.agg (cY p),.pt (hn 3 k) 0 0 0,rS nm,.agg (bY v)] x.E (rB false) x.E:=by
 have hp:=h.key;have eP:mP x.N=.pt (hn 3 k) 0 0 0:=by unfold mP;rw[hp]
 have hC:=rq hs;have hRE:=h.R.vg h.ok h.sub;have hk:=zZ h.mi h.bd (by have:=hC.len;have:=hC.pK;have:=hs.ok.aa.ao;have:=hs.ok.size;omega);unfold fj at e;split at e
 ·rename_i c;have:=PO hRE hk nm v c;rw[eP]at this;exact this
 rename_i c;split at e
 ·rename_i d;have hm:lc v=true:=by
   cases hh:lc v
   ·exact(c (.inr (.inl hh))).elim
   ·rfl
  have:=KW hRE hk nm v hs VD h.mi (fun e=>c (.inl e)) hm (fun e=>c (.inr (.inr e))) d;rw[eP]at this;exact this
 ·cases e
theorem Ra(h:EI p inp k x)(nm:U0)(v:aj)(hv:bz v.n){m':MV}(e:fj p (bQ p) x.m nm v=some m'):m'.time=x.m.time/\∃x',DC p inp k m' nm v x x':=by
 have hp:=h.key;have eP:mP x.N=.pt (hn 3 k) 0 0 0:=by unfold mP;rw[hp]
 have hC:=rq hs;have hRE:=h.R.vg h.ok h.sub;have hk:=zZ h.mi h.bd (by have:=hC.len;have:=hC.pK;have:=hs.ok.aa.ao;have:=hs.ok.size;omega);unfold fj at e;split at e
 ·cases e
 rename_i c;split at e
 ·cases e
 rename_i d;cases e;have hm:lc v=true:=by
  cases hh:lc v
  ·exact(c (.inr (.inl hh))).elim
  ·rfl
 obtain⟨d1,d2⟩:=Hb hRE hk nm v hs VD h.mi (fun e=>c (.inl e)) hm (fun e=>c (.inr (.inr e))) d;obtain⟨_,d4⟩:=Hb h.R hk nm v hs VD h.mi (fun e=>c (.inl e)) hm (fun e=>c (.inr (.inr e))) d;rw[eP]at d1;have Wg:hn 10 0≠hn 1 x.N.ah.c:=dt jC jC jC;have Y7:=IB h.mi (fun e=>c (.inl e)) (nth (fL p (gx (bQ p) x.m)) (iD nm v.ty (fL p (gx (bQ p) x.m)) 0).toNat).slot.toNat hv;generalize (nth (fL p (gx (bQ p) x.m)) (iD nm v.ty (fL p (gx (bQ p) x.m)) 0).toNat).slot.toNat=kk at*;obtain⟨h1,_⟩:=h.mi.ah fun e=>c (.inl (.inl e))
 refine⟨rfl,⟨⟨rz x.m kk v,x.N,_,_⟩,rfl,⟨d4,hp,Y7,?_,h.t0,h.t1,d2.ok,fun i r hr=>?_,?_,?_⟩,d1⟩⟩
 ·exact h.bd.aU (by show(x.m.ah.slots.set kk v).length<=24;rw[List.length_set];exact h.bd.ah h1)
 ·show aC (bp x.E _ _) i=some r;have hr:aC (bp x.e _ _) i=some r:=hr;rw[bP]at hr ⊢;split
  ·rename_i e;rw[if_pos e]at hr;exact hr
  ·rename_i e;rw[if_neg e]at hr;exact h.sub i r hr
 ·show aC (bp x.E _ _) (hn 10 0)=_;rw[bP,if_neg Wg];exact h.tO
 ·show aC (bp x.e _ _) (hn 10 0)=_;rw[bP,if_neg Wg];exact h.no
end
end Go.Proofs.YtjpcgmjaipfgdaaGreatDoor
namespace Go.Proofs.YtjpcgmjaipfgdaaGreatDoor
open Go Go.Gd Tryz
@[go_sem] def j2R(p:ab)(l:UU):cY p++l=aM eT 5 p.aa.nodes::aM gg 5 p.aa.ao::aM eI 1 p.types::aM eI 1 p.slots::aM eI 1 p.fn::aM eI 1 p.size::l:=rfl
attribute [go_sem] List.append_nil
structure po(p:ab):Prop where
 ok:fO p
 fn:∀k,k<p.aa.nodes.length->0<=nth p.fn k/\nth p.fn k<p.aa.ao.length
end Go.Proofs.YtjpcgmjaipfgdaaGreatDoor
namespace Go.Proofs.YtjpcgmjaipfgdaaGreatDoor
open Go Go.Gd Tryz Go.Gd.MV
def Tv : o0 prog 281 "furcate/trace.time" = some 311 := by kernel_rfl
def UO : o0 prog 281 "furcate/trace.step" = some 310 := by kernel_rfl
def Sr : o0 prog 281 "furcate/trace.set" = some 309 := by kernel_rfl
@[go_sem] def qec:(prog).underlying 281=some (.pointer 283):=jG
def j4(x:ES):Int:=x.m.time
open Classical in
noncomputable def stE(p:ab)(inp:List Int)(k:Nat)(F:List Int->MV->MV)(x:ES):ES:=if h:∃x',Bz p inp k F x x' then Classical.choose h else x
open Classical in
noncomputable def seE(p:ab)(inp:List Int)(k:Nat)(x:ES)(nm:ByteArray)(v:aj):Option ES:=(fj p (bQ p) x.m nm v).map fun m'=>if h:∃x',DC p inp k m' nm v x x' then Classical.choose h else x
section
variable {p:ab}(hp:po p){F:UY->MV->MV}(hF:cU p (bQ p) F){inp:UY}(V8:inp.length<=1000)(hi:∀x∈inp,bz x){k:Nat}{x:ES}{E:List aw}(hE:∀k,k<E.length->bz (nth E k).v.n)
include hp hF V8 hi
theorem Bv(h:EI p inp k x)(ht:x.m.time<200):Bz p inp k F x (stE p inp k F x):=by have hx:=Pu hp.ok hF V8 hi h ht;unfold stE;rw[dif_pos hx];exact Classical.choose_spec hx
omit hF V8 hi
theorem KD(h:EI p inp k x)(nm:U0)(v:aj)(e:seE p inp k x nm v=none):fj p (bQ p) x.m nm v=none:=by
 unfold seE at e;cases hh:fj p (bQ p) x.m nm v with
 |none=>rfl
 |some m'=>rw[hh]at e;cases e
theorem CW(h:EI p inp k x)(nm:U0)(v:aj)(hv:bz v.n){x':ES}(e:seE p inp k x nm v=some x'):∃m',fj p (bQ p) x.m nm v=some m'/\m'.time=x.m.time/\DC p inp k m' nm v x x':=by
 unfold seE at e;cases hh:fj p (bQ p) x.m nm v with
 |none=>rw[hh]at e;cases e
 |some m'=> rw[hh]at e;obtain⟨h1,hx⟩:=Ra hp.ok hp.fn h nm v hv hh;simp only[Option.map_some,dif_pos hx]at e;cases e;exact⟨m',rfl,h1,Classical.choose_spec hx⟩
include hF V8 hi hE
theorem wN:lS j4 (stE p inp k F) (seE p inp k) E (EI p inp k):=by
 refine⟨fun s j s' h hj e=>?_,fun s h ht=>?_,fun s h=>h.t0⟩
 ·obtain⟨m',_,e2,e3⟩:=CW hp h _ _ (hE j hj) e;refine⟨e3.2.1,?_⟩;show s'.m.time=s.m.time;rw[e3.1];exact e2
 ·have h1:=Bv hp hF V8 hi h ht;refine⟨h1.2.1,?_⟩;show(stE p inp k F s).m.time=s.m.time\/(stE p inp k F s).m.time=s.m.time+1;rw[h1.1];rcases hF.time hi h.mi with e|e
  ·exact .inl e
  ·exact .inr e.1
theorem Oc:rl j4 (stE p inp k F) (seE p inp k) E (EI p inp k) (fun x=>x.E) 281 (.pt (hn 10 0) 0 0 0) 311 310 309:=by
 refine⟨Tv,UO,Sr,jD,jD,jD,fun s h=>?_,fun s h ht=>?_,fun s j h hj=>?_⟩
 ·have hC:=rq hp.ok;have hk:=zZ h.mi h.bd (by have:=hC.len;have:=hC.pK;have:=hp.ok.ok.aa.ao;have:=hp.ok.ok.size;omega);have WH:=wO (h.R.vg h.ok h.sub) hk;rw[show mP s.N=.pt (hn 3 k) 0 0 0 by unfold mP;rw[h.key]]at WH;exact Qj h.ok h.tO WH
 ·exact Nx h.ok h.tO (Bv hp hF V8 hi h ht).2.2
 ·cases e:seE p inp k s (nth E j).name (nth E j).v with
  |none=>exact JI h.ok h.tO (S9 hp.ok hp.fn h _ _ (KD hp h _ _ e))
  |some s'=> obtain⟨m',_,_,e3⟩:=CW hp h _ _ (hE j hj) e;exact JI h.ok h.tO e3.2.2
end
def Uo{p:ab}(hp:po p)(Vy:gG p){F:UY->MV->MV}(hF:cU p (bQ p) F){inp:UY}(V8:inp.length<=1000)(hi:∀x∈inp,bz x){E:List aw}(hE:∀k,k<E.length->bz (nth E k).v.n)(hl:E.length<=1000)(t:Int)(ht:bz t) :
  ∃x0:ES,EI p inp x0.N.k x0/\x0.m.time=0/\bg p (bQ p) [] (mh p (bQ p)) x0.m/\x0.m.dG (bQ p)/\
   af prog 127 [.agg (cY p),aM eI 1 inp,aM bj 5 E,rI t] [] (fun r l=>r=.ba [.pt (hn 3 x0.N.k) 0 0 0,rI (nt E (eQ t) (eN j4 (stE p inp x0.N.k F) (seE p inp x0.N.k) E (eQ t) ((eQ t-j4 x0).toNat+1) x0 0 false))]/\l=(eN j4 (stE p inp x0.N.k F) (seE p inp x0.N.k) E (eQ t) ((eQ t-j4 x0).toNat+1) x0 0 false).1.E):=by
 obtain⟨m1,hg,P',h1,XR⟩:=BM Vy.ok (wY Vy.ok) [];have XR:m1.time=0:=XR;obtain⟨N,l,hR,hX,hb,hnw⟩:=Sw Vy [hn 10 0] hg P' (fun e0=>by obtain⟨hl,_,_,k0,n,a,ek,hm⟩:=h1.ah jB;have Vo:=hm.head.1;exact⟨hl,jB,jB⟩)
 have Vj:aC l (hn 10 0)=none:=by
  cases hx:aC l (hn 10 0)with
  |none=>rfl
  |some r=>exact(hX (hn 10 0) (by rw[hx];simp) jE).elim
 have XE:∀i,aC (l++[(hn 10 0,.var 283 (lu p++[.pt (hn 3 N.k) 0 0 0,aM eI 1 inp]))]) i=(aC l i).or (if i=hn 10 0 then some (.var 283 (lu p++[.pt (hn 3 N.k) 0 0 0,aM eI 1 inp]))else none):=fun i=>by rw[wy];rfl
 have WT:=hR.root;have hok:fQ 0 (l++[(hn 10 0,.var 283 (lu p++[.pt (hn 3 N.k) 0 0 0,aM eI 1 inp]))]):=by
  refine⟨fun i h0 h1=>?_,?_,fun i r hr=>?_⟩
  ·rw[XE,hR.ok.low i h1,if_neg (by have:=iN 10 0;omega)];rfl
  ·have:ids (l++[(hn 10 0,Row.var 283 (lu p++[.pt (hn 3 N.k) 0 0 0,aM eI 1 inp]))])=ids l++[hn 10 0]:=by simp[ids]
   rw[this,List.nodup_append];refine⟨hR.ok.nodup,jE,fun a ha b hb e=>?_⟩;simp at hb;subst hb e;exact(lT _ _).1 ha Vj
  ·have hm:∀j,(ids l).contains j=true->(ids (l++[(hn 10 0,Row.var 283 (lu p++[.pt (hn 3 N.k) 0 0 0,aM eI 1 inp]))])).contains j=true:=fun j hj=>by
    rw[List.contains_iff_mem]at hj ⊢;simp[ids]at hj ⊢;exact .inl hj
   rw[XE]at hr;cases hx:aC l i with
   |some r'=> rw[hx]at hr;cases hr;exact gf hm _ (hR.ok.closed i _ hx)
   |none=>
    rw[hx]at hr;have hr:(if i=hn 10 0 then some (Row.var 283 (lu p++[.pt (hn 3 N.k) 0 0 0,aM eI 1 inp]))else none)=some r:=hr;split at hr
    ·cases hr;have h3:=hm _ (gl WT);show aY _ (lu p++[.pt (hn 3 N.k) 0 0 0,aM eI 1 inp])=true;rw[tD,gf (q:=eJ) (fun _ h=>by cases h) _ (Sn p)];simp only[aY,AV.all,h3,Bool.and_true,Bool.true_and]
    ·cases hr
 have hEI:EI p inp N.k ⟨m1,N,l,l++[(hn 10 0,.var 283 (lu p++[.pt (hn 3 N.k) 0 0 0,aM eI 1 inp]))]⟩:=by
  have VO:m1.in_<=(inp.length:Int):=by have:=hb.mY;omega
  refine⟨hR,rfl,h1,⟨hb.deep,hb.slots,hb.heap,hb.outs,hb.np,VO⟩,by show 0<=m1.time;omega,by show m1.time<=100000;omega,hok,fun i r hr=>?_,?_,Vj⟩
  ·show aC (l++_) i=some r;have hr:aC l i=some r:=hr;rw[XE,hr];rfl
  ·show aC (l++_) (hn 10 0)=_;rw[XE,Vj,if_pos rfl];rfl
 refine⟨⟨m1,N,l,_⟩,hEI,XR,hg,P',?_⟩;have Wj:=PG (Oc hp hF V8 hi (k:=N.k) hE) (wN hp hF V8 hi hE) hl _ hEI t ht (by show m1.time<=_;unfold eQ;omega);have Wv:=(xN (wN hp hF V8 hi (k:=N.k) hE) (t:=eQ t) (by unfold eQ;omega) ((eQ t-j4 ⟨m1,N,l,l++[(hn 10 0,.var 283 (lu p++[.pt (hn 3 N.k) 0 0 0,aM eI 1 inp]))]⟩).toNat+1) _ 0 false hEI (by show m1.time<=_;unfold eQ;omega) (Nat.zero_le _)).1;generalize eN j4 (stE p inp N.k F) (seE p inp N.k) E (eQ t) ((eQ t-j4 ⟨m1,N,l,l++[(hn 10 0,.var 283 (lu p++[.pt (hn 3 N.k) 0 0 0,aM eI 1 inp]))]⟩).toNat+1) ⟨m1,N,l,l++[(hn 10 0,.var 283 (lu p++[.pt (hn 3 N.k) 0 0 0,aM eI 1 inp]))]⟩ 0 false=G at*;simp only at Wj ⊢;have ZH:de prog 58 [.agg (cY p)] [] (.pt (hn 3 N.k) 0 0 0) l:=⟨hnw,⟨fun _ _ _=>rfl,List.nodup_nil,fun i r h=>by cases h⟩,hR.ok,fun i h=>(h rfl).elim,rfl⟩;have U9:=hR.ok.low;have hbL:=Wv.tO;have V6:=Wv.ok.low;have hpm:∀i,aC (tie l [(4,.var 32 (cY p)),(hn 10 0,.var 283 (lu p++[.pt (hn 3 N.k) 0 0 0,aM eI 1 inp]))]) i=aC (tie (l++[(hn 10 0,.var 283 (lu p++[.pt (hn 3 N.k) 0 0 0,aM eI 1 inp]))]) [(4,.var 32 (cY p))]) i:=fun i=>by
  rw[ko,ko,XE];simp only[aC];have:=iN 10 0;cases aC l i
  ·(repeat' split)<;>first|rfl|omega
  ·rfl
 generalize hbad:nt E (eQ t) G=bad at*;have hbM:=Wv.ok;generalize G.1.E=EE at*;generalize l++[(hn 10 0,.var 283 (lu p++[.pt (hn 3 N.k) 0 0 0,aM eI 1 inp]))]=E0 at*;refine aQ func127 ntmps127 ?_
 (have W:=jA U9 (jA Vj (jA hbL (V6)));repeat' (first|refine ar fun K hK=>?_|refine av ?_|(with_reducible refine gR 1 ?_);refine dC 1 ([],[],[14]) [] [0,1,3,2,4,5,6] mixed ?_|(refine hK _ _ ?_;clear hK K)|(refine au ?_ ?_<;>intro hc<;>try exact jz)|refine bv 4 ?_|refine bv (hn 10 0) ?_|(refine o8 (e:=[]) ZH (fun j _ h=>(h rfl).elim) ?_)|(refine Lj Wj (tl:=[(4,.var 32 (cY p))]) hpm ?_;try refine S ?_)|(refine gh ?_ ?_<;>intro hc<;>try exact jz)|refine aq ?_|exact jI|(clear hK K)))
 exact eO (e:=[]) (B:=[]) rfl ⟨fun _ _ _=>rfl,List.nodup_nil,fun i r h=>by cases h⟩ hbM (tl:=[(4,.var 32 (cY p))]) (fun _=>rfl) (dB jC dO) [.tmp 8,.tmp 9]
end Go.Proofs.YtjpcgmjaipfgdaaGreatDoor
namespace Go.Proofs.YtjpcgmjaipfgdaaGreatDoor
open Go Go.Gd Tryz
end Go.Proofs.YtjpcgmjaipfgdaaGreatDoor
namespace Go.Proofs.YtjpcgmjaipfgdaaGreatDoor
open Go Go.Gd Tryz Go.Gd.MV
section
variable {p:ab}{C:aI}{inp:UY}
def BH{c:Prop}[Decidable c]{a b:MV}(h:a.status≠1)(h':b.status≠1):(if c then a else b).status≠1:=by
 by_cases e:c
 ·rw[if_pos e];exact h
 ·rw[if_neg e];exact h'
variable{m:MV}
def Ku{t:Int}:(m.stops 3 t).status≠1:=fun h=>by have h:(3:Int)=1:=h;omega
def Ng{x:az}(h:m.status≠1)(hx:¬(x.op=14/\(inp.length:Int)<=m.in_)):(m.ins p C inp x).status≠1:=by
 have Vh:∀{m:MV} {v:aj},m.status≠1->(m.ends v).status≠1:=fun{m v} h=>by unfold MV.ends;exact BH (fun h=>by have h:(2:Int)=1:=h;omega) h
 have hbO:∀{m:MV} {r:aj×Int},m.status≠1->(m.dP r).status≠1:=fun{m r} h=>by unfold MV.dP;exact BH Ku h
 by_cases h14:x.op=14
 ·rw[MV.fk _ _ _ _ _ h14,if_neg (fun h'=>hx ⟨h14,h'⟩)];exact h
 ·unfold MV.ins;simp only[h14,↓reduceIte];repeat' (first|exact h|exact Ku|exact Vh h|exact hbO h|refine BH ?_ ?_)
def Qz(m:MV)(x:az):(m.ins p C inp x).in_=m.in_\/(x.op=14/\m.in_<(inp.length:Int)/\(m.ins p C inp x).in_=m.in_+1):=by
 by_cases h:x.op=14
 ·rw[MV.fk _ _ _ _ _ h];split
  ·exact .inl rfl
  ·exact .inr ⟨h,jB,rfl⟩
 ·left
  rcases T5 (p:=p) (C:=C) (inp:=inp) m x with e|e
  ·exact e
  ·exfalso;have:(m.ins p C inp x).in_=m.in_:=by
    unfold MV.ins;simp only[h,↓reduceIte];repeat' (first|rfl|exact FG _ _|exact KJ _ _|refine FN ?_ ?_)
   omega
def Aw(m:MV):(m.one p C inp).in_=m.in_\/((m.bh C).op=14/\m.in_<(inp.length:Int)/\(m.one p C inp).in_=m.in_+1):=Qz (p:=p) (C:=C) (inp:=inp) (m.aU (m.ah.jump (m.ah.at_+1))) (m.bh C)
variable{n:Nat}{m':MV}
def yO(h:eo p C inp n m m'):m.in_<=m'.in_:=by
 induction h with|refl m=>exact Int.le_refl _|@step n m m' h0 h1 hok hg ih=> rcases Aw (p:=p) (C:=C) (inp:=inp) m with e|⟨_,_,e⟩<;>omega
def Bm(h:eo p C inp n m m'):m.in_<=inp.length->m'.in_<=inp.length:=by
 induction h with|refl m=>exact id|@step n m m' h0 h1 hok hg ih=> intro hi;rcases Aw (p:=p) (C:=C) (inp:=inp) m with e|⟨_,_,e⟩<;>exact ih jB
def EN(a:(m.bh C).op=14)(b:(inp.length:Int)<=m.in_):m.one p C inp=(m.aU (m.ah.jump (m.ah.at_+1))).stops 1 0:=by show(m.aU _).ins p C inp _=_;rw[MV.fk _ _ _ _ _ a];exact if_pos b
def Ay(a:(m.bh C).op=14)(b:¬(inp.length:Int)<=m.in_):m.one p C inp={ (m.aU (m.ah.jump (m.ah.at_+1))).push (vI (nth inp m.in_.toNat))with in_:=m.in_+1 }:=by show(m.aU _).ins p C inp _=_;rw[MV.fk _ _ _ _ _ a];exact if_neg b
def F7{t:Int}(hg:eo p C inp n (m.stops 1 t) m'):m'=m.stops 1 t:=by cases hg with|refl=>rfl|step h0'=>have h0':(1:Int)=0:=h0';omega
def Ni(h:eo p C inp n m m'):0<=m.in_->m'.status≠1->∀{inp':UY},fJ m'.in_ inp inp'->eo p C inp' n m m':=by
 induction h with|refl m=>intro _ _ _ _;exact .refl m|@step n m m' h0 h1 hok hg ih=>
  intro hi hs inp' ha;have VO:0<=(m.one p C inp).in_:=by rcases Aw (p:=p) (C:=C) (inp:=inp) m with e|⟨_,_,e⟩<;>omega
  have e:m.one p C inp'=m.one p C inp:=by
   by_cases h:(m.bh C).op=14
   ·have D':¬(inp.length:Int)<=m.in_:=fun b=>by
     rw[EN h b]at hg;exact hs (by rw[F7 hg];rfl)
    have h2:(m.one p C inp).in_=m.in_+1:=by rw[Ay h D']
    have h3:=yO hg;obtain⟨_,a2,a3⟩:=ha m.in_.toNat jB;rw[Ay h (show¬(inp'.length:Int)<=m.in_ from jB),Ay h D',a3]
   ·show(m.aU _).ins p C inp' _=(m.aU _).ins p C inp _;unfold MV.ins;simp only[h,↓reduceIte]
  exact .step h0 h1 hok (by rw[e];exact ih VO hs ha)
def PX(h:eo p C inp n m m'):0<=m.in_->m.status≠1->m'.status=1->m'.in_<=inp.length->∀{y:Int} {k:Nat} {b:MV},eo p C (inp++[y]) k m b->b.dG C->m'.in_<b.in_:=by
 induction h with|refl m=>intro _ h1 h2;exact(h1 h2).elim|@step n m m' h0 h1 hok hg ih=>
  intro hi hn hs Vd y k b hb P';have VO:0<=(m.one p C inp).in_:=by rcases Aw (p:=p) (C:=C) (inp:=inp) m with e|⟨_,_,e⟩<;>omega
  cases hb with|refl=>exact(P'.elim (fun h=>h h0) h1).elim|step _ _ _ VJ=>
   by_cases hw:(m.bh C).op=14/\(inp.length:Int)<=m.in_
   ·rw[EN hw.1 hw.2]at hg;have e:=F7 hg;have e2:m'.in_=m.in_:=by rw[e];rfl
    have h3:=yO VJ;have h2:(m.one p C (inp++[y])).in_=m.in_+1:=by rw[Ay hw.1 (show¬((inp++[y]).length:Int)<=m.in_ by rw[List.length_append];simp only[List.length_cons,List.length_nil];omega)]
    omega
   ·have e:m.one p C (inp++[y])=m.one p C inp:=RJ (m:=m.aU (m.ah.jump (m.ah.at_+1))) hi hw [y];rw[e]at VJ;exact ih VO (Ng (m:=m.aU (m.ah.jump (m.ah.at_+1))) hn hw) hs Vd VJ P'
variable{F:UY->MV->MV}
def BO(hF:cU p C F)(hi:∀x∈inp,bz x)(h:MI p C m):m.in_<=(F inp m).in_/\(m.in_<=inp.length->(F inp m).in_<=inp.length):=by
 by_cases e:m.halt
 ·rw[hF.still _ m e];exact⟨Int.le_refl _,id⟩
 ·obtain⟨m1,⟨n,g⟩,d,e1⟩:=hF.step inp hi m h e;rw[e1];exact⟨(yO g:m.eu.in_<=m1.in_),fun h=>(Bm g (h:m.eu.in_<=inp.length):m1.in_<=inp.length)⟩
def Di(hF:cU p C F){inp':UY}(hi:∀x∈inp,bz x)(V4:∀x∈inp',bz x)(h:MI p C m)(h0:0<=m.in_)(hw:(F inp m).status≠1)(ha:fJ (F inp m).in_ inp inp'):F inp' m=F inp m:=by
 by_cases e:m.halt
 ·rw[hF.still _ m e,hF.still _ m e]
 ·obtain⟨m1,⟨n,g⟩,d,e1⟩:=hF.step inp hi m h e;obtain⟨m2,⟨k,g2⟩,d2,e2⟩:=hF.step inp' V4 m h e;rw[e1]at hw ha;have:=E7 (Ni g h0 hw ha) g2 d.1 d2.1;rw[e1,e2,this]
def LW(hF:cU p C F){y:Int}(hi:∀x∈inp,bz x)(hy:bz y)(h:MI p C m)(h0:0<=m.in_)(h1:m.in_<=inp.length)(hn:m.status≠1)(hw:(F inp m).status=1):(F inp m).in_<(F (inp++[y]) m).in_:=by
 by_cases e:m.halt
 ·rw[hF.still _ m e]at hw;exact(hn hw).elim
 ·obtain⟨m1,⟨n,g⟩,d,e1⟩:=hF.step inp hi m h e;obtain⟨m2,⟨k,g2⟩,d2,e2⟩:=hF.step (inp++[y]) (fun x hx=>(List.mem_append.1 hx).elim (hi x) (fun hx=>by rw[List.mem_singleton.1 hx];exact hy)) m h e;rw[e1]at hw ⊢;rw[e2];have h3:m1.in_<=inp.length:=Bm g (h1:m.eu.in_<=inp.length);have hw:m1.status=1:=hw;have:m1.in_<m2.in_:=PX g h0 (fun e=>by have e:(0:Int)=1:=e;omega) hw h3 g2 d2.1;exact this
end
structure IM(p:ab)(inp:List Int)(m:MV):Prop where
 mi:MI p (bQ p) m
 t0:0<=m.time
 i0:0<=m.in_
 i1:m.in_<=inp.length
def Bg{p:ab}{m m':MV}{nm:U0}{v:aj}(e:fj p (bQ p) m nm v=some m'):¬(m.status=2\/m.status=3)/\m'.time=m.time/\m'.in_=m.in_/\m'.status=m.status/\∃k,m'=rz m k v:=by
 unfold fj at e;split at e
 ·cases e
 rename_i c;split at e
 ·cases e
 cases e;exact⟨fun e=>c (.inl e),rfl,rfl,rfl,_,rfl⟩
section
variable {p:ab}{F:UY->MV->MV}(hF:cU p (bQ p) F){inp:UY}(hi:∀x∈inp,bz x){E:List aw}(hE:∀k,k<E.length->bz (nth E k).v.n)
include hF hi
theorem sP{m:MV}(h:IM p inp m):IM p inp (F inp m)/\((F inp m).time=m.time\/((F inp m).time=m.time+1/\(F inp m).status≠1/\¬m.halt)):=by have e:=hF.time hi h.mi;obtain⟨a,b⟩:=BO hF hi h.mi;have:=h.t0;have:=h.i0;exact⟨⟨hF.mi hi h.mi,by rcases e with e|⟨e,_⟩<;>omega,jB,b h.i1⟩,e⟩
include hE
omit hF hi in
theorem Qf{m m':MV}(h:IM p inp m){k:Nat}(hk:k<E.length)(e:fj p (bQ p) m (nth E k).name (nth E k).v=some m'):IM p inp m':=by obtain⟨a,b,c,d,k',e⟩:=Bg e;subst e;exact⟨IB h.mi a _ (hE _ hk),h.t0,h.i0,h.i1⟩
theorem uo:lS MV.time (F inp) (fj p (bQ p)) E (IM p inp):=
 ⟨fun s k s' h hk e=>⟨Qf hE h hk e,(Bg e).2.1⟩,fun s h _=>⟨(sP hF hi h).1,(sP hF hi h).2.imp id And.left⟩,fun s h=>h.t0⟩
omit hF hi hE
theorem DD:∀(n:Nat) (s:MV) (k:Nat) (b:Bool),(cL MV.time (fj p (bQ p)) E n s k b).1.in_=s.in_/\(cL MV.time (fj p (bQ p)) E n s k b).1.status=s.status
 |0,s,k,b=>⟨rfl,rfl⟩
 |n+1,s,k,b=>by
  unfold cL;split
  ·split
   ·rename_i s' e;obtain⟨_,_,c,d,_⟩:=Bg e;obtain⟨a1,a2⟩:=DD n s' (k+1) false;exact⟨a1.trans c,a2.trans d⟩
   ·exact⟨rfl,rfl⟩
  ·exact⟨rfl,rfl⟩
include hF hi hE
theorem yZ{T:Int}(h1:T<=200):∀(n:Nat) (s:MV) (k:Nat) (b:Bool),IM p inp s->s.time<=T->s.in_<=(eN MV.time (F inp) (fj p (bQ p)) E T n s k b).1.in_
 |0,s,k,b,_,_=>Int.le_refl _
 |n+1,s,k,b,h,ht=>by
  obtain⟨a1,a2,_⟩:=qU (uo hF hi hE) (E.length+1) s k b h;obtain⟨b1,b2⟩:=DD (p:=p) (E:=E) (E.length+1) s k b;unfold eN;generalize cL MV.time (fj p (bQ p)) E (E.length+1) s k b=Q at*;split
  ·omega
  have hf:=(BO hF hi a1.mi).1;split
  ·show s.in_<=(F inp Q.1).in_;omega
  ·obtain⟨c1,c2⟩:=sP hF hi a1;have:=yZ h1 n _ Q.2.1 Q.2.2 c1 (by rcases c2 with e|⟨e,_⟩<;>omega);omega
theorem C9{T:Int}(h1:T<=200){inp':UY}(V4:∀x∈inp',bz x):∀(n:Nat) (s:MV) (k:Nat) (b:Bool),IM p inp s->s.time<=T->((eN MV.time (F inp) (fj p (bQ p)) E T n s k b).1.time=T\/(eN MV.time (F inp) (fj p (bQ p)) E T n s k b).1.status≠1)->fJ (eN MV.time (F inp) (fj p (bQ p)) E T n s k b).1.in_ inp inp'->eN MV.time (F inp') (fj p (bQ p)) E T n s k b=eN MV.time (F inp) (fj p (bQ p)) E T n s k b
 |0,s,k,b,_,_,_,_=>rfl
 |n+1,s,k,b,h,ht,h2,h3=>by
  obtain⟨a1,a2,_⟩:=qU (uo hF hi hE) (E.length+1) s k b h;unfold eN at h2 h3 ⊢;generalize cL MV.time (fj p (bQ p)) E (E.length+1) s k b=Q at*;by_cases c:Q.1.time=T
  ·rw[if_pos c,if_pos c]
  rw[if_neg c]at h2 h3 ⊢;rw[if_neg c];obtain⟨c1,c2⟩:=sP hF hi a1;by_cases d:(F inp Q.1).time=Q.1.time
  ·rw[if_pos d]at h2 h3;have h2:(F inp Q.1).time=T\/(F inp Q.1).status≠1:=h2;have h3:fJ (F inp Q.1).in_ inp inp':=h3;have e:F inp' Q.1=F inp Q.1:=Di hF hi V4 a1.mi a1.i0 (h2.elim (fun e=>(c jB).elim) id) h3;rw[e,if_pos d,if_pos d]
  ·rw[if_neg d]at h2 h3;have h4:(F inp Q.1).time=Q.1.time+1/\(F inp Q.1).status≠1:=c2.elim (fun e=>(d e).elim) fun e=>⟨e.1,e.2.1⟩
   have VO:=yZ hF hi hE h1 n _ Q.2.1 Q.2.2 c1 jB;have e:F inp' Q.1=F inp Q.1:=Di hF hi V4 a1.mi a1.i0 h4.2 (h3.le VO);rw[e,if_neg d,if_neg d];exact C9 h1 V4 n _ Q.2.1 Q.2.2 c1 jB h2 h3
theorem Fh{T:Int}(h1:T<=200){y:Int}(hy:bz y):∀(n:Nat) (s:MV) (k:Nat) (b:Bool),IM p inp s->s.status≠1->s.time<=T->T-s.time<n->(eN MV.time (F inp) (fj p (bQ p)) E T n s k b).1.status=1->(eN MV.time (F inp) (fj p (bQ p)) E T n s k b).1.in_<(eN MV.time (F (inp++[y])) (fj p (bQ p)) E T n s k b).1.in_
 |0,s,k,b,_,_,h1,h2,_=>by omega
 |n+1,s,k,b,h,hn,ht,hf,h2=>by
  have V4:∀x∈inp++[y],bz x:=fun x hx=>(List.mem_append.1 hx).elim (hi x) (fun hx=>by rw[List.mem_singleton.1 hx];exact hy)
  obtain⟨a1,a2,_⟩:=qU (uo hF hi hE) (E.length+1) s k b h;obtain⟨b1,b2⟩:=DD (p:=p) (E:=E) (E.length+1) s k b;unfold eN at h2 ⊢;generalize cL MV.time (fj p (bQ p)) E (E.length+1) s k b=Q at*;by_cases c:Q.1.time=T
  ·rw[if_pos c]at h2;exact(hn (b2 ▸ h2)).elim
  rw[if_neg c]at h2;rw[if_neg c,if_neg c];obtain⟨c1,c2⟩:=sP hF hi a1;have Xb:Q.1.status≠1:=fun e=>hn (b2 ▸ e)
  have a1':IM p (inp++[y]) Q.1:=⟨a1.mi,a1.t0,a1.i0,by have:=a1.i1;rw[List.length_append];omega⟩;by_cases d:(F inp Q.1).time=Q.1.time
  ·rw[if_pos d]at h2 ⊢;have h2:(F inp Q.1).status=1:=h2;have hw:=LW hF hi hy a1.mi a1.i0 a1.i1 Xb h2;obtain⟨c1',c2'⟩:=sP hF V4 a1';show(F inp Q.1).in_<_;split
   ·exact hw
   ·have:=yZ hF V4 hE h1 n _ Q.2.1 Q.2.2 c1' (by rcases c2' with e|⟨e,_⟩<;>omega);omega
  ·rw[if_neg d]at h2 ⊢;have h4:(F inp Q.1).time=Q.1.time+1/\(F inp Q.1).status≠1:=c2.elim (fun e=>(d e).elim) fun e=>⟨e.1,e.2.1⟩
   have e:F (inp++[y]) Q.1=F inp Q.1:=Di hF hi V4 a1.mi a1.i0 h4.2 (IV c1.i1);rw[e,if_neg d];exact Fh h1 hy n _ Q.2.1 Q.2.2 c1 h4.2 jB jB h2
end
end Go.Proofs.YtjpcgmjaipfgdaaGreatDoor
/- Lemmas. No conditions. -/
import Derived.Test.YtfkgcobaheegbaaGreatDoorVlS
import Derived.Test.YtfkgcobaheegbaaGreatDoorVlT
set_option linter.all false
set_option maxHeartbeats 4000000
set_option maxRecDepth 10000
namespace Go.Proofs.YtfkgcobaheegbaaGreatDoor
open Go Go.Gd Tryz Go.Gd.MV
def xe:ByteArray:=(⟨#[102,110,32,109,97,105,110,40,41,123,112,114,105,110,116,32,49,59,112,114,105,110,116,32,50,59,125]⟩:ByteArray)
theorem B3:(gf xe).2.2=0:=by decide +kernel
theorem Pt:fH (gf xe).1 (bI (gf xe).1 [] 1)=⟨[⟨0,3,[]⟩],[],0,[(⟨#[49]⟩:ByteArray)],0,0,1⟩:=by decide +kernel
theorem P0:∃p x,gf xe=(p,x,0)/\iW p/\j4 p/\fH p (bI p [] 1)=⟨[⟨0,3,[]⟩],[],0,[(⟨#[49]⟩:ByteArray)],0,0,1⟩:=
 ⟨_,_,by rw[<-B3],HL B3,F1 B3,Pt⟩
theorem E1:eG prog 32 [] (rB true):=by
 obtain⟨p,x,e,hw,hp,hl⟩:=P0;have hs:=G8 xe jC;rw[e]at hs;obtain⟨m,N,l,hR,_,hS,hb,hnw⟩:=Fo hw hp [] [];have hv:=Cc hw [];obtain⟨m',hS',hb',N',l',⟨hR',hk'⟩,hU,hst⟩:=zV hw jC (fun x hx=>by cases hx) (n:=0) jC hv hR hS hb [];have hv1:=zh hw jC (fun x hx=>by cases hx) hv;have hst:=hst.args (args:=[mP N,.raw (.slice none 0 0)]) (fun w vs hw hv=>tO hv (fun _ h=>h) fun us hu=>tO hu (CF 1 _) (fun _ h=>h)) (oI hR rfl);have hse:=zv hR' (yQ hw.ok (o0 hw.ok) hv1.ec.inv hS' hv1.q.none);rw[yd hw.ok (o0 hw.ok) hv1.ec.inv hS' hv1.q.none,show dn p (ot p) []=bI p [] 1 from rfl,hl]at hse;rw[show mP N'=mP N by unfold mP;rw[hk']]at hse;have hlo:=hR.ok.low;have hlo':=hR'.ok.low;refine fm func32 ntmps32 ?_
 (have W:=jA hlo (hlo');repeat' (first|refine aB fun K hK=>?_|refine aC ?_|(refine hK _ _ ?_;clear hK K)|(refine aA ?_ ?_<;>intro hc<;>try exact jz)|refine kj 0 ?_|refine kj 1 ?_|refine cp (hs) ?_|refine GF hnw hR.ok ?_|refine cT hst ?_|refine cT hse ?_|refine aD ?_|exact jI|(clear hK K)));all_goals(try clear W)
 exact H5 [.tmp 0] rfl (.same _ rfl)
structure LS where
 i:Nat
 m:MV
 N:NM
 e:List (Nat×Row)
end Go.Proofs.YtfkgcobaheegbaaGreatDoor
namespace Go.Gd
open Go
theorem eF.mono{a b:Nat}{e:List (Nat×Row)}(h:eF a e)(hab:a<=b):eF b e:=⟨fun i hi h2=>h.no i jB h2,h.nodup,h.closed⟩
@[go_sem] theorem j4b(k a b:Nat):cR k (hn a b)=false:=decide_eq_false fun h=>by have:=iw a b;omega
theorem Au{n:Nat}{S:Type}{W:List (Nat×Nat)}{ok:S->Prop}{J:S->List (Nat×AV)}{G:S->Hp}{μ:S->Nat}{F₀ F:List AV}{l tl tl0:List (Nat×Row)}(k:Nat)(k2:eF 0 l)(s:S)(h1:ok s)(h2:μ s<n)(hst:gJ (cR k) tl)(hd:eu (cR k) tl=tl0)(hG:(⟨[],tie l tl0⟩:Hp)=G s)(h3:bX (cR k) ⟨[],tie l tl⟩ F (mm (J s) (lS W F₀))):Next n W ok J G μ F₀ F ⟨[],tie l tl⟩:=by
 have k3:=k2.mono (Nat.zero_le k);refine AD (cR k) s h1 h2 rfl (wj _ _ _ (v7 _ _ k2.nodup fun i r hi=>fh (fun j hj=>?_) _ (k2.closed i r hi)) hst) ?_ h3
 ·unfold fF;rw[k3.cR (List.contains_iff_mem.1 hj)];rfl
 ·rw[<-hG];show Hp.mk _ (eu (cR k) (l++tl))=Hp.mk _ (l++tl0);rw[wx,v8 _ _ (fun i hi=>k3.cR hi),hd]
end Go.Gd
namespace Go.Proofs.YtfkgcobaheegbaaGreatDoor
open Go Go.Gd Tryz Go.Gd.MV
variable{inp:List Int}
theorem KQ{p:ab}(hw:iW p)(hl:inp.length<1000)(hi:∀x∈inp,cY x)(n:Nat)(hv:ja p inp n (bI p inp n))(hv1:ja p inp (n+1) (bI p inp (n+1))) :
  (((bI p inp n).status=2\/(bI p inp n).status=3)/\bI p inp (n+1)=bI p inp n)\/
  (¬((bI p inp n).status=2\/(bI p inp n).status=3)/\(bI p inp (n+1)).status≠1/\(bI p inp (n+1)).time=(bI p inp n).time+1)\/
  (¬((bI p inp n).status=2\/(bI p inp n).status=3)/\(bI p inp (n+1)).status=1/\(bI p inp (n+1)).time=(bI p inp n).time/\(dn p (bI p inp (n+1)) (inp++[7])).status≠1/\(dn p (bI p inp (n+1)) (inp++[7])).in_=(bI p inp (n+1)).in_+1/\(dn p (bI p inp (n+1)) (inp++[7])).time=(bI p inp (n+1)).time+1):=by
 rcases uU hw.ok hv.ec.inv (inp:=inp) jB with⟨a,b⟩|⟨a,b,c⟩|⟨a,b,c,d⟩
 ·exact .inl ⟨a,b⟩
 ·have c:bI p inp (n+1)={ bI p inp n with status:=1 }:=c;have h1:(bI p inp (n+1)).status=1:=by rw[c]
  obtain⟨w1,w2,w3,_⟩:=I9 hw.ok hl hi 7 (n+1) h1;refine .inr (.inr ⟨a,h1,by rw[c],w2,?_,?_⟩)
  ·rw[w3,w1];simp
  ·rcases uU hw.ok hv1.ec.inv (inp:=inp++[7]) jF with⟨a,b⟩|⟨a,b,c⟩|⟨a,b,c,d⟩
   ·omega
   ·rw[c]at w2;exact absurd rfl w2
   ·exact d
 ·exact .inr (.inl ⟨a,c,d⟩)
theorem IW{p:ab}{C:aE}{s:aJ}{m:MV}(hS:mY p C s m)(k:Nat)(hk:k<m.calls.length):(nth m.calls k).stack=[]:=by
 have hlen:m.calls.length=(RS.of s).nf:=hS.eZ.len;by_cases h:k+1<m.calls.length
 ·exact(hS.eZ.low k jB).stack
 ·have ek:k=m.calls.length-1:=jB;subst ek;exact(hS.eZ.af jB).stack
theorem Nk{p:ab}(hw:iW p){inp':List Int}(hl:inp'.length<=1000)(hle:inp.length<=inp'.length)(hir:∀x∈inp',cY x){n:Nat}(hnn:n+1<=100000){s:aJ}(hv:ja p inp n s){m:MV}{N:NM}{e:List (Nat×Row)}(hR:bD p (gU p) m N e)(hS:mY p (gU p) s m)(hb:Bd inp.length m) :
  ∃kk e1 e2 e3,du prog 43 [mP N] e (.pt (hn 3 kk) 0 0 0) e1/\du prog 40 [.pt (hn 3 kk) 0 0 0,bp eI 1 inp'] e1 (.bj []) e2/\du prog 38 [.pt (hn 3 kk) 0 0 0] e2 (.agg (iQ (fH p (dn p s inp')))) e3/\bD p (gU p) m N e3:=by
 have hf:=hv.ec.inv.fits hw.ok;have hlen:m.calls.length=s.aq.length:=hS.eZ.len;have hcl:=hf.aK;have hst:=IW hS;have hcf:=hb.heap;rw[vv]at hcf;have hq:∀k,k<m.calls.length->(nth m.calls k).slots.length<=1000/\(nth m.calls k).stack.length<=1000:=fun k hk=>⟨by have:=hb.slots k hk;omega,by rw[hst k hk];simp⟩
 generalize hkk:pY (ids e++[])=kk;have hk0:∀a d,av e (hn a (kk+d))=none:=fun a d=>by rw[<-hkk];exact wF e [] a d
 have hc:=Qp hR jB jB (by have:=hb.outs;omega) jB hq kk hk0;have hd:∀i,av (fl p (gU p) m kk m.calls.length) i≠none->av e i=none:=fun i hi=>by
  rcases tY.1 ((gX _ _).2 hi)with⟨a,_,_,rfl⟩|⟨d,_,rfl|rfl|rfl⟩
  ·exact hk0 a 0
  all_goals exact hk0 _ _
 have hRL:bD p (gU p) m (qd kk m.calls.length) (fl p (gU p) m kk m.calls.length):=Qc (fun k hk=>by have:=(hq k hk).2;omega) jB;generalize fl p (gU p) m kk m.calls.length=L at*;have hv2:ja p inp' n s:=⟨hv.ec,hv.wt,⟨hv.q.s0,hv.q.s3,hv.q.none,hv.q.aZ,by have:=hv.q.gw;omega⟩⟩;have hb2:Bd inp'.length m:=⟨hb.deep,hb.slots,hb.heap,hb.outs,hb.gK,by have:=hb.gw;omega⟩;have hE:eF 0 (e++L):=hc.e2;have hLE:∀i r,av L i=some r->av (e++L) i=some r:=fun i r h=>by rw[rl (hd i (by rw[h];simp))];exact h
 obtain⟨m',hS',hb',N',l',⟨hR',hk'⟩,hU,hst2⟩:=zV hw hl hir (n:=n) jB hv2 hRL hS hb2 (ids (e++L));have eM:mP (qd kk m.calls.length)=.pt (hn 3 kk) 0 0 0:=rfl;have eM':mP N'=.pt (hn 3 kk) 0 0 0:=by rw[<-eM];unfold mP;rw[hk']
 rw[eM]at hst2;have hnew:∀i,av l' i≠none->av L i≠none\/av (e++L) i=none:=fun i hi=>by
  rcases hU.new i hi with h|h
  ·exact .inl h
  ·right
   cases hx:av (e++L) i with
   |none=>rfl
   |some r=>exact(h ((gX _ _).2 (by rw[hx];simp))).elim
 have hdo:=du.more hst2 hE hLE hnew;have hd2:∀i,av l' i≠none->av e i=none:=fun i hi=>by
  rcases hnew i hi with h|h
  ·exact hd i h
  ·rw[jd]at h;cases hx:av e i with
   |none=>rfl
   |some r=>rw[hx]at h;cases h
 have hv3:=zh hw hl hir hv2;have hse:=zv hR' (yQ hw.ok (o0 hw.ok) hv3.ec.inv hS' hv3.q.none);rw[yd hw.ok (o0 hw.ok) hv3.ec.inv hS' hv3.q.none,eM']at hse;have hG:∀i r,av l' i=some r->av (gZ (e++L) l') i=some r:=fun i r h=>by rw[s9 hR'.ok.nodup,h];rfl
 have hdo2:=du.more hse hdo.e2 hG fun i hi=>.inl hi
 refine⟨kk,_,_,_,hc,hdo,hdo2,hR.uw hdo2.e2 fun i r h=>?_⟩;have hno:av l' i=none:=by
  cases hx:av l' i with
  |none=>rfl
  |some r'=>have:=hd2 i (by rw[hx];simp);rw[h]at this;cases this
 rw[s9 hR'.ok.nodup,hno,Option.none_or,s9 hR'.ok.nodup,hno,Option.none_or];exact uH h
theorem J5(s:ByteArray)(inp:List Int)(a:Int)(hi:∀x∈inp,cY x)(ha:0<=a/\a<256):eG prog 13 [rS s,bp eI 1 inp,.raw (.int .u8 a)] (rB true):=by
 have hs:=G8 (qs s) (KA s);have hwk:=@HL (qs s);have hcm:=@F1 (qs s);obtain⟨n,hn,ea⟩:=Pf 101 jC ha;have ea:a.tmod 101=(n:Int):=ea;generalize gf (qs s)=R at hs hwk hcm;obtain⟨p,x,e⟩:=R;simp only at hs hwk hcm;by_cases he:e=0
 rotate_left
 ·refine fm func13 ntmps13 ?_
  (have W:=he;repeat' (first|refine aB fun K hK=>?_|refine aC ?_|(refine hK _ _ ?_;clear hK K)|(refine aA ?_ ?_<;>intro hc<;>try exact jz)|refine cp (E1) ?_|refine cp (HG _) ?_|refine al 0 ?_|refine cp (hs) ?_|(refine uf ?_ ?_<;>intro hc<;>try exact jz)|refine aD ?_|exact jI|(clear hK K)));all_goals(try clear W)
  (refine bH [.tmp 6] ?_;try simp only[go_sem])
 have hw:iW p:=hwk he;have hp:j4 p:=hcm he;have hin:=IS inp;have hir:=Rb hi;have hl:(cU inp).length<=1000:=jB;obtain⟨m0,N0,l0,hR0,_,hS0,hb0,hnw⟩:=Fo hw hp [] (cU inp);have hlo0:=hR0.ok.low;refine fm func13 ntmps13 ?_
 (have W:=jA he hlo0;repeat' (first|refine aB fun K hK=>?_|refine aC ?_|(refine hK _ _ ?_;clear hK K)|(refine aA ?_ ?_<;>intro hc<;>try exact jz)|refine cp (E1) ?_|refine cp (HG _) ?_|refine kj 0 ?_|refine cp (hs) ?_|refine cp (Ku _) ?_|refine GF hnw hR0.ok ?_|(refine uf ?_ ?_<;>intro hc<;>try exact jz)|refine aD ?_|exact jI|(clear hK K)));all_goals(try clear W)
 have hKo:=hK;clear hK;refine fi (S:=LS) [(6,1),(12,7),(36,99)] (fun t=>t.i<=n/\bD p (gU p) t.m t.N t.e/\mY p (gU p) (bI p (cU inp) t.i) t.m/\Bd (cU inp).length t.m/\t.N.k=N0.k/\ja p (cU inp) t.i (bI p (cU inp) t.i)) (fun t=>[(12,rI t.i)]) (fun t=>⟨[],tie t.e [(0,.var 29 (gp p))]⟩) (fun t=>n-t.i) ⟨0,m0,N0,l0⟩ ⟨Nat.zero_le _,hR0,hS0,hb0,rfl,Cc hw _⟩ (fj rfl cQ) ?_;rintro⟨i,m,N,e⟩ ⟨hi2,hR,hS,hb,hNk,hv⟩ Kr hKr;simp only at hi2 hR hS hb hNk hv;have hlo:=hR.ok.low;have eM:mP N=mP N0:=by unfold mP;rw[hNk]
 by_cases hlt:i<n
 ·have hv1:=zh hw hl hir hv;have hse:=zv hR (yQ hw.ok (o0 hw.ok) hv.ec.inv hS hv.q.none);rw[yd hw.ok (o0 hw.ok) hv.ec.inv hS hv.q.none,eM]at hse;obtain⟨m',hS',hb',N',l',⟨hR',hk'⟩,hU,hst⟩:=zV hw hl hir (n:=i) jB hv hR hS hb [];rw[eM]at hst;have e2:bI p (cU inp) (i+1)=dn p (bI p (cU inp) i) (cU inp):=rfl;rw[<-e2]at hS' hv1;have hlo':=hR'.ok.low;have eM':mP N'=mP N0:=by unfold mP;rw[hk',hNk]
  have hse':=zv hR' (yQ hw.ok (o0 hw.ok) hv1.ec.inv hS' hv1.q.none);rw[yd hw.ok (o0 hw.ok) hv1.ec.inv hS' hv1.q.none,eM']at hse';have hsm:=LJ (fH p (bI p (cU inp) i)) (fH p (bI p (cU inp) (i+1))) (Pn hw.ok hv.ec.inv);have hne:=O6 hR' (a:=0) (v:=vI 0);rw[eM']at hne;have hms:m'.status=(bI p (cU inp) (i+1)).status:=hS'.eZ.status;rw[hms]at hne;have ht0:=hv.ec.t0;have ht1:=hv.ec.t1;have hi0:=hv1.ec.inv.gK;have hi1:=hv1.q.gw;have f1:(fH p (bI p (cU inp) i)).status=(bI p (cU inp) i).status:=rfl;have f2:(fH p (bI p (cU inp) (i+1))).status=(bI p (cU inp) (i+1)).status:=rfl;have f3:(fH p (bI p (cU inp) i)).time=(bI p (cU inp) i).time:=rfl;have f4:(fH p (bI p (cU inp) (i+1))).time=(bI p (cU inp) (i+1)).time:=rfl;have f5:(fH p (bI p (cU inp) (i+1))).in_=(bI p (cU inp) (i+1)).in_:=rfl;rcases KQ hw jB hir i hv hv1 with⟨c1,c2⟩|⟨c1,c2,c3⟩|⟨c1,c2,c3,c4,c5,c6⟩
  ·rw[c2,decide_eq_true rfl]at hsm;have hne:=hne (by rw[c2];exact c1);rw[c2]at hse' f2 f4 hv1 hS';have g1:(fH p (bI p (cU inp) i)).status=2\/(fH p (bI p (cU inp) i)).status=3:=c1;generalize h2e:bI p (cU inp) i=s1 at*;generalize fH p s1=t1 at*;rcases g1 with g1|g1
   all_goals
    (refine S ?_;try exact jI)
    (have W:=jA ea (jA hlo (jA hlo' (g1)));repeat' (first|refine aB fun K hK=>?_|refine aC ?_|(refine hK _ _ ?_;clear hK K)|(refine aA ?_ ?_<;>intro hc<;>try exact jz)|refine kj 1 ?_|refine kj 2 ?_|refine cT hse ?_|refine cT hse' ?_|refine cT hst ?_|refine o8 hne ?_|refine cp (hsm) ?_|(refine uf ?_ ?_<;>intro hc<;>try exact jz)|refine aD ?_|exact jI|(clear hK K)));all_goals(try clear W)
    refine hKr _ _ ?_;refine Au (tl0:=[(0,.var 29 (gp p))]) 1 hR'.ok ⟨i+1,m',N',l'⟩ ⟨by show i+1<=n;omega,hR',by show mY p (gU p) (bI p (cU inp) (i+1)) m';rw[c2];exact hS',hb',hk'.trans hNk,by show ja p (cU inp) (i+1) (bI p (cU inp) (i+1));rw[c2];exact hv1⟩ (by show n-(i+1)<n-i;omega) Sd rfl rfl ki
  ·have g1:((fH p (bI p (cU inp) (i+1))).status=1)=False:=eq_false c2;have g2:((fH p (bI p (cU inp) i)).status=2)=False:=eq_false fun h=>c1 (.inl h)
   have g3:((fH p (bI p (cU inp) i)).status=3)=False:=eq_false fun h=>c1 (.inr h)
   have g4:(fH p (bI p (cU inp) (i+1))).time=(fH p (bI p (cU inp) i)).time+1:=c3;rw[<-f3]at ht0 ht1;clear hne;generalize decide (fH p (bI p (cU inp) i)=fH p (bI p (cU inp) (i+1)))=bb at hsm;generalize h2e:bI p (cU inp) (i+1)=s2 at*;generalize bI p (cU inp) i=s1 at*;generalize fH p s1=t1 at*;generalize fH p s2=t2 at*
   (refine S ?_;try exact jI)
   (have W:=jA ea (jA hlo (jA hlo' (jA g1 (jA g2 (jA g3 (g4))))));repeat' (first|refine aB fun K hK=>?_|refine aC ?_|(refine hK _ _ ?_;clear hK K)|(refine aA ?_ ?_<;>intro hc<;>try exact jz)|refine kj 1 ?_|refine kj 2 ?_|refine cT hse ?_|refine cT hse' ?_|refine cT hst ?_|(refine⟨rB false,fun h=>absurd h Bool.false_ne_true,?_⟩;refine S ?_)|refine cp (hsm) ?_|(refine uf ?_ ?_<;>intro hc<;>try exact jz)|refine aD ?_|exact jI|(clear hK K)));all_goals(try clear W)
   refine hKr _ _ ?_;refine Au (tl0:=[(0,.var 29 (gp p))]) 1 hR'.ok ⟨i+1,m',N',l'⟩ ⟨by show i+1<=n;omega,hR',by show mY p (gU p) (bI p (cU inp) (i+1)) m';rw[h2e];exact hS',hb',hk'.trans hNk,by show ja p (cU inp) (i+1) (bI p (cU inp) (i+1));rw[h2e];exact hv1⟩ (by show n-(i+1)<n-i;omega) Sd rfl rfl ki
  ·obtain⟨kk,e1,e2,e3,d1,d2,d3,hR3⟩:=Nk hw (inp:=cU inp) (inp':=cU inp++[7]) jF jE (fun x hx=>by
    rcases List.mem_append.1 hx with h|h
    ·exact hir x h
    ·have:x=7:=by simpa using h
     subst this;exact⟨jC,jC⟩) (n:=i+1) jB hv1 hR' hS' hb'
   rw[eM']at d1;have g1:(fH p (bI p (cU inp) (i+1))).status=1:=c2;have g2:((fH p (bI p (cU inp) i)).status=2)=False:=eq_false fun h=>c1 (.inl h)
   have g3:((fH p (bI p (cU inp) i)).status=3)=False:=eq_false fun h=>c1 (.inr h)
   have g4:(fH p (bI p (cU inp) (i+1))).time=(fH p (bI p (cU inp) i)).time:=c3;have g5:((fH p (dn p (bI p (cU inp) (i+1)) (cU inp++[7]))).status=1)=False:=eq_false c4;have g6:(fH p (dn p (bI p (cU inp) (i+1)) (cU inp++[7]))).in_=(fH p (bI p (cU inp) (i+1))).in_+1:=c5;have g7:(fH p (dn p (bI p (cU inp) (i+1)) (cU inp++[7]))).time=(fH p (bI p (cU inp) (i+1))).time+1:=c6;rw[<-f3]at ht0 ht1;rw[<-f5]at hi0 hi1;clear hne;have hlo1:=d1.e2.low;have hvT:∀r0 r1 r2,dv (cR 3) ⟨[],tie e1 [(0,r0),(1,r1),(2,r2),(3,.aL 3 1 (List.map eI (cU inp)++[[.raw (.int .i64 7)]]))]⟩ (.rs 3 ((cU inp).length+1) 1 ((cU inp).length+1)) (bp eI 1 (cU inp++[7])):=fun r0 r1 r2=>dv.row (enc:=eI) (cU inp++[7]) rfl (by show av (tie e1 _) 3=some (.aL 3 1 _);rw[gF,hlo1 3 jC];simp[av,eI,rI]) jE
   have hlo2:=d2.e2.low;have hlo3:=d3.e2.low;generalize decide (fH p (bI p (cU inp) i)=fH p (bI p (cU inp) (i+1)))=bb at hsm;generalize fH p (dn p (bI p (cU inp) (i+1)) (cU inp++[7]))=t3 at*;generalize h2e:bI p (cU inp) (i+1)=s2 at*;generalize bI p (cU inp) i=s1 at*;generalize fH p s1=t1 at*;generalize fH p s2=t2 at*
   (refine S ?_;try exact jI)
   (have W:=jA ea (jA hlo (jA hlo' (jA hlo1 (jA hlo2 (jA hlo3 (jA g1 (jA g2 (jA g3 (jA g4 (jA g5 (jA g6 (g7))))))))))));repeat' (first|(with_reducible refine gR 23 ?_);refine Py 6 ?_|(with_reducible refine Ox 3 ?_)|refine aB fun K hK=>?_|refine aC ?_|(refine hK _ _ ?_;clear hK K)|(refine aA ?_ ?_<;>intro hc<;>try exact jz)|refine J9 (tl0:=[(0,.var 29 (gp p)),(1,.var 72 (iQ t1)),(2,.var 72 (iQ t2))]) 3 d1.e2 [(108,4)] [(112,bp eI 1 (cU inp++[7]))] ?_ (hv:=(by simp only[go_sem];repeat' (first|exact jI|exact Ft _|exact dv.nil _ _|exact dv.lit _ _ _ _ _|exact dv.same _ rfl|(exact dv.same _ jD)|exact hvT _ _ _|refine jA ?_ ?_)))|refine kj 1 ?_|refine kj 2 ?_|refine kj 3 ?_|refine cT hse ?_|refine cT hse' ?_|refine cT hst ?_|refine cT d1 ?_|refine cT d2 ?_|refine cT d3 ?_|(refine⟨rB false,fun h=>absurd h Bool.false_ne_true,?_⟩;refine S ?_)|refine cp (hsm) ?_|(refine uf ?_ ?_<;>intro hc<;>try exact jz)|refine aD ?_|exact jI|(clear hK K)));all_goals(try clear W)
   refine hKr _ _ ?_;refine Au (tl0:=[(0,.var 29 (gp p))]) 1 hR3.ok ⟨i+1,m',N',e3⟩ ⟨by show i+1<=n;omega,hR3,by show mY p (gU p) (bI p (cU inp) (i+1)) m';rw[h2e];exact hS',hb',hk'.trans hNk,by show ja p (cU inp) (i+1) (bI p (cU inp) (i+1));rw[h2e];exact hv1⟩ (by show n-(i+1)<n-i;omega) Sd rfl rfl ki
 ·have hin:i=n:=jB;subst hin
  (refine S ?_;try exact jI)
  (have W:=jA ea hlo;repeat' (first|refine aB fun K hK=>?_|refine aC ?_|(refine hK _ _ ?_;clear hK K)|(refine aA ?_ ?_<;>intro hc<;>try exact jz)|refine hKo _ _ ?_|(refine uf ?_ ?_<;>intro hc<;>try exact jz)|refine aD ?_|exact jI|(clear hK K)));all_goals(try clear W)
  exact H5 [.tmp 6] rfl (.same _ rfl)
end Go.Proofs.YtfkgcobaheegbaaGreatDoor

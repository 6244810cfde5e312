/- Lemmas. No conditions. -/
import Derived.Test.YtfkgcobaheegbaaGreatDoorP5
set_option linter.all false
set_option maxHeartbeats 8000000
set_option maxRecDepth 10000
namespace Go.Proofs.YtfkgcobaheegbaaGreatDoor
open Go Go.Gd Tryz
def BZ(n:Nat):Prop:=∀r:Rd,r.Inv->4*r.rem+1<=n->aj prog 149 [pR] (ce r) (fun v l=>v=rI (fO n r).2/\l=ce (fO n r).1)
def zD(n:Nat):Prop:=∀r:Rd,r.Inv->r.e=0->4*r.rem+2<=n->aj prog 214 [pR] (ce r) (fun v l=>v=rI (nH n r).2/\l=ce (nH n r).1)
theorem Jj(n:Nat)(hs:∀m,m<=n->zD m):BZ (n+1):=by
 intro r h hn;by_cases hx:r.is (⟨#[123]⟩:ByteArray)=true
 ·have he:=(Rd.aT hx).1
  have hd:=(Rd.bF h he).1;have s1:=Rd.aL hd (⟨#[123]⟩:ByteArray);have h1:=s1.inv hd;have s2:=(sq n).2.1 _ [] h1;have h2:=s2.inv h1;have s3:=Rd.aL h2 (⟨#[125]⟩:ByteArray);have h3:=s3.inv h2;have h4:=(Rd.fc h he ((s1.trans s2).trans s3)).inv h;have h3l:=h3.ou;have h3h:=h3.pi;have hr:=(Rd.gf h hx).1;have hr0:r.rem<=2000:=by
   have:=h.pos;have:=h.len
   unfold Rd.rem;split<;>omega
  rw[fO,if_pos hx];refine aU func149 ntmps149 ?_
  (refine S ?_;try exact jI)
  (have W:=hx;repeat' (first|refine aA fun K hK=>?_|refine aC ?_|(refine hK _ _ ?_;clear hK K)|(refine aB ?_ ?_<;>intro hc<;>try exact jz)|refine cm (gA r (bw h)) ?_|refine cm (gb r _ (bw h)) ?_|refine cm (tL r (bw h)) ?_|refine cm (iz r.down _ (bw hd)) ?_|refine az ?_|exact jI|(clear hK K)));all_goals(try clear W)
  have hKo:=hK;clear hK;refine iS (dz.nil 2 5 3 (sz:=1) rfl jC (Or.inr ⟨_,_,_,rfl,rfl⟩)) ?_
  (refine S ?_;try exact jI)
  refine fm (S:=Nat×Rd×List Int) [(5,3),(21,14)] (fun s=>s.2.1.Inv/\4*s.2.1.rem+3<=s.1/\s.1<=n/\s.2.2.length+s.2.1.rem<=2000/\l9 s.1 s.2.1 s.2.2=l9 n (r.down.aq (⟨#[123]⟩:ByteArray)) []) (fun s=>[(5,.rs 2 s.2.2.length 1 s.2.2.length)]) (fun s=>⟨[0,1],ce s.2.1++[(2,.aO 3 1 (s.2.2.map eI))]⟩) (fun s=>s.1) (n,r.down.aq (⟨#[123]⟩:ByteArray),[]) ⟨h1,jJ,Nat.le_refl _,by(try simp only[List.length_nil]);omega,rfl⟩ (fi rfl cX) ?_;rintro⟨m,q,L⟩ ⟨hq,hm1,hm2,hm3,hA⟩ Kr hKr;simp only at hq hm1 hm2 hm3 hA;have hqi:=hq.lt;have hqp:=hq.pos;have hql:=hq.len;obtain⟨m,rfl⟩:∃k,m=k+1:=⟨m-1,jB⟩;rw[l9]at hA;by_cases hc1:q.e=0/\q.is (⟨#[125]⟩:ByteArray)=false
  ·rw[if_pos hc1]at hA
   obtain⟨hqe,hqc⟩:=hc1;obtain⟨t1,t2⟩:=(sq m).2.2 q hq hqe jB;have hj:=t1.inv hq
   (refine S ?_;try exact jI)
   (have W:=jA hqe hqc;repeat' (first|refine aA fun K hK=>?_|refine aC ?_|(refine hK _ _ ?_;clear hK K)|(refine aB ?_ ?_<;>intro hc<;>try exact jz)|refine cm (gb q _ (bw hq)) ?_|refine cm (hs m jB q hq hqe jB) ?_|refine az ?_|exact jI|(clear hK K)));all_goals(try clear W)
   refine hKr _ _ (fw (m,(nH m q).1,L++[(nH m q).2]) ⟨hj,jJ,jJ,by(try simp only[List.length_append,List.length_cons,List.length_nil]);omega,hA⟩ jJ (by simp only[go_sem,ce,gL,List.map_append,List.map_cons,List.map_nil,List.cons_append,List.nil_append];(try rfl)) cX)
  ·rw[if_neg hc1]at hA
   have e1:q=(l9 n (r.down.aq (⟨#[123]⟩:ByteArray)) []).1:=by rw[<-hA]
   have e2:L=(l9 n (r.down.aq (⟨#[123]⟩:ByteArray)) []).2:=by rw[<-hA]
   rw[<-e1]at h3 h4 h3l h3h
   (refine S ?_;try exact jI)
   (repeat' (first|refine aA fun K hK=>?_|refine aC ?_|(refine hK _ _ ?_;clear hK K)|(refine aB ?_ ?_<;>intro hc<;>try exact jz)|refine cm (gb q _ (bw hq)) ?_|refine az ?_|exact jI|(clear hK K)))
   all_goals first|(exact absurd ⟨by assumption,by assumption⟩ hc1)|skip
   all_goals refine hKo _ _ ?_
   all_goals refine CC [2] 5 (bt eI 1 L) Sd Sd kY ?_
   all_goals(
    (refine S ?_;try exact jI)
    (repeat' (first|refine aA fun K hK=>?_|refine aC ?_|(refine hK _ _ ?_;clear hK K)|(refine aB ?_ ?_<;>intro hc<;>try exact jz)|refine cm (iz q _ (bw hq)) ?_|refine cm (wl (q.aq (⟨#[125]⟩:ByteArray)).up _ _ _ _ L (bw h4)) ?_|refine az ?_|exact jI|(clear hK K)))
    (refine bV [.tmp 2] ?_ ?_<;>(try simp only[go_sem]))
    all_goals simp only[<-e1,<-e2])
 ·rw[fO,if_neg hx]
  have hx':r.is (⟨#[123]⟩:ByteArray)=false:=by simpa using hx
  refine aU func149 ntmps149 ?_
  (refine S ?_;try exact jI)
  (have W:=hx';repeat' (first|refine aA fun K hK=>?_|refine aC ?_|(refine hK _ _ ?_;clear hK K)|(refine aB ?_ ?_<;>intro hc<;>try exact jz)|refine cm (gA r (bw h)) ?_|refine cm (gb r _ (bw h)) ?_|refine cm (te r _ (bw h)) ?_|refine az ?_|exact jI|(clear hK K)));all_goals(try clear W)
  (refine bV [.tmp 2] ?_ ?_<;>(try simp only[go_sem]))
theorem KS(n:Nat)(hb:BZ n):zD (n+1):=by
 intro r h he hn;have hri:=h.lt;have hrp:=h.pos;have hrl:=h.len;have word:∀w:ByteArray,w≠⟨#[]⟩->r.word=w->r.inc.Inv/\r.inc.rem+1<=r.rem:=fun w h0 hw=>by
  have hk:=Rd.du (Rd.gl hw h0) jC;exact⟨(Rd.bj h hk.2).1.inv h,Rd.cO h hk⟩
 rw[nH];by_cases w1:r.word=(⟨#[108,101,116]⟩:ByteArray)
 ·rw[if_pos w1]
  have w1':=eq_true w1;obtain⟨hi,hr⟩:=word _ jC w1;have h1:=(Rd.cZ hi).inv hi;have h2:=(Rd.aL h1 (⟨#[61]⟩:ByteArray)).inv h1;have h3:=(yM h2).inv h2;have h4:=(Rd.aL h3 (⟨#[59]⟩:ByteArray)).inv h3;refine aU func214 ntmps214 ?_
  (refine S ?_;try exact jI)
  (have W:=w1';repeat' (first|refine aA fun K hK=>?_|refine aC ?_|(refine hK _ _ ?_;clear hK K)|(refine aB ?_ ?_<;>intro hc<;>try exact jz)|refine cm (gA r (bw h)) ?_|refine cm (qz r (bw h)) ?_|refine cm (uo r.inc (bw hi)) ?_|refine cm (iz r.inc.name.1 _ (bw h1)) ?_|refine cm (DQ h2) ?_|refine cm (iz (ld (r.inc.name.1.aq (⟨#[61]⟩:ByteArray))).1 _ (bw h3)) ?_|refine cm (kM ((ld (r.inc.name.1.aq (⟨#[61]⟩:ByteArray))).1.aq (⟨#[59]⟩:ByteArray)) _ _ _ _ [(ld (r.inc.name.1.aq (⟨#[61]⟩:ByteArray))).2] _ gq.sl (bw h4)) ?_|refine az ?_|exact jI|(clear hK K)));all_goals(try clear W)
  (refine bV [.tmp 2] ?_ ?_<;>(try simp only[go_sem]))
 rw[if_neg w1];by_cases w2:r.word=(⟨#[112,114,105,110,116]⟩:ByteArray)
 ·rw[if_pos w2]
  have w2':=eq_true w2;obtain⟨hi,hr⟩:=word _ jC w2;have h1:=(ju hi).inv hi;have h2:=(Rd.aL h1 (⟨#[59]⟩:ByteArray)).inv h1;refine aU func214 ntmps214 ?_
  (refine S ?_;try exact jI)
  (have W:=jA w1 (w2');repeat' (first|refine aA fun K hK=>?_|refine aC ?_|(refine hK _ _ ?_;clear hK K)|(refine aB ?_ ?_<;>intro hc<;>try exact jz)|refine cm (gA r (bw h)) ?_|refine cm (qz r (bw h)) ?_|refine cm (pO hi) ?_|refine cm (iz (cL r.inc).1 _ (bw h1)) ?_|refine cm (kM ((cL r.inc).1.aq (⟨#[59]⟩:ByteArray)) _ _ _ _ [(cL r.inc).2] _ gq.sl (bw h2)) ?_|refine az ?_|exact jI|(clear hK K)));all_goals(try clear W)
  (refine bV [.tmp 2] ?_ ?_<;>(try simp only[go_sem]))
 rw[if_neg w2];by_cases w3:r.word=(⟨#[119,104,105,108,101]⟩:ByteArray)
 ·rw[if_pos w3]
  have w3':=eq_true w3;obtain⟨hi,hr⟩:=word _ jC w3;have h1:=(ju hi).inv hi;have hr1:=(ju hi).rem;have h2:=((sq n).1 _ h1).inv h1;refine aU func214 ntmps214 ?_
  (refine S ?_;try exact jI)
  (have W:=jA w1 (jA w2 (w3'));repeat' (first|refine aA fun K hK=>?_|refine aC ?_|(refine hK _ _ ?_;clear hK K)|(refine aB ?_ ?_<;>intro hc<;>try exact jz)|refine cm (gA r (bw h)) ?_|refine cm (qz r (bw h)) ?_|refine cm (pO hi) ?_|refine cm (hb _ h1 jB) ?_|refine cm (kM (fO n (cL r.inc).1).1 _ _ _ _ [(cL r.inc).2,(fO n (cL r.inc).1).2] _ gq.sl (bw h2)) ?_|refine az ?_|exact jI|(clear hK K)));all_goals(try clear W)
  (refine bV [.tmp 2] ?_ ?_<;>(try simp only[go_sem]))
 rw[if_neg w3];by_cases w4:r.word=(⟨#[105,102]⟩:ByteArray)
 ·rw[if_pos w4]
  have w4':=eq_true w4;obtain⟨hi,hr⟩:=word _ jC w4;have h1:=(ju hi).inv hi;have hr1:=(ju hi).rem;have s2:=(sq n).1 _ h1;have h2:=s2.inv h1;have hr2:=s2.rem;have h2i:=h2.lt;have h2p:=h2.pos;have h2l:=h2.len;by_cases hx:(fO n (cL r.inc).1).1.is (⟨#[101,108,115,101]⟩:ByteArray)=true
  ·rw[if_pos hx]
   have hk:=Rd.aT hx;have h3:=(Rd.bj h2 hk.2).1.inv h2;have hr3:=Rd.cO h2 hk;have h4:=((sq n).1 _ h3).inv h3;refine aU func214 ntmps214 ?_
   (refine S ?_;try exact jI)
   (have W:=jA w1 (jA w2 (jA w3 (jA w4' (hx))));repeat' (first|refine ES (id:=31) [2] [(13,135)] [(12,bt eI 1 [(cL r.inc).2,(fO n (cL r.inc).1).2,(fO n (fO n (cL r.inc).1).1.inc).2])] ?_|refine aA fun K hK=>?_|refine aC ?_|(refine hK _ _ ?_;clear hK K)|(refine aB ?_ ?_<;>intro hc<;>try exact jz)|refine cm (gA r (bw h)) ?_|refine cm (qz r (bw h)) ?_|refine cm (pO hi) ?_|refine cm (hb _ h1 jB) ?_|refine cm (gb (fO n (cL r.inc).1).1 _ (bw h2)) ?_|refine cm (hb _ h3 jB) ?_|refine cm (wl (fO n (fO n (cL r.inc).1).1.inc).1 _ _ _ _ [(cL r.inc).2,(fO n (cL r.inc).1).2,(fO n (fO n (cL r.inc).1).1.inc).2] (bw h4)) ?_|refine az ?_|exact jI|(clear hK K)));all_goals(try clear W)
   (refine bV [.tmp 2] ?_ ?_<;>(try simp only[go_sem]))
  ·rw[if_neg hx]
   have hx':(fO n (cL r.inc).1).1.is (⟨#[101,108,115,101]⟩:ByteArray)=false:=by simpa using hx
   refine aU func214 ntmps214 ?_
   (refine S ?_;try exact jI)
   (have W:=jA w1 (jA w2 (jA w3 (jA w4' (hx'))));repeat' (first|refine aA fun K hK=>?_|refine aC ?_|(refine hK _ _ ?_;clear hK K)|(refine aB ?_ ?_<;>intro hc<;>try exact jz)|refine cm (gA r (bw h)) ?_|refine cm (qz r (bw h)) ?_|refine cm (pO hi) ?_|refine cm (hb _ h1 jB) ?_|refine cm (gb (fO n (cL r.inc).1).1 _ (bw h2)) ?_|refine cm (kM (fO n (cL r.inc).1).1 _ _ _ _ [(cL r.inc).2,(fO n (cL r.inc).1).2] _ gq.sl (bw h2)) ?_|refine az ?_|exact jI|(clear hK K)));all_goals(try clear W)
   (refine bV [.tmp 2] ?_ ?_<;>(try simp only[go_sem]))
 rw[if_neg w4];by_cases w5:r.word=(⟨#[114,101,116,117,114,110]⟩:ByteArray)
 ·rw[if_pos w5]
  have w5':=eq_true w5;obtain⟨hi,hr⟩:=word _ jC w5;by_cases hx:r.inc.is (⟨#[59]⟩:ByteArray)=true
  ·rw[if_pos hx]
   have h1:=(Rd.aL hi (⟨#[59]⟩:ByteArray)).inv hi;refine aU func214 ntmps214 ?_
   (refine S ?_;try exact jI)
   (have W:=jA w1 (jA w2 (jA w3 (jA w4 (jA w5' (hx)))));repeat' (first|refine aA fun K hK=>?_|refine aC ?_|(refine hK _ _ ?_;clear hK K)|(refine aB ?_ ?_<;>intro hc<;>try exact jz)|refine cm (gA r (bw h)) ?_|refine cm (qz r (bw h)) ?_|refine cm (gb r.inc _ (bw hi)) ?_|refine cm (iz r.inc _ (bw hi)) ?_|refine cm (kM (r.inc.aq (⟨#[59]⟩:ByteArray)) _ _ _ _ [] _ gq.sl (bw h1)) ?_|refine az ?_|exact jI|(clear hK K)));all_goals(try clear W)
   (refine bV [.tmp 2] ?_ ?_<;>(try simp only[go_sem]))
  ·rw[if_neg hx]
   have hx':r.inc.is (⟨#[59]⟩:ByteArray)=false:=by simpa using hx
   have h1:=(ju hi).inv hi;have h2:=(Rd.aL h1 (⟨#[59]⟩:ByteArray)).inv h1;refine aU func214 ntmps214 ?_
   (refine S ?_;try exact jI)
   (have W:=jA w1 (jA w2 (jA w3 (jA w4 (jA w5' (hx')))));repeat' (first|refine ES (id:=40) [2] [(16,132)] [(15,bt eI 1 [(cL r.inc).2])] ?_|refine aA fun K hK=>?_|refine aC ?_|(refine hK _ _ ?_;clear hK K)|(refine aB ?_ ?_<;>intro hc<;>try exact jz)|refine cm (gA r (bw h)) ?_|refine cm (qz r (bw h)) ?_|refine cm (gb r.inc _ (bw hi)) ?_|refine cm (pO hi) ?_|refine cm (iz (cL r.inc).1 _ (bw h1)) ?_|refine cm (wl ((cL r.inc).1.aq (⟨#[59]⟩:ByteArray)) _ _ _ _ [(cL r.inc).2] (bw h2)) ?_|refine az ?_|exact jI|(clear hK K)));all_goals(try clear W)
   (refine bV [.tmp 2] ?_ ?_<;>(try simp only[go_sem]))
 rw[if_neg w5];refine aU func214 ntmps214 ?_
 (refine S ?_;try exact jI)
 (have W:=jA w1 (jA w2 (jA w3 (jA w4 (w5))));repeat' (first|refine aA fun K hK=>?_|refine aC ?_|(refine hK _ _ ?_;clear hK K)|(refine aB ?_ ?_<;>intro hc<;>try exact jz)|refine cm (gA r (bw h)) ?_|refine cm (qz r (bw h)) ?_|refine cm (J2 h he r.cu) ?_|refine az ?_|exact jI|(clear hK K)));all_goals(try clear W)
 (refine bV [.tmp 2] ?_ ?_<;>(try simp only[go_sem]))
end Go.Proofs.YtfkgcobaheegbaaGreatDoor
namespace Go.Gd
open Go
theorem AJ{w:NW}{H:Hp}(r:aP w H){j:Nat}{t:TypeId}{cs cs':List AV}(hj:H.get j=some (.var t cs))(hl:cs'.length=cs.length)(h:∀(k:Nat) a a' v,cs[k]?=some a->cs'[k]?=some a'->av w a v->av w a' v):aP w (H.put j (.var t cs'))/\Ext w H w (H.put j (.var t cs')):=by
 have ex:Ext w H w (H.put j (.var t cs')):={ ExtQ.refl _ w with base:=rfl };refine⟨{ rows:=fun i s hi=>?_,dF:=fun i m z hz=>?_,inj:=r.inj,own:=r.own,fin:=r.fin,ct:=r.ct.aX ex.toKeep },ex⟩
 ·rw[Hp.bf]at hi
  split at hi
  ·rename_i e;subst e;cases hi
   obtain⟨h1,z,h2,h3⟩:=r.rows _ _ hj;refine⟨trivial,z,h2,?_⟩;cases z with
   |nil=>obtain⟨e,sz,h4⟩:=h3;cases h4
   |«at» b u s=>
    obtain⟨g1,cur,g2,⟨g3,g4⟩,g5⟩:=h3;refine⟨g1,cur,g2,⟨g3,by show cs'.length<=u;rw[hl];exact g4⟩,fun k a v ha hv=>?_⟩;have ha:cs'[k]?=some a:=ha;have hk:k<cs.length:=by rw[<-hl];exact(List.getElem?_eq_some_iff.1 ha).1
    exact h k cs[k] a v (List.getElem?_eq_getElem hk) ha (g5 k cs[k] v (List.getElem?_eq_getElem hk) hv)
  ·exact r.rows i s hi
 ·obtain⟨s,h1,h2⟩:=r.dF i m z hz
  rw[Hp.bf];split
  ·rename_i e;subst e
   rw[hj]at h1;cases h1;exact⟨_,rfl,h2⟩
  ·exact⟨s,h1,h2⟩
theorem dz.fH{F:List AV}{H:Hp}(i j k:Nat)(e:TypeId)(sz:Nat){t:TypeId}{cs:List AV}(hi:H.get i=none)(h0:0<sz)(hj:H.get j=some (.var t cs))(hk:cs[k]?=some (.raw (.slice none 0 0))):dz F H F ((H.put i (.aO e sz [])).put j (.var t (cs.set k (.rs i 0 sz 0)))):=fun w tm h1 h2=>by
 obtain⟨a,b⟩:=wV h1 hi e h0;have hij:j≠i:=fun e=>by subst e;rw[hi]at hj;cases hj
 obtain⟨a',b'⟩:=AJ (cs':=cs.set k (.rs i 0 sz 0)) a (j:=j) (t:=t) (cs:=cs) (by rw[Hp.bf,if_neg hij];exact hj) jE fun n x x' v hx hx' hv=>by
  rw[List.getElem?_set]at hx';by_cases hn:k=n
  ·subst hn
   rw[if_pos rfl]at hx';split at hx'
   ·cases hx'
    rw[hk]at hx;cases hx;cases hv;exact .iq _ _ _ _ (NW.bY _ _ _ _)
   ·cases hx'
  ·rw[if_neg hn,hx]at hx'
   cases hx';exact hv
 exact⟨w.name i 0 .nil,rfl,a',h2.ext b,(b.trans b').qB⟩
end Go.Gd
namespace Go.Proofs.YtfkgcobaheegbaaGreatDoor
open Go Go.Gd Tryz
theorem F2:∀m n,n<=m->BZ n/\zD n
 |0,0,_=>⟨fun r h hn=>by omega,fun r h he hn=>by omega⟩
 |m+1,0,_=>⟨fun r h hn=>jB,fun r h he hn=>jB⟩
 |m+1,n+1,hm=>by
  have ih:=fun k (hk:k<=n)=>F2 m k jB
  exact⟨Jj n fun k hk=>(ih k hk).2,KS n (ih n jl).1⟩
theorem Gh{r:Rd}(h:r.Inv):aj prog 149 [pR] (ce r) (fun v l=>v=rI (n6 r).2/\l=ce (n6 r).1):=(F2 _ _ jl).1 r h jB
theorem Lu{r:Rd}(h:r.Inv):aj prog 95 [pR] (ce r) (fun v l=>v=.agg (fU (mc r).2)/\l=ce (mc r).1):=by
 have h1:=(pV h).1.inv h;have h2:=(pV h).2.1.inv h;have h3:=(pV h).2.2.1.inv h;have h4:=(Av h).inv h1;have h5:=(yH h).inv h1;have h6:=(xL h).inv h1;have h7:=(zv h6).inv h6;have hr0:(mo r).rem<=2000:=by
  have:=h3.pos;have:=h3.len
  unfold Rd.rem;split<;>omega
 have hm:aj prog 145 [pR,rS (⟨#[40]⟩:ByteArray)] (ce (r.aq (⟨#[102,110]⟩:ByteArray)).name.1) (fun v l=>v=.bg []/\l=ce (mo r)):=iz (r.aq (⟨#[102,110]⟩:ByteArray)).name.1 _ (bw h2);refine aU func95 ntmps95 ?_
 (refine S ?_;try exact jI)
 (repeat' (first|refine aA fun K hK=>?_|refine aC ?_|(refine hK _ _ ?_;clear hK K)|(refine aB ?_ ?_<;>intro hc<;>try exact jz)|refine cm (gA r (bw h)) ?_|refine cm (hm) ?_|refine cm (iz r _ (bw h)) ?_|refine cm (uo (r.aq (⟨#[102,110]⟩:ByteArray)) (bw h1)) ?_|refine cm (gb (mo r) _ (bw h3)) ?_|refine az ?_|exact jI|(clear hK K)))
 have hKo:=hK;clear hK;refine iS (dz.fH 4 3 2 111 2 rfl jC rfl rfl) ?_
 (refine S ?_;try exact jI)
 refine fm (S:=Nat×Bool×Rd×List bD) [(5,3),(30,23)] (fun s=>s.2.2.1.Inv/\(s.2.1=true->s.2.2.1.rem+2<=s.1)/\1<=s.1/\s.2.2.2.length+s.1<=5000/\ma s.1 s.2.1 s.2.2.1 s.2.2.2=su r) (fun s=>[(5,rB s.2.1)]) (fun s=>⟨[0,1],ce s.2.2.1++[(2,.var 100 [rS ⟨#[]⟩,rI 0,.raw (.slice none 0 0),rI 0,rI 0]),(3,.var 100 [rS (r.aq (⟨#[102,110]⟩:ByteArray)).name.2,rI r.cu,.rs 4 s.2.2.2.length 2 s.2.2.2.length,rI 0,rI 0]),(4,.aO 111 2 (s.2.2.2.map oe))]⟩) (fun s=>s.1) ((mo r).rem+2,more (mo r),mo r,[]) ⟨h3,fun _=>Nat.le_refl _,jJ,by(try simp only[List.length_nil]);omega,rfl⟩ (fi rfl (by simp only[go_sem,jt,Nat.reduceAdd,AV.raw.injEq,Value.int.injEq,Value.slice.injEq,Value.pointer.injEq,AV.rs.injEq,more,List.length_nil];try omega)) ?_;rintro⟨n,b,q,L⟩ ⟨hq,hn1,hn2,hn3,hA⟩ Kr hKr;simp only at hq hn1 hn2 hn3 hA;have hqi:=hq.lt;have hqp:=hq.pos;have hql:=hq.len;obtain⟨n,rfl⟩:∃k,n=k+1:=⟨n-1,jB⟩;cases b with
 |false=>
  rw[ma]at hA;have e1:q=(su r).1:=by rw[<-hA]
  have e2:L=(su r).2:=by rw[<-hA]
  have hmm:aj prog 145 [pR,rS (⟨#[41]⟩:ByteArray)] (ce q) (fun v l=>v=.bg []/\l=ce (kW r)):=by rw[e1];exact iz (su r).1 _ (bw h4)
  by_cases hx:(kW r).is (⟨#[123]⟩:ByteArray)=true
  ·have ed:lT r=(kW r,0):=by unfold lT;rw[if_pos hx]
   have ef:mc r=((n6 (kW r)).1,⟨(r.aq (⟨#[102,110]⟩:ByteArray)).name.2,r.cu,L,0,(n6 (kW r)).2⟩):=by unfold mc;rw[ed,<-e2]
   rw[ef]at hKo
   (refine S ?_;try exact jI)
   (have W:=hx;repeat' (first|refine aA fun K hK=>?_|refine aC ?_|(refine hK _ _ ?_;clear hK K)|(refine aB ?_ ?_<;>intro hc<;>try exact jz)|refine hKo _ _ ?_|refine cm (hmm) ?_|refine cm (gb (kW r) _ (bw h5)) ?_|refine cm (Gh h5) ?_|refine az ?_|exact jI|(clear hK K)));all_goals(try clear W)
   refine lG [.cell 2 100] ?_;refine bZ.agg (ds:=[rS _,rI _,bt oe 2 L,rI _,rI _]) ?_;exact jA (.same _ rfl) (jA (.same _ rfl) (jA (dU.row (enc:=oe) L rfl rfl jE) (jA (.same _ rfl) (jA (.same _ rfl) trivial))))
  ·have hx':(kW r).is (⟨#[123]⟩:ByteArray)=false:=by simpa using hx
   have ed:lT r=iu (kW r):=by unfold lT;rw[if_neg hx]
   rw[ed]at h6;have ef:mc r=((n6 (iu (kW r)).1).1,⟨(r.aq (⟨#[102,110]⟩:ByteArray)).name.2,r.cu,L,(iu (kW r)).2,(n6 (iu (kW r)).1).2⟩):=by unfold mc;rw[ed,<-e2]
   rw[ef]at hKo
   (refine S ?_;try exact jI)
   (have W:=hx';repeat' (first|refine aA fun K hK=>?_|refine aC ?_|(refine hK _ _ ?_;clear hK K)|(refine aB ?_ ?_<;>intro hc<;>try exact jz)|refine hKo _ _ ?_|refine cm (hmm) ?_|refine cm (gb (kW r) _ (bw h5)) ?_|refine cm (C6 h5) ?_|refine cm (Gh h6) ?_|refine az ?_|exact jI|(clear hK K)));all_goals(try clear W)
   refine lG [.cell 2 100] ?_;refine bZ.agg (ds:=[rS _,rI _,bt oe 2 L,rI _,rI _]) ?_;exact jA (.same _ rfl) (jA (.same _ rfl) (jA (dU.row (enc:=oe) L rfl rfl jE) (jA (.same _ rfl) (jA (.same _ rfl) trivial))))
 |true=>
  have s1:=Hq hq;have hx:=s1.inv hq;have hr1:=s1.rem;have hxi:=hx.lt;have hxp:=hx.pos;have hxl:=hx.len;have hn1:=hn1 rfl;have hq1:=(Rd.cZ hq).inv hq;have hty:aj prog 148 [pR] (ce q.name.1) (fun v l=>v=rI (iu q.name.1).2/\l=ce (pC q)):=C6 hq1;rw[ma]at hA
  (refine S ?_;try exact jI)
  (repeat' (first|refine aA fun K hK=>?_|refine aC ?_|(refine hK _ _ ?_;clear hK K)|(refine aB ?_ ?_<;>intro hc<;>try exact jz)|refine cm (uo q (bw hq)) ?_|refine cm (hty) ?_|refine cm (gb (pC q) _ (bw hx)) ?_|refine az ?_|exact jI|(clear hK K)))
  ·rw[if_pos hc]at hA
   have hk:=Rd.aT hc;have hr2:=Rd.cO hx hk;refine hKr _ _ (fw (n,true,(pC q).inc,L++[⟨q.name.2,(iu q.name.1).2⟩]) ⟨(Rd.bj hx hk.2).1.inv hx,fun _=>jJ,jJ,by(try simp only[List.length_append,List.length_cons,List.length_nil]);omega,hA⟩ jJ (by simp only[go_sem,ce,gL,List.map_append,List.map_cons,List.map_nil,List.cons_append,List.nil_append,List.length_append,List.length_cons,List.length_nil,Nat.reduceAdd];(try rfl)) (by simp only[go_sem,jt,Nat.reduceAdd,AV.raw.injEq,Value.int.injEq,Value.slice.injEq,Value.pointer.injEq,AV.rs.injEq,hc,List.length_append,List.length_cons,List.length_nil];try omega))
  ·rw[if_neg (by rw[hc];decide)]at hA
   refine hKr _ _ (fw (n,false,pC q,L++[⟨q.name.2,(iu q.name.1).2⟩]) ⟨hx,(by intro h;cases h),jJ,by(try simp only[List.length_append,List.length_cons,List.length_nil]);omega,?_⟩ jJ (by simp only[go_sem,ce,gL,List.map_append,List.map_cons,List.map_nil,List.cons_append,List.nil_append,List.length_append,List.length_cons,List.length_nil,Nat.reduceAdd];(try rfl)) (by simp only[go_sem,jt,Nat.reduceAdd,AV.raw.injEq,Value.int.injEq,Value.slice.injEq,Value.pointer.injEq,AV.rs.injEq,hc,List.length_append,List.length_cons,List.length_nil];try omega));rw[<-hA];obtain⟨n,rfl⟩:∃k,n=k+1:=⟨n-1,jB⟩;rw[ma]
variable{k:Nat}
theorem Pj{α:Type}[Inhabited α](p:α->Bool)(l:List α)(h:k<l.length):(l.take (k+1)).any p=((l.take k).any p || p (nth l k)):=by
 rw[List.take_succ_eq_append_getElem h,List.any_append,dN h];simp
def sy(t:List bh)(L:List aW)(k:Nat):Bool:=decide (300<(t.length:Int)) || decide (6<(L.length:Int)) || (L.take k).any fun f=>decide (3<(f.params.length:Int))
theorem Mm(t:List bh)(L:List aW)(h:k<L.length):sy t L (k+1)=(sy t L k || decide (3<((nth L k).params.length:Int))):=by
 unfold sy;rw[Pj _ _ h];simp only[Bool.or_assoc]
theorem IV(t:List bh)(L:List aW)(h:L.length<=k):sy t L k=tv t L:=by
 unfold sy tv;rw[List.take_of_length_le h];have e1:∀n:Nat,decide (300<(n:Int))=decide (300<n):=fun n=>decide_eq_decide.2 jB
 have e2:∀n:Nat,decide (6<(n:Int))=decide (6<n):=fun n=>decide_eq_decide.2 jB
 have e3:∀n:Nat,decide (3<(n:Int))=decide (3<n):=fun n=>decide_eq_decide.2 jB
 simp only[e1,e2,e3]
theorem M5(s:ByteArray)(hs:s.size<=1000000):dV prog 53 [rS s] (.bg [.agg (k8 (gu s).1),rI (gu s).2.1,rI (gu s).2.2]):=by
 by_cases he:(j4 s).2.2=0
 ·have hi:=CL he
  have hr0:(oh s).rem<=2000:=by
   have:=hi.pos;have:=hi.len
   unfold Rd.rem;split<;>omega
  refine eQ func53 ntmps53 ?_
  (have W:=he;repeat' (first|refine aA fun K hK=>?_|refine aC ?_|(refine hK _ _ ?_;clear hK K)|(refine aB ?_ ?_<;>intro hc<;>try exact jz)|refine cp (F1 s hs) ?_|(refine x9 (t:=27) 10 (by simp only[go_sem];rfl) rfl ?_;refine S ?_)|(refine yq 0 jD rfl ?_;refine S ?_)|refine az ?_|exact jI|(clear hK K)));all_goals(try clear W)
  have hKo:=hK;clear hK;refine iS (dz.fH 1 0 3 53 5 rfl jC rfl rfl) ?_
  (refine S ?_;try exact jI)
  refine iS (dz.fH 12 11 1 100 5 rfl jC rfl rfl) ?_
  (refine S ?_;try exact jI)
  refine fm (S:=Nat×Rd×List aW) [(10,2),(30,16)] (fun p=>p.2.1.Inv/\p.2.1.rem+1<=p.1/\p.2.2.length+p.1<=5000/\p7 p.1 p.2.1 p.2.2=nC s) (fun _=>[]) (fun p=>⟨[],[(10,.var 27 [.raw (.slice none 0 0),.raw (.slice none 0 0)]),(0,.var 167 (gL p.2.1)),(11,.var 27 [.raw (.slice none 0 0),.rs 12 p.2.2.length 5 p.2.2.length]),(1,.aO 53 5 (p.2.1.nodes.map er)),(12,.aO 100 5 (p.2.2.map fU))]⟩) (fun p=>p.1) ((oh s).rem+1,oh s,[]) ⟨hi,Nat.le_refl _,by(try simp only[List.length_nil]);omega,rfl⟩ (fi rfl cX) ?_;rintro⟨n,q,L⟩ ⟨hq,hn1,hn2,hA⟩ Kr hKr;simp only at hq hn1 hn2 hA;have hqi:=hq.lt;have hqp:=hq.pos;have hql:=hq.len;obtain⟨n,rfl⟩:∃k,n=k+1:=⟨n-1,jB⟩;rw[p7]at hA;by_cases hc1:q.e=0/\q.kind 0=false
  ·rw[if_pos hc1]at hA
   obtain⟨hqe,hqc⟩:=hc1;obtain⟨t1,t2⟩:=Gx hq;have t2:=t2 hqe;have hj:=t1.inv hq
   (refine S ?_;try exact jI)
   (have W:=jA hqe hqc;repeat' (first|refine aA fun K hK=>?_|refine aC ?_|(refine hK _ _ ?_;clear hK K)|(refine aB ?_ ?_<;>intro hc<;>try exact jz)|refine cm (vO q _ (bw hq)) ?_|refine cm (Lu hq) ?_|refine az ?_|exact jI|(clear hK K)));all_goals(try clear W)
   refine hKr _ _ (Bf [13] (n,(mc q).1,L++[(mc q).2]) ⟨hj,jJ,by(try simp only[List.length_append,List.length_cons,List.length_nil]);omega,hA⟩ jJ rfl Sd (by simp only[go_sem,gL,List.map_append,List.map_cons,List.map_nil,List.length_append,List.length_cons,List.length_nil,Nat.reduceAdd];(try rfl)) kY)
  ·rw[if_neg hc1]at hA
   have e1:q=(nC s).1:=by rw[<-hA]
   have e2:L=(nC s).2:=by rw[<-hA]
   (refine S ?_;try exact jI)
   (repeat' (first|refine aA fun K hK=>?_|refine aC ?_|(refine hK _ _ ?_;clear hK K)|(refine aB ?_ ?_<;>intro hc<;>try exact jz)|refine cm (vO q _ (bw hq)) ?_|refine az ?_|exact jI|(clear hK K)))
   all_goals first|(exact absurd ⟨by assumption,by assumption⟩ hc1)|skip
   ·have hqe:q.e=0:=by assumption
    have hee:¬(nC s).1.e≠0:=by rw[<-e1];simp[hqe]
    refine hKo _ _ ?_;clear hKo
    (have W:=hqe;repeat' (first|refine aA fun K hK=>?_|refine aC ?_|(refine hK _ _ ?_;clear hK K)|(refine aB ?_ ?_<;>intro hc<;>try exact jz)|refine az ?_|exact jI|(clear hK K)));all_goals(try clear W)
    have hKo:=hK;clear hK;refine fm (S:=Nat) [(12,2),(75,18)] (fun k=>k<=L.length) (fun k=>[(12,rB (sy q.nodes L k)),(13,rI k)]) (fun _=>⟨[],[(10,.var 27 [.raw (.slice none 0 0),.raw (.slice none 0 0)]),(0,.var 167 (gL q)),(11,.var 27 [.rs 1 q.nodes.length 5 q.nodes.length,.rs 12 L.length 5 L.length]),(1,.aO 53 5 (q.nodes.map er)),(12,.aO 100 5 (L.map fU))]⟩) (fun k=>L.length-k) 0 (Nat.zero_le _) (fi (by simp only[gL,hqe]) (by simp only[go_sem,jt,Nat.reduceAdd,AV.raw.injEq,Value.int.injEq,Value.slice.injEq,Value.pointer.injEq,AV.rs.injEq,sy,List.take_zero,List.any_nil,Bool.or_false];try omega)) ?_;intro k hk Kr hKr
    (refine S ?_;try exact jI)
    (repeat' (first|refine aA fun K hK=>?_|refine aC ?_|(refine hK _ _ ?_;clear hK K)|(refine aB ?_ ?_<;>intro hc<;>try exact jz)|refine az ?_|exact jI|(clear hK K)))
    ·have hkl:k<L.length:=jB
     refine hKr _ _ (fw (k+1) jJ jJ (by simp only[gL,hqe]) (by simp only[go_sem,jt,Nat.reduceAdd,AV.raw.injEq,Value.int.injEq,Value.slice.injEq,Value.pointer.injEq,AV.rs.injEq,Mm _ _ hkl];try omega))
    ·have hbu:sy q.nodes L k=tv q.nodes L:=IV _ _ jB
     by_cases hbig:tv q.nodes L=true
     ·have ep:gu s=(⟨[],[]⟩,0,4):=by unfold gu;rw[if_neg (by simp[he]),if_neg hee,<-e1,<-e2,if_pos hbig]
      rw[ep]at hKo;refine hKo _ _ ?_
      (have W:=jA hbu hbig;repeat' (first|refine aA fun K hK=>?_|refine aC ?_|(refine hK _ _ ?_;clear hK K)|(refine aB ?_ ?_<;>intro hc<;>try exact jz)|refine az ?_|exact jI|(clear hK K)));all_goals(try clear W)
      refine lG [.cell 2 27,.tmp 3,.tmp 4] ?_;refine bZ.bg (ds:=[.agg (k8 ⟨[],[]⟩),rI _,rI _]) ?_;exact jA (bZ.agg (ds:=[bt er 5 [],bt fU 5 []]) (jA (dU.nil _ _) (jA (dU.nil _ _) trivial))) (jA (.same _ rfl) (jA (.same _ rfl) trivial))
     ·have hbf:tv q.nodes L=false:=by simpa using hbig
      have ep:gu s=(⟨q.nodes,L⟩,0,0):=by unfold gu;rw[if_neg (by simp[he]),if_neg hee,<-e1,<-e2,if_neg hbig]
      rw[ep]at hKo;refine hKo _ _ ?_
      (have W:=jA hbu hbf;repeat' (first|refine aA fun K hK=>?_|refine aC ?_|(refine hK _ _ ?_;clear hK K)|(refine aB ?_ ?_<;>intro hc<;>try exact jz)|refine az ?_|exact jI|(clear hK K)));all_goals(try clear W)
      refine lG [.cell 2 27,.tmp 3,.tmp 4] ?_;refine bZ.bg (ds:=[.agg (k8 ⟨q.nodes,L⟩),rI _,rI _]) ?_;exact jA (bZ.agg (ds:=[bt er 5 q.nodes,bt fU 5 L]) (jA (dU.row (enc:=er) q.nodes rfl rfl jE) (jA (dU.row (enc:=fU) L rfl rfl jE) trivial))) (jA (.same _ rfl) (jA (.same _ rfl) trivial))
   ·have hqe:¬q.e=0:=by assumption
    have ep:gu s=(⟨[],[]⟩,q.at_,q.e):=by unfold gu;rw[if_neg (by simp[he]),<-e1,if_pos hqe]
    rw[ep]at hKo;refine hKo _ _ ?_
    (have W:=hqe;repeat' (first|refine aA fun K hK=>?_|refine aC ?_|(with_reducible refine gR 12 ?_);refine dA 12 [10] [0,1,2,3,4,5,6,7,8,9,10,11] mixed ?_|(refine hK _ _ ?_;clear hK K)|(refine aB ?_ ?_<;>intro hc<;>try exact jz)|refine az ?_|exact jI|(clear hK K)));all_goals(try clear W)
    refine lG [.cell 2 27,.tmp 3,.tmp 4] ?_;refine bZ.bg (ds:=[.agg (k8 ⟨[],[]⟩),rI _,rI _]) ?_;exact jA (bZ.agg (ds:=[bt er 5 [],bt fU 5 []]) (jA (dU.nil _ _) (jA (dU.nil _ _) trivial))) (jA (.same _ rfl) (jA (.same _ rfl) trivial))
 ·have ep:gu s=(⟨[],[]⟩,(j4 s).2.1,(j4 s).2.2):=by unfold gu;rw[if_pos he]
  rw[ep];refine eQ func53 ntmps53 ?_
  (have W:=he;repeat' (first|refine aA fun K hK=>?_|refine aC ?_|(refine hK _ _ ?_;clear hK K)|(refine aB ?_ ?_<;>intro hc<;>try exact jz)|refine cp (F1 s hs) ?_|refine az ?_|exact jI|(clear hK K)));all_goals(try clear W)
  refine lG [.cell 2 27,.tmp 3,.tmp 4] ?_;refine bZ.bg (ds:=[.agg (k8 ⟨[],[]⟩),rI _,rI _]) ?_;exact jA (bZ.agg (ds:=[bt er 5 [],bt fU 5 []]) (jA (dU.nil _ _) (jA (dU.nil _ _) trivial))) (jA (.same _ rfl) (jA (.same _ rfl) trivial))
end Go.Proofs.YtfkgcobaheegbaaGreatDoor

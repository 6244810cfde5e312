/- Lemmas. No conditions. -/
import Derived.Test.YtfkgcobaheegbaaGreatDoorP5
set_option linter.all false
set_option maxHeartbeats 8000000
set_option maxRecDepth 10000
namespace Go.Proofs.YtfkgcobaheegbaaGreatDoor
open Go Go.Gd Tryz
def Bc(n:Nat):Prop:=∀r:Rd,r.Inv->4*r.rem+1<=n->aj prog 149 [pR] (cr r) (fun v l=>v=rI (fU n r).2/\l=cr (fU n r).1)
def Ae(n:Nat):Prop:=∀r:Rd,r.Inv->r.e=0->4*r.rem+2<=n->aj prog 214 [pR] (cr r) (fun v l=>v=rI (nC n r).2/\l=cr (nC n r).1)
theorem Ll(n:Nat)(hs:∀m,m<=n->Ae m):Bc (n+1):=by
 intro r h hn;by_cases hx:r.is (⟨#[123]⟩:ByteArray)=true
 ·have he:=(Rd.aU hx).1;have hd:=(Rd.bK h he).1;have s1:=Rd.aM hd (⟨#[123]⟩:ByteArray);have h1:=s1.inv hd;have s2:=(rL n).2.1 _ [] h1;have h2:=s2.inv h1;have s3:=Rd.aM h2 (⟨#[125]⟩:ByteArray);have h3:=s3.inv h2;have h4:=(Rd.fq h he ((s1.trans s2).trans s3)).inv h;have h3l:=h3.oT;have h3h:=h3.pM;have hr:=(Rd.gy h hx).1;have hr0:r.rem<=2000:=by
   have:=h.pos;have:=h.len;unfold Rd.rem;split<;>omega
  rw[fU,if_pos hx];refine aT func149 ntmps149 ?_
  (refine S ?_;try exact jI)
  (have W:=hx;repeat' (first|refine aB fun K hK=>?_|refine aC ?_|(refine hK _ _ ?_;clear hK K)|(refine aA ?_ ?_<;>intro hc<;>try exact jz)|refine cm (gT r (bw h)) ?_|refine cm (gk r _ (bw h)) ?_|refine cm (tG r (bw h)) ?_|refine cm (iF r.down _ (bw hd)) ?_|refine aD ?_|exact jI|(clear hK K)));all_goals(try clear W)
  have hKo:=hK;clear hK;refine iV (dq.nil 2 5 3 (sz:=1) rfl jC (Or.inr ⟨_,_,_,rfl,rfl⟩)) ?_
  (refine S ?_;try exact jI)
  refine fi (S:=Nat×Rd×List Int) [(5,3),(21,14)] (fun s=>s.2.1.Inv/\4*s.2.1.rem+3<=s.1/\s.1<=n/\s.2.2.length+s.2.1.rem<=2000/\mn s.1 s.2.1 s.2.2=mn n (r.down.ap (⟨#[123]⟩:ByteArray)) []) (fun s=>[(5,.rs 2 s.2.2.length 1 s.2.2.length)]) (fun s=>⟨[0,1],cr s.2.1++[(2,.aL 3 1 (s.2.2.map eI))]⟩) (fun s=>s.1) (n,r.down.ap (⟨#[123]⟩:ByteArray),[]) ⟨h1,jJ,Nat.le_refl _,by(try simp only[List.length_nil]);omega,rfl⟩ (fj rfl cQ) ?_;rintro⟨m,q,L⟩ ⟨hq,hm1,hm2,hm3,hA⟩ Kr hKr;simp only at hq hm1 hm2 hm3 hA;have hqi:=hq.lt;have hqp:=hq.pos;have hql:=hq.len;obtain⟨m,rfl⟩:∃k,m=k+1:=⟨m-1,jB⟩;rw[mn]at hA;by_cases hc1:q.e=0/\q.is (⟨#[125]⟩:ByteArray)=false
  ·rw[if_pos hc1]at hA;obtain⟨hqe,hqc⟩:=hc1;obtain⟨t1,t2⟩:=(rL m).2.2 q hq hqe jB;have hj:=t1.inv hq
   (refine S ?_;try exact jI)
   (have W:=jA hqe hqc;repeat' (first|refine aB fun K hK=>?_|refine aC ?_|(refine hK _ _ ?_;clear hK K)|(refine aA ?_ ?_<;>intro hc<;>try exact jz)|refine cm (gk q _ (bw hq)) ?_|refine cm (hs m jB q hq hqe jB) ?_|refine aD ?_|exact jI|(clear hK K)));all_goals(try clear W)
   refine hKr _ _ (fw (m,(nC m q).1,L++[(nC m q).2]) ⟨hj,jJ,jJ,by(try simp only[List.length_append,List.length_cons,List.length_nil]);omega,hA⟩ jJ (by simp only[go_sem,cr,hJ,List.map_append,List.map_cons,List.map_nil,List.cons_append,List.nil_append];(try rfl)) cQ)
  ·rw[if_neg hc1]at hA;have e1:q=(mn n (r.down.ap (⟨#[123]⟩:ByteArray)) []).1:=by rw[<-hA]
   have e2:L=(mn n (r.down.ap (⟨#[123]⟩:ByteArray)) []).2:=by rw[<-hA]
   rw[<-e1]at h3 h4 h3l h3h
   (refine S ?_;try exact jI)
   (repeat' (first|refine aB fun K hK=>?_|refine aC ?_|(refine hK _ _ ?_;clear hK K)|(refine aA ?_ ?_<;>intro hc<;>try exact jz)|refine cm (gk q _ (bw hq)) ?_|refine aD ?_|exact jI|(clear hK K)))
   all_goals first|(exact absurd ⟨by assumption,by assumption⟩ hc1)|skip
   all_goals refine hKo _ _ ?_
   all_goals refine HZ [2] 5 (bp eI 1 L) Sd Sd ki ?_
   all_goals(
    (refine S ?_;try exact jI)
    (repeat' (first|refine aB fun K hK=>?_|refine aC ?_|(refine hK _ _ ?_;clear hK K)|(refine aA ?_ ?_<;>intro hc<;>try exact jz)|refine cm (iF q _ (bw hq)) ?_|refine cm (xw (q.ap (⟨#[125]⟩:ByteArray)).up _ _ _ _ L (bw h4)) ?_|refine aD ?_|exact jI|(clear hK K)))
    (refine bW [.tmp 2] ?_ ?_<;>(try simp only[go_sem]))
    all_goals simp only[<-e1,<-e2])
 ·rw[fU,if_neg hx];have hx':r.is (⟨#[123]⟩:ByteArray)=false:=by simpa using hx
  refine aT func149 ntmps149 ?_
  (refine S ?_;try exact jI)
  (have W:=hx';repeat' (first|refine aB fun K hK=>?_|refine aC ?_|(refine hK _ _ ?_;clear hK K)|(refine aA ?_ ?_<;>intro hc<;>try exact jz)|refine cm (gT r (bw h)) ?_|refine cm (gk r _ (bw h)) ?_|refine cm (ui r _ (bw h)) ?_|refine aD ?_|exact jI|(clear hK K)));all_goals(try clear W)
  (refine bW [.tmp 2] ?_ ?_<;>(try simp only[go_sem]))
theorem Ql(n:Nat)(hb:Bc n):Ae (n+1):=by
 intro r h he hn;have hri:=h.lt;have hrp:=h.pos;have hrl:=h.len;have word:∀w:ByteArray,w≠⟨#[]⟩->r.word=w->r.inc.Inv/\r.inc.rem+1<=r.rem:=fun w h0 hw=>by have hk:=Rd.dJ (Rd.gC hw h0) jC;exact⟨(Rd.bn h hk.2).1.inv h,Rd.cX h hk⟩
 rw[nC];by_cases w1:r.word=(⟨#[108,101,116]⟩:ByteArray)
 ·rw[if_pos w1];have w1':=eq_true w1;obtain⟨hi,hr⟩:=word _ jC w1;have h1:=(Rd.df hi).inv hi;have h2:=(Rd.aM h1 (⟨#[61]⟩:ByteArray)).inv h1;have h3:=(zq h2).inv h2;have h4:=(Rd.aM h3 (⟨#[59]⟩:ByteArray)).inv h3;refine aT func214 ntmps214 ?_
  (refine S ?_;try exact jI)
  (have W:=w1';repeat' (first|refine aB fun K hK=>?_|refine aC ?_|(refine hK _ _ ?_;clear hK K)|(refine aA ?_ ?_<;>intro hc<;>try exact jz)|refine cm (gT r (bw h)) ?_|refine cm (qR r (bw h)) ?_|refine cm (uy r.inc (bw hi)) ?_|refine cm (iF r.inc.name.1 _ (bw h1)) ?_|refine cm (Hc h2) ?_|refine cm (iF (lr (r.inc.name.1.ap (⟨#[61]⟩:ByteArray))).1 _ (bw h3)) ?_|refine cm (lf ((lr (r.inc.name.1.ap (⟨#[61]⟩:ByteArray))).1.ap (⟨#[59]⟩:ByteArray)) _ _ _ _ [(lr (r.inc.name.1.ap (⟨#[61]⟩:ByteArray))).2] _ gB.sl (bw h4)) ?_|refine aD ?_|exact jI|(clear hK K)));all_goals(try clear W)
  (refine bW [.tmp 2] ?_ ?_<;>(try simp only[go_sem]))
 rw[if_neg w1];by_cases w2:r.word=(⟨#[112,114,105,110,116]⟩:ByteArray)
 ·rw[if_pos w2];have w2':=eq_true w2;obtain⟨hi,hr⟩:=word _ jC w2;have h1:=(jM hi).inv hi;have h2:=(Rd.aM h1 (⟨#[59]⟩:ByteArray)).inv h1;refine aT func214 ntmps214 ?_
  (refine S ?_;try exact jI)
  (have W:=jA w1 (w2');repeat' (first|refine aB fun K hK=>?_|refine aC ?_|(refine hK _ _ ?_;clear hK K)|(refine aA ?_ ?_<;>intro hc<;>try exact jz)|refine cm (gT r (bw h)) ?_|refine cm (qR r (bw h)) ?_|refine cm (qg hi) ?_|refine cm (iF (cW r.inc).1 _ (bw h1)) ?_|refine cm (lf ((cW r.inc).1.ap (⟨#[59]⟩:ByteArray)) _ _ _ _ [(cW r.inc).2] _ gB.sl (bw h2)) ?_|refine aD ?_|exact jI|(clear hK K)));all_goals(try clear W)
  (refine bW [.tmp 2] ?_ ?_<;>(try simp only[go_sem]))
 rw[if_neg w2];by_cases w3:r.word=(⟨#[119,104,105,108,101]⟩:ByteArray)
 ·rw[if_pos w3];have w3':=eq_true w3;obtain⟨hi,hr⟩:=word _ jC w3;have h1:=(jM hi).inv hi;have hr1:=(jM hi).rem;have h2:=((rL n).1 _ h1).inv h1;refine aT func214 ntmps214 ?_
  (refine S ?_;try exact jI)
  (have W:=jA w1 (jA w2 (w3'));repeat' (first|refine aB fun K hK=>?_|refine aC ?_|(refine hK _ _ ?_;clear hK K)|(refine aA ?_ ?_<;>intro hc<;>try exact jz)|refine cm (gT r (bw h)) ?_|refine cm (qR r (bw h)) ?_|refine cm (qg hi) ?_|refine cm (hb _ h1 jB) ?_|refine cm (lf (fU n (cW r.inc).1).1 _ _ _ _ [(cW r.inc).2,(fU n (cW r.inc).1).2] _ gB.sl (bw h2)) ?_|refine aD ?_|exact jI|(clear hK K)));all_goals(try clear W)
  (refine bW [.tmp 2] ?_ ?_<;>(try simp only[go_sem]))
 rw[if_neg w3];by_cases w4:r.word=(⟨#[105,102]⟩:ByteArray)
 ·rw[if_pos w4];have w4':=eq_true w4;obtain⟨hi,hr⟩:=word _ jC w4;have h1:=(jM hi).inv hi;have hr1:=(jM hi).rem;have s2:=(rL n).1 _ h1;have h2:=s2.inv h1;have hr2:=s2.rem;have h2i:=h2.lt;have h2p:=h2.pos;have h2l:=h2.len;by_cases hx:(fU n (cW r.inc).1).1.is (⟨#[101,108,115,101]⟩:ByteArray)=true
  ·rw[if_pos hx];have hk:=Rd.aU hx;have h3:=(Rd.bn h2 hk.2).1.inv h2;have hr3:=Rd.cX h2 hk;have h4:=((rL n).1 _ h3).inv h3;refine aT func214 ntmps214 ?_
   (refine S ?_;try exact jI)
   (have W:=jA w1 (jA w2 (jA w3 (jA w4' (hx))));repeat' (first|refine DS (id:=31) [2] [(13,135)] [(12,bp eI 1 [(cW r.inc).2,(fU n (cW r.inc).1).2,(fU n (fU n (cW r.inc).1).1.inc).2])] ?_|refine aB fun K hK=>?_|refine aC ?_|(refine hK _ _ ?_;clear hK K)|(refine aA ?_ ?_<;>intro hc<;>try exact jz)|refine cm (gT r (bw h)) ?_|refine cm (qR r (bw h)) ?_|refine cm (qg hi) ?_|refine cm (hb _ h1 jB) ?_|refine cm (gk (fU n (cW r.inc).1).1 _ (bw h2)) ?_|refine cm (hb _ h3 jB) ?_|refine cm (xw (fU n (fU n (cW r.inc).1).1.inc).1 _ _ _ _ [(cW r.inc).2,(fU n (cW r.inc).1).2,(fU n (fU n (cW r.inc).1).1.inc).2] (bw h4)) ?_|refine aD ?_|exact jI|(clear hK K)));all_goals(try clear W)
   (refine bW [.tmp 2] ?_ ?_<;>(try simp only[go_sem]))
  ·rw[if_neg hx];have hx':(fU n (cW r.inc).1).1.is (⟨#[101,108,115,101]⟩:ByteArray)=false:=by simpa using hx
   refine aT func214 ntmps214 ?_
   (refine S ?_;try exact jI)
   (have W:=jA w1 (jA w2 (jA w3 (jA w4' (hx'))));repeat' (first|refine aB fun K hK=>?_|refine aC ?_|(refine hK _ _ ?_;clear hK K)|(refine aA ?_ ?_<;>intro hc<;>try exact jz)|refine cm (gT r (bw h)) ?_|refine cm (qR r (bw h)) ?_|refine cm (qg hi) ?_|refine cm (hb _ h1 jB) ?_|refine cm (gk (fU n (cW r.inc).1).1 _ (bw h2)) ?_|refine cm (lf (fU n (cW r.inc).1).1 _ _ _ _ [(cW r.inc).2,(fU n (cW r.inc).1).2] _ gB.sl (bw h2)) ?_|refine aD ?_|exact jI|(clear hK K)));all_goals(try clear W)
   (refine bW [.tmp 2] ?_ ?_<;>(try simp only[go_sem]))
 rw[if_neg w4];by_cases w5:r.word=(⟨#[114,101,116,117,114,110]⟩:ByteArray)
 ·rw[if_pos w5];have w5':=eq_true w5;obtain⟨hi,hr⟩:=word _ jC w5;by_cases hx:r.inc.is (⟨#[59]⟩:ByteArray)=true
  ·rw[if_pos hx];have h1:=(Rd.aM hi (⟨#[59]⟩:ByteArray)).inv hi;refine aT func214 ntmps214 ?_
   (refine S ?_;try exact jI)
   (have W:=jA w1 (jA w2 (jA w3 (jA w4 (jA w5' (hx)))));repeat' (first|refine aB fun K hK=>?_|refine aC ?_|(refine hK _ _ ?_;clear hK K)|(refine aA ?_ ?_<;>intro hc<;>try exact jz)|refine cm (gT r (bw h)) ?_|refine cm (qR r (bw h)) ?_|refine cm (gk r.inc _ (bw hi)) ?_|refine cm (iF r.inc _ (bw hi)) ?_|refine cm (lf (r.inc.ap (⟨#[59]⟩:ByteArray)) _ _ _ _ [] _ gB.sl (bw h1)) ?_|refine aD ?_|exact jI|(clear hK K)));all_goals(try clear W)
   (refine bW [.tmp 2] ?_ ?_<;>(try simp only[go_sem]))
  ·rw[if_neg hx];have hx':r.inc.is (⟨#[59]⟩:ByteArray)=false:=by simpa using hx
   have h1:=(jM hi).inv hi;have h2:=(Rd.aM h1 (⟨#[59]⟩:ByteArray)).inv h1;refine aT func214 ntmps214 ?_
   (refine S ?_;try exact jI)
   (have W:=jA w1 (jA w2 (jA w3 (jA w4 (jA w5' (hx')))));repeat' (first|refine DS (id:=40) [2] [(16,132)] [(15,bp eI 1 [(cW r.inc).2])] ?_|refine aB fun K hK=>?_|refine aC ?_|(refine hK _ _ ?_;clear hK K)|(refine aA ?_ ?_<;>intro hc<;>try exact jz)|refine cm (gT r (bw h)) ?_|refine cm (qR r (bw h)) ?_|refine cm (gk r.inc _ (bw hi)) ?_|refine cm (qg hi) ?_|refine cm (iF (cW r.inc).1 _ (bw h1)) ?_|refine cm (xw ((cW r.inc).1.ap (⟨#[59]⟩:ByteArray)) _ _ _ _ [(cW r.inc).2] (bw h2)) ?_|refine aD ?_|exact jI|(clear hK K)));all_goals(try clear W)
   (refine bW [.tmp 2] ?_ ?_<;>(try simp only[go_sem]))
 rw[if_neg w5];refine aT func214 ntmps214 ?_
 (refine S ?_;try exact jI)
 (have W:=jA w1 (jA w2 (jA w3 (jA w4 (w5))));repeat' (first|refine aB fun K hK=>?_|refine aC ?_|(refine hK _ _ ?_;clear hK K)|(refine aA ?_ ?_<;>intro hc<;>try exact jz)|refine cm (gT r (bw h)) ?_|refine cm (qR r (bw h)) ?_|refine cm (LP h he r.cz) ?_|refine aD ?_|exact jI|(clear hK K)));all_goals(try clear W)
 (refine bW [.tmp 2] ?_ ?_<;>(try simp only[go_sem]))
end Go.Proofs.YtfkgcobaheegbaaGreatDoor
namespace Go.Gd
open Go
theorem B5{w:NW}{H:Hp}(r:aO w H){j:Nat}{t:TypeId}{cs cs':List AV}(hj:H.get j=some (.var t cs))(hl:cs'.length=cs.length)(h:∀(k:Nat) a a' v,cs[k]?=some a->cs'[k]?=some a'->aw w a v->aw w a' v):aO w (H.put j (.var t cs'))/\Ext w H w (H.put j (.var t cs')):=by
 have ex:Ext w H w (H.put j (.var t cs')):={ ExtQ.refl _ w with base:=rfl };refine⟨{ rows:=fun i s hi=>?_,dO:=fun i m z hz=>?_,inj:=r.inj,own:=r.own,fin:=r.fin,cn:=r.cn.aY ex.toKeep },ex⟩
 ·rw[Hp.ba]at hi;split at hi
  ·rename_i e;subst e;cases hi;obtain⟨h1,z,h2,h3⟩:=r.rows _ _ hj;refine⟨trivial,z,h2,?_⟩;cases z with
   |nil=>obtain⟨e,sz,h4⟩:=h3;cases h4
   |«at» b u s=>
    obtain⟨g1,cur,g2,⟨g3,g4⟩,g5⟩:=h3;refine⟨g1,cur,g2,⟨g3,by show cs'.length<=u;rw[hl];exact g4⟩,fun k a v ha hv=>?_⟩;have ha:cs'[k]?=some a:=ha;have hk:k<cs.length:=by rw[<-hl];exact(List.getElem?_eq_some_iff.1 ha).1
    exact h k cs[k] a v (List.getElem?_eq_getElem hk) ha (g5 k cs[k] v (List.getElem?_eq_getElem hk) hv)
  ·exact r.rows i s hi
 ·obtain⟨s,h1,h2⟩:=r.dO i m z hz;rw[Hp.ba];split
  ·rename_i e;subst e;rw[hj]at h1;cases h1;exact⟨_,rfl,h2⟩
  ·exact⟨s,h1,h2⟩
theorem dq.fM{F:List AV}{H:Hp}(i j k:Nat)(e:TypeId)(sz:Nat){t:TypeId}{cs:List AV}(hi:H.get i=none)(h0:0<sz)(hj:H.get j=some (.var t cs))(hk:cs[k]?=some (.raw (.slice none 0 0))):dq F H F ((H.put i (.aL e sz [])).put j (.var t (cs.set k (.rs i 0 sz 0)))):=fun w tm h1 h2=>by
 obtain⟨a,b⟩:=xB h1 hi e h0;have hij:j≠i:=fun e=>by subst e;rw[hi]at hj;cases hj
 obtain⟨a',b'⟩:=B5 (cs':=cs.set k (.rs i 0 sz 0)) a (j:=j) (t:=t) (cs:=cs) (by rw[Hp.ba,if_neg hij];exact hj) jE fun n x x' v hx hx' hv=>by
  rw[List.getElem?_set]at hx';by_cases hn:k=n
  ·subst hn;rw[if_pos rfl]at hx';split at hx'
   ·cases hx';rw[hk]at hx;cases hx;cases hv;exact .iO _ _ _ _ (NW.ca _ _ _ _)
   ·cases hx'
  ·rw[if_neg hn,hx]at hx';cases hx';exact hv
 exact⟨w.name i 0 .nil,rfl,a',h2.ext b,(b.trans b').pB⟩
end Go.Gd
namespace Go.Proofs.YtfkgcobaheegbaaGreatDoor
open Go Go.Gd Tryz
theorem Hf:∀m n,n<=m->Bc n/\Ae n
 |0,0,_=>⟨fun r h hn=>by omega,fun r h he hn=>by omega⟩
 |m+1,0,_=>⟨fun r h hn=>jB,fun r h he hn=>jB⟩
 |m+1,n+1,hm=>by
  have ih:=fun k (hk:k<=n)=>Hf m k jB
  exact⟨Ll n fun k hk=>(ih k hk).2,Ql n (ih n jl).1⟩
theorem F7{r:Rd}(h:r.Inv):aj prog 149 [pR] (cr r) (fun v l=>v=rI (ov r).2/\l=cr (ov r).1):=(Hf _ _ jl).1 r h jB
theorem Kt{r:Rd}(h:r.Inv):aj prog 95 [pR] (cr r) (fun v l=>v=.agg (gg (mw r).2)/\l=cr (mw r).1):=by
 have h1:=(qa h).1.inv h;have h2:=(qa h).2.1.inv h;have h3:=(qa h).2.2.1.inv h;have h4:=(zT h).inv h1;have h5:=(zC h).inv h1;have h6:=(zy h).inv h1;have h7:=(Bt h6).inv h6;have hr0:(mK r).rem<=2000:=by have:=h3.pos;have:=h3.len;unfold Rd.rem;split<;>omega
 have hm:aj prog 145 [pR,rS (⟨#[40]⟩:ByteArray)] (cr (r.ap (⟨#[102,110]⟩:ByteArray)).name.1) (fun v l=>v=.bj []/\l=cr (mK r)):=iF (r.ap (⟨#[102,110]⟩:ByteArray)).name.1 _ (bw h2);refine aT func95 ntmps95 ?_
 (refine S ?_;try exact jI)
 (repeat' (first|refine aB fun K hK=>?_|refine aC ?_|(refine hK _ _ ?_;clear hK K)|(refine aA ?_ ?_<;>intro hc<;>try exact jz)|refine cm (gT r (bw h)) ?_|refine cm (hm) ?_|refine cm (iF r _ (bw h)) ?_|refine cm (uy (r.ap (⟨#[102,110]⟩:ByteArray)) (bw h1)) ?_|refine cm (gk (mK r) _ (bw h3)) ?_|refine aD ?_|exact jI|(clear hK K)))
 have hKo:=hK;clear hK;refine iV (dq.fM 4 3 2 111 2 rfl jC rfl rfl) ?_
 (refine S ?_;try exact jI)
 refine fi (S:=Nat×Bool×Rd×List bE) [(5,3),(30,23)] (fun s=>s.2.2.1.Inv/\(s.2.1=true->s.2.2.1.rem+2<=s.1)/\1<=s.1/\s.2.2.2.length+s.1<=5000/\mB s.1 s.2.1 s.2.2.1 s.2.2.2=se r) (fun s=>[(5,rB s.2.1)]) (fun s=>⟨[0,1],cr s.2.2.1++[(2,.var 100 [rS ⟨#[]⟩,rI 0,.raw (.slice none 0 0),rI 0,rI 0]),(3,.var 100 [rS (r.ap (⟨#[102,110]⟩:ByteArray)).name.2,rI r.cz,.rs 4 s.2.2.2.length 2 s.2.2.2.length,rI 0,rI 0]),(4,.aL 111 2 (s.2.2.2.map oe))]⟩) (fun s=>s.1) ((mK r).rem+2,more (mK r),mK r,[]) ⟨h3,fun _=>Nat.le_refl _,jJ,by(try simp only[List.length_nil]);omega,rfl⟩ (fj rfl (by simp only[go_sem,jR,Nat.reduceAdd,AV.raw.injEq,Value.int.injEq,Value.slice.injEq,Value.pointer.injEq,AV.rs.injEq,more,List.length_nil];try omega)) ?_;rintro⟨n,b,q,L⟩ ⟨hq,hn1,hn2,hn3,hA⟩ Kr hKr;simp only at hq hn1 hn2 hn3 hA;have hqi:=hq.lt;have hqp:=hq.pos;have hql:=hq.len;obtain⟨n,rfl⟩:∃k,n=k+1:=⟨n-1,jB⟩;cases b with
 |false=>
  rw[mB]at hA;have e1:q=(se r).1:=by rw[<-hA]
  have e2:L=(se r).2:=by rw[<-hA]
  have hmm:aj prog 145 [pR,rS (⟨#[41]⟩:ByteArray)] (cr q) (fun v l=>v=.bj []/\l=cr (lC r)):=by rw[e1];exact iF (se r).1 _ (bw h4)
  by_cases hx:(lC r).is (⟨#[123]⟩:ByteArray)=true
  ·have ed:l5 r=(lC r,0):=by unfold l5;rw[if_pos hx]
   have ef:mw r=((ov (lC r)).1,⟨(r.ap (⟨#[102,110]⟩:ByteArray)).name.2,r.cz,L,0,(ov (lC r)).2⟩):=by unfold mw;rw[ed,<-e2]
   rw[ef]at hKo
   (refine S ?_;try exact jI)
   (have W:=hx;repeat' (first|refine aB fun K hK=>?_|refine aC ?_|(refine hK _ _ ?_;clear hK K)|(refine aA ?_ ?_<;>intro hc<;>try exact jz)|refine hKo _ _ ?_|refine cm (hmm) ?_|refine cm (gk (lC r) _ (bw h5)) ?_|refine cm (F7 h5) ?_|refine aD ?_|exact jI|(clear hK K)));all_goals(try clear W)
   refine l6 [.cell 2 100] ?_;refine bX.agg (ds:=[rS _,rI _,bp oe 2 L,rI _,rI _]) ?_;exact jA (.same _ rfl) (jA (.same _ rfl) (jA (dv.row (enc:=oe) L rfl rfl jE) (jA (.same _ rfl) (jA (.same _ rfl) trivial))))
  ·have hx':(lC r).is (⟨#[123]⟩:ByteArray)=false:=by simpa using hx
   have ed:l5 r=iP (lC r):=by unfold l5;rw[if_neg hx]
   rw[ed]at h6;have ef:mw r=((ov (iP (lC r)).1).1,⟨(r.ap (⟨#[102,110]⟩:ByteArray)).name.2,r.cz,L,(iP (lC r)).2,(ov (iP (lC r)).1).2⟩):=by unfold mw;rw[ed,<-e2]
   rw[ef]at hKo
   (refine S ?_;try exact jI)
   (have W:=hx';repeat' (first|refine aB fun K hK=>?_|refine aC ?_|(refine hK _ _ ?_;clear hK K)|(refine aA ?_ ?_<;>intro hc<;>try exact jz)|refine hKo _ _ ?_|refine cm (hmm) ?_|refine cm (gk (lC r) _ (bw h5)) ?_|refine cm (Fp h5) ?_|refine cm (F7 h6) ?_|refine aD ?_|exact jI|(clear hK K)));all_goals(try clear W)
   refine l6 [.cell 2 100] ?_;refine bX.agg (ds:=[rS _,rI _,bp oe 2 L,rI _,rI _]) ?_;exact jA (.same _ rfl) (jA (.same _ rfl) (jA (dv.row (enc:=oe) L rfl rfl jE) (jA (.same _ rfl) (jA (.same _ rfl) trivial))))
 |true=>
  have s1:=Gh hq;have hx:=s1.inv hq;have hr1:=s1.rem;have hxi:=hx.lt;have hxp:=hx.pos;have hxl:=hx.len;have hn1:=hn1 rfl;have hq1:=(Rd.df hq).inv hq;have hty:aj prog 148 [pR] (cr q.name.1) (fun v l=>v=rI (iP q.name.1).2/\l=cr (pu q)):=Fp hq1;rw[mB]at hA
  (refine S ?_;try exact jI)
  (repeat' (first|refine aB fun K hK=>?_|refine aC ?_|(refine hK _ _ ?_;clear hK K)|(refine aA ?_ ?_<;>intro hc<;>try exact jz)|refine cm (uy q (bw hq)) ?_|refine cm (hty) ?_|refine cm (gk (pu q) _ (bw hx)) ?_|refine aD ?_|exact jI|(clear hK K)))
  ·rw[if_pos hc]at hA;have hk:=Rd.aU hc;have hr2:=Rd.cX hx hk;refine hKr _ _ (fw (n,true,(pu q).inc,L++[⟨q.name.2,(iP q.name.1).2⟩]) ⟨(Rd.bn hx hk.2).1.inv hx,fun _=>jJ,jJ,by(try simp only[List.length_append,List.length_cons,List.length_nil]);omega,hA⟩ jJ (by simp only[go_sem,cr,hJ,List.map_append,List.map_cons,List.map_nil,List.cons_append,List.nil_append,List.length_append,List.length_cons,List.length_nil,Nat.reduceAdd];(try rfl)) (by simp only[go_sem,jR,Nat.reduceAdd,AV.raw.injEq,Value.int.injEq,Value.slice.injEq,Value.pointer.injEq,AV.rs.injEq,hc,List.length_append,List.length_cons,List.length_nil];try omega))
  ·rw[if_neg (by rw[hc];decide)]at hA;refine hKr _ _ (fw (n,false,pu q,L++[⟨q.name.2,(iP q.name.1).2⟩]) ⟨hx,(by intro h;cases h),jJ,by(try simp only[List.length_append,List.length_cons,List.length_nil]);omega,?_⟩ jJ (by simp only[go_sem,cr,hJ,List.map_append,List.map_cons,List.map_nil,List.cons_append,List.nil_append,List.length_append,List.length_cons,List.length_nil,Nat.reduceAdd];(try rfl)) (by simp only[go_sem,jR,Nat.reduceAdd,AV.raw.injEq,Value.int.injEq,Value.slice.injEq,Value.pointer.injEq,AV.rs.injEq,hc,List.length_append,List.length_cons,List.length_nil];try omega));rw[<-hA];obtain⟨n,rfl⟩:∃k,n=k+1:=⟨n-1,jB⟩;rw[mB]
variable{k:Nat}
theorem NY{α:Type}[Inhabited α](p:α->Bool)(l:List α)(h:k<l.length):(l.take (k+1)).any p=((l.take k).any p || p (nth l k)):=by rw[List.take_succ_eq_append_getElem h,List.any_append,dN h];simp
def sa(t:List bk)(L:List aX)(k:Nat):Bool:=decide (300<(t.length:Int)) || decide (6<(L.length:Int)) || (L.take k).any fun f=>decide (3<(f.params.length:Int))
theorem Ju(t:List bk)(L:List aX)(h:k<L.length):sa t L (k+1)=(sa t L k || decide (3<((nth L k).params.length:Int))):=by unfold sa;rw[NY _ _ h];simp only[Bool.or_assoc]
theorem Q0(t:List bk)(L:List aX)(h:L.length<=k):sa t L k=s8 t L:=by
 unfold sa s8;rw[List.take_of_length_le h];have e1:∀n:Nat,decide (300<(n:Int))=decide (300<n):=fun n=>decide_eq_decide.2 jB
 have e2:∀n:Nat,decide (6<(n:Int))=decide (6<n):=fun n=>decide_eq_decide.2 jB
 have e3:∀n:Nat,decide (3<(n:Int))=decide (3<n):=fun n=>decide_eq_decide.2 jB
 simp only[e1,e2,e3]
theorem Q6(s:ByteArray)(hs:s.size<=1000000):eG prog 53 [rS s] (.bj [.agg (lG (gH s).1),rI (gH s).2.1,rI (gH s).2.2]):=by
 by_cases he:(kF s).2.2=0
 ·have hi:=G5 he;have hr0:(nY s).rem<=2000:=by
   have:=hi.pos;have:=hi.len;unfold Rd.rem;split<;>omega
  refine fm func53 ntmps53 ?_
  (have W:=he;repeat' (first|refine aB fun K hK=>?_|refine aC ?_|(refine hK _ _ ?_;clear hK K)|(refine aA ?_ ?_<;>intro hc<;>try exact jz)|refine cp (GC s hs) ?_|(refine yh (t:=27) 10 (by simp only[go_sem];rfl) rfl ?_;refine S ?_)|(refine yk 0 jD rfl ?_;refine S ?_)|refine aD ?_|exact jI|(clear hK K)));all_goals(try clear W)
  have hKo:=hK;clear hK;refine iV (dq.fM 1 0 3 53 5 rfl jC rfl rfl) ?_
  (refine S ?_;try exact jI)
  refine iV (dq.fM 12 11 1 100 5 rfl jC rfl rfl) ?_
  (refine S ?_;try exact jI)
  refine fi (S:=Nat×Rd×List aX) [(10,2),(30,16)] (fun p=>p.2.1.Inv/\p.2.1.rem+1<=p.1/\p.2.2.length+p.1<=5000/\p7 p.1 p.2.1 p.2.2=nS s) (fun _=>[]) (fun p=>⟨[],[(10,.var 27 [.raw (.slice none 0 0),.raw (.slice none 0 0)]),(0,.var 167 (hJ p.2.1)),(11,.var 27 [.raw (.slice none 0 0),.rs 12 p.2.2.length 5 p.2.2.length]),(1,.aL 53 5 (p.2.1.nodes.map fb)),(12,.aL 100 5 (p.2.2.map gg))]⟩) (fun p=>p.1) ((nY s).rem+1,nY s,[]) ⟨hi,Nat.le_refl _,by(try simp only[List.length_nil]);omega,rfl⟩ (fj rfl cQ) ?_;rintro⟨n,q,L⟩ ⟨hq,hn1,hn2,hA⟩ Kr hKr;simp only at hq hn1 hn2 hA;have hqi:=hq.lt;have hqp:=hq.pos;have hql:=hq.len;obtain⟨n,rfl⟩:∃k,n=k+1:=⟨n-1,jB⟩;rw[p7]at hA;by_cases hc1:q.e=0/\q.kind 0=false
  ·rw[if_pos hc1]at hA;obtain⟨hqe,hqc⟩:=hc1;obtain⟨t1,t2⟩:=Hb hq;have t2:=t2 hqe;have hj:=t1.inv hq
   (refine S ?_;try exact jI)
   (have W:=jA hqe hqc;repeat' (first|refine aB fun K hK=>?_|refine aC ?_|(refine hK _ _ ?_;clear hK K)|(refine aA ?_ ?_<;>intro hc<;>try exact jz)|refine cm (vN q _ (bw hq)) ?_|refine cm (Kt hq) ?_|refine aD ?_|exact jI|(clear hK K)));all_goals(try clear W)
   refine hKr _ _ (zp [13] (n,(mw q).1,L++[(mw q).2]) ⟨hj,jJ,by(try simp only[List.length_append,List.length_cons,List.length_nil]);omega,hA⟩ jJ rfl Sd (by simp only[go_sem,hJ,List.map_append,List.map_cons,List.map_nil,List.length_append,List.length_cons,List.length_nil,Nat.reduceAdd];(try rfl)) ki)
  ·rw[if_neg hc1]at hA;have e1:q=(nS s).1:=by rw[<-hA]
   have e2:L=(nS s).2:=by rw[<-hA]
   (refine S ?_;try exact jI)
   (repeat' (first|refine aB fun K hK=>?_|refine aC ?_|(refine hK _ _ ?_;clear hK K)|(refine aA ?_ ?_<;>intro hc<;>try exact jz)|refine cm (vN q _ (bw hq)) ?_|refine aD ?_|exact jI|(clear hK K)))
   all_goals first|(exact absurd ⟨by assumption,by assumption⟩ hc1)|skip
   ·have hqe:q.e=0:=by assumption
    have hee:¬(nS s).1.e≠0:=by rw[<-e1];simp[hqe]
    refine hKo _ _ ?_;clear hKo
    (have W:=hqe;repeat' (first|refine aB fun K hK=>?_|refine aC ?_|(refine hK _ _ ?_;clear hK K)|(refine aA ?_ ?_<;>intro hc<;>try exact jz)|refine aD ?_|exact jI|(clear hK K)));all_goals(try clear W)
    have hKo:=hK;clear hK;refine fi (S:=Nat) [(12,2),(75,18)] (fun k=>k<=L.length) (fun k=>[(12,rB (sa q.nodes L k)),(13,rI k)]) (fun _=>⟨[],[(10,.var 27 [.raw (.slice none 0 0),.raw (.slice none 0 0)]),(0,.var 167 (hJ q)),(11,.var 27 [.rs 1 q.nodes.length 5 q.nodes.length,.rs 12 L.length 5 L.length]),(1,.aL 53 5 (q.nodes.map fb)),(12,.aL 100 5 (L.map gg))]⟩) (fun k=>L.length-k) 0 (Nat.zero_le _) (fj (by simp only[hJ,hqe]) (by simp only[go_sem,jR,Nat.reduceAdd,AV.raw.injEq,Value.int.injEq,Value.slice.injEq,Value.pointer.injEq,AV.rs.injEq,sa,List.take_zero,List.any_nil,Bool.or_false];try omega)) ?_;intro k hk Kr hKr
    (refine S ?_;try exact jI)
    (repeat' (first|refine aB fun K hK=>?_|refine aC ?_|(refine hK _ _ ?_;clear hK K)|(refine aA ?_ ?_<;>intro hc<;>try exact jz)|refine aD ?_|exact jI|(clear hK K)))
    ·have hkl:k<L.length:=jB;refine hKr _ _ (fw (k+1) jJ jJ (by simp only[hJ,hqe]) (by simp only[go_sem,jR,Nat.reduceAdd,AV.raw.injEq,Value.int.injEq,Value.slice.injEq,Value.pointer.injEq,AV.rs.injEq,Ju _ _ hkl];try omega))
    ·have hbu:sa q.nodes L k=s8 q.nodes L:=Q0 _ _ jB;by_cases hbig:s8 q.nodes L=true
     ·have ep:gH s=(⟨[],[]⟩,0,4):=by unfold gH;rw[if_neg (by simp[he]),if_neg hee,<-e1,<-e2,if_pos hbig]
      rw[ep]at hKo;refine hKo _ _ ?_
      (have W:=jA hbu hbig;repeat' (first|refine aB fun K hK=>?_|refine aC ?_|(refine hK _ _ ?_;clear hK K)|(refine aA ?_ ?_<;>intro hc<;>try exact jz)|refine aD ?_|exact jI|(clear hK K)));all_goals(try clear W)
      refine l6 [.cell 2 27,.tmp 3,.tmp 4] ?_;refine bX.bj (ds:=[.agg (lG ⟨[],[]⟩),rI _,rI _]) ?_;exact jA (bX.agg (ds:=[bp fb 5 [],bp gg 5 []]) (jA (dv.nil _ _) (jA (dv.nil _ _) trivial))) (jA (.same _ rfl) (jA (.same _ rfl) trivial))
     ·have hbf:s8 q.nodes L=false:=by simpa using hbig
      have ep:gH s=(⟨q.nodes,L⟩,0,0):=by unfold gH;rw[if_neg (by simp[he]),if_neg hee,<-e1,<-e2,if_neg hbig]
      rw[ep]at hKo;refine hKo _ _ ?_
      (have W:=jA hbu hbf;repeat' (first|refine aB fun K hK=>?_|refine aC ?_|(refine hK _ _ ?_;clear hK K)|(refine aA ?_ ?_<;>intro hc<;>try exact jz)|refine aD ?_|exact jI|(clear hK K)));all_goals(try clear W)
      refine l6 [.cell 2 27,.tmp 3,.tmp 4] ?_;refine bX.bj (ds:=[.agg (lG ⟨q.nodes,L⟩),rI _,rI _]) ?_;exact jA (bX.agg (ds:=[bp fb 5 q.nodes,bp gg 5 L]) (jA (dv.row (enc:=fb) q.nodes rfl rfl jE) (jA (dv.row (enc:=gg) L rfl rfl jE) trivial))) (jA (.same _ rfl) (jA (.same _ rfl) trivial))
   ·have hqe:¬q.e=0:=by assumption
    have ep:gH s=(⟨[],[]⟩,q.at_,q.e):=by unfold gH;rw[if_neg (by simp[he]),<-e1,if_pos hqe]
    rw[ep]at hKo;refine hKo _ _ ?_
    (have W:=hqe;repeat' (first|refine aB fun K hK=>?_|refine aC ?_|(with_reducible refine gR 12 ?_);refine dA 12 [10] [0,1,2,3,4,5,6,7,8,9,10,11] mixed ?_|(refine hK _ _ ?_;clear hK K)|(refine aA ?_ ?_<;>intro hc<;>try exact jz)|refine aD ?_|exact jI|(clear hK K)));all_goals(try clear W)
    refine l6 [.cell 2 27,.tmp 3,.tmp 4] ?_;refine bX.bj (ds:=[.agg (lG ⟨[],[]⟩),rI _,rI _]) ?_;exact jA (bX.agg (ds:=[bp fb 5 [],bp gg 5 []]) (jA (dv.nil _ _) (jA (dv.nil _ _) trivial))) (jA (.same _ rfl) (jA (.same _ rfl) trivial))
 ·have ep:gH s=(⟨[],[]⟩,(kF s).2.1,(kF s).2.2):=by unfold gH;rw[if_pos he]
  rw[ep];refine fm func53 ntmps53 ?_
  (have W:=he;repeat' (first|refine aB fun K hK=>?_|refine aC ?_|(refine hK _ _ ?_;clear hK K)|(refine aA ?_ ?_<;>intro hc<;>try exact jz)|refine cp (GC s hs) ?_|refine aD ?_|exact jI|(clear hK K)));all_goals(try clear W)
  refine l6 [.cell 2 27,.tmp 3,.tmp 4] ?_;refine bX.bj (ds:=[.agg (lG ⟨[],[]⟩),rI _,rI _]) ?_;exact jA (bX.agg (ds:=[bp fb 5 [],bp gg 5 []]) (jA (dv.nil _ _) (jA (dv.nil _ _) trivial))) (jA (.same _ rfl) (jA (.same _ rfl) trivial))
end Go.Proofs.YtfkgcobaheegbaaGreatDoor

/- The document's parser: blocks, statements. The document's parser: functions, all. The document's parser: all. No conditions. -/
import Derived.Test.YtdekkklnfifphaaGreatDoorP5
import Derived.Test.YtdekkklnfifphaaGreatDoorLxT
set_option linter.all false
namespace Go.Proofs.YtdekkklnfifphaaGreatDoor
open Go Go.Gd
def jpJ (n:Nat):Prop:=∀ r:Rd,r.Inv→4 * r.rem+1≤n→ACalls Tryz.prog 116 [pR] (jbv r) (fun v l=>v=rI (jaY n r).2∧l=jbv (jaY n r).1)
def juM (n:Nat):Prop:=∀ r:Rd,r.Inv→r.e=0→4 * r.rem+2≤n→ACalls Tryz.prog 153 [pR] (jbv r) (fun v l=>v=rI (jeS n r).2∧l=jbv (jeS n r).1)
set_option maxHeartbeats 4000000 in
set_option maxRecDepth 10000 in
theorem ju0 (n:Nat) (hs:∀ m,m≤n→juM m):jpJ (n+1):=by
 intro r h hn
 by_cases hx:r.is (⟨#[123]⟩:ByteArray)=true
 ·have he:=(Rd.is_kind hx).1
  have hd:=(Rd.down_inv h he).1
  have s1:=Rd.st_must hd (⟨#[123]⟩:ByteArray)
  have h1:=s1.inv hd
  have s2:=(jeT n).2.1 _ [] h1
  have h2:=s2.inv h1
  have s3:=Rd.st_must h2 (⟨#[125]⟩:ByteArray)
  have h3:=s3.inv h2
  have h4:=(Rd.st_deep h he ((s1.trans s2).trans s3)).inv h
  have h3l:=h3.dlo
  have h3h:=h3.dhi
  have hr:=(Rd.down_must h hx).1
  have hr0:r.rem≤2000:=by
   have:=h.pos;have:=h.len
   unfold Rd.rem;split<;>omega
  rw [jaY,if_pos hx]
  refine jaR Tryz.func116 Tryz.ntmps116 ?_
  (refine S ?_;try exact True.intro)
  (have W:=hx;repeat' (first|refine jaa fun K hK=>?_|refine wkA ?_|(refine hK _ _ ?_;clear hK K)|(refine jad (fun hc=>?_) (fun hc=>?_)<;>first | contradiction | (exfalso;omega) | skip)|refine cm (jaX r (rok h)) ?_|refine cm (jeF r _ (rok h)) ?_|refine cm (jhL r (rok h)) ?_|refine cm (jbR r.down _ (rok hd)) ?_|refine wkB ?_|exact True.intro|(clear hK K)));all_goals (try clear W)
  have hKo:=hK;clear hK
  refine jaD (FLe.nil 2 5 3 (sz:=1) rfl (by decide) (Or.inr ⟨_,_,_,rfl,rfl⟩)) ?_
  (refine S ?_;try exact True.intro)
  refine jag (S:=Nat×Rd×List Int) [(5,3),(21,14)] (fun s=>s.2.1.Inv∧4 * s.2.1.rem+3≤s.1∧s.1≤n∧s.2.2.length+s.2.1.rem≤2000∧jcy s.1 s.2.1 s.2.2=jcy n (r.down.must (⟨#[123]⟩:ByteArray)) []) (fun s=>[(5,.rs 2 s.2.2.length 1 s.2.2.length)]) (fun s=>⟨[0,1],jbv s.2.1++[(2,.vec 3 1 (s.2.2.map eI))]⟩) (fun s=>s.1) (n,r.down.must (⟨#[123]⟩:ByteArray),[]) ⟨h1,by (try simp only);omega,Nat.le_refl _,by (try simp only [List.length_nil]);omega,rfl⟩ (jau rfl lle) ?_
  rintro ⟨m,q,L⟩ ⟨hq,hm1,hm2,hm3,hA⟩ Kr hKr
  simp only at hq hm1 hm2 hm3 hA
  have hqi:=hq.lt
  have hqp:=hq.pos
  have hql:=hq.len
  obtain ⟨m,rfl⟩:∃ k,m=k+1:=⟨m - 1,by omega⟩
  rw [jcy] at hA
  by_cases hc1:q.e=0∧q.is (⟨#[125]⟩:ByteArray)=false
  ·rw [if_pos hc1] at hA
   obtain ⟨hqe,hqc⟩:=hc1
   obtain ⟨t1,t2⟩:=(jeT m).2.2 q hq hqe (by omega)
   have hj:=t1.inv hq
   (refine S ?_;try exact True.intro)
   (have W:=And.intro hqe (hqc);repeat' (first|refine jaa fun K hK=>?_|refine wkA ?_|(refine hK _ _ ?_;clear hK K)|(refine jad (fun hc=>?_) (fun hc=>?_)<;>first | contradiction | (exfalso;omega) | skip)|refine cm (jeF q _ (rok hq)) ?_|refine cm (hs m (by omega) q hq hqe (by omega)) ?_|refine wkB ?_|exact True.intro|(clear hK K)));all_goals (try clear W)
   refine hKr _ _ (jar (m,(jeS m q).1,L++[(jeS m q).2]) ⟨hj,by (try simp only);omega,by (try simp only);omega,by (try simp only [List.length_append,List.length_cons,List.length_nil]);omega,hA⟩ (by (try simp only);omega) (by simp only [go_sem,jbv,ja1,List.map_append,List.map_cons,List.map_nil,List.cons_append,List.nil_append];(try rfl)) lle)
  ·rw [if_neg hc1] at hA
   have e1:q=(jcy n (r.down.must (⟨#[123]⟩:ByteArray)) []).1:=by rw [← hA]
   have e2:L=(jcy n (r.down.must (⟨#[123]⟩:ByteArray)) []).2:=by rw [← hA]
   rw [← e1] at h3 h4 h3l h3h
   (refine S ?_;try exact True.intro)
   (repeat' (first|refine jaa fun K hK=>?_|refine wkA ?_|(refine hK _ _ ?_;clear hK K)|(refine jad (fun hc=>?_) (fun hc=>?_)<;>first | contradiction | (exfalso;omega) | skip)|refine cm (jeF q _ (rok hq)) ?_|refine wkB ?_|exact True.intro|(clear hK K)))
   all_goals first | (exact absurd ⟨by assumption,by assumption⟩ hc1) | skip
   all_goals refine hKo _ _ ?_
   all_goals refine jne [2] 5 (jaI eI 1 L) Sd Sd vtl ?_
   all_goals (
    (refine S ?_;try exact True.intro)
    (repeat' (first|refine jaa fun K hK=>?_|refine wkA ?_|(refine hK _ _ ?_;clear hK K)|(refine jad (fun hc=>?_) (fun hc=>?_)<;>first | contradiction | (exfalso;omega) | skip)|refine cm (jbR q _ (rok hq)) ?_|refine cm (jq5 (q.must (⟨#[125]⟩:ByteArray)).up _ _ _ _ L (rok h4)) ?_|refine wkB ?_|exact True.intro|(clear hK K)))
    (refine jbV [.tmp 2] ?_ ?_<;>(try simp only [go_sem]))
    all_goals simp only [← e1,← e2])
 ·rw [jaY,if_neg hx]
  have hx':r.is (⟨#[123]⟩:ByteArray)=false:=by simpa using hx
  refine jaR Tryz.func116 Tryz.ntmps116 ?_
  (refine S ?_;try exact True.intro)
  (have W:=hx';repeat' (first|refine jaa fun K hK=>?_|refine wkA ?_|(refine hK _ _ ?_;clear hK K)|(refine jad (fun hc=>?_) (fun hc=>?_)<;>first | contradiction | (exfalso;omega) | skip)|refine cm (jaX r (rok h)) ?_|refine cm (jeF r _ (rok h)) ?_|refine cm (jfw r _ (rok h)) ?_|refine wkB ?_|exact True.intro|(clear hK K)));all_goals (try clear W)
  (refine jbV [.tmp 2] ?_ ?_<;>(try simp only [go_sem]))
set_option maxHeartbeats 8000000 in
set_option maxRecDepth 10000 in
theorem jmX (n:Nat) (hb:jpJ n):juM (n+1):=by
 intro r h he hn
 have hri:=h.lt
 have hrp:=h.pos
 have hrl:=h.len
 have word:∀ w:ByteArray,w≠⟨#[]⟩→r.word=w→r.inc.Inv∧r.inc.rem+1≤r.rem:=fun w h0 hw=>by
  have hk:=Rd.kind_kind (Rd.word_kind hw h0) (by decide)
  exact ⟨(Rd.st_inc h hk.2).1.inv h,Rd.rem_inc h hk⟩
 rw [jeS]
 by_cases w1:r.word=(⟨#[108,101,116]⟩:ByteArray)
 ·rw [if_pos w1]
  have w1':=eq_true w1
  obtain ⟨hi,hr⟩:=word _ (by decide) w1
  have h1:=(Rd.st_name hi).inv hi
  have h2:=(Rd.st_must h1 (⟨#[61]⟩:ByteArray)).inv h1
  have h3:=(jf8 h2).inv h2
  have h4:=(Rd.st_must h3 (⟨#[59]⟩:ByteArray)).inv h3
  refine jaR Tryz.func153 Tryz.ntmps153 ?_
  (refine S ?_;try exact True.intro)
  (have W:=w1';repeat' (first|refine jaa fun K hK=>?_|refine wkA ?_|(refine hK _ _ ?_;clear hK K)|(refine jad (fun hc=>?_) (fun hc=>?_)<;>first | contradiction | (exfalso;omega) | skip)|refine cm (jaX r (rok h)) ?_|refine cm (jeg r (rok h)) ?_|refine cm (jjb r.inc (rok hi)) ?_|refine cm (jbR r.inc.name.1 _ (rok h1)) ?_|refine cm (jrn h2) ?_|refine cm (jbR (jci (r.inc.name.1.must (⟨#[61]⟩:ByteArray))).1 _ (rok h3)) ?_|refine cm (jdY ((jci (r.inc.name.1.must (⟨#[61]⟩:ByteArray))).1.must (⟨#[59]⟩:ByteArray)) _ _ _ _ [(jci (r.inc.name.1.must (⟨#[61]⟩:ByteArray))).2] _ VLe.sl (rok h4)) ?_|refine wkB ?_|exact True.intro|(clear hK K)));all_goals (try clear W)
  (refine jbV [.tmp 2] ?_ ?_<;>(try simp only [go_sem]))
 rw [if_neg w1]
 by_cases w2:r.word=(⟨#[112,114,105,110,116]⟩:ByteArray)
 ·rw [if_pos w2]
  have w2':=eq_true w2
  obtain ⟨hi,hr⟩:=word _ (by decide) w2
  have h1:=(ja5 hi).inv hi
  have h2:=(Rd.st_must h1 (⟨#[59]⟩:ByteArray)).inv h1
  refine jaR Tryz.func153 Tryz.ntmps153 ?_
  (refine S ?_;try exact True.intro)
  (have W:=And.intro w1 (w2');repeat' (first|refine jaa fun K hK=>?_|refine wkA ?_|(refine hK _ _ ?_;clear hK K)|(refine jad (fun hc=>?_) (fun hc=>?_)<;>first | contradiction | (exfalso;omega) | skip)|refine cm (jaX r (rok h)) ?_|refine cm (jeg r (rok h)) ?_|refine cm (jdH hi) ?_|refine cm (jbR (jaJ r.inc).1 _ (rok h1)) ?_|refine cm (jdY ((jaJ r.inc).1.must (⟨#[59]⟩:ByteArray)) _ _ _ _ [(jaJ r.inc).2] _ VLe.sl (rok h2)) ?_|refine wkB ?_|exact True.intro|(clear hK K)));all_goals (try clear W)
  (refine jbV [.tmp 2] ?_ ?_<;>(try simp only [go_sem]))
 rw [if_neg w2]
 by_cases w3:r.word=(⟨#[119,104,105,108,101]⟩:ByteArray)
 ·rw [if_pos w3]
  have w3':=eq_true w3
  obtain ⟨hi,hr⟩:=word _ (by decide) w3
  have h1:=(ja5 hi).inv hi
  have hr1:=(ja5 hi).rem
  have h2:=((jeT n).1 _ h1).inv h1
  refine jaR Tryz.func153 Tryz.ntmps153 ?_
  (refine S ?_;try exact True.intro)
  (have W:=And.intro w1 (And.intro w2 (w3'));repeat' (first|refine jaa fun K hK=>?_|refine wkA ?_|(refine hK _ _ ?_;clear hK K)|(refine jad (fun hc=>?_) (fun hc=>?_)<;>first | contradiction | (exfalso;omega) | skip)|refine cm (jaX r (rok h)) ?_|refine cm (jeg r (rok h)) ?_|refine cm (jdH hi) ?_|refine cm (hb _ h1 (by omega)) ?_|refine cm (jdY (jaY n (jaJ r.inc).1).1 _ _ _ _ [(jaJ r.inc).2,(jaY n (jaJ r.inc).1).2] _ VLe.sl (rok h2)) ?_|refine wkB ?_|exact True.intro|(clear hK K)));all_goals (try clear W)
  (refine jbV [.tmp 2] ?_ ?_<;>(try simp only [go_sem]))
 rw [if_neg w3]
 by_cases w4:r.word=(⟨#[105,102]⟩:ByteArray)
 ·rw [if_pos w4]
  have w4':=eq_true w4
  obtain ⟨hi,hr⟩:=word _ (by decide) w4
  have h1:=(ja5 hi).inv hi
  have hr1:=(ja5 hi).rem
  have s2:=(jeT n).1 _ h1
  have h2:=s2.inv h1
  have hr2:=s2.rem
  have h2i:=h2.lt
  have h2p:=h2.pos
  have h2l:=h2.len
  by_cases hx:(jaY n (jaJ r.inc).1).1.is (⟨#[101,108,115,101]⟩:ByteArray)=true
  ·rw [if_pos hx]
   have hk:=Rd.is_kind hx
   have h3:=(Rd.st_inc h2 hk.2).1.inv h2
   have hr3:=Rd.rem_inc h2 hk
   have h4:=((jeT n).1 _ h3).inv h3
   refine jaR Tryz.func153 Tryz.ntmps153 ?_
   (refine S ?_;try exact True.intro)
   (have W:=And.intro w1 (And.intro w2 (And.intro w3 (And.intro w4' (hx))));repeat' (first|refine jhF (id:=31) [2] [(13,135)] [(12,jaI eI 1 [(jaJ r.inc).2,(jaY n (jaJ r.inc).1).2,(jaY n (jaY n (jaJ r.inc).1).1.inc).2])] ?_|refine jaa fun K hK=>?_|refine wkA ?_|(refine hK _ _ ?_;clear hK K)|(refine jad (fun hc=>?_) (fun hc=>?_)<;>first | contradiction | (exfalso;omega) | skip)|refine cm (jaX r (rok h)) ?_|refine cm (jeg r (rok h)) ?_|refine cm (jdH hi) ?_|refine cm (hb _ h1 (by omega)) ?_|refine cm (jeF (jaY n (jaJ r.inc).1).1 _ (rok h2)) ?_|refine cm (hb _ h3 (by omega)) ?_|refine cm (jq5 (jaY n (jaY n (jaJ r.inc).1).1.inc).1 _ _ _ _ [(jaJ r.inc).2,(jaY n (jaJ r.inc).1).2,(jaY n (jaY n (jaJ r.inc).1).1.inc).2] (rok h4)) ?_|refine wkB ?_|exact True.intro|(clear hK K)));all_goals (try clear W)
   (refine jbV [.tmp 2] ?_ ?_<;>(try simp only [go_sem]))
  ·rw [if_neg hx]
   have hx':(jaY n (jaJ r.inc).1).1.is (⟨#[101,108,115,101]⟩:ByteArray)=false:=by simpa using hx
   refine jaR Tryz.func153 Tryz.ntmps153 ?_
   (refine S ?_;try exact True.intro)
   (have W:=And.intro w1 (And.intro w2 (And.intro w3 (And.intro w4' (hx'))));repeat' (first|refine jaa fun K hK=>?_|refine wkA ?_|(refine hK _ _ ?_;clear hK K)|(refine jad (fun hc=>?_) (fun hc=>?_)<;>first | contradiction | (exfalso;omega) | skip)|refine cm (jaX r (rok h)) ?_|refine cm (jeg r (rok h)) ?_|refine cm (jdH hi) ?_|refine cm (hb _ h1 (by omega)) ?_|refine cm (jeF (jaY n (jaJ r.inc).1).1 _ (rok h2)) ?_|refine cm (jdY (jaY n (jaJ r.inc).1).1 _ _ _ _ [(jaJ r.inc).2,(jaY n (jaJ r.inc).1).2] _ VLe.sl (rok h2)) ?_|refine wkB ?_|exact True.intro|(clear hK K)));all_goals (try clear W)
   (refine jbV [.tmp 2] ?_ ?_<;>(try simp only [go_sem]))
 rw [if_neg w4]
 by_cases w5:r.word=(⟨#[114,101,116,117,114,110]⟩:ByteArray)
 ·rw [if_pos w5]
  have w5':=eq_true w5
  obtain ⟨hi,hr⟩:=word _ (by decide) w5
  by_cases hx:r.inc.is (⟨#[59]⟩:ByteArray)=true
  ·rw [if_pos hx]
   have h1:=(Rd.st_must hi (⟨#[59]⟩:ByteArray)).inv hi
   refine jaR Tryz.func153 Tryz.ntmps153 ?_
   (refine S ?_;try exact True.intro)
   (have W:=And.intro w1 (And.intro w2 (And.intro w3 (And.intro w4 (And.intro w5' (hx)))));repeat' (first|refine jaa fun K hK=>?_|refine wkA ?_|(refine hK _ _ ?_;clear hK K)|(refine jad (fun hc=>?_) (fun hc=>?_)<;>first | contradiction | (exfalso;omega) | skip)|refine cm (jaX r (rok h)) ?_|refine cm (jeg r (rok h)) ?_|refine cm (jeF r.inc _ (rok hi)) ?_|refine cm (jbR r.inc _ (rok hi)) ?_|refine cm (jdY (r.inc.must (⟨#[59]⟩:ByteArray)) _ _ _ _ [] _ VLe.sl (rok h1)) ?_|refine wkB ?_|exact True.intro|(clear hK K)));all_goals (try clear W)
   (refine jbV [.tmp 2] ?_ ?_<;>(try simp only [go_sem]))
  ·rw [if_neg hx]
   have hx':r.inc.is (⟨#[59]⟩:ByteArray)=false:=by simpa using hx
   have h1:=(ja5 hi).inv hi
   have h2:=(Rd.st_must h1 (⟨#[59]⟩:ByteArray)).inv h1
   refine jaR Tryz.func153 Tryz.ntmps153 ?_
   (refine S ?_;try exact True.intro)
   (have W:=And.intro w1 (And.intro w2 (And.intro w3 (And.intro w4 (And.intro w5' (hx')))));repeat' (first|refine jhF (id:=40) [2] [(16,132)] [(15,jaI eI 1 [(jaJ r.inc).2])] ?_|refine jaa fun K hK=>?_|refine wkA ?_|(refine hK _ _ ?_;clear hK K)|(refine jad (fun hc=>?_) (fun hc=>?_)<;>first | contradiction | (exfalso;omega) | skip)|refine cm (jaX r (rok h)) ?_|refine cm (jeg r (rok h)) ?_|refine cm (jeF r.inc _ (rok hi)) ?_|refine cm (jdH hi) ?_|refine cm (jbR (jaJ r.inc).1 _ (rok h1)) ?_|refine cm (jq5 ((jaJ r.inc).1.must (⟨#[59]⟩:ByteArray)) _ _ _ _ [(jaJ r.inc).2] (rok h2)) ?_|refine wkB ?_|exact True.intro|(clear hK K)));all_goals (try clear W)
   (refine jbV [.tmp 2] ?_ ?_<;>(try simp only [go_sem]))
 rw [if_neg w5]
 refine jaR Tryz.func153 Tryz.ntmps153 ?_
 (refine S ?_;try exact True.intro)
 (have W:=And.intro w1 (And.intro w2 (And.intro w3 (And.intro w4 (w5))));repeat' (first|refine jaa fun K hK=>?_|refine wkA ?_|(refine hK _ _ ?_;clear hK K)|(refine jad (fun hc=>?_) (fun hc=>?_)<;>first | contradiction | (exfalso;omega) | skip)|refine cm (jaX r (rok h)) ?_|refine cm (jeg r (rok h)) ?_|refine cm (jvV h he r.line) ?_|refine wkB ?_|exact True.intro|(clear hK K)));all_goals (try clear W)
 (refine jbV [.tmp 2] ?_ ?_<;>(try simp only [go_sem]))
end Go.Proofs.YtdekkklnfifphaaGreatDoor
namespace Go.Gd
open Go
theorem jlq {w:NW} {H:Hp} (r:RelW w H) {j:Nat} {t:TypeId} {cs cs':List AV} (hj:H.get j=some (.var t cs)) (hl:cs'.length=cs.length) (h:∀ (k:Nat) a a' v,cs[k]?=some a→cs'[k]?=some a'→RelV w a v→RelV w a' v):RelW w (H.put j (.var t cs'))∧Ext w H w (H.put j (.var t cs')):=by
 have ex:Ext w H w (H.put j (.var t cs')):={ ExtQ.refl _ w with base:=rfl }
 refine ⟨{ rows:=fun i s hi=>?_,dom:=fun i m z hz=>?_,inj:=r.inj,own:=r.own,fin:=r.fin,glob:=r.glob.keep ex.toKeep },ex⟩
 ·rw [Hp.get_put] at hi
  split at hi
  ·rename_i e;subst e;cases hi
   obtain ⟨h1,z,h2,h3⟩:=r.rows _ _ hj
   refine ⟨trivial,z,h2,?_⟩
   cases z with
   | nil=>obtain ⟨e,sz,h4⟩:=h3;cases h4
   | «at» b u s=>
    obtain ⟨g1,cur,g2,⟨g3,g4⟩,g5⟩:=h3
    refine ⟨g1,cur,g2,⟨g3,by show cs'.length≤u;rw [hl];exact g4⟩,fun k a v ha hv=>?_⟩
    have ha:cs'[k]?=some a:=ha
    have hk:k < cs.length:=by rw [← hl];exact (List.getElem?_eq_some_iff.1 ha).1
    exact h k cs[k] a v (List.getElem?_eq_getElem hk) ha (g5 k cs[k] v (List.getElem?_eq_getElem hk) hv)
  ·exact r.rows i s hi
 ·obtain ⟨s,h1,h2⟩:=r.dom i m z hz
  rw [Hp.get_put]
  split
  ·rename_i e;subst e
   rw [hj] at h1;cases h1
   exact ⟨_,rfl,h2⟩
  ·exact ⟨s,h1,h2⟩
theorem FLe.nilC {F:List AV} {H:Hp} (i j k:Nat) (e:TypeId) (sz:Nat) {t:TypeId} {cs:List AV} (hi:H.get i=none) (h0:0 < sz) (hj:H.get j=some (.var t cs)) (hk:cs[k]?=some (.raw (.slice none 0 0))):FLe F H F ((H.put i (.vec e sz [])).put j (.var t (cs.set k (.rs i 0 sz 0)))):=fun w tm h1 h2=>by
 obtain ⟨a,b⟩:=jkk h1 hi e h0
 have hij:j≠i:=fun e=>by subst e;rw [hi] at hj;cases hj
 obtain ⟨a',b'⟩:=jlq (cs':=cs.set k (.rs i 0 sz 0)) a (j:=j) (t:=t) (cs:=cs) (by rw [Hp.get_put,if_neg hij];exact hj) (by simp) fun n x x' v hx hx' hv=>by
  rw [List.getElem?_set] at hx'
  by_cases hn:k=n
  ·subst hn
   rw [if_pos rfl] at hx'
   split at hx'
   ·cases hx'
    rw [hk] at hx
    cases hx
    cases hv
    exact .rs0 _ _ _ _ (NW.name_same _ _ _ _)
   ·cases hx'
  ·rw [if_neg hn,hx] at hx'
   cases hx'
   exact hv
 exact ⟨w.name i 0 .nil,rfl,a',h2.ext b,(b.trans b').toB⟩
end Go.Gd
namespace Go.Proofs.YtdekkklnfifphaaGreatDoor
open Go Go.Gd
theorem jrL:∀ m n,n≤m→jpJ n∧juM n
 | 0,0,_=>⟨fun r h hn=>by omega,fun r h he hn=>by omega⟩
 | m+1,0,_=>⟨fun r h hn=>by omega,fun r h he hn=>by omega⟩
 | m+1,n+1,hm=>by
  have ih:=fun k (hk:k≤n)=>jrL m k (by omega)
  exact ⟨ju0 n fun k hk=>(ih k hk).2,jmX n (ih n (Nat.le_refl _)).1⟩
theorem jt2 {r:Rd} (h:r.Inv):ACalls Tryz.prog 116 [pR] (jbv r) (fun v l=>v=rI (jfM r).2∧l=jbv (jfM r).1):=(jrL _ _ (Nat.le_refl _)).1 r h (by omega)
set_option maxHeartbeats 4000000 in
set_option maxRecDepth 10000 in
theorem joW {r:Rd} (h:r.Inv):ACalls Tryz.prog 71 [pR] (jbv r) (fun v l=>v=.agg (jbn (fnF r).2)∧l=jbv (fnF r).1):=by
 have h1:=(jfl h).1.inv h
 have h2:=(jfl h).2.1.inv h
 have h3:=(jfl h).2.2.1.inv h
 have h4:=(jqg h).inv h1
 have h5:=(jns h).inv h1
 have h6:=(jnt h).inv h1
 have h7:=(jjF h6).inv h6
 have hr0:(fnA r).rem≤2000:=by
  have:=h3.pos;have:=h3.len
  unfold Rd.rem;split<;>omega
 have hm:ACalls Tryz.prog 112 [pR,rS (⟨#[40]⟩:ByteArray)] (jbv (r.must (⟨#[102,110]⟩:ByteArray)).name.1) (fun v l=>v=.tup []∧l=jbv (fnA r)):=jbR (r.must (⟨#[102,110]⟩:ByteArray)).name.1 _ (rok h2)
 refine jaR Tryz.func71 Tryz.ntmps71 ?_
 (refine S ?_;try exact True.intro)
 (repeat' (first|refine jaa fun K hK=>?_|refine wkA ?_|(refine hK _ _ ?_;clear hK K)|(refine jad (fun hc=>?_) (fun hc=>?_)<;>first | contradiction | (exfalso;omega) | skip)|refine cm (jaX r (rok h)) ?_|refine cm (hm) ?_|refine cm (jbR r _ (rok h)) ?_|refine cm (jjb (r.must (⟨#[102,110]⟩:ByteArray)) (rok h1)) ?_|refine cm (jeF (fnA r) _ (rok h3)) ?_|refine wkB ?_|exact True.intro|(clear hK K)))
 have hKo:=hK;clear hK
 refine jaD (FLe.nilC 4 3 2 100 2 rfl (by decide) rfl rfl) ?_
 (refine S ?_;try exact True.intro)
 refine jag (S:=Nat×Bool×Rd×List GParam) [(5,3),(30,23)] (fun s=>s.2.2.1.Inv∧(s.2.1=true→s.2.2.1.rem+2≤s.1)∧1≤s.1∧s.2.2.2.length+s.1≤5000∧jbL s.1 s.2.1 s.2.2.1 s.2.2.2=fnB r) (fun s=>[(5,rB s.2.1)]) (fun s=>⟨[0,1],jbv s.2.2.1++[(2,.var 66 [rS ⟨#[]⟩,rI 0,.raw (.slice none 0 0),rI 0,rI 0]),(3,.var 66 [rS (r.must (⟨#[102,110]⟩:ByteArray)).name.2,rI r.line,.rs 4 s.2.2.2.length 2 s.2.2.2.length,rI 0,rI 0]),(4,.vec 100 2 (s.2.2.2.map jce))]⟩) (fun s=>s.1) ((fnA r).rem+2,more (fnA r),fnA r,[]) ⟨h3,fun _=>Nat.le_refl _,by (try simp only);omega,by (try simp only [List.length_nil]);omega,rfl⟩ (jau rfl (by simp only [go_sem,LLe,Nat.reduceAdd,AV.raw.injEq,Value.int.injEq,Value.slice.injEq,Value.pointer.injEq,AV.rs.injEq,more,List.length_nil];try omega)) ?_
 rintro ⟨n,b,q,L⟩ ⟨hq,hn1,hn2,hn3,hA⟩ Kr hKr
 simp only at hq hn1 hn2 hn3 hA
 have hqi:=hq.lt
 have hqp:=hq.pos
 have hql:=hq.len
 obtain ⟨n,rfl⟩:∃ k,n=k+1:=⟨n - 1,by omega⟩
 cases b with
 | false=>
  rw [jbL] at hA
  have e1:q=(fnB r).1:=by rw [← hA]
  have e2:L=(fnB r).2:=by rw [← hA]
  have hmm:ACalls Tryz.prog 112 [pR,rS (⟨#[41]⟩:ByteArray)] (jbv q) (fun v l=>v=.tup []∧l=jbv (fnC r)):=by rw [e1];exact jbR (fnB r).1 _ (rok h4)
  by_cases hx:(fnC r).is (⟨#[123]⟩:ByteArray)=true
  ·have ed:fnD r=(fnC r,0):=by unfold fnD;rw [if_pos hx]
   have ef:fnF r=((jfM (fnC r)).1,⟨(r.must (⟨#[102,110]⟩:ByteArray)).name.2,r.line,L,0,(jfM (fnC r)).2⟩):=by unfold fnF;rw [ed,← e2]
   rw [ef] at hKo
   (refine S ?_;try exact True.intro)
   (have W:=hx;repeat' (first|refine jaa fun K hK=>?_|refine wkA ?_|(refine hK _ _ ?_;clear hK K)|(refine jad (fun hc=>?_) (fun hc=>?_)<;>first | contradiction | (exfalso;omega) | skip)|(refine hKo _ _ ?_)|refine cm (hmm) ?_|refine cm (jeF (fnC r) _ (rok h5)) ?_|refine cm (jt2 h5) ?_|refine wkB ?_|exact True.intro|(clear hK K)));all_goals (try clear W)
   refine jfG [.cell 2 66] ?_
   refine VToL.agg (ds:=[rS _,rI _,jaI jce 2 L,rI _,rI _]) ?_
   exact And.intro (.same _ rfl) (And.intro (.same _ rfl) (And.intro (VTo.row (enc:=jce) L rfl rfl (by simp)) (And.intro (.same _ rfl) (And.intro (.same _ rfl) trivial))))
  ·have hx':(fnC r).is (⟨#[123]⟩:ByteArray)=false:=by simpa using hx
   have ed:fnD r=jbw (fnC r):=by unfold fnD;rw [if_neg hx]
   rw [ed] at h6
   have ef:fnF r=((jfM (jbw (fnC r)).1).1,⟨(r.must (⟨#[102,110]⟩:ByteArray)).name.2,r.line,L,(jbw (fnC r)).2,(jfM (jbw (fnC r)).1).2⟩):=by unfold fnF;rw [ed,← e2]
   rw [ef] at hKo
   (refine S ?_;try exact True.intro)
   (have W:=hx';repeat' (first|refine jaa fun K hK=>?_|refine wkA ?_|(refine hK _ _ ?_;clear hK K)|(refine jad (fun hc=>?_) (fun hc=>?_)<;>first | contradiction | (exfalso;omega) | skip)|(refine hKo _ _ ?_)|refine cm (hmm) ?_|refine cm (jeF (fnC r) _ (rok h5)) ?_|refine cm (jrX h5) ?_|refine cm (jt2 h6) ?_|refine wkB ?_|exact True.intro|(clear hK K)));all_goals (try clear W)
   refine jfG [.cell 2 66] ?_
   refine VToL.agg (ds:=[rS _,rI _,jaI jce 2 L,rI _,rI _]) ?_
   exact And.intro (.same _ rfl) (And.intro (.same _ rfl) (And.intro (VTo.row (enc:=jce) L rfl rfl (by simp)) (And.intro (.same _ rfl) (And.intro (.same _ rfl) trivial))))
 | true=>
  have s1:=jlu hq
  have hx:=s1.inv hq
  have hr1:=s1.rem
  have hxi:=hx.lt
  have hxp:=hx.pos
  have hxl:=hx.len
  have hn1:=hn1 rfl
  have hq1:=(Rd.st_name hq).inv hq
  have hty:ACalls Tryz.prog 115 [pR] (jbv q.name.1) (fun v l=>v=rI (jbw q.name.1).2∧l=jbv (jep q)):=jrX hq1
  rw [jbL] at hA
  (refine S ?_;try exact True.intro)
  (repeat' (first|refine jaa fun K hK=>?_|refine wkA ?_|(refine hK _ _ ?_;clear hK K)|(refine jad (fun hc=>?_) (fun hc=>?_)<;>first | contradiction | (exfalso;omega) | skip)|refine cm (jjb q (rok hq)) ?_|refine cm (hty) ?_|refine cm (jeF (jep q) _ (rok hx)) ?_|refine wkB ?_|exact True.intro|(clear hK K)))
  ·rw [if_pos hc] at hA
   have hk:=Rd.is_kind hc
   have hr2:=Rd.rem_inc hx hk
   refine hKr _ _ (jar (n,true,(jep q).inc,L++[⟨q.name.2,(jbw q.name.1).2⟩]) ⟨(Rd.st_inc hx hk.2).1.inv hx,fun _=>by (try simp only);omega,by (try simp only);omega,by (try simp only [List.length_append,List.length_cons,List.length_nil]);omega,hA⟩ (by (try simp only);omega) (by simp only [go_sem,jbv,ja1,List.map_append,List.map_cons,List.map_nil,List.cons_append,List.nil_append,List.length_append,List.length_cons,List.length_nil,Nat.reduceAdd];(try rfl)) (by simp only [go_sem,LLe,Nat.reduceAdd,AV.raw.injEq,Value.int.injEq,Value.slice.injEq,Value.pointer.injEq,AV.rs.injEq,hc,List.length_append,List.length_cons,List.length_nil];try omega))
  ·rw [if_neg (by rw [hc];decide)] at hA
   refine hKr _ _ (jar (n,false,jep q,L++[⟨q.name.2,(jbw q.name.1).2⟩]) ⟨hx,(by intro h;cases h),by (try simp only);omega,by (try simp only [List.length_append,List.length_cons,List.length_nil]);omega,?_⟩ (by (try simp only);omega) (by simp only [go_sem,jbv,ja1,List.map_append,List.map_cons,List.map_nil,List.cons_append,List.nil_append,List.length_append,List.length_cons,List.length_nil,Nat.reduceAdd];(try rfl)) (by simp only [go_sem,LLe,Nat.reduceAdd,AV.raw.injEq,Value.int.injEq,Value.slice.injEq,Value.pointer.injEq,AV.rs.injEq,hc,List.length_append,List.length_cons,List.length_nil];try omega))
   rw [← hA]
   obtain ⟨n,rfl⟩:∃ k,n=k+1:=⟨n - 1,by omega⟩
   rw [jbL]
theorem jsp {α:Type} [Inhabited α] (p:α→Bool) (l:List α) {k:Nat} (h:k < l.length):(l.take (k+1)).any p=((l.take k).any p || p (nth l k)):=by
 rw [List.take_succ_eq_append_getElem h,List.any_append,jbc h]
 simp
def jt1 (t:List GNode) (L:List GFunc) (k:Nat):Bool:=decide (300 < (t.length:Int)) || decide (6 < (L.length:Int)) || (L.take k).any fun f=>decide (3 < (f.params.length:Int))
theorem jpZ (t:List GNode) (L:List GFunc) {k:Nat} (h:k < L.length):jt1 t L (k+1)=(jt1 t L k || decide (3 < ((nth L k).params.length:Int))):=by
 unfold jt1
 rw [jsp _ _ h]
 simp only [Bool.or_assoc]
theorem jsB (t:List GNode) (L:List GFunc) {k:Nat} (h:L.length≤k):jt1 t L k=juY t L:=by
 unfold jt1 juY
 rw [List.take_of_length_le h]
 have e1:∀ n:Nat,decide (300 < (n:Int))=decide (300 < n):=fun n=>decide_eq_decide.2 (by omega)
 have e2:∀ n:Nat,decide (6 < (n:Int))=decide (6 < n):=fun n=>decide_eq_decide.2 (by omega)
 have e3:∀ n:Nat,decide (3 < (n:Int))=decide (3 < n):=fun n=>decide_eq_decide.2 (by omega)
 simp only [e1,e2,e3]
def j8q:AV:=.agg (jcp ⟨[],[]⟩)
set_option maxHeartbeats 4000000 in
set_option maxRecDepth 10000 in
theorem jv3 (s:ByteArray) (hs:s.size≤1000000):PCall Tryz.prog 44 [rS s] (.tup [.agg (jcp (jaA s).1),rI (jaA s).2.1,rI (jaA s).2.2]):=by
 by_cases he:(jb7 s).2.2=0
 ·have hi:=jrm he
  have hr0:(rd0 s).rem≤2000:=by
   have:=hi.pos;have:=hi.len
   unfold Rd.rem;split<;>omega
  refine jbO Tryz.func44 Tryz.ntmps44 ?_
  (have W:=he;repeat' (first|refine jaa fun K hK=>?_|refine wkA ?_|(refine hK _ _ ?_;clear hK K)|(refine jad (fun hc=>?_) (fun hc=>?_)<;>first | contradiction | (exfalso;omega) | skip)|refine cp (jzi s hs) ?_|(refine jdE (t:=27) 10 (by simp only [go_sem];rfl) rfl ?_;(refine S ?_;try exact True.intro))|(refine jff 0 (by simp only [go_sem]) rfl ?_;(refine S ?_;try exact True.intro))|refine wkB ?_|exact True.intro|(clear hK K)));all_goals (try clear W)
  have hKo:=hK;clear hK
  refine jaD (FLe.nilC 1 0 3 68 5 rfl (by decide) rfl rfl) ?_
  (refine S ?_;try exact True.intro)
  refine jaD (FLe.nilC 12 11 1 66 5 rfl (by decide) rfl rfl) ?_
  (refine S ?_;try exact True.intro)
  refine jag (S:=Nat×Rd×List GFunc) [(10,2),(30,16)] (fun p=>p.2.1.Inv∧p.2.1.rem+1≤p.1∧p.2.2.length+p.1≤5000∧jnu p.1 p.2.1 p.2.2=jdx s) (fun _=>[]) (fun p=>⟨[],[(10,.var 27 [.raw (.slice none 0 0),.raw (.slice none 0 0)]),(0,.var 128 (ja1 p.2.1)),(11,.var 27 [.raw (.slice none 0 0),.rs 12 p.2.2.length 5 p.2.2.length]),(1,.vec 68 5 (p.2.1.nodes.map jaH)),(12,.vec 66 5 (p.2.2.map jbn))]⟩) (fun p=>p.1) ((rd0 s).rem+1,rd0 s,[]) ⟨hi,Nat.le_refl _,by (try simp only [List.length_nil]);omega,rfl⟩ (jau rfl lle) ?_
  rintro ⟨n,q,L⟩ ⟨hq,hn1,hn2,hA⟩ Kr hKr
  simp only at hq hn1 hn2 hA
  have hqi:=hq.lt
  have hqp:=hq.pos
  have hql:=hq.len
  obtain ⟨n,rfl⟩:∃ k,n=k+1:=⟨n - 1,by omega⟩
  rw [jnu] at hA
  by_cases hc1:q.e=0∧q.kind 0=false
  ·rw [if_pos hc1] at hA
   obtain ⟨hqe,hqc⟩:=hc1
   obtain ⟨t1,t2⟩:=juk hq
   have t2:=t2 hqe
   have hj:=t1.inv hq
   (refine S ?_;try exact True.intro)
   (have W:=And.intro hqe (hqc);repeat' (first|refine jaa fun K hK=>?_|refine wkA ?_|(refine hK _ _ ?_;clear hK K)|(refine jad (fun hc=>?_) (fun hc=>?_)<;>first | contradiction | (exfalso;omega) | skip)|refine cm (jk7 q _ (rok hq)) ?_|refine cm (joW hq) ?_|refine wkB ?_|exact True.intro|(clear hK K)));all_goals (try clear W)
   refine hKr _ _ (jaM [13] (n,(fnF q).1,L++[(fnF q).2]) ⟨hj,by (try simp only);omega,by (try simp only [List.length_append,List.length_cons,List.length_nil]);omega,hA⟩ (by (try simp only);omega) rfl Sd (by simp only [go_sem,ja1,List.map_append,List.map_cons,List.map_nil,List.length_append,List.length_cons,List.length_nil,Nat.reduceAdd];(try rfl)) vtl)
  ·rw [if_neg hc1] at hA
   have e1:q=(jdx s).1:=by rw [← hA]
   have e2:L=(jdx s).2:=by rw [← hA]
   (refine S ?_;try exact True.intro)
   (repeat' (first|refine jaa fun K hK=>?_|refine wkA ?_|(refine hK _ _ ?_;clear hK K)|(refine jad (fun hc=>?_) (fun hc=>?_)<;>first | contradiction | (exfalso;omega) | skip)|refine cm (jk7 q _ (rok hq)) ?_|refine wkB ?_|exact True.intro|(clear hK K)))
   all_goals first | (exact absurd ⟨by assumption,by assumption⟩ hc1) | skip
   ·have hqe:q.e=0:=by assumption
    have hee:¬ (jdx s).1.e≠0:=by rw [← e1];simp [hqe]
    refine hKo _ _ ?_
    clear hKo
    (have W:=hqe;repeat' (first|refine jaa fun K hK=>?_|refine wkA ?_|(refine hK _ _ ?_;clear hK K)|(refine jad (fun hc=>?_) (fun hc=>?_)<;>first | contradiction | (exfalso;omega) | skip)|refine wkB ?_|exact True.intro|(clear hK K)));all_goals (try clear W)
    have hKo:=hK;clear hK
    refine jag (S:=Nat) [(12,2),(75,18)] (fun k=>k≤L.length) (fun k=>[(12,rB (jt1 q.nodes L k)),(13,rI k)]) (fun _=>⟨[],[(10,.var 27 [.raw (.slice none 0 0),.raw (.slice none 0 0)]),(0,.var 128 (ja1 q)),(11,.var 27 [.rs 1 q.nodes.length 5 q.nodes.length,.rs 12 L.length 5 L.length]),(1,.vec 68 5 (q.nodes.map jaH)),(12,.vec 66 5 (L.map jbn))]⟩) (fun k=>L.length - k) 0 (Nat.zero_le _) (jau (by simp only [ja1,hqe]) (by simp only [go_sem,LLe,Nat.reduceAdd,AV.raw.injEq,Value.int.injEq,Value.slice.injEq,Value.pointer.injEq,AV.rs.injEq,jt1,List.take_zero,List.any_nil,Bool.or_false];try omega)) ?_
    intro k hk Kr hKr
    (refine S ?_;try exact True.intro)
    (repeat' (first|refine jaa fun K hK=>?_|refine wkA ?_|(refine hK _ _ ?_;clear hK K)|(refine jad (fun hc=>?_) (fun hc=>?_)<;>first | contradiction | (exfalso;omega) | skip)|refine wkB ?_|exact True.intro|(clear hK K)))
    ·have hkl:k < L.length:=by omega
     refine hKr _ _ (jar (k+1) (by (try simp only);omega) (by (try simp only);omega) (by simp only [ja1,hqe]) (by simp only [go_sem,LLe,Nat.reduceAdd,AV.raw.injEq,Value.int.injEq,Value.slice.injEq,Value.pointer.injEq,AV.rs.injEq,jpZ _ _ hkl];try omega))
    ·have hbu:jt1 q.nodes L k=juY q.nodes L:=jsB _ _ (by omega)
     by_cases hbig:juY q.nodes L=true
     ·have ep:jaA s=(⟨[],[]⟩,0,4):=by unfold jaA;rw [if_neg (by simp [he]),if_neg hee,← e1,← e2,if_pos hbig]
      rw [ep] at hKo
      refine hKo _ _ ?_
      (have W:=And.intro hbu (hbig);repeat' (first|refine jaa fun K hK=>?_|refine wkA ?_|(refine hK _ _ ?_;clear hK K)|(refine jad (fun hc=>?_) (fun hc=>?_)<;>first | contradiction | (exfalso;omega) | skip)|refine wkB ?_|exact True.intro|(clear hK K)));all_goals (try clear W)
      refine jfG [.cell 2 27,.tmp 3,.tmp 4] ?_
      refine VToL.tup (ds:=[.agg (jcp ⟨[],[]⟩),rI _,rI _]) ?_
      exact And.intro (VToL.agg (ds:=[jaI jaH 5 [],jaI jbn 5 []]) (And.intro (VTo.nil _ _) (And.intro (VTo.nil _ _) trivial))) (And.intro (.same _ rfl) (And.intro (.same _ rfl) trivial))
     ·have hbf:juY q.nodes L=false:=by simpa using hbig
      have ep:jaA s=(⟨q.nodes,L⟩,0,0):=by unfold jaA;rw [if_neg (by simp [he]),if_neg hee,← e1,← e2,if_neg hbig]
      rw [ep] at hKo
      refine hKo _ _ ?_
      (have W:=And.intro hbu (hbf);repeat' (first|refine jaa fun K hK=>?_|refine wkA ?_|(refine hK _ _ ?_;clear hK K)|(refine jad (fun hc=>?_) (fun hc=>?_)<;>first | contradiction | (exfalso;omega) | skip)|refine wkB ?_|exact True.intro|(clear hK K)));all_goals (try clear W)
      refine jfG [.cell 2 27,.tmp 3,.tmp 4] ?_
      refine VToL.tup (ds:=[.agg (jcp ⟨q.nodes,L⟩),rI _,rI _]) ?_
      exact And.intro (VToL.agg (ds:=[jaI jaH 5 q.nodes,jaI jbn 5 L]) (And.intro (VTo.row (enc:=jaH) q.nodes rfl rfl (by simp)) (And.intro (VTo.row (enc:=jbn) L rfl rfl (by simp)) trivial))) (And.intro (.same _ rfl) (And.intro (.same _ rfl) trivial))
   ·have hqe:¬ q.e=0:=by assumption
    have ep:jaA s=(⟨[],[]⟩,q.at_,q.e):=by unfold jaA;rw [if_neg (by simp [he]),← e1,if_pos hqe]
    rw [ep] at hKo
    refine hKo _ _ ?_
    (have W:=hqe;repeat' (first|refine jaa fun K hK=>?_|refine wkA ?_|(with_reducible refine gR 12 ?_);refine dA 12 [10] [0,1,2,3,4,5,6,7,8,9,10,11] mixed ?_|(refine hK _ _ ?_;clear hK K)|(refine jad (fun hc=>?_) (fun hc=>?_)<;>first | contradiction | (exfalso;omega) | skip)|refine wkB ?_|exact True.intro|(clear hK K)));all_goals (try clear W)
    refine jfG [.cell 2 27,.tmp 3,.tmp 4] ?_
    refine VToL.tup (ds:=[.agg (jcp ⟨[],[]⟩),rI _,rI _]) ?_
    exact And.intro (VToL.agg (ds:=[jaI jaH 5 [],jaI jbn 5 []]) (And.intro (VTo.nil _ _) (And.intro (VTo.nil _ _) trivial))) (And.intro (.same _ rfl) (And.intro (.same _ rfl) trivial))
 ·have ep:jaA s=(⟨[],[]⟩,(jb7 s).2.1,(jb7 s).2.2):=by unfold jaA;rw [if_pos he]
  rw [ep]
  refine jbO Tryz.func44 Tryz.ntmps44 ?_
  (have W:=he;repeat' (first|refine jaa fun K hK=>?_|refine wkA ?_|(refine hK _ _ ?_;clear hK K)|(refine jad (fun hc=>?_) (fun hc=>?_)<;>first | contradiction | (exfalso;omega) | skip)|refine cp (jzi s hs) ?_|refine wkB ?_|exact True.intro|(clear hK K)));all_goals (try clear W)
  refine jfG [.cell 2 27,.tmp 3,.tmp 4] ?_
  refine VToL.tup (ds:=[.agg (jcp ⟨[],[]⟩),rI _,rI _]) ?_
  exact And.intro (VToL.agg (ds:=[jaI jaH 5 [],jaI jbn 5 []]) (And.intro (VTo.nil _ _) (And.intro (VTo.nil _ _) trivial))) (And.intro (.same _ rfl) (And.intro (.same _ rfl) trivial))
end Go.Proofs.YtdekkklnfifphaaGreatDoor

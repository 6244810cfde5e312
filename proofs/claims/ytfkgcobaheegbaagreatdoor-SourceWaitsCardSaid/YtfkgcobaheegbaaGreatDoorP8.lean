/- The document's parser: blocks, statements. The document's parser: functions, all. The document's parser: all. No conditions. -/
import Derived.Test.YtfkgcobaheegbaaGreatDoorP5
import Derived.Test.YtfkgcobaheegbaaGreatDoorLxT
set_option linter.all false
namespace Go.Proofs.YtfkgcobaheegbaaGreatDoor
open Go Go.Gd
def jpo (n:Nat):Prop:=∀ r:Rd,r.Inv→4 * r.rem+1≤n→ACalls Tryz.prog 149 [pR] (jbE r) (fun v l=>v=rI (jbd n r).2∧l=jbE (jbd n r).1)
def jt7 (n:Nat):Prop:=∀ r:Rd,r.Inv→r.e=0→4 * r.rem+2≤n→ACalls Tryz.prog 214 [pR] (jbE r) (fun v l=>v=rI (jga n r).2∧l=jbE (jga n r).1)
set_option maxHeartbeats 4000000 in
set_option maxRecDepth 10000 in
theorem jul (n:Nat) (hs:∀ m,m≤n→jt7 m):jpo (n+1):=by
 intro r h hn
 by_cases hx:r.is (⟨#[123]⟩:ByteArray)=true
 ·have he:=(Rd.is_kind hx).1
  have hd:=(Rd.down_inv h he).1
  have s1:=Rd.st_must hd (⟨#[123]⟩:ByteArray)
  have h1:=s1.inv hd
  have s2:=(jeC n).2.1 _ [] h1
  have h2:=s2.inv h1
  have s3:=Rd.st_must h2 (⟨#[125]⟩:ByteArray)
  have h3:=s3.inv h2
  have h4:=(Rd.st_deep h he ((s1.trans s2).trans s3)).inv h
  have h3l:=h3.dlo
  have h3h:=h3.dhi
  have hr:=(Rd.down_must h hx).1
  have hr0:r.rem≤2000:=by
   have:=h.pos;have:=h.len
   unfold Rd.rem;split<;>omega
  rw [jbd,if_pos hx]
  refine jaw Tryz.func149 Tryz.ntmps149 ?_
  (refine S ?_;try exact True.intro)
  (have W:=hx;repeat' (first|refine jaa fun K hK=>?_|refine wkA ?_|(refine hK _ _ ?_;clear hK K)|(refine jad (fun hc=>?_) (fun hc=>?_)<;>first | contradiction | (exfalso;omega) | skip)|refine cm (ja1 r (rok h)) ?_|refine cm (jes r _ (rok h)) ?_|refine cm (jhT r (rok h)) ?_|refine cm (jbN r.down _ (rok hd)) ?_|refine wkB ?_|exact True.intro|(clear hK K)));all_goals (try clear W)
  have hKo:=hK;clear hK
  refine jaU (FLe.nil 2 5 3 (sz:=1) rfl (by decide) (Or.inr ⟨_,_,_,rfl,rfl⟩)) ?_
  (refine S ?_;try exact True.intro)
  refine jah (S:=Nat×Rd×List Int) [(5,3),(21,14)] (fun s=>s.2.1.Inv∧4 * s.2.1.rem+3≤s.1∧s.1≤n∧s.2.2.length+s.2.1.rem≤2000∧jcY s.1 s.2.1 s.2.2=jcY n (r.down.must (⟨#[123]⟩:ByteArray)) []) (fun s=>[(5,.rs 2 s.2.2.length 1 s.2.2.length)]) (fun s=>⟨[0,1],jbE s.2.1++[(2,.vec 3 1 (s.2.2.map eI))]⟩) (fun s=>s.1) (n,r.down.must (⟨#[123]⟩:ByteArray),[]) ⟨h1,by (try simp only);omega,Nat.le_refl _,by (try simp only [List.length_nil]);omega,rfl⟩ (jaE rfl lle) ?_
  rintro ⟨m,q,L⟩ ⟨hq,hm1,hm2,hm3,hA⟩ Kr hKr
  simp only at hq hm1 hm2 hm3 hA
  have hqi:=hq.lt
  have hqp:=hq.pos
  have hql:=hq.len
  obtain ⟨m,rfl⟩:∃ k,m=k+1:=⟨m - 1,by omega⟩
  rw [jcY] at hA
  by_cases hc1:q.e=0∧q.is (⟨#[125]⟩:ByteArray)=false
  ·rw [if_pos hc1] at hA
   obtain ⟨hqe,hqc⟩:=hc1
   obtain ⟨t1,t2⟩:=(jeC m).2.2 q hq hqe (by omega)
   have hj:=t1.inv hq
   (refine S ?_;try exact True.intro)
   (have W:=And.intro hqe (hqc);repeat' (first|refine jaa fun K hK=>?_|refine wkA ?_|(refine hK _ _ ?_;clear hK K)|(refine jad (fun hc=>?_) (fun hc=>?_)<;>first | contradiction | (exfalso;omega) | skip)|refine cm (jes q _ (rok hq)) ?_|refine cm (hs m (by omega) q hq hqe (by omega)) ?_|refine wkB ?_|exact True.intro|(clear hK K)));all_goals (try clear W)
   refine hKr _ _ (jau (m,(jga m q).1,L++[(jga m q).2]) ⟨hj,by (try simp only);omega,by (try simp only);omega,by (try simp only [List.length_append,List.length_cons,List.length_nil]);omega,hA⟩ (by (try simp only);omega) (by simp only [go_sem,jbE,ja5,List.map_append,List.map_cons,List.map_nil,List.cons_append,List.nil_append];(try rfl)) lle)
  ·rw [if_neg hc1] at hA
   have e1:q=(jcY n (r.down.must (⟨#[123]⟩:ByteArray)) []).1:=by rw [← hA]
   have e2:L=(jcY n (r.down.must (⟨#[123]⟩:ByteArray)) []).2:=by rw [← hA]
   rw [← e1] at h3 h4 h3l h3h
   (refine S ?_;try exact True.intro)
   (repeat' (first|refine jaa fun K hK=>?_|refine wkA ?_|(refine hK _ _ ?_;clear hK K)|(refine jad (fun hc=>?_) (fun hc=>?_)<;>first | contradiction | (exfalso;omega) | skip)|refine cm (jes q _ (rok hq)) ?_|refine wkB ?_|exact True.intro|(clear hK K)))
   all_goals first | (exact absurd ⟨by assumption,by assumption⟩ hc1) | skip
   all_goals refine hKo _ _ ?_
   all_goals refine jnd [2] 5 (jal eI 1 L) Sd Sd vtl ?_
   all_goals (
    (refine S ?_;try exact True.intro)
    (repeat' (first|refine jaa fun K hK=>?_|refine wkA ?_|(refine hK _ _ ?_;clear hK K)|(refine jad (fun hc=>?_) (fun hc=>?_)<;>first | contradiction | (exfalso;omega) | skip)|refine cm (jbN q _ (rok hq)) ?_|refine cm (jqB (q.must (⟨#[125]⟩:ByteArray)).up _ _ _ _ L (rok h4)) ?_|refine wkB ?_|exact True.intro|(clear hK K)))
    (refine jbM [.tmp 2] ?_ ?_<;>(try simp only [go_sem]))
    all_goals simp only [← e1,← e2])
 ·rw [jbd,if_neg hx]
  have hx':r.is (⟨#[123]⟩:ByteArray)=false:=by simpa using hx
  refine jaw Tryz.func149 Tryz.ntmps149 ?_
  (refine S ?_;try exact True.intro)
  (have W:=hx';repeat' (first|refine jaa fun K hK=>?_|refine wkA ?_|(refine hK _ _ ?_;clear hK K)|(refine jad (fun hc=>?_) (fun hc=>?_)<;>first | contradiction | (exfalso;omega) | skip)|refine cm (ja1 r (rok h)) ?_|refine cm (jes r _ (rok h)) ?_|refine cm (jfj r _ (rok h)) ?_|refine wkB ?_|exact True.intro|(clear hK K)));all_goals (try clear W)
  (refine jbM [.tmp 2] ?_ ?_<;>(try simp only [go_sem]))
set_option maxHeartbeats 8000000 in
set_option maxRecDepth 10000 in
theorem jmS (n:Nat) (hb:jpo n):jt7 (n+1):=by
 intro r h he hn
 have hri:=h.lt
 have hrp:=h.pos
 have hrl:=h.len
 have word:∀ w:ByteArray,w≠⟨#[]⟩→r.word=w→r.inc.Inv∧r.inc.rem+1≤r.rem:=fun w h0 hw=>by
  have hk:=Rd.kind_kind (Rd.word_kind hw h0) (by decide)
  exact ⟨(Rd.st_inc h hk.2).1.inv h,Rd.rem_inc h hk⟩
 rw [jga]
 by_cases w1:r.word=(⟨#[108,101,116]⟩:ByteArray)
 ·rw [if_pos w1]
  have w1':=eq_true w1
  obtain ⟨hi,hr⟩:=word _ (by decide) w1
  have h1:=(Rd.st_name hi).inv hi
  have h2:=(Rd.st_must h1 (⟨#[61]⟩:ByteArray)).inv h1
  have h3:=(jf0 h2).inv h2
  have h4:=(Rd.st_must h3 (⟨#[59]⟩:ByteArray)).inv h3
  refine jaw Tryz.func214 Tryz.ntmps214 ?_
  (refine S ?_;try exact True.intro)
  (have W:=w1';repeat' (first|refine jaa fun K hK=>?_|refine wkA ?_|(refine hK _ _ ?_;clear hK K)|(refine jad (fun hc=>?_) (fun hc=>?_)<;>first | contradiction | (exfalso;omega) | skip)|refine cm (ja1 r (rok h)) ?_|refine cm (jed r (rok h)) ?_|refine cm (jjr r.inc (rok hi)) ?_|refine cm (jbN r.inc.name.1 _ (rok h1)) ?_|refine cm (jqQ h2) ?_|refine cm (jbN (jcw (r.inc.name.1.must (⟨#[61]⟩:ByteArray))).1 _ (rok h3)) ?_|refine cm (jdX ((jcw (r.inc.name.1.must (⟨#[61]⟩:ByteArray))).1.must (⟨#[59]⟩:ByteArray)) _ _ _ _ [(jcw (r.inc.name.1.must (⟨#[61]⟩:ByteArray))).2] _ VLe.sl (rok h4)) ?_|refine wkB ?_|exact True.intro|(clear hK K)));all_goals (try clear W)
  (refine jbM [.tmp 2] ?_ ?_<;>(try simp only [go_sem]))
 rw [if_neg w1]
 by_cases w2:r.word=(⟨#[112,114,105,110,116]⟩:ByteArray)
 ·rw [if_pos w2]
  have w2':=eq_true w2
  obtain ⟨hi,hr⟩:=word _ (by decide) w2
  have h1:=(ja7 hi).inv hi
  have h2:=(Rd.st_must h1 (⟨#[59]⟩:ByteArray)).inv h1
  refine jaw Tryz.func214 Tryz.ntmps214 ?_
  (refine S ?_;try exact True.intro)
  (have W:=And.intro w1 (w2');repeat' (first|refine jaa fun K hK=>?_|refine wkA ?_|(refine hK _ _ ?_;clear hK K)|(refine jad (fun hc=>?_) (fun hc=>?_)<;>first | contradiction | (exfalso;omega) | skip)|refine cm (ja1 r (rok h)) ?_|refine cm (jed r (rok h)) ?_|refine cm (jdC hi) ?_|refine cm (jbN (jaS r.inc).1 _ (rok h1)) ?_|refine cm (jdX ((jaS r.inc).1.must (⟨#[59]⟩:ByteArray)) _ _ _ _ [(jaS r.inc).2] _ VLe.sl (rok h2)) ?_|refine wkB ?_|exact True.intro|(clear hK K)));all_goals (try clear W)
  (refine jbM [.tmp 2] ?_ ?_<;>(try simp only [go_sem]))
 rw [if_neg w2]
 by_cases w3:r.word=(⟨#[119,104,105,108,101]⟩:ByteArray)
 ·rw [if_pos w3]
  have w3':=eq_true w3
  obtain ⟨hi,hr⟩:=word _ (by decide) w3
  have h1:=(ja7 hi).inv hi
  have hr1:=(ja7 hi).rem
  have h2:=((jeC n).1 _ h1).inv h1
  refine jaw Tryz.func214 Tryz.ntmps214 ?_
  (refine S ?_;try exact True.intro)
  (have W:=And.intro w1 (And.intro w2 (w3'));repeat' (first|refine jaa fun K hK=>?_|refine wkA ?_|(refine hK _ _ ?_;clear hK K)|(refine jad (fun hc=>?_) (fun hc=>?_)<;>first | contradiction | (exfalso;omega) | skip)|refine cm (ja1 r (rok h)) ?_|refine cm (jed r (rok h)) ?_|refine cm (jdC hi) ?_|refine cm (hb _ h1 (by omega)) ?_|refine cm (jdX (jbd n (jaS r.inc).1).1 _ _ _ _ [(jaS r.inc).2,(jbd n (jaS r.inc).1).2] _ VLe.sl (rok h2)) ?_|refine wkB ?_|exact True.intro|(clear hK K)));all_goals (try clear W)
  (refine jbM [.tmp 2] ?_ ?_<;>(try simp only [go_sem]))
 rw [if_neg w3]
 by_cases w4:r.word=(⟨#[105,102]⟩:ByteArray)
 ·rw [if_pos w4]
  have w4':=eq_true w4
  obtain ⟨hi,hr⟩:=word _ (by decide) w4
  have h1:=(ja7 hi).inv hi
  have hr1:=(ja7 hi).rem
  have s2:=(jeC n).1 _ h1
  have h2:=s2.inv h1
  have hr2:=s2.rem
  have h2i:=h2.lt
  have h2p:=h2.pos
  have h2l:=h2.len
  by_cases hx:(jbd n (jaS r.inc).1).1.is (⟨#[101,108,115,101]⟩:ByteArray)=true
  ·rw [if_pos hx]
   have hk:=Rd.is_kind hx
   have h3:=(Rd.st_inc h2 hk.2).1.inv h2
   have hr3:=Rd.rem_inc h2 hk
   have h4:=((jeC n).1 _ h3).inv h3
   refine jaw Tryz.func214 Tryz.ntmps214 ?_
   (refine S ?_;try exact True.intro)
   (have W:=And.intro w1 (And.intro w2 (And.intro w3 (And.intro w4' (hx))));repeat' (first|refine jfA (id:=31) [2] [(13,135)] [(12,jal eI 1 [(jaS r.inc).2,(jbd n (jaS r.inc).1).2,(jbd n (jbd n (jaS r.inc).1).1.inc).2])] ?_|refine jaa fun K hK=>?_|refine wkA ?_|(refine hK _ _ ?_;clear hK K)|(refine jad (fun hc=>?_) (fun hc=>?_)<;>first | contradiction | (exfalso;omega) | skip)|refine cm (ja1 r (rok h)) ?_|refine cm (jed r (rok h)) ?_|refine cm (jdC hi) ?_|refine cm (hb _ h1 (by omega)) ?_|refine cm (jes (jbd n (jaS r.inc).1).1 _ (rok h2)) ?_|refine cm (hb _ h3 (by omega)) ?_|refine cm (jqB (jbd n (jbd n (jaS r.inc).1).1.inc).1 _ _ _ _ [(jaS r.inc).2,(jbd n (jaS r.inc).1).2,(jbd n (jbd n (jaS r.inc).1).1.inc).2] (rok h4)) ?_|refine wkB ?_|exact True.intro|(clear hK K)));all_goals (try clear W)
   (refine jbM [.tmp 2] ?_ ?_<;>(try simp only [go_sem]))
  ·rw [if_neg hx]
   have hx':(jbd n (jaS r.inc).1).1.is (⟨#[101,108,115,101]⟩:ByteArray)=false:=by simpa using hx
   refine jaw Tryz.func214 Tryz.ntmps214 ?_
   (refine S ?_;try exact True.intro)
   (have W:=And.intro w1 (And.intro w2 (And.intro w3 (And.intro w4' (hx'))));repeat' (first|refine jaa fun K hK=>?_|refine wkA ?_|(refine hK _ _ ?_;clear hK K)|(refine jad (fun hc=>?_) (fun hc=>?_)<;>first | contradiction | (exfalso;omega) | skip)|refine cm (ja1 r (rok h)) ?_|refine cm (jed r (rok h)) ?_|refine cm (jdC hi) ?_|refine cm (hb _ h1 (by omega)) ?_|refine cm (jes (jbd n (jaS r.inc).1).1 _ (rok h2)) ?_|refine cm (jdX (jbd n (jaS r.inc).1).1 _ _ _ _ [(jaS r.inc).2,(jbd n (jaS r.inc).1).2] _ VLe.sl (rok h2)) ?_|refine wkB ?_|exact True.intro|(clear hK K)));all_goals (try clear W)
   (refine jbM [.tmp 2] ?_ ?_<;>(try simp only [go_sem]))
 rw [if_neg w4]
 by_cases w5:r.word=(⟨#[114,101,116,117,114,110]⟩:ByteArray)
 ·rw [if_pos w5]
  have w5':=eq_true w5
  obtain ⟨hi,hr⟩:=word _ (by decide) w5
  by_cases hx:r.inc.is (⟨#[59]⟩:ByteArray)=true
  ·rw [if_pos hx]
   have h1:=(Rd.st_must hi (⟨#[59]⟩:ByteArray)).inv hi
   refine jaw Tryz.func214 Tryz.ntmps214 ?_
   (refine S ?_;try exact True.intro)
   (have W:=And.intro w1 (And.intro w2 (And.intro w3 (And.intro w4 (And.intro w5' (hx)))));repeat' (first|refine jaa fun K hK=>?_|refine wkA ?_|(refine hK _ _ ?_;clear hK K)|(refine jad (fun hc=>?_) (fun hc=>?_)<;>first | contradiction | (exfalso;omega) | skip)|refine cm (ja1 r (rok h)) ?_|refine cm (jed r (rok h)) ?_|refine cm (jes r.inc _ (rok hi)) ?_|refine cm (jbN r.inc _ (rok hi)) ?_|refine cm (jdX (r.inc.must (⟨#[59]⟩:ByteArray)) _ _ _ _ [] _ VLe.sl (rok h1)) ?_|refine wkB ?_|exact True.intro|(clear hK K)));all_goals (try clear W)
   (refine jbM [.tmp 2] ?_ ?_<;>(try simp only [go_sem]))
  ·rw [if_neg hx]
   have hx':r.inc.is (⟨#[59]⟩:ByteArray)=false:=by simpa using hx
   have h1:=(ja7 hi).inv hi
   have h2:=(Rd.st_must h1 (⟨#[59]⟩:ByteArray)).inv h1
   refine jaw Tryz.func214 Tryz.ntmps214 ?_
   (refine S ?_;try exact True.intro)
   (have W:=And.intro w1 (And.intro w2 (And.intro w3 (And.intro w4 (And.intro w5' (hx')))));repeat' (first|refine jfA (id:=40) [2] [(16,132)] [(15,jal eI 1 [(jaS r.inc).2])] ?_|refine jaa fun K hK=>?_|refine wkA ?_|(refine hK _ _ ?_;clear hK K)|(refine jad (fun hc=>?_) (fun hc=>?_)<;>first | contradiction | (exfalso;omega) | skip)|refine cm (ja1 r (rok h)) ?_|refine cm (jed r (rok h)) ?_|refine cm (jes r.inc _ (rok hi)) ?_|refine cm (jdC hi) ?_|refine cm (jbN (jaS r.inc).1 _ (rok h1)) ?_|refine cm (jqB ((jaS r.inc).1.must (⟨#[59]⟩:ByteArray)) _ _ _ _ [(jaS r.inc).2] (rok h2)) ?_|refine wkB ?_|exact True.intro|(clear hK K)));all_goals (try clear W)
   (refine jbM [.tmp 2] ?_ ?_<;>(try simp only [go_sem]))
 rw [if_neg w5]
 refine jaw Tryz.func214 Tryz.ntmps214 ?_
 (refine S ?_;try exact True.intro)
 (have W:=And.intro w1 (And.intro w2 (And.intro w3 (And.intro w4 (w5))));repeat' (first|refine jaa fun K hK=>?_|refine wkA ?_|(refine hK _ _ ?_;clear hK K)|(refine jad (fun hc=>?_) (fun hc=>?_)<;>first | contradiction | (exfalso;omega) | skip)|refine cm (ja1 r (rok h)) ?_|refine cm (jed r (rok h)) ?_|refine cm (ju8 h he r.line) ?_|refine wkB ?_|exact True.intro|(clear hK K)));all_goals (try clear W)
 (refine jbM [.tmp 2] ?_ ?_<;>(try simp only [go_sem]))
end Go.Proofs.YtfkgcobaheegbaaGreatDoor
namespace Go.Gd
open Go
theorem jlq {w:NW} {H:Hp} (r:RelW w H) {j:Nat} {t:TypeId} {cs cs':List AV} (hj:H.get j=some (.var t cs)) (hl:cs'.length=cs.length) (h:∀ (k:Nat) a a' v,cs[k]?=some a→cs'[k]?=some a'→RelV w a v→RelV w a' v):RelW w (H.put j (.var t cs'))∧Ext w H w (H.put j (.var t cs')):=by
 have ex:Ext w H w (H.put j (.var t cs')):={ ExtQ.refl _ w with base:=rfl }
 refine ⟨{ rows:=fun i s hi=>?_,dom:=fun i m z hz=>?_,inj:=r.inj,own:=r.own,fin:=r.fin,glob:=r.glob.keep ex.toKeep },ex⟩
 ·rw [Hp.get_put] at hi
  split at hi
  ·rename_i e;subst e;cases hi
   obtain ⟨h1,z,h2,h3⟩:=r.rows _ _ hj
   refine ⟨trivial,z,h2,?_⟩
   cases z with
   | nil=>obtain ⟨e,sz,h4⟩:=h3;cases h4
   | «at» b u s=>
    obtain ⟨g1,cur,g2,⟨g3,g4⟩,g5⟩:=h3
    refine ⟨g1,cur,g2,⟨g3,by show cs'.length≤u;rw [hl];exact g4⟩,fun k a v ha hv=>?_⟩
    have ha:cs'[k]?=some a:=ha
    have hk:k < cs.length:=by rw [← hl];exact (List.getElem?_eq_some_iff.1 ha).1
    exact h k cs[k] a v (List.getElem?_eq_getElem hk) ha (g5 k cs[k] v (List.getElem?_eq_getElem hk) hv)
  ·exact r.rows i s hi
 ·obtain ⟨s,h1,h2⟩:=r.dom i m z hz
  rw [Hp.get_put]
  split
  ·rename_i e;subst e
   rw [hj] at h1;cases h1
   exact ⟨_,rfl,h2⟩
  ·exact ⟨s,h1,h2⟩
theorem FLe.nilC {F:List AV} {H:Hp} (i j k:Nat) (e:TypeId) (sz:Nat) {t:TypeId} {cs:List AV} (hi:H.get i=none) (h0:0 < sz) (hj:H.get j=some (.var t cs)) (hk:cs[k]?=some (.raw (.slice none 0 0))):FLe F H F ((H.put i (.vec e sz [])).put j (.var t (cs.set k (.rs i 0 sz 0)))):=fun w tm h1 h2=>by
 obtain ⟨a,b⟩:=jkn h1 hi e h0
 have hij:j≠i:=fun e=>by subst e;rw [hi] at hj;cases hj
 obtain ⟨a',b'⟩:=jlq (cs':=cs.set k (.rs i 0 sz 0)) a (j:=j) (t:=t) (cs:=cs) (by rw [Hp.get_put,if_neg hij];exact hj) (by simp) fun n x x' v hx hx' hv=>by
  rw [List.getElem?_set] at hx'
  by_cases hn:k=n
  ·subst hn
   rw [if_pos rfl] at hx'
   split at hx'
   ·cases hx'
    rw [hk] at hx
    cases hx
    cases hv
    exact .rs0 _ _ _ _ (NW.name_same _ _ _ _)
   ·cases hx'
  ·rw [if_neg hn,hx] at hx'
   cases hx'
   exact hv
 exact ⟨w.name i 0 .nil,rfl,a',h2.ext b,(b.trans b').toB⟩
end Go.Gd
namespace Go.Proofs.YtfkgcobaheegbaaGreatDoor
open Go Go.Gd
theorem jq9:∀ m n,n≤m→jpo n∧jt7 n
 | 0,0,_=>⟨fun r h hn=>by omega,fun r h he hn=>by omega⟩
 | m+1,0,_=>⟨fun r h hn=>by omega,fun r h he hn=>by omega⟩
 | m+1,n+1,hm=>by
  have ih:=fun k (hk:k≤n)=>jq9 m k (by omega)
  exact ⟨jul n fun k hk=>(ih k hk).2,jmS n (ih n (Nat.le_refl _)).1⟩
theorem jtj {r:Rd} (h:r.Inv):ACalls Tryz.prog 149 [pR] (jbE r) (fun v l=>v=rI (jgj r).2∧l=jbE (jgj r).1):=(jq9 _ _ (Nat.le_refl _)).1 r h (by omega)
set_option maxHeartbeats 4000000 in
set_option maxRecDepth 10000 in
theorem joJ {r:Rd} (h:r.Inv):ACalls Tryz.prog 95 [pR] (jbE r) (fun v l=>v=.agg (jbe (fnF r).2)∧l=jbE (fnF r).1):=by
 have h1:=(je9 h).1.inv h
 have h2:=(je9 h).2.1.inv h
 have h3:=(je9 h).2.2.1.inv h
 have h4:=(jpW h).inv h1
 have h5:=(jnq h).inv h1
 have h6:=(jnr h).inv h1
 have h7:=(jjP h6).inv h6
 have hr0:(fnA r).rem≤2000:=by
  have:=h3.pos;have:=h3.len
  unfold Rd.rem;split<;>omega
 have hm:ACalls Tryz.prog 145 [pR,rS (⟨#[40]⟩:ByteArray)] (jbE (r.must (⟨#[102,110]⟩:ByteArray)).name.1) (fun v l=>v=.tup []∧l=jbE (fnA r)):=jbN (r.must (⟨#[102,110]⟩:ByteArray)).name.1 _ (rok h2)
 refine jaw Tryz.func95 Tryz.ntmps95 ?_
 (refine S ?_;try exact True.intro)
 (repeat' (first|refine jaa fun K hK=>?_|refine wkA ?_|(refine hK _ _ ?_;clear hK K)|(refine jad (fun hc=>?_) (fun hc=>?_)<;>first | contradiction | (exfalso;omega) | skip)|refine cm (ja1 r (rok h)) ?_|refine cm (hm) ?_|refine cm (jbN r _ (rok h)) ?_|refine cm (jjr (r.must (⟨#[102,110]⟩:ByteArray)) (rok h1)) ?_|refine cm (jes (fnA r) _ (rok h3)) ?_|refine wkB ?_|exact True.intro|(clear hK K)))
 have hKo:=hK;clear hK
 refine jaU (FLe.nilC 4 3 2 111 2 rfl (by decide) rfl rfl) ?_
 (refine S ?_;try exact True.intro)
 refine jah (S:=Nat×Bool×Rd×List GParam) [(5,3),(30,23)] (fun s=>s.2.2.1.Inv∧(s.2.1=true→s.2.2.1.rem+2≤s.1)∧1≤s.1∧s.2.2.2.length+s.1≤5000∧jca s.1 s.2.1 s.2.2.1 s.2.2.2=fnB r) (fun s=>[(5,rB s.2.1)]) (fun s=>⟨[0,1],jbE s.2.2.1++[(2,.var 100 [rS ⟨#[]⟩,rI 0,.raw (.slice none 0 0),rI 0,rI 0]),(3,.var 100 [rS (r.must (⟨#[102,110]⟩:ByteArray)).name.2,rI r.line,.rs 4 s.2.2.2.length 2 s.2.2.2.length,rI 0,rI 0]),(4,.vec 111 2 (s.2.2.2.map jcC))]⟩) (fun s=>s.1) ((fnA r).rem+2,more (fnA r),fnA r,[]) ⟨h3,fun _=>Nat.le_refl _,by (try simp only);omega,by (try simp only [List.length_nil]);omega,rfl⟩ (jaE rfl (by simp only [go_sem,LLe,Nat.reduceAdd,AV.raw.injEq,Value.int.injEq,Value.slice.injEq,Value.pointer.injEq,AV.rs.injEq,more,List.length_nil];try omega)) ?_
 rintro ⟨n,b,q,L⟩ ⟨hq,hn1,hn2,hn3,hA⟩ Kr hKr
 simp only at hq hn1 hn2 hn3 hA
 have hqi:=hq.lt
 have hqp:=hq.pos
 have hql:=hq.len
 obtain ⟨n,rfl⟩:∃ k,n=k+1:=⟨n - 1,by omega⟩
 cases b with
 | false=>
  rw [jca] at hA
  have e1:q=(fnB r).1:=by rw [← hA]
  have e2:L=(fnB r).2:=by rw [← hA]
  have hmm:ACalls Tryz.prog 145 [pR,rS (⟨#[41]⟩:ByteArray)] (jbE q) (fun v l=>v=.tup []∧l=jbE (fnC r)):=by rw [e1];exact jbN (fnB r).1 _ (rok h4)
  by_cases hx:(fnC r).is (⟨#[123]⟩:ByteArray)=true
  ·have ed:fnD r=(fnC r,0):=by unfold fnD;rw [if_pos hx]
   have ef:fnF r=((jgj (fnC r)).1,⟨(r.must (⟨#[102,110]⟩:ByteArray)).name.2,r.line,L,0,(jgj (fnC r)).2⟩):=by unfold fnF;rw [ed,← e2]
   rw [ef] at hKo
   (refine S ?_;try exact True.intro)
   (have W:=hx;repeat' (first|refine jaa fun K hK=>?_|refine wkA ?_|(refine hK _ _ ?_;clear hK K)|(refine jad (fun hc=>?_) (fun hc=>?_)<;>first | contradiction | (exfalso;omega) | skip)|(refine hKo _ _ ?_)|refine cm (hmm) ?_|refine cm (jes (fnC r) _ (rok h5)) ?_|refine cm (jtj h5) ?_|refine wkB ?_|exact True.intro|(clear hK K)));all_goals (try clear W)
   refine jlF [.cell 2 100] ?_
   refine VToL.agg (ds:=[rS _,rI _,jal jcC 2 L,rI _,rI _]) ?_
   exact And.intro (.same _ rfl) (And.intro (.same _ rfl) (And.intro (VTo.row (enc:=jcC) L rfl rfl (by simp)) (And.intro (.same _ rfl) (And.intro (.same _ rfl) trivial))))
  ·have hx':(fnC r).is (⟨#[123]⟩:ByteArray)=false:=by simpa using hx
   have ed:fnD r=jbP (fnC r):=by unfold fnD;rw [if_neg hx]
   rw [ed] at h6
   have ef:fnF r=((jgj (jbP (fnC r)).1).1,⟨(r.must (⟨#[102,110]⟩:ByteArray)).name.2,r.line,L,(jbP (fnC r)).2,(jgj (jbP (fnC r)).1).2⟩):=by unfold fnF;rw [ed,← e2]
   rw [ef] at hKo
   (refine S ?_;try exact True.intro)
   (have W:=hx';repeat' (first|refine jaa fun K hK=>?_|refine wkA ?_|(refine hK _ _ ?_;clear hK K)|(refine jad (fun hc=>?_) (fun hc=>?_)<;>first | contradiction | (exfalso;omega) | skip)|(refine hKo _ _ ?_)|refine cm (hmm) ?_|refine cm (jes (fnC r) _ (rok h5)) ?_|refine cm (jrj h5) ?_|refine cm (jtj h6) ?_|refine wkB ?_|exact True.intro|(clear hK K)));all_goals (try clear W)
   refine jlF [.cell 2 100] ?_
   refine VToL.agg (ds:=[rS _,rI _,jal jcC 2 L,rI _,rI _]) ?_
   exact And.intro (.same _ rfl) (And.intro (.same _ rfl) (And.intro (VTo.row (enc:=jcC) L rfl rfl (by simp)) (And.intro (.same _ rfl) (And.intro (.same _ rfl) trivial))))
 | true=>
  have s1:=jlt hq
  have hx:=s1.inv hq
  have hr1:=s1.rem
  have hxi:=hx.lt
  have hxp:=hx.pos
  have hxl:=hx.len
  have hn1:=hn1 rfl
  have hq1:=(Rd.st_name hq).inv hq
  have hty:ACalls Tryz.prog 148 [pR] (jbE q.name.1) (fun v l=>v=rI (jbP q.name.1).2∧l=jbE (jez q)):=jrj hq1
  rw [jca] at hA
  (refine S ?_;try exact True.intro)
  (repeat' (first|refine jaa fun K hK=>?_|refine wkA ?_|(refine hK _ _ ?_;clear hK K)|(refine jad (fun hc=>?_) (fun hc=>?_)<;>first | contradiction | (exfalso;omega) | skip)|refine cm (jjr q (rok hq)) ?_|refine cm (hty) ?_|refine cm (jes (jez q) _ (rok hx)) ?_|refine wkB ?_|exact True.intro|(clear hK K)))
  ·rw [if_pos hc] at hA
   have hk:=Rd.is_kind hc
   have hr2:=Rd.rem_inc hx hk
   refine hKr _ _ (jau (n,true,(jez q).inc,L++[⟨q.name.2,(jbP q.name.1).2⟩]) ⟨(Rd.st_inc hx hk.2).1.inv hx,fun _=>by (try simp only);omega,by (try simp only);omega,by (try simp only [List.length_append,List.length_cons,List.length_nil]);omega,hA⟩ (by (try simp only);omega) (by simp only [go_sem,jbE,ja5,List.map_append,List.map_cons,List.map_nil,List.cons_append,List.nil_append,List.length_append,List.length_cons,List.length_nil,Nat.reduceAdd];(try rfl)) (by simp only [go_sem,LLe,Nat.reduceAdd,AV.raw.injEq,Value.int.injEq,Value.slice.injEq,Value.pointer.injEq,AV.rs.injEq,hc,List.length_append,List.length_cons,List.length_nil];try omega))
  ·rw [if_neg (by rw [hc];decide)] at hA
   refine hKr _ _ (jau (n,false,jez q,L++[⟨q.name.2,(jbP q.name.1).2⟩]) ⟨hx,(by intro h;cases h),by (try simp only);omega,by (try simp only [List.length_append,List.length_cons,List.length_nil]);omega,?_⟩ (by (try simp only);omega) (by simp only [go_sem,jbE,ja5,List.map_append,List.map_cons,List.map_nil,List.cons_append,List.nil_append,List.length_append,List.length_cons,List.length_nil,Nat.reduceAdd];(try rfl)) (by simp only [go_sem,LLe,Nat.reduceAdd,AV.raw.injEq,Value.int.injEq,Value.slice.injEq,Value.pointer.injEq,AV.rs.injEq,hc,List.length_append,List.length_cons,List.length_nil];try omega))
   rw [← hA]
   obtain ⟨n,rfl⟩:∃ k,n=k+1:=⟨n - 1,by omega⟩
   rw [jca]
theorem jrJ {α:Type} [Inhabited α] (p:α→Bool) (l:List α) {k:Nat} (h:k < l.length):(l.take (k+1)).any p=((l.take k).any p || p (nth l k)):=by
 rw [List.take_succ_eq_append_getElem h,List.any_append,jbl h]
 simp
def jti (t:List GNode) (L:List GFunc) (k:Nat):Bool:=decide (300 < (t.length:Int)) || decide (6 < (L.length:Int)) || (L.take k).any fun f=>decide (3 < (f.params.length:Int))
theorem jpB (t:List GNode) (L:List GFunc) {k:Nat} (h:k < L.length):jti t L (k+1)=(jti t L k || decide (3 < ((nth L k).params.length:Int))):=by
 unfold jti
 rw [jrJ _ _ h]
 simp only [Bool.or_assoc]
theorem jrR (t:List GNode) (L:List GFunc) {k:Nat} (h:L.length≤k):jti t L k=jui t L:=by
 unfold jti jui
 rw [List.take_of_length_le h]
 have e1:∀ n:Nat,decide (300 < (n:Int))=decide (300 < n):=fun n=>decide_eq_decide.2 (by omega)
 have e2:∀ n:Nat,decide (6 < (n:Int))=decide (6 < n):=fun n=>decide_eq_decide.2 (by omega)
 have e3:∀ n:Nat,decide (3 < (n:Int))=decide (3 < n):=fun n=>decide_eq_decide.2 (by omega)
 simp only [e1,e2,e3]
def j7b:AV:=.agg (jco ⟨[],[]⟩)
set_option maxHeartbeats 4000000 in
set_option maxRecDepth 10000 in
theorem jve (s:ByteArray) (hs:s.size≤1000000):PCall Tryz.prog 53 [rS s] (.tup [.agg (jco (jaR s).1),rI (jaR s).2.1,rI (jaR s).2.2]):=by
 by_cases he:(jcf s).2.2=0
 ·have hi:=jqP he
  have hr0:(rd0 s).rem≤2000:=by
   have:=hi.pos;have:=hi.len
   unfold Rd.rem;split<;>omega
  refine jbA Tryz.func53 Tryz.ntmps53 ?_
  (have W:=he;repeat' (first|refine jaa fun K hK=>?_|refine wkA ?_|(refine hK _ _ ?_;clear hK K)|(refine jad (fun hc=>?_) (fun hc=>?_)<;>first | contradiction | (exfalso;omega) | skip)|refine cp (jx8 s hs) ?_|(refine jdB (t:=27) 10 (by simp only [go_sem];rfl) rfl ?_;(refine S ?_;try exact True.intro))|(refine je1 0 (by simp only [go_sem]) rfl ?_;(refine S ?_;try exact True.intro))|refine wkB ?_|exact True.intro|(clear hK K)));all_goals (try clear W)
  have hKo:=hK;clear hK
  refine jaU (FLe.nilC 1 0 3 53 5 rfl (by decide) rfl rfl) ?_
  (refine S ?_;try exact True.intro)
  refine jaU (FLe.nilC 12 11 1 100 5 rfl (by decide) rfl rfl) ?_
  (refine S ?_;try exact True.intro)
  refine jah (S:=Nat×Rd×List GFunc) [(10,2),(30,16)] (fun p=>p.2.1.Inv∧p.2.1.rem+1≤p.1∧p.2.2.length+p.1≤5000∧jrx p.1 p.2.1 p.2.2=jdt s) (fun _=>[]) (fun p=>⟨[],[(10,.var 27 [.raw (.slice none 0 0),.raw (.slice none 0 0)]),(0,.var 167 (ja5 p.2.1)),(11,.var 27 [.raw (.slice none 0 0),.rs 12 p.2.2.length 5 p.2.2.length]),(1,.vec 53 5 (p.2.1.nodes.map jao)),(12,.vec 100 5 (p.2.2.map jbe))]⟩) (fun p=>p.1) ((rd0 s).rem+1,rd0 s,[]) ⟨hi,Nat.le_refl _,by (try simp only [List.length_nil]);omega,rfl⟩ (jaE rfl lle) ?_
  rintro ⟨n,q,L⟩ ⟨hq,hn1,hn2,hA⟩ Kr hKr
  simp only at hq hn1 hn2 hA
  have hqi:=hq.lt
  have hqp:=hq.pos
  have hql:=hq.len
  obtain ⟨n,rfl⟩:∃ k,n=k+1:=⟨n - 1,by omega⟩
  rw [jrx] at hA
  by_cases hc1:q.e=0∧q.kind 0=false
  ·rw [if_pos hc1] at hA
   obtain ⟨hqe,hqc⟩:=hc1
   obtain ⟨t1,t2⟩:=jtA hq
   have t2:=t2 hqe
   have hj:=t1.inv hq
   (refine S ?_;try exact True.intro)
   (have W:=And.intro hqe (hqc);repeat' (first|refine jaa fun K hK=>?_|refine wkA ?_|(refine hK _ _ ?_;clear hK K)|(refine jad (fun hc=>?_) (fun hc=>?_)<;>first | contradiction | (exfalso;omega) | skip)|refine cm (jla q _ (rok hq)) ?_|refine cm (joJ hq) ?_|refine wkB ?_|exact True.intro|(clear hK K)));all_goals (try clear W)
   refine hKr _ _ (jid [13] (n,(fnF q).1,L++[(fnF q).2]) ⟨hj,by (try simp only);omega,by (try simp only [List.length_append,List.length_cons,List.length_nil]);omega,hA⟩ (by (try simp only);omega) rfl Sd (by simp only [go_sem,ja5,List.map_append,List.map_cons,List.map_nil,List.length_append,List.length_cons,List.length_nil,Nat.reduceAdd];(try rfl)) vtl)
  ·rw [if_neg hc1] at hA
   have e1:q=(jdt s).1:=by rw [← hA]
   have e2:L=(jdt s).2:=by rw [← hA]
   (refine S ?_;try exact True.intro)
   (repeat' (first|refine jaa fun K hK=>?_|refine wkA ?_|(refine hK _ _ ?_;clear hK K)|(refine jad (fun hc=>?_) (fun hc=>?_)<;>first | contradiction | (exfalso;omega) | skip)|refine cm (jla q _ (rok hq)) ?_|refine wkB ?_|exact True.intro|(clear hK K)))
   all_goals first | (exact absurd ⟨by assumption,by assumption⟩ hc1) | skip
   ·have hqe:q.e=0:=by assumption
    have hee:¬ (jdt s).1.e≠0:=by rw [← e1];simp [hqe]
    refine hKo _ _ ?_
    clear hKo
    (have W:=hqe;repeat' (first|refine jaa fun K hK=>?_|refine wkA ?_|(refine hK _ _ ?_;clear hK K)|(refine jad (fun hc=>?_) (fun hc=>?_)<;>first | contradiction | (exfalso;omega) | skip)|refine wkB ?_|exact True.intro|(clear hK K)));all_goals (try clear W)
    have hKo:=hK;clear hK
    refine jah (S:=Nat) [(12,2),(75,18)] (fun k=>k≤L.length) (fun k=>[(12,rB (jti q.nodes L k)),(13,rI k)]) (fun _=>⟨[],[(10,.var 27 [.raw (.slice none 0 0),.raw (.slice none 0 0)]),(0,.var 167 (ja5 q)),(11,.var 27 [.rs 1 q.nodes.length 5 q.nodes.length,.rs 12 L.length 5 L.length]),(1,.vec 53 5 (q.nodes.map jao)),(12,.vec 100 5 (L.map jbe))]⟩) (fun k=>L.length - k) 0 (Nat.zero_le _) (jaE (by simp only [ja5,hqe]) (by simp only [go_sem,LLe,Nat.reduceAdd,AV.raw.injEq,Value.int.injEq,Value.slice.injEq,Value.pointer.injEq,AV.rs.injEq,jti,List.take_zero,List.any_nil,Bool.or_false];try omega)) ?_
    intro k hk Kr hKr
    (refine S ?_;try exact True.intro)
    (repeat' (first|refine jaa fun K hK=>?_|refine wkA ?_|(refine hK _ _ ?_;clear hK K)|(refine jad (fun hc=>?_) (fun hc=>?_)<;>first | contradiction | (exfalso;omega) | skip)|refine wkB ?_|exact True.intro|(clear hK K)))
    ·have hkl:k < L.length:=by omega
     refine hKr _ _ (jau (k+1) (by (try simp only);omega) (by (try simp only);omega) (by simp only [ja5,hqe]) (by simp only [go_sem,LLe,Nat.reduceAdd,AV.raw.injEq,Value.int.injEq,Value.slice.injEq,Value.pointer.injEq,AV.rs.injEq,jpB _ _ hkl];try omega))
    ·have hbu:jti q.nodes L k=jui q.nodes L:=jrR _ _ (by omega)
     by_cases hbig:jui q.nodes L=true
     ·have ep:jaR s=(⟨[],[]⟩,0,4):=by unfold jaR;rw [if_neg (by simp [he]),if_neg hee,← e1,← e2,if_pos hbig]
      rw [ep] at hKo
      refine hKo _ _ ?_
      (have W:=And.intro hbu (hbig);repeat' (first|refine jaa fun K hK=>?_|refine wkA ?_|(refine hK _ _ ?_;clear hK K)|(refine jad (fun hc=>?_) (fun hc=>?_)<;>first | contradiction | (exfalso;omega) | skip)|refine wkB ?_|exact True.intro|(clear hK K)));all_goals (try clear W)
      refine jlF [.cell 2 27,.tmp 3,.tmp 4] ?_
      refine VToL.tup (ds:=[.agg (jco ⟨[],[]⟩),rI _,rI _]) ?_
      exact And.intro (VToL.agg (ds:=[jal jao 5 [],jal jbe 5 []]) (And.intro (VTo.nil _ _) (And.intro (VTo.nil _ _) trivial))) (And.intro (.same _ rfl) (And.intro (.same _ rfl) trivial))
     ·have hbf:jui q.nodes L=false:=by simpa using hbig
      have ep:jaR s=(⟨q.nodes,L⟩,0,0):=by unfold jaR;rw [if_neg (by simp [he]),if_neg hee,← e1,← e2,if_neg hbig]
      rw [ep] at hKo
      refine hKo _ _ ?_
      (have W:=And.intro hbu (hbf);repeat' (first|refine jaa fun K hK=>?_|refine wkA ?_|(refine hK _ _ ?_;clear hK K)|(refine jad (fun hc=>?_) (fun hc=>?_)<;>first | contradiction | (exfalso;omega) | skip)|refine wkB ?_|exact True.intro|(clear hK K)));all_goals (try clear W)
      refine jlF [.cell 2 27,.tmp 3,.tmp 4] ?_
      refine VToL.tup (ds:=[.agg (jco ⟨q.nodes,L⟩),rI _,rI _]) ?_
      exact And.intro (VToL.agg (ds:=[jal jao 5 q.nodes,jal jbe 5 L]) (And.intro (VTo.row (enc:=jao) q.nodes rfl rfl (by simp)) (And.intro (VTo.row (enc:=jbe) L rfl rfl (by simp)) trivial))) (And.intro (.same _ rfl) (And.intro (.same _ rfl) trivial))
   ·have hqe:¬ q.e=0:=by assumption
    have ep:jaR s=(⟨[],[]⟩,q.at_,q.e):=by unfold jaR;rw [if_neg (by simp [he]),← e1,if_pos hqe]
    rw [ep] at hKo
    refine hKo _ _ ?_
    (have W:=hqe;repeat' (first|refine jaa fun K hK=>?_|refine wkA ?_|(with_reducible refine gR 12 ?_);refine dA 12 [10] [0,1,2,3,4,5,6,7,8,9,10,11] mixed ?_|(refine hK _ _ ?_;clear hK K)|(refine jad (fun hc=>?_) (fun hc=>?_)<;>first | contradiction | (exfalso;omega) | skip)|refine wkB ?_|exact True.intro|(clear hK K)));all_goals (try clear W)
    refine jlF [.cell 2 27,.tmp 3,.tmp 4] ?_
    refine VToL.tup (ds:=[.agg (jco ⟨[],[]⟩),rI _,rI _]) ?_
    exact And.intro (VToL.agg (ds:=[jal jao 5 [],jal jbe 5 []]) (And.intro (VTo.nil _ _) (And.intro (VTo.nil _ _) trivial))) (And.intro (.same _ rfl) (And.intro (.same _ rfl) trivial))
 ·have ep:jaR s=(⟨[],[]⟩,(jcf s).2.1,(jcf s).2.2):=by unfold jaR;rw [if_pos he]
  rw [ep]
  refine jbA Tryz.func53 Tryz.ntmps53 ?_
  (have W:=he;repeat' (first|refine jaa fun K hK=>?_|refine wkA ?_|(refine hK _ _ ?_;clear hK K)|(refine jad (fun hc=>?_) (fun hc=>?_)<;>first | contradiction | (exfalso;omega) | skip)|refine cp (jx8 s hs) ?_|refine wkB ?_|exact True.intro|(clear hK K)));all_goals (try clear W)
  refine jlF [.cell 2 27,.tmp 3,.tmp 4] ?_
  refine VToL.tup (ds:=[.agg (jco ⟨[],[]⟩),rI _,rI _]) ?_
  exact And.intro (VToL.agg (ds:=[jal jao 5 [],jal jbe 5 []]) (And.intro (VTo.nil _ _) (And.intro (VTo.nil _ _) trivial))) (And.intro (.same _ rfl) (And.intro (.same _ rfl) trivial))
end Go.Proofs.YtfkgcobaheegbaaGreatDoor

/- strconv.Atoi of digits. The document's parser: an atom. The document's parser: calls, right sides. The document's parser: right sides, statements that begin with a name, types. No conditions. -/
import Derived.Test.YtfkgcobaheegbaaGreatDoorP2
import Derived.Test.YtfkgcobaheegbaaGreatDoorShelf
import Derived.Test.YtfkgcobaheegbaaGreatDoorLxT
set_option linter.all false
namespace Go.Gd
open Go
theorem jim {P:Program} {f:FuncId} {args:List AV} {r:AV} (vals:List Value) (v:Value) (ha:args=vals.map .raw) (hr:∀ w:NW,RelV w r v) (h:∀ w:World,Calls P f vals.toArray w fun e w'=>e=.returned v∧RowKit.Below w.heap.size w w'):PCall P f args r:=by
 intro w vs h1 h2
 have hvs:vs=vals.toArray:=by
  apply Array.ext'
  apply List.ext_getElem?
  intro i
  obtain ⟨hl,hv⟩:=h2
  subst ha
  by_cases hi:i < vals.length
  ·have hi':i < vs.size:=by rw [← hl];simpa using hi
   have:=jar (hv i (.raw vals[i]) vs[i] (by simp [hi]) (by simp [hi']))
   simp [hi,hi',this]
  ·have hi':¬ i < vs.size:=by rw [← hl];simpa using hi
   rw [List.getElem?_eq_none (by simpa using hi'),List.getElem?_eq_none (by simpa using hi)]
 subst hvs
 refine (h w.toWorld).mono ?_
 rintro e W ⟨rfl,hb⟩
 have ex:Ext w (entry []) (w.to W) (entry []):={ size:=hb.size,free:=fun b hb' hO=>⟨hb.block b hb',hO⟩,names:=fun _ _ _ _ h=>h,os:=hb.os,tape:=hb.tape,output:=hb.output,rest:=fun b hb' hO hno=>⟨hb.block b hb',hO,hno⟩,base:=rfl }
 refine ⟨v,r,entry [],w.to W,rfl,rfl,⟨rfl,rfl⟩,{ rows:=fun i row hi=>(by cases hi),dom:=h1.dom,inj:=h1.inj,own:=h1.own,glob:=h1.glob.keep ex.toKeep,fin:=fun b hb'=>Nat.lt_of_lt_of_le (h1.fin b hb') hb.size },hr _,ex.toB⟩
end Go.Gd
namespace Go.Proofs.YtfkgcobaheegbaaGreatDoor
open Go Go.Gd
theorem jfh (s:ByteArray) (k:Nat):jaL s k=((s.data.toList.getD k 0).toNat:Int):=by
 unfold jaL
 simp
def jiR:List UInt8→Nat→Nat
 | [],a=>a
 | c::l,a=>jiR l (a * 10+(c.toNat - 48))
theorem jlm:∀ (l:List UInt8) (a:Nat),a≤jiR l a
 | [],a=>Nat.le_refl _
 | c::l,a=>Nat.le_trans (by omega) (jlm l _)
theorem jg5:∀ (l:List UInt8) (a:Nat),(∀ c∈l,48≤c.toNat∧c.toNat≤57)→jiR l a≤9223372036854775807→Lib.parseUint10 a l=.ok (jiR l a)
 | [],a,_,_=>rfl
 | c::l,a,h,hm=>by
  have hc:=h c (by simp)
  have h1:=jlm l (a * 10+(c.toNat - 48))
  simp only [jiR] at hm ⊢
  unfold Lib.parseUint10
  rw [if_pos hc,if_neg (by omega),if_neg (by omega)]
  exact jg5 l _ (fun x hx=>h x (by simp [hx])) hm
theorem jij:∀ (l:List UInt8) (c:UInt8) (a:Nat),jiR (l++[c]) a=jiR l a * 10+(c.toNat - 48)
 | [],_,_=>rfl
 | _::l,c,_=>jij l c _
theorem jmF:∀ (l:List UInt8) (a:Nat),(∀ c∈l,48≤c.toNat∧c.toNat≤57)→jiR l a+1≤(a+1) * 10 ^ l.length
 | [],a,_=>by simp [jiR]
 | c::l,a,h=>by
  have hc:=h c (by simp)
  have ih:=jmF l (a * 10+(c.toNat - 48)) (fun x hx=>h x (by simp [hx]))
  simp only [jiR,List.length_cons,Nat.pow_succ]
  refine Nat.le_trans ih ?_
  rw [Nat.mul_comm (10 ^ l.length) 10,← Nat.mul_assoc]
  exact Nat.mul_le_mul_right _ (by omega)
theorem jqv:∀ (l:List UInt8) (a:Nat),a * 10 ^ l.length≤jiR l a
 | [],a=>by simp [jiR]
 | c::l,a=>by
  have ih:=jqv l (a * 10+(c.toNat - 48))
  simp only [jiR,List.length_cons,Nat.pow_succ]
  refine Nat.le_trans ?_ ih
  rw [Nat.mul_comm (10 ^ l.length) 10,← Nat.mul_assoc]
  exact Nat.mul_le_mul_right _ (by omega)
theorem jnE:∀ (l m:List UInt8) (a:Nat),l.length=m.length→(∀ c∈l,48≤c.toNat∧c.toNat≤57)→(∀ c∈m,48≤c.toNat∧c.toNat≤57)→Op.bytesLess l m=true→jiR l a < jiR m a
 | [],[],_,_,_,_,h=>by simp [Op.bytesLess] at h
 | [],_::_,_,hl,_,_,_=>by simp at hl
 | _::_,[],_,hl,_,_,_=>by simp at hl
 | x::l,y::m,a,hl,h1,h2,h=>by
  have hx:=h1 x (by simp)
  have hy:=h2 y (by simp)
  simp only [Op.bytesLess,Bool.or_eq_true,decide_eq_true_eq,Bool.and_eq_true,beq_iff_eq] at h
  simp only [jiR]
  rcases h with h | ⟨rfl,h⟩
  ·have h:x.toNat < y.toNat:=h
   have e1:=jmF l (a * 10+(x.toNat - 48)) (fun c hc=>h1 c (by simp [hc]))
   have e2:=jqv m (a * 10+(y.toNat - 48))
   have e3:(a * 10+(x.toNat - 48)+1) * 10 ^ l.length≤(a * 10+(y.toNat - 48)) * 10 ^ m.length:=by
    rw [show l.length=m.length by simpa using hl]
    exact Nat.mul_le_mul_right _ (by omega)
   omega
  ·exact jnE l m _ (by simpa using hl) (fun c hc=>h1 c (by simp [hc])) (fun c hc=>h2 c (by simp [hc])) h
theorem jii (s:ByteArray) (hd:∀ j,j < s.size→jbv (jaL s j)=true):∀ k,k≤s.size→jyh s k=(jiR (s.data.toList.take k) 0:Nat)
 | 0,_=>by simp [jyh,jiR]
 | k+1,hk=>by
  have hk':k < s.data.toList.length:=by simp;omega
  have h1:=hd k (by omega)
  simp only [jbv,Bool.and_eq_true,decide_eq_true_eq] at h1
  rw [jfh] at h1
  rw [jyh,jii s hd k (by omega),List.take_succ_eq_append_getElem hk',jij,jfh]
  have:s.data.toList.getD k 0=s.data.toList[k]:=by rw [List.getD_eq_getElem?_getD,List.getElem?_eq_getElem hk'];rfl
  rw [this] at h1 ⊢
  omega
theorem jfU {s:ByteArray} (h:jfy s):∀ c∈s.data.toList,48≤c.toNat∧c.toNat≤57:=fun c hc=>by
 obtain ⟨k,hk,rfl⟩:=List.getElem_of_mem hc
 have:=h.2.2 k (by simpa using hk)
 simp only [jbv,Bool.and_eq_true,decide_eq_true_eq] at this
 rw [jfh,List.getD_eq_getElem?_getD,List.getElem?_eq_getElem hk] at this
 simp only [Option.getD_some] at this
 omega
theorem jln {s:ByteArray} (h:jfy s):jiR s.data.toList 0≤9223372036854775807:=by
 have hd:=jfU h
 have hn:=h.2.1
 have hl:=jmF s.data.toList 0 hd
 have hlen:s.data.toList.length=s.size:=by simp
 unfold jp6 at hn
 simp only [Bool.or_eq_true,decide_eq_true_eq,Bool.and_eq_true] at hn
 rcases hn with hn | ⟨hn,h2 | h2⟩
 ·have:10 ^ s.data.toList.length≤10 ^ 18:=Nat.pow_le_pow_right (by omega) (by rw [hlen];omega)
  simp only [Nat.zero_add,Nat.one_mul] at hl
  omega
 ·have e:s.toList=s.data.toList:=ByteArray.toList_eq s
  have:=jnE s.data.toList [57,50,50,51,51,55,50,48,51,54,56,53,52,55,55,53,56,48,55] 0 (by rw [hlen];simp;omega) hd (by decide) (by rw [← e,show [57,50,50,51,51,55,50,48,51,54,56,53,52,55,55,53,56,48,55]=(⟨#[57,50,50,51,51,55,50,48,51,54,56,53,52,55,55,53,56,48,55]⟩:ByteArray).toList by rw [ByteArray.toList_eq]];exact h2)
  have e2:jiR [57,50,50,51,51,55,50,48,51,54,56,53,52,55,55,53,56,48,55] 0=9223372036854775807:=by decide
  omega
 ·subst h2
  decide
theorem jrL {s:ByteArray} (h:jfy s):Lib.atoiAll s.data.toList=.ok (jik s):=by
 have hd:=jfU h
 have hle:=jln h
 have hnum:jik s=(jiR s.data.toList 0:Nat):=by
  unfold jik
  rw [jii s h.2.2 _ (Nat.le_refl _),List.take_of_length_le (by simp)]
 have hp:=jg5 s.data.toList 0 hd hle
 have hpos:=h.1
 cases hs:s.data.toList with
 | nil=>
  have:s.data.toList.length=s.size:=by simp
  rw [hs] at this;simp at this;omega
 | cons c l=>
  rw [hs] at hd hp hnum hle
  have hc:=hd c (by simp)
  simp only [Lib.atoiAll]
  rw [if_neg (by omega)]
  simp only [Lib.parseMag,List.cons_ne_nil,if_false,hp,reduceCtorEq]
  rw [if_neg (by omega),if_neg (by omega),if_neg (by omega),hnum]
theorem jxk (s:ByteArray) (h:jfy s):PCall Tryz.prog 291 [rS s] (.tup [rI (jik s),.raw .nilIface]):=by
 have hs:s.size≤9223372036854775806:=by
  have hn:=h.2.1
  unfold jp6 at hn
  simp only [Bool.or_eq_true,decide_eq_true_eq,Bool.and_eq_true] at hn
  omega
 refine jim [.string s] (.tuple #[.int .i64 (jik s),.nilIface]) rfl (fun w=>?_) fun w=>?_
 ·exact .tup _ _ rfl fun i a v ha hv=>by
   match i with
   | 0=>simp at ha hv;subst ha hv;exact .raw _
   | 1=>simp at ha hv;subst ha hv;exact .raw _
   | i+2=>simp at ha
 ·refine (Tryz.strconv_Atoi_ok s hs (jik s) (jrL h) w).mono ?_
  rintro e W ⟨rfl,hW⟩
  refine ⟨rfl,?_⟩
  rcases hW with rfl | ⟨t,rfl⟩
  ·exact RowKit.Below.refl _ _
  ·exact Lib.bytesWorld_below _ _ _
set_option maxHeartbeats 8000000 in
set_option maxRecDepth 10000 in
theorem jxl (n:Nat) (hc:jm5 n):jt4 (n+1):=by
 intro r h hn
 have hil:=h.lt
 have hip:=h.pos
 have hin:=h.len
 have hin':(r.l.length:Int)≤2000:=by omega
 have hch:∀ q:Rd,q.Inv→8 * q.rem+8≤n→ACalls Tryz.prog 248 [pR] (jbE q) (fun v l=>v=rI (jaC n 0 q).2∧l=jbE (jaC n 0 q).1):=fun q hq hm=>by
  have:=hc 0 q (by omega) hq (by omega)
  refine jaw Tryz.func248 Tryz.ntmps248 ?_
  (refine S ?_;try exact True.intro)
  (repeat' (first|refine jaa fun K hK=>?_|refine wkA ?_|(refine hK _ _ ?_;clear hK K)|(refine jad (fun hc=>?_) (fun hc=>?_)<;>first | contradiction | (exfalso;omega) | skip)|refine cm (this) ?_|refine wkB ?_|exact True.intro|(clear hK K)))
  (refine jbM [.tmp 2] ?_ ?_<;>(try simp only [go_sem]))
 have deeper:∀ (q:Rd) (t u:ByteArray),q.Inv→q.e=0→q.down.Inv∧(q.down.must t).Inv∧(jaC n 0 (q.down.must t)).1.Inv∧((jaC n 0 (q.down.must t)).1.must u).Inv∧((jaC n 0 (q.down.must t)).1.must u).up.Inv∧(q.down.must t).rem≤q.rem:=fun q t u hq he=>by
  have h1:=(Rd.down_inv hq he).1
  have s1:=Rd.st_must h1 t
  have h2:=s1.inv h1
  have s2:=(jep n).2.2.1 0 _ h2
  have h3:=s2.inv h2
  have s3:=Rd.st_must h3 u
  refine ⟨h1,h2,h3,s3.inv h3,(Rd.st_deep hq he ((s1.trans s2).trans s3)).inv hq,Nat.le_trans s1.rem ?_⟩
  have hd:=Rd.down_inv hq he
  unfold Rd.rem
  rw [if_pos he,hd.2.2.1,hd.2.2.2.1]
  split<;>omega
 rw [jiT]
 by_cases he:r.e≠0
 ·rw [if_pos he]
  refine jaw Tryz.func289 Tryz.ntmps289 ?_
  (refine S ?_;try exact True.intro)
  (repeat' (first|refine jaa fun K hK=>?_|refine wkA ?_|(with_reducible refine gR 2 ?_);refine dE 2 [0,1,2,3,4,5,6,7,8,9,10,11] mixed ?_|(refine hK _ _ ?_;clear hK K)|(refine jad (fun hc=>?_) (fun hc=>?_)<;>first | contradiction | (exfalso;omega) | skip)|refine cm (ja1 r (rok h)) ?_|refine wkB ?_|exact True.intro|(clear hK K)))
  (refine jaN [.tmp 2] ?_;try simp only [go_sem])
 rw [if_neg he]
 have he:r.e=0:=by omega
 have hinc:r.tok.kind≠0→r.inc.Inv∧r.inc.rem+1≤r.rem∧r.i+1 < r.l.length:=fun hk=>⟨(Rd.st_inc h hk).1.inv h,Rd.rem_inc h ⟨he,hk⟩,Rd.behind h hk⟩
 by_cases hk1:r.tok.kind=1
 ·rw [if_pos hk1]
  obtain ⟨hi,_,hb⟩:=hinc (by omega)
  have hnt:=h.num r.i.toNat (by omega) hk1
  have hk1':(nth r.l r.i.toNat).kind=1:=hk1
  refine jaw Tryz.func289 Tryz.ntmps289 ?_
  (refine S ?_;try exact True.intro)
  (have W:=And.intro he (hk1');repeat' (first|refine jaa fun K hK=>?_|refine wkA ?_|(with_reducible refine gR 2 ?_);refine dE 2 [0,1,2,3,4,5,6,7,8,9,10,11] mixed ?_|(refine hK _ _ ?_;clear hK K)|(refine jad (fun hc=>?_) (fun hc=>?_)<;>first | contradiction | (exfalso;omega) | skip)|refine cm (ja1 r (rok h)) ?_|refine cp (jxk _ hnt) ?_|refine cm (jdX r.inc _ _ _ _ [] _ VLe.nil (rok hi)) ?_|refine wkB ?_|exact True.intro|(clear hK K)));all_goals (try clear W)
  (refine jaN [.tmp 2] ?_;try simp only [go_sem])
  all_goals rfl
 rw [if_neg hk1]
 have hk1':¬ (nth r.l r.i.toNat).kind=1:=hk1
 by_cases hk2:r.tok.kind=2
 ·rw [if_pos hk2]
  obtain ⟨hi,_,hb⟩:=hinc (by omega)
  have hk2':(nth r.l r.i.toNat).kind=2:=hk2
  refine jaw Tryz.func289 Tryz.ntmps289 ?_
  (refine S ?_;try exact True.intro)
  (have W:=And.intro he (hk2');repeat' (first|refine jaa fun K hK=>?_|refine wkA ?_|(with_reducible refine gR 2 ?_);refine dE 2 [0,1,2,3,4,5,6,7,8,9,10,11] mixed ?_|(refine hK _ _ ?_;clear hK K)|(refine jad (fun hc=>?_) (fun hc=>?_)<;>first | contradiction | (exfalso;omega) | skip)|refine cm (ja1 r (rok h)) ?_|refine cm (jdX r.inc _ _ _ _ [] _ VLe.nil (rok hi)) ?_|refine wkB ?_|exact True.intro|(clear hK K)));all_goals (try clear W)
  (refine jaN [.tmp 2] ?_;try simp only [go_sem])
  all_goals rfl
 rw [if_neg hk2]
 have hk2':¬ (nth r.l r.i.toNat).kind=2:=hk2
 by_cases hk3:r.tok.kind=3
 ·rw [if_pos hk3]
  obtain ⟨hi,hr,hb⟩:=hinc (by omega)
  have hk3':(nth r.l r.i.toNat).kind=3:=hk3
  by_cases hx:r.inc.is (⟨#[91]⟩:ByteArray)=true
  ·rw [if_pos hx]
   obtain ⟨d1,d2,d3,d4,d5,d6⟩:=deeper r.inc (⟨#[91]⟩:ByteArray) (⟨#[93]⟩:ByteArray) hi he
   have d4l:=d4.dlo
   have d4h:=d4.dhi
   refine jaw Tryz.func289 Tryz.ntmps289 ?_
   (refine S ?_;try exact True.intro)
   (have W:=And.intro he (And.intro hk3' (hx));repeat' (first|refine jaa fun K hK=>?_|refine wkA ?_|(with_reducible refine gR 2 ?_);refine dE 2 [0,1,2,3,4,5,6,7,8,9,10,11] mixed ?_|(refine hK _ _ ?_;clear hK K)|(refine jad (fun hc=>?_) (fun hc=>?_)<;>first | contradiction | (exfalso;omega) | skip)|refine cm (ja1 r (rok h)) ?_|refine cm (jes r.inc _ (rok hi)) ?_|refine cm (jhT r.inc (rok hi)) ?_|refine cm (jbN r.inc.down _ (rok d1)) ?_|refine cm (hch (r.inc.down.must (⟨#[91]⟩:ByteArray)) d2 (by omega)) ?_|refine cm (jbN (jaC n 0 (r.inc.down.must (⟨#[91]⟩:ByteArray))).1 _ (rok d3)) ?_|refine cm (jdX ((jaC n 0 (r.inc.down.must (⟨#[91]⟩:ByteArray))).1.must (⟨#[93]⟩:ByteArray)).up _ _ _ _ [(jaC n 0 (r.inc.down.must (⟨#[91]⟩:ByteArray))).2] _ VLe.sl (rok d5)) ?_|refine wkB ?_|exact True.intro|(clear hK K)));all_goals (try clear W)
   (refine jaN [.tmp 2] ?_;try simp only [go_sem])
   all_goals rfl
  ·rw [if_neg hx]
   have hx':r.inc.is (⟨#[91]⟩:ByteArray)=false:=by simpa using hx
   refine jaw Tryz.func289 Tryz.ntmps289 ?_
   (refine S ?_;try exact True.intro)
   (have W:=And.intro he (And.intro hk3' (hx'));repeat' (first|refine jaa fun K hK=>?_|refine wkA ?_|(with_reducible refine gR 2 ?_);refine dE 2 [0,1,2,3,4,5,6,7,8,9,10,11] mixed ?_|(refine hK _ _ ?_;clear hK K)|(refine jad (fun hc=>?_) (fun hc=>?_)<;>first | contradiction | (exfalso;omega) | skip)|refine cm (ja1 r (rok h)) ?_|refine cm (jes r.inc _ (rok hi)) ?_|refine cm (jdX r.inc _ _ _ _ [] _ VLe.nil (rok hi)) ?_|refine wkB ?_|exact True.intro|(clear hK K)));all_goals (try clear W)
   (refine jaN [.tmp 2] ?_;try simp only [go_sem])
   all_goals rfl
 rw [if_neg hk3]
 have hk3':¬ (nth r.l r.i.toNat).kind=3:=hk3
 by_cases ht:r.is (⟨#[116,114,117,101]⟩:ByteArray)=true
 ·rw [if_pos ht]
  obtain ⟨hi,hr,hb⟩:=hinc (Rd.is_kind ht).2
  refine jaw Tryz.func289 Tryz.ntmps289 ?_
  (refine S ?_;try exact True.intro)
  (have W:=And.intro he (And.intro ht (And.intro hk1' (And.intro hk2' (hk3'))));repeat' (first|refine jaa fun K hK=>?_|refine wkA ?_|(with_reducible refine gR 2 ?_);refine dE 2 [0,1,2,3,4,5,6,7,8,9,10,11] mixed ?_|(refine hK _ _ ?_;clear hK K)|(refine jad (fun hc=>?_) (fun hc=>?_)<;>first | contradiction | (exfalso;omega) | skip)|refine cm (ja1 r (rok h)) ?_|refine cm (jes r _ (rok h)) ?_|refine cm (jdX r.inc _ _ _ _ [] _ VLe.nil (rok hi)) ?_|refine wkB ?_|exact True.intro|(clear hK K)));all_goals (try clear W)
  (refine jaN [.tmp 2] ?_;try simp only [go_sem])
 rw [if_neg ht]
 have ht':r.is (⟨#[116,114,117,101]⟩:ByteArray)=false:=by simpa using ht
 by_cases hf:r.is (⟨#[102,97,108,115,101]⟩:ByteArray)=true
 ·rw [if_pos hf]
  obtain ⟨hi,hr,hb⟩:=hinc (Rd.is_kind hf).2
  refine jaw Tryz.func289 Tryz.ntmps289 ?_
  (refine S ?_;try exact True.intro)
  (have W:=And.intro he (And.intro ht' (And.intro hf (And.intro hk1' (And.intro hk2' (hk3')))));repeat' (first|refine jaa fun K hK=>?_|refine wkA ?_|(with_reducible refine gR 2 ?_);refine dE 2 [0,1,2,3,4,5,6,7,8,9,10,11] mixed ?_|(refine hK _ _ ?_;clear hK K)|(refine jad (fun hc=>?_) (fun hc=>?_)<;>first | contradiction | (exfalso;omega) | skip)|refine cm (ja1 r (rok h)) ?_|refine cm (jes r _ (rok h)) ?_|refine cm (jdX r.inc _ _ _ _ [] _ VLe.nil (rok hi)) ?_|refine wkB ?_|exact True.intro|(clear hK K)));all_goals (try clear W)
  (refine jaN [.tmp 2] ?_;try simp only [go_sem])
 rw [if_neg hf]
 have hf':r.is (⟨#[102,97,108,115,101]⟩:ByteArray)=false:=by simpa using hf
 by_cases hl:r.is (⟨#[108,101,110]⟩:ByteArray)=true
 ·rw [if_pos hl]
  obtain ⟨hi,hr,hb⟩:=hinc (Rd.is_kind hl).2
  by_cases hx:r.inc.is (⟨#[40]⟩:ByteArray)=true
  ·rw [if_pos hx]
   obtain ⟨d1,d2,d3,d4,d5,d6⟩:=deeper r.inc (⟨#[40]⟩:ByteArray) (⟨#[41]⟩:ByteArray) hi he
   have d4l:=d4.dlo
   have d4h:=d4.dhi
   refine jaw Tryz.func289 Tryz.ntmps289 ?_
   (refine S ?_;try exact True.intro)
   (have W:=And.intro he (And.intro ht' (And.intro hf' (And.intro hl (And.intro hk1' (And.intro hk2' (And.intro hk3' (hx)))))));repeat' (first|refine jaa fun K hK=>?_|refine wkA ?_|(with_reducible refine gR 2 ?_);refine dE 2 [0,1,2,3,4,5,6,7,8,9,10,11] mixed ?_|(refine hK _ _ ?_;clear hK K)|(refine jad (fun hc=>?_) (fun hc=>?_)<;>first | contradiction | (exfalso;omega) | skip)|refine cm (ja1 r (rok h)) ?_|refine cm (jes r _ (rok h)) ?_|refine cm (jes r.inc _ (rok hi)) ?_|refine cm (jhT r.inc (rok hi)) ?_|refine cm (jbN r.inc.down _ (rok d1)) ?_|refine cm (hch (r.inc.down.must (⟨#[40]⟩:ByteArray)) d2 (by omega)) ?_|refine cm (jbN (jaC n 0 (r.inc.down.must (⟨#[40]⟩:ByteArray))).1 _ (rok d3)) ?_|refine cm (jdX ((jaC n 0 (r.inc.down.must (⟨#[40]⟩:ByteArray))).1.must (⟨#[41]⟩:ByteArray)).up _ _ _ _ [(jaC n 0 (r.inc.down.must (⟨#[40]⟩:ByteArray))).2] _ VLe.sl (rok d5)) ?_|refine wkB ?_|exact True.intro|(clear hK K)));all_goals (try clear W)
   (refine jaN [.tmp 2] ?_;try simp only [go_sem])
  ·rw [if_neg hx]
   have hx':r.inc.is (⟨#[40]⟩:ByteArray)=false:=by simpa using hx
   refine jaw Tryz.func289 Tryz.ntmps289 ?_
   (refine S ?_;try exact True.intro)
   (have W:=And.intro he (And.intro ht' (And.intro hf' (And.intro hl (And.intro hk1' (And.intro hk2' (And.intro hk3' (hx')))))));repeat' (first|refine jaa fun K hK=>?_|refine wkA ?_|(with_reducible refine gR 2 ?_);refine dE 2 [0,1,2,3,4,5,6,7,8,9,10,11] mixed ?_|(refine hK _ _ ?_;clear hK K)|(refine jad (fun hc=>?_) (fun hc=>?_)<;>first | contradiction | (exfalso;omega) | skip)|refine cm (ja1 r (rok h)) ?_|refine cm (jes r _ (rok h)) ?_|refine cm (jes r.inc _ (rok hi)) ?_|refine cm (jfj r.inc _ (rok hi)) ?_|refine wkB ?_|exact True.intro|(clear hK K)));all_goals (try clear W)
   (refine jaN [.tmp 2] ?_;try simp only [go_sem])
 rw [if_neg hl]
 have hl':r.is (⟨#[108,101,110]⟩:ByteArray)=false:=by simpa using hl
 by_cases hx:r.is (⟨#[40]⟩:ByteArray)=true
 ·rw [if_pos hx]
  obtain ⟨hi,hr,hb⟩:=hinc (Rd.is_kind hx).2
  obtain ⟨d1,d2,d3,d4,d5,d6⟩:=deeper r (⟨#[40]⟩:ByteArray) (⟨#[41]⟩:ByteArray) h he
  have d4l:=d4.dlo
  have d4h:=d4.dhi
  have d7:(r.down.must (⟨#[40]⟩:ByteArray)).rem+1≤r.rem:=by
   have hdn:=Rd.down_inv h he
   unfold Rd.rem
   rw [if_pos he]
   have hl2:(r.down.must (⟨#[40]⟩:ByteArray)).l=r.l:=(Rd.st_must d1 _).l.trans hdn.2.2.2.1
   rw [hl2]
   by_cases hq:r.down.is (⟨#[40]⟩:ByteArray)=true
   ·have:r.down.must (⟨#[40]⟩:ByteArray)=r.down.inc:=by unfold Rd.must;rw [if_pos hq]
    rw [this]
    have:r.down.inc.i=r.i+1:=by show r.down.i+1=_;rw [hdn.2.2.1]
    rw [this]
    split<;>omega
   ·have hm:r.down.must (⟨#[40]⟩:ByteArray)=r.down.fails 20:=by unfold Rd.must;rw [if_neg hq]
    rw [hm]
    have:(r.down.fails 20).e≠0:=by
     unfold Rd.fails
     split
     ·show (20:Int)≠0;decide
     ·assumption
    rw [if_neg this]
    omega
  refine jaw Tryz.func289 Tryz.ntmps289 ?_
  (refine S ?_;try exact True.intro)
  (have W:=And.intro he (And.intro ht' (And.intro hf' (And.intro hl' (And.intro hk1' (And.intro hk2' (And.intro hk3' (hx)))))));repeat' (first|refine jaa fun K hK=>?_|refine wkA ?_|(with_reducible refine gR 2 ?_);refine dE 2 [0,1,2,3,4,5,6,7,8,9,10,11] mixed ?_|(refine hK _ _ ?_;clear hK K)|(refine jad (fun hc=>?_) (fun hc=>?_)<;>first | contradiction | (exfalso;omega) | skip)|refine cm (ja1 r (rok h)) ?_|refine cm (jes r _ (rok h)) ?_|refine cm (jhT r (rok h)) ?_|refine cm (jbN r.down _ (rok d1)) ?_|refine cm (hch (r.down.must (⟨#[40]⟩:ByteArray)) d2 (by omega)) ?_|refine cm (jbN (jaC n 0 (r.down.must (⟨#[40]⟩:ByteArray))).1 _ (rok d3)) ?_|refine wkB ?_|exact True.intro|(clear hK K)));all_goals (try clear W)
  (refine jaN [.tmp 2] ?_;try simp only [go_sem])
 rw [if_neg hx]
 have hx':r.is (⟨#[40]⟩:ByteArray)=false:=by simpa using hx
 refine jaw Tryz.func289 Tryz.ntmps289 ?_
 (refine S ?_;try exact True.intro)
 (have W:=And.intro he (And.intro ht' (And.intro hf' (And.intro hl' (And.intro hk1' (And.intro hk2' (And.intro hk3' (hx')))))));repeat' (first|refine jaa fun K hK=>?_|refine wkA ?_|(with_reducible refine gR 2 ?_);refine dE 2 [0,1,2,3,4,5,6,7,8,9,10,11] mixed ?_|(refine hK _ _ ?_;clear hK K)|(refine jad (fun hc=>?_) (fun hc=>?_)<;>first | contradiction | (exfalso;omega) | skip)|refine cm (ja1 r (rok h)) ?_|refine cm (jes r _ (rok h)) ?_|refine cm (jfj r _ (rok h)) ?_|refine wkB ?_|exact True.intro|(clear hK K)));all_goals (try clear W)
 (refine jaN [.tmp 2] ?_;try simp only [go_sem])
theorem juM:∀ m n,n≤m→jt4 n∧jjJ n∧jm5 n
 | 0,0,_=>⟨fun r h hn=>by omega,fun r h hn=>by omega,fun lv r hl h hn=>by omega⟩
 | m+1,0,_=>⟨fun r h hn=>by omega,fun r h hn=>by omega,fun lv r hl h hn=>by omega⟩
 | m+1,n+1,hm=>by
  obtain ⟨ha,hf,hc⟩:=juM m n (by omega)
  exact ⟨jxl n hc,jr7 n ha hf,jun n hf fun k hk=>(juM m k (by omega)).2.2⟩
set_option maxHeartbeats 1000000 in
theorem jxP (n:Nat) (r:Rd) (h:r.Inv) (hn:8 * r.rem+8≤n):ACalls Tryz.prog 248 [pR] (jbE r) (fun v l=>v=rI (jaC n 0 r).2∧l=jbE (jaC n 0 r).1):=by
 have:=(juM n n (Nat.le_refl _)).2.2 0 r (by omega) h (by omega)
 refine jaw Tryz.func248 Tryz.ntmps248 ?_
 (refine S ?_;try exact True.intro)
 (repeat' (first|refine jaa fun K hK=>?_|refine wkA ?_|(refine hK _ _ ?_;clear hK K)|(refine jad (fun hc=>?_) (fun hc=>?_)<;>first | contradiction | (exfalso;omega) | skip)|refine cm (this) ?_|refine wkB ?_|exact True.intro|(clear hK K)))
 (refine jbM [.tmp 2] ?_ ?_<;>(try simp only [go_sem]))
theorem jdC {r:Rd} (h:r.Inv):ACalls Tryz.prog 248 [pR] (jbE r) (fun v l=>v=rI (jaS r).2∧l=jbE (jaS r).1):=jxP _ r h (Nat.le_refl _)
set_option maxHeartbeats 4000000 in
set_option maxRecDepth 10000 in
theorem jtk {r:Rd} (h:r.Inv):ACalls Tryz.prog 270 [pR] (jbE r) (fun v l=>v=rI (je5 r).2∧l=jbE (je5 r).1):=by
 have h1:=(Rd.st_name h).inv h
 have h2:=(jhv h).inv h
 have h3:=(jjR h).inv h
 have h4:=(jrV h).inv h
 have hr0:(jhi r).rem≤2000:=by
  have:=h2.pos;have:=h2.len
  unfold Rd.rem;split<;>omega
 have hm:ACalls Tryz.prog 145 [pR,rS (⟨#[40]⟩:ByteArray)] (jbE r.name.1) (fun v l=>v=.tup []∧l=jbE (jhi r)):=jbN r.name.1 _ (rok h1)
 refine jaw Tryz.func270 Tryz.ntmps270 ?_
 (refine S ?_;try exact True.intro)
 (repeat' (first|refine jaa fun K hK=>?_|refine wkA ?_|(refine hK _ _ ?_;clear hK K)|(refine jad (fun hc=>?_) (fun hc=>?_)<;>first | contradiction | (exfalso;omega) | skip)|refine cm (ja1 r (rok h)) ?_|refine cm (jjr r (rok h)) ?_|refine cm (hm) ?_|refine cm (jes (jhi r) _ (rok h2)) ?_|refine wkB ?_|exact True.intro|(clear hK K)))
 have hKo:=hK;clear hK
 refine jaU (FLe.nil 2 5 3 (sz:=1) rfl (by decide) (Or.inr ⟨_,_,_,rfl,rfl⟩)) ?_
 (refine S ?_;try exact True.intro)
 refine jah (S:=Nat×Bool×Rd×List Int) [(5,1),(7,2),(27,17)] (fun s=>s.2.2.1.Inv∧(s.2.1=true→s.2.2.1.rem+2≤s.1)∧1≤s.1∧s.2.2.2.length+s.1≤5000∧jfg s.1 s.2.1 s.2.2.1 s.2.2.2=jfC r) (fun s=>[(5,.rs 2 s.2.2.2.length 1 s.2.2.2.length),(7,rB s.2.1)]) (fun s=>⟨[0,1],jbE s.2.2.1++[(2,.vec 3 1 (s.2.2.2.map eI))]⟩) (fun s=>s.1) ((jhi r).rem+2,more (jhi r),jhi r,[]) ⟨h2,fun _=>Nat.le_refl _,by (try simp only);omega,by (try simp only [List.length_nil]);omega,rfl⟩ (jaE rfl (by simp only [go_sem,LLe,Nat.reduceAdd,AV.raw.injEq,Value.int.injEq,Value.slice.injEq,Value.pointer.injEq,AV.rs.injEq,more,List.length_nil];try omega)) ?_
 rintro ⟨n,b,q,L⟩ ⟨hq,hn1,hn2,hn3,hA⟩ Kr hKr
 simp only at hq hn1 hn2 hn3 hA
 have hqi:=hq.lt
 have hqp:=hq.pos
 have hql:=hq.len
 obtain ⟨n,rfl⟩:∃ k,n=k+1:=⟨n - 1,by omega⟩
 cases b with
 | false=>
  rw [jfg] at hA
  have e1:q=(jfC r).1:=by rw [← hA]
  have e2:L=(jfC r).2:=by rw [← hA]
  rw [← e1] at h4
  (refine S ?_;try exact True.intro)
  (repeat' (first|refine jaa fun K hK=>?_|refine wkA ?_|(refine hK _ _ ?_;clear hK K)|(refine jad (fun hc=>?_) (fun hc=>?_)<;>first | contradiction | (exfalso;omega) | skip)|refine wkB ?_|exact True.intro|(clear hK K)))
  refine hKo _ _ ?_
  refine jnd [2] 5 (jal eI 1 L) Sd Sd vtl ?_
  (refine S ?_;try exact True.intro)
  (repeat' (first|refine jaa fun K hK=>?_|refine wkA ?_|(refine hK _ _ ?_;clear hK K)|(refine jad (fun hc=>?_) (fun hc=>?_)<;>first | contradiction | (exfalso;omega) | skip)|refine cm (jbN q _ (rok hq)) ?_|refine cm (jqB (q.must (⟨#[41]⟩:ByteArray)) _ _ _ _ L (rok h4)) ?_|refine wkB ?_|exact True.intro|(clear hK K)))
  (refine jbM [.tmp 2] ?_ ?_<;>(try simp only [go_sem]))
  ·unfold je5;rw [← e1,← e2]
  ·unfold je5;rw [← e1,← e2]
 | true=>
  have s1:=ja7 hq
  have hx:=s1.inv hq
  have hr1:=s1.rem
  have hxi:=hx.lt
  have hxp:=hx.pos
  have hxl:=hx.len
  have hn1:=hn1 rfl
  rw [jfg] at hA
  (refine S ?_;try exact True.intro)
  (repeat' (first|refine jaa fun K hK=>?_|refine wkA ?_|(refine hK _ _ ?_;clear hK K)|(refine jad (fun hc=>?_) (fun hc=>?_)<;>first | contradiction | (exfalso;omega) | skip)|refine cm (jdC hq) ?_|refine cm (jes (jaS q).1 _ (rok hx)) ?_|refine wkB ?_|exact True.intro|(clear hK K)))
  ·rw [if_pos hc] at hA
   have hk:=Rd.is_kind hc
   have hr2:=Rd.rem_inc hx hk
   refine hKr _ _ (jau (n,true,(jaS q).1.inc,L++[(jaS q).2]) ⟨(Rd.st_inc hx hk.2).1.inv hx,fun _=>by (try simp only);omega,by (try simp only);omega,by (try simp only [List.length_append,List.length_cons,List.length_nil]);omega,hA⟩ (by (try simp only);omega) (by simp only [go_sem,jbE,ja5,List.map_append,List.map_cons,List.map_nil,List.cons_append,List.nil_append];(try rfl)) (by simp only [go_sem,LLe,Nat.reduceAdd,AV.raw.injEq,Value.int.injEq,Value.slice.injEq,Value.pointer.injEq,AV.rs.injEq,hc,List.length_append,List.length_cons,List.length_nil];try omega))
  ·rw [if_neg (by rw [hc];decide)] at hA
   refine hKr _ _ (jau (n,false,(jaS q).1,L++[(jaS q).2]) ⟨hx,(by intro h;cases h),by (try simp only);omega,by (try simp only [List.length_append,List.length_cons,List.length_nil]);omega,?_⟩ (by (try simp only);omega) (by simp only [go_sem,jbE,ja5,List.map_append,List.map_cons,List.map_nil,List.cons_append,List.nil_append];(try rfl)) (by simp only [go_sem,LLe,Nat.reduceAdd,AV.raw.injEq,Value.int.injEq,Value.slice.injEq,Value.pointer.injEq,AV.rs.injEq,hc,List.length_append,List.length_cons,List.length_nil];try omega))
   rw [← hA]
   obtain ⟨n,rfl⟩:∃ k,n=k+1:=⟨n - 1,by omega⟩
   rw [jfg]
theorem jhP {r:Rd} (h:r.Inv):ACalls Tryz.prog 269 [pR] (jbE r) (fun v l=>v=rB r.calls∧l=jbE r):=jsF r (rok h) (fun hk=>Rd.behind h (Rd.kind_kind hk (by decide)).2)
set_option maxHeartbeats 4000000 in
set_option maxRecDepth 10000 in
theorem jqQ {r:Rd} (h:r.Inv):ACalls Tryz.prog 247 [pR] (jbE r) (fun v l=>v=rI (jcw r).2∧l=jbE (jcw r).1):=by
 have hri:=h.lt
 have hrp:=h.pos
 have hrl:=h.len
 have hinc:r.tok.kind≠0→r.inc.Inv:=fun hk=>(Rd.st_inc h hk).1.inv h
 by_cases hx:r.is (⟨#[105,110,112,117,116]⟩:ByteArray)=true
 ·have hi:=hinc (Rd.is_kind hx).2
  rw [jcw,if_pos hx]
  refine jaw Tryz.func247 Tryz.ntmps247 ?_
  (refine S ?_;try exact True.intro)
  (have W:=hx;repeat' (first|refine jaa fun K hK=>?_|refine wkA ?_|(refine hK _ _ ?_;clear hK K)|(refine jad (fun hc=>?_) (fun hc=>?_)<;>first | contradiction | (exfalso;omega) | skip)|refine cm (ja1 r (rok h)) ?_|refine cm (jes r _ (rok h)) ?_|refine cm (jdX r.inc _ _ _ _ [] _ VLe.nil (rok hi)) ?_|refine wkB ?_|exact True.intro|(clear hK K)));all_goals (try clear W)
  (refine jbM [.tmp 2] ?_ ?_<;>(try simp only [go_sem]))
 rw [jcw,if_neg hx]
 have hx':r.is (⟨#[105,110,112,117,116]⟩:ByteArray)=false:=by simpa using hx
 by_cases hy:r.is (⟨#[110,101,119]⟩:ByteArray)=true
 ·have hi:=hinc (Rd.is_kind hy).2
  have h1:=(Rd.st_must hi (⟨#[40]⟩:ByteArray)).inv hi
  have h2:=(ja7 h1).inv h1
  have h3:=(Rd.st_must h2 (⟨#[41]⟩:ByteArray)).inv h2
  rw [if_pos hy]
  refine jaw Tryz.func247 Tryz.ntmps247 ?_
  (refine S ?_;try exact True.intro)
  (have W:=And.intro hx' (hy);repeat' (first|refine jaa fun K hK=>?_|refine wkA ?_|(refine hK _ _ ?_;clear hK K)|(refine jad (fun hc=>?_) (fun hc=>?_)<;>first | contradiction | (exfalso;omega) | skip)|refine cm (ja1 r (rok h)) ?_|refine cm (jes r _ (rok h)) ?_|refine cm (jbN r.inc _ (rok hi)) ?_|refine cm (jdC h1) ?_|refine cm (jbN (jaS (r.inc.must (⟨#[40]⟩:ByteArray))).1 _ (rok h2)) ?_|refine cm (jdX ((jaS (r.inc.must (⟨#[40]⟩:ByteArray))).1.must (⟨#[41]⟩:ByteArray)) _ _ _ _ [(jaS (r.inc.must (⟨#[40]⟩:ByteArray))).2] _ VLe.sl (rok h3)) ?_|refine wkB ?_|exact True.intro|(clear hK K)));all_goals (try clear W)
  (refine jbM [.tmp 2] ?_ ?_<;>(try simp only [go_sem]))
 rw [if_neg hy]
 have hy':r.is (⟨#[110,101,119]⟩:ByteArray)=false:=by simpa using hy
 by_cases hcl:r.calls=true
 ·rw [if_pos hcl]
  refine jaw Tryz.func247 Tryz.ntmps247 ?_
  (refine S ?_;try exact True.intro)
  (have W:=And.intro hx' (And.intro hy' (hcl));repeat' (first|refine jaa fun K hK=>?_|refine wkA ?_|(refine hK _ _ ?_;clear hK K)|(refine jad (fun hc=>?_) (fun hc=>?_)<;>first | contradiction | (exfalso;omega) | skip)|refine cm (ja1 r (rok h)) ?_|refine cm (jes r _ (rok h)) ?_|refine cm (jhP h) ?_|refine cm (jtk h) ?_|refine wkB ?_|exact True.intro|(clear hK K)));all_goals (try clear W)
  (refine jbM [.tmp 2] ?_ ?_<;>(try simp only [go_sem]))
 ·rw [if_neg hcl]
  have hc':r.calls=false:=by simpa using hcl
  refine jaw Tryz.func247 Tryz.ntmps247 ?_
  (refine S ?_;try exact True.intro)
  (have W:=And.intro hx' (And.intro hy' (hc'));repeat' (first|refine jaa fun K hK=>?_|refine wkA ?_|(refine hK _ _ ?_;clear hK K)|(refine jad (fun hc=>?_) (fun hc=>?_)<;>first | contradiction | (exfalso;omega) | skip)|refine cm (ja1 r (rok h)) ?_|refine cm (jes r _ (rok h)) ?_|refine cm (jhP h) ?_|refine cm (jdC h) ?_|refine wkB ?_|exact True.intro|(clear hK K)));all_goals (try clear W)
  (refine jbM [.tmp 2] ?_ ?_<;>(try simp only [go_sem]))
set_option maxHeartbeats 4000000 in
set_option maxRecDepth 10000 in
theorem ju8 {r:Rd} (h:r.Inv) (he:r.e=0) (ln:Int):ACalls Tryz.prog 249 [pR,rI ln] (jbE r) (fun v l=>v=rI (jex r ln).2∧l=jbE (jex r ln).1):=by
 have hri:=h.lt
 have hrp:=h.pos
 have hrl:=h.len
 by_cases hcl:r.calls=true
 ·have h1:=(jjS h hcl).1.inv h
  have h2:=(Rd.st_must h1 (⟨#[59]⟩:ByteArray)).inv h1
  rw [jex,if_pos hcl]
  refine jaw Tryz.func249 Tryz.ntmps249 ?_
  (refine S ?_;try exact True.intro)
  (have W:=hcl;repeat' (first|refine jaa fun K hK=>?_|refine wkA ?_|(refine hK _ _ ?_;clear hK K)|(refine jad (fun hc=>?_) (fun hc=>?_)<;>first | contradiction | (exfalso;omega) | skip)|refine cm (jhP h) ?_|refine cm (jtk h) ?_|refine cm (jbN (je5 r).1 _ (rok h1)) ?_|refine cm (jdX ((je5 r).1.must (⟨#[59]⟩:ByteArray)) _ _ _ _ [(je5 r).2] _ VLe.sl (rok h2)) ?_|refine wkB ?_|exact True.intro|(clear hK K)));all_goals (try clear W)
  (refine jbM [.tmp 4] ?_ ?_<;>(try simp only [go_sem]))
 rw [jex,if_neg hcl]
 have hc':r.calls=false:=by simpa using hcl
 have h0:=(Rd.st_name h).inv h
 by_cases hx:r.name.1.is (⟨#[91]⟩:ByteArray)=true
 ·rw [if_pos hx]
  have d0:=(Rd.down_inv h0 (Rd.is_kind hx).1).1
  have d1:=(Rd.st_must d0 (⟨#[91]⟩:ByteArray)).inv d0
  have d2:=(ja7 d1).inv d1
  have d3:=(Rd.st_must d2 (⟨#[93]⟩:ByteArray)).inv d2
  have d4:=(jqA h0 hx).2.inv h0
  have d5:=(jn0 h0 hx).1.inv h0
  have d6:=(jn0 h0 hx).2.inv h0
  have d7:=(Rd.st_must d6 (⟨#[59]⟩:ByteArray)).inv d6
  have d3l:=d3.dlo
  have d3h:=d3.dhi
  unfold ptB ptA at *
  refine jaw Tryz.func249 Tryz.ntmps249 ?_
  (refine S ?_;try exact True.intro)
  (have W:=And.intro hc' (hx);repeat' (first|refine jaa fun K hK=>?_|refine wkA ?_|(refine hK _ _ ?_;clear hK K)|(refine jad (fun hc=>?_) (fun hc=>?_)<;>first | contradiction | (exfalso;omega) | skip)|refine cm (jhP h) ?_|refine cm (jjr r (rok h)) ?_|refine cm (jes r.name.1 _ (rok h0)) ?_|refine cm (jhT r.name.1 (rok h0)) ?_|refine cm (jbN r.name.1.down _ (rok d0)) ?_|refine cm (jdC d1) ?_|refine cm (jbN (jaS (r.name.1.down.must (⟨#[91]⟩:ByteArray))).1 _ (rok d2)) ?_|refine cm (jbN ((jaS (r.name.1.down.must (⟨#[91]⟩:ByteArray))).1.must (⟨#[93]⟩:ByteArray)).up _ (rok d4)) ?_|refine cm (jdC d5) ?_|refine cm (jbN (jaS (((jaS (r.name.1.down.must (⟨#[91]⟩:ByteArray))).1.must (⟨#[93]⟩:ByteArray)).up.must (⟨#[61]⟩:ByteArray))).1 _ (rok d6)) ?_|refine cm (jdX ((jaS (((jaS (r.name.1.down.must (⟨#[91]⟩:ByteArray))).1.must (⟨#[93]⟩:ByteArray)).up.must (⟨#[61]⟩:ByteArray))).1.must (⟨#[59]⟩:ByteArray)) _ _ _ _ [(jaS (r.name.1.down.must (⟨#[91]⟩:ByteArray))).2,(jaS (((jaS (r.name.1.down.must (⟨#[91]⟩:ByteArray))).1.must (⟨#[93]⟩:ByteArray)).up.must (⟨#[61]⟩:ByteArray))).2] _ VLe.sl (rok d7)) ?_|refine wkB ?_|exact True.intro|(clear hK K)));all_goals (try clear W)
  (refine jbM [.tmp 4] ?_ ?_<;>(try simp only [go_sem]))
 ·rw [if_neg hx]
  have hx':r.name.1.is (⟨#[91]⟩:ByteArray)=false:=by simpa using hx
  have d1:=(Rd.st_must h0 (⟨#[61]⟩:ByteArray)).inv h0
  have d2:=(jf0 d1).inv d1
  have d3:=(Rd.st_must d2 (⟨#[59]⟩:ByteArray)).inv d2
  refine jaw Tryz.func249 Tryz.ntmps249 ?_
  (refine S ?_;try exact True.intro)
  (have W:=And.intro hc' (hx');repeat' (first|refine jaa fun K hK=>?_|refine wkA ?_|(refine hK _ _ ?_;clear hK K)|(refine jad (fun hc=>?_) (fun hc=>?_)<;>first | contradiction | (exfalso;omega) | skip)|refine cm (jhP h) ?_|refine cm (jjr r (rok h)) ?_|refine cm (jes r.name.1 _ (rok h0)) ?_|refine cm (jbN r.name.1 _ (rok h0)) ?_|refine cm (jqQ d1) ?_|refine cm (jbN (jcw (r.name.1.must (⟨#[61]⟩:ByteArray))).1 _ (rok d2)) ?_|refine cm (jdX ((jcw (r.name.1.must (⟨#[61]⟩:ByteArray))).1.must (⟨#[59]⟩:ByteArray)) _ _ _ _ [(jcw (r.name.1.must (⟨#[61]⟩:ByteArray))).2] _ VLe.sl (rok d3)) ?_|refine wkB ?_|exact True.intro|(clear hK K)));all_goals (try clear W)
  (refine jbM [.tmp 4] ?_ ?_<;>(try simp only [go_sem]))
set_option maxHeartbeats 1000000 in
theorem jyJ (w:ByteArray):PCall Tryz.prog 212 [rS w] (rI (jhf w)):=by
 refine jbA Tryz.func212 Tryz.ntmps212 ?_
 (repeat' (first|refine jaa fun K hK=>?_|refine wkA ?_|(refine hK _ _ ?_;clear hK K)|(refine jad (fun hc=>?_) (fun hc=>?_)<;>first | contradiction | (exfalso;omega) | skip)|refine wkB ?_|exact True.intro|(clear hK K)))
 all_goals (refine jbM [.tmp 2] ?_ ?_<;>(try simp only [go_sem]))
 all_goals unfold jhf
 all_goals repeat' split
 all_goals first | rfl | (exfalso;simp_all;done)
set_option maxHeartbeats 1000000 in
set_option maxRecDepth 10000 in
theorem jrj {r:Rd} (h:r.Inv):ACalls Tryz.prog 148 [pR] (jbE r) (fun v l=>v=rI (jbP r).2∧l=jbE (jbP r).1):=by
 have hri:=h.lt
 have hrp:=h.pos
 have hrl:=h.len
 refine jaw Tryz.func148 Tryz.ntmps148 ?_
 (refine S ?_;try exact True.intro)
 (repeat' (first|refine jaa fun K hK=>?_|refine wkA ?_|(refine hK _ _ ?_;clear hK K)|(refine jad (fun hc=>?_) (fun hc=>?_)<;>first | contradiction | (exfalso;omega) | skip)|refine cm (jed r (rok h)) ?_|refine cp (jyJ r.word) ?_|refine cm (jfj r _ (rok h)) ?_|refine wkB ?_|exact True.intro|(clear hK K)))
 ·(refine jbM [.tmp 2] ?_ ?_<;>(try simp only [go_sem]))
  ·simp only [jbP,if_pos hc]
  ·simp only [jbP,if_pos hc,go_sem]
 ·(refine jbM [.tmp 2] ?_ ?_<;>(try simp only [go_sem]))
  ·simp only [jbP,if_neg hc]
  ·simp only [jbP,if_neg hc];rfl
end Go.Proofs.YtfkgcobaheegbaaGreatDoor

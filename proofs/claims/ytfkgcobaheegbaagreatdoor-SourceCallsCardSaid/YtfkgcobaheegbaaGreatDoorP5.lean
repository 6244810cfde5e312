/- strconv.Atoi of digits. The document's parser: an atom. The document's parser: calls, right sides. The document's parser: right sides, statements that begin with a name, types. No conditions. -/
import Derived.Test.YtfkgcobaheegbaaGreatDoorP2
import Derived.Test.YtfkgcobaheegbaaGreatDoorShelf
import Derived.Test.YtfkgcobaheegbaaGreatDoorLxT
set_option linter.all false
namespace Go.Gd
open Go
theorem ji9 {P:Program} {f:FuncId} {args:List AV} {r:AV} (vals:List Value) (v:Value) (ha:args=vals.map .raw) (hr:∀ w:NW,RelV w r v) (h:∀ w:World,Calls P f vals.toArray w fun e w'=>e=.returned v∧RowKit.Below w.heap.size w w'):PCall P f args r:=by
 intro w vs h1 h2
 have hvs:vs=vals.toArray:=by
  apply Array.ext'
  apply List.ext_getElem?
  intro i
  obtain ⟨hl,hv⟩:=h2
  subst ha
  by_cases hi:i < vals.length
  ·have hi':i < vs.size:=by rw [← hl];simpa using hi
   have:=jas (hv i (.raw vals[i]) vs[i] (by simp [hi]) (by simp [hi']))
   simp [hi,hi',this]
  ·have hi':¬ i < vs.size:=by rw [← hl];simpa using hi
   rw [List.getElem?_eq_none (by simpa using hi'),List.getElem?_eq_none (by simpa using hi)]
 subst hvs
 refine (h w.toWorld).mono ?_
 rintro e W ⟨rfl,hb⟩
 have ex:Ext w (entry []) (w.to W) (entry []):={ size:=hb.size,free:=fun b hb' hO=>⟨hb.block b hb',hO⟩,names:=fun _ _ _ _ h=>h,os:=hb.os,tape:=hb.tape,output:=hb.output,rest:=fun b hb' hO hno=>⟨hb.block b hb',hO,hno⟩,base:=rfl }
 refine ⟨v,r,entry [],w.to W,rfl,rfl,⟨rfl,rfl⟩,{ rows:=fun i row hi=>(by cases hi),dom:=h1.dom,inj:=h1.inj,own:=h1.own,glob:=h1.glob.keep ex.toKeep,fin:=fun b hb'=>Nat.lt_of_lt_of_le (h1.fin b hb') hb.size },hr _,ex.toB⟩
end Go.Gd
namespace Go.Proofs.YtfkgcobaheegbaaGreatDoor
open Go Go.Gd
theorem jfz (s:ByteArray) (k:Nat):jaR s k=((s.data.toList.getD k 0).toNat:Int):=by
 unfold jaR
 simp
def jjC:List UInt8→Nat→Nat
 | [],a=>a
 | c::l,a=>jjC l (a * 10+(c.toNat - 48))
theorem jl8:∀ (l:List UInt8) (a:Nat),a≤jjC l a
 | [],a=>Nat.le_refl _
 | c::l,a=>Nat.le_trans (by omega) (jl8 l _)
theorem jhx:∀ (l:List UInt8) (a:Nat),(∀ c∈l,48≤c.toNat∧c.toNat≤57)→jjC l a≤9223372036854775807→Lib.parseUint10 a l=.ok (jjC l a)
 | [],a,_,_=>rfl
 | c::l,a,h,hm=>by
  have hc:=h c (by simp)
  have h1:=jl8 l (a * 10+(c.toNat - 48))
  simp only [jjC] at hm ⊢
  unfold Lib.parseUint10
  rw [if_pos hc,if_neg (by omega),if_neg (by omega)]
  exact jhx l _ (fun x hx=>h x (by simp [hx])) hm
theorem ji4:∀ (l:List UInt8) (c:UInt8) (a:Nat),jjC (l++[c]) a=jjC l a * 10+(c.toNat - 48)
 | [],_,_=>rfl
 | _::l,c,_=>ji4 l c _
theorem jnn:∀ (l:List UInt8) (a:Nat),(∀ c∈l,48≤c.toNat∧c.toNat≤57)→jjC l a+1≤(a+1) * 10 ^ l.length
 | [],a,_=>by simp [jjC]
 | c::l,a,h=>by
  have hc:=h c (by simp)
  have ih:=jnn l (a * 10+(c.toNat - 48)) (fun x hx=>h x (by simp [hx]))
  simp only [jjC,List.length_cons,Nat.pow_succ]
  refine Nat.le_trans ih ?_
  rw [Nat.mul_comm (10 ^ l.length) 10,← Nat.mul_assoc]
  exact Nat.mul_le_mul_right _ (by omega)
theorem jrd:∀ (l:List UInt8) (a:Nat),a * 10 ^ l.length≤jjC l a
 | [],a=>by simp [jjC]
 | c::l,a=>by
  have ih:=jrd l (a * 10+(c.toNat - 48))
  simp only [jjC,List.length_cons,Nat.pow_succ]
  refine Nat.le_trans ?_ ih
  rw [Nat.mul_comm (10 ^ l.length) 10,← Nat.mul_assoc]
  exact Nat.mul_le_mul_right _ (by omega)
theorem jot:∀ (l m:List UInt8) (a:Nat),l.length=m.length→(∀ c∈l,48≤c.toNat∧c.toNat≤57)→(∀ c∈m,48≤c.toNat∧c.toNat≤57)→Op.bytesLess l m=true→jjC l a < jjC m a
 | [],[],_,_,_,_,h=>by simp [Op.bytesLess] at h
 | [],_::_,_,hl,_,_,_=>by simp at hl
 | _::_,[],_,hl,_,_,_=>by simp at hl
 | x::l,y::m,a,hl,h1,h2,h=>by
  have hx:=h1 x (by simp)
  have hy:=h2 y (by simp)
  simp only [Op.bytesLess,Bool.or_eq_true,decide_eq_true_eq,Bool.and_eq_true,beq_iff_eq] at h
  simp only [jjC]
  rcases h with h | ⟨rfl,h⟩
  ·have h:x.toNat < y.toNat:=h
   have e1:=jnn l (a * 10+(x.toNat - 48)) (fun c hc=>h1 c (by simp [hc]))
   have e2:=jrd m (a * 10+(y.toNat - 48))
   have e3:(a * 10+(x.toNat - 48)+1) * 10 ^ l.length≤(a * 10+(y.toNat - 48)) * 10 ^ m.length:=by
    rw [show l.length=m.length by simpa using hl]
    exact Nat.mul_le_mul_right _ (by omega)
   omega
  ·exact jot l m _ (by simpa using hl) (fun c hc=>h1 c (by simp [hc])) (fun c hc=>h2 c (by simp [hc])) h
theorem ji3 (s:ByteArray) (hd:∀ j,j < s.size→jbz (jaR s j)=true):∀ k,k≤s.size→jza s k=(jjC (s.data.toList.take k) 0:Nat)
 | 0,_=>by simp [jza,jjC]
 | k+1,hk=>by
  have hk':k < s.data.toList.length:=by simp;omega
  have h1:=hd k (by omega)
  simp only [jbz,Bool.and_eq_true,decide_eq_true_eq] at h1
  rw [jfz] at h1
  rw [jza,ji3 s hd k (by omega),List.take_succ_eq_append_getElem hk',ji4,jfz]
  have:s.data.toList.getD k 0=s.data.toList[k]:=by rw [List.getD_eq_getElem?_getD,List.getElem?_eq_getElem hk'];rfl
  rw [this] at h1 ⊢
  omega
theorem jgb {s:ByteArray} (h:jfT s):∀ c∈s.data.toList,48≤c.toNat∧c.toNat≤57:=fun c hc=>by
 obtain ⟨k,hk,rfl⟩:=List.getElem_of_mem hc
 have:=h.2.2 k (by simpa using hk)
 simp only [jbz,Bool.and_eq_true,decide_eq_true_eq] at this
 rw [jfz,List.getD_eq_getElem?_getD,List.getElem?_eq_getElem hk] at this
 simp only [Option.getD_some] at this
 omega
theorem jl9 {s:ByteArray} (h:jfT s):jjC s.data.toList 0≤9223372036854775807:=by
 have hd:=jgb h
 have hn:=h.2.1
 have hl:=jnn s.data.toList 0 hd
 have hlen:s.data.toList.length=s.size:=by simp
 unfold jqQ at hn
 simp only [Bool.or_eq_true,decide_eq_true_eq,Bool.and_eq_true] at hn
 rcases hn with hn | ⟨hn,h2 | h2⟩
 ·have:10 ^ s.data.toList.length≤10 ^ 18:=Nat.pow_le_pow_right (by omega) (by rw [hlen];omega)
  simp only [Nat.zero_add,Nat.one_mul] at hl
  omega
 ·have e:s.toList=s.data.toList:=ByteArray.toList_eq s
  have:=jot s.data.toList [57,50,50,51,51,55,50,48,51,54,56,53,52,55,55,53,56,48,55] 0 (by rw [hlen];simp;omega) hd (by decide) (by rw [← e,show [57,50,50,51,51,55,50,48,51,54,56,53,52,55,55,53,56,48,55]=(⟨#[57,50,50,51,51,55,50,48,51,54,56,53,52,55,55,53,56,48,55]⟩:ByteArray).toList by rw [ByteArray.toList_eq]];exact h2)
  have e2:jjC [57,50,50,51,51,55,50,48,51,54,56,53,52,55,55,53,56,48,55] 0=9223372036854775807:=by decide
  omega
 ·subst h2
  decide
theorem jst {s:ByteArray} (h:jfT s):Lib.atoiAll s.data.toList=.ok (ji5 s):=by
 have hd:=jgb h
 have hle:=jl9 h
 have hnum:ji5 s=(jjC s.data.toList 0:Nat):=by
  unfold ji5
  rw [ji3 s h.2.2 _ (Nat.le_refl _),List.take_of_length_le (by simp)]
 have hp:=jhx s.data.toList 0 hd hle
 have hpos:=h.1
 cases hs:s.data.toList with
 | nil=>
  have:s.data.toList.length=s.size:=by simp
  rw [hs] at this;simp at this;omega
 | cons c l=>
  rw [hs] at hd hp hnum hle
  have hc:=hd c (by simp)
  simp only [Lib.atoiAll]
  rw [if_neg (by omega)]
  simp only [Lib.parseMag,List.cons_ne_nil,if_false,hp,reduceCtorEq]
  rw [if_neg (by omega),if_neg (by omega),if_neg (by omega),hnum]
theorem jx4 (s:ByteArray) (h:jfT s):PCall Tryz.prog 291 [rS s] (.tup [rI (ji5 s),.raw .nilIface]):=by
 have hs:s.size≤9223372036854775806:=by
  have hn:=h.2.1
  unfold jqQ at hn
  simp only [Bool.or_eq_true,decide_eq_true_eq,Bool.and_eq_true] at hn
  omega
 refine ji9 [.string s] (.tuple #[.int .i64 (ji5 s),.nilIface]) rfl (fun w=>?_) fun w=>?_
 ·exact .tup _ _ rfl fun i a v ha hv=>by
   match i with
   | 0=>simp at ha hv;subst ha hv;exact .raw _
   | 1=>simp at ha hv;subst ha hv;exact .raw _
   | i+2=>simp at ha
 ·refine (Tryz.strconv_Atoi_ok s hs (ji5 s) (jst h) w).mono ?_
  rintro e W ⟨rfl,hW⟩
  refine ⟨rfl,?_⟩
  rcases hW with rfl | ⟨t,rfl⟩
  ·exact RowKit.Below.refl _ _
  ·exact Lib.bytesWorld_below _ _ _
set_option maxHeartbeats 8000000 in
set_option maxRecDepth 10000 in
theorem jx5 (n:Nat) (hc:jnO n):juJ (n+1):=by
 intro r h hn
 have hil:=h.lt
 have hip:=h.pos
 have hin:=h.len
 have hin':(r.l.length:Int)≤2000:=by omega
 have hch:∀ q:Rd,q.Inv→8 * q.rem+8≤n→ACalls Tryz.prog 248 [pR] (jbG q) (fun v l=>v=rI (jaG n 0 q).2∧l=jbG (jaG n 0 q).1):=fun q hq hm=>by
  have:=hc 0 q (by omega) hq (by omega)
  refine jaK Tryz.func248 Tryz.ntmps248 ?_
  (refine S ?_;try exact True.intro)
  (repeat' (first|refine jaa fun K hK=>?_|refine wkA ?_|(refine hK _ _ ?_;clear hK K)|(refine jae (fun hc=>?_) (fun hc=>?_)<;>first | contradiction | (exfalso;omega) | skip)|refine cm (this) ?_|refine wkB ?_|exact True.intro|(clear hK K)))
  (refine jbS [.tmp 2] ?_ ?_<;>(try simp only [go_sem]))
 have deeper:∀ (q:Rd) (t u:ByteArray),q.Inv→q.e=0→q.down.Inv∧(q.down.must t).Inv∧(jaG n 0 (q.down.must t)).1.Inv∧((jaG n 0 (q.down.must t)).1.must u).Inv∧((jaG n 0 (q.down.must t)).1.must u).up.Inv∧(q.down.must t).rem≤q.rem:=fun q t u hq he=>by
  have h1:=(Rd.down_inv hq he).1
  have s1:=Rd.st_must h1 t
  have h2:=s1.inv h1
  have s2:=(jez n).2.2.1 0 _ h2
  have h3:=s2.inv h2
  have s3:=Rd.st_must h3 u
  refine ⟨h1,h2,h3,s3.inv h3,(Rd.st_deep hq he ((s1.trans s2).trans s3)).inv hq,Nat.le_trans s1.rem ?_⟩
  have hd:=Rd.down_inv hq he
  unfold Rd.rem
  rw [if_pos he,hd.2.2.1,hd.2.2.2.1]
  split<;>omega
 rw [jjE]
 by_cases he:r.e≠0
 ·rw [if_pos he]
  refine jaK Tryz.func289 Tryz.ntmps289 ?_
  (refine S ?_;try exact True.intro)
  (repeat' (first|refine jaa fun K hK=>?_|refine wkA ?_|(with_reducible refine gR 2 ?_);refine dE 2 [0,1,2,3,4,5,6,7,8,9,10,11] mixed ?_|(refine hK _ _ ?_;clear hK K)|(refine jae (fun hc=>?_) (fun hc=>?_)<;>first | contradiction | (exfalso;omega) | skip)|refine cm (ja4 r (rok h)) ?_|refine wkB ?_|exact True.intro|(clear hK K)))
  (refine ja2 [.tmp 2] ?_;try simp only [go_sem])
 rw [if_neg he]
 have he:r.e=0:=by omega
 have hinc:r.tok.kind≠0→r.inc.Inv∧r.inc.rem+1≤r.rem∧r.i+1 < r.l.length:=fun hk=>⟨(Rd.st_inc h hk).1.inv h,Rd.rem_inc h ⟨he,hk⟩,Rd.behind h hk⟩
 by_cases hk1:r.tok.kind=1
 ·rw [if_pos hk1]
  obtain ⟨hi,_,hb⟩:=hinc (by omega)
  have hnt:=h.num r.i.toNat (by omega) hk1
  have hk1':(nth r.l r.i.toNat).kind=1:=hk1
  refine jaK Tryz.func289 Tryz.ntmps289 ?_
  (refine S ?_;try exact True.intro)
  (have W:=And.intro he (hk1');repeat' (first|refine jaa fun K hK=>?_|refine wkA ?_|(with_reducible refine gR 2 ?_);refine dE 2 [0,1,2,3,4,5,6,7,8,9,10,11] mixed ?_|(refine hK _ _ ?_;clear hK K)|(refine jae (fun hc=>?_) (fun hc=>?_)<;>first | contradiction | (exfalso;omega) | skip)|refine cm (ja4 r (rok h)) ?_|refine cp (jx4 _ hnt) ?_|refine cm (jd1 r.inc _ _ _ _ [] _ VLe.nil (rok hi)) ?_|refine wkB ?_|exact True.intro|(clear hK K)));all_goals (try clear W)
  (refine ja2 [.tmp 2] ?_;try simp only [go_sem])
  all_goals rfl
 rw [if_neg hk1]
 have hk1':¬ (nth r.l r.i.toNat).kind=1:=hk1
 by_cases hk2:r.tok.kind=2
 ·rw [if_pos hk2]
  obtain ⟨hi,_,hb⟩:=hinc (by omega)
  have hk2':(nth r.l r.i.toNat).kind=2:=hk2
  refine jaK Tryz.func289 Tryz.ntmps289 ?_
  (refine S ?_;try exact True.intro)
  (have W:=And.intro he (hk2');repeat' (first|refine jaa fun K hK=>?_|refine wkA ?_|(with_reducible refine gR 2 ?_);refine dE 2 [0,1,2,3,4,5,6,7,8,9,10,11] mixed ?_|(refine hK _ _ ?_;clear hK K)|(refine jae (fun hc=>?_) (fun hc=>?_)<;>first | contradiction | (exfalso;omega) | skip)|refine cm (ja4 r (rok h)) ?_|refine cm (jd1 r.inc _ _ _ _ [] _ VLe.nil (rok hi)) ?_|refine wkB ?_|exact True.intro|(clear hK K)));all_goals (try clear W)
  (refine ja2 [.tmp 2] ?_;try simp only [go_sem])
  all_goals rfl
 rw [if_neg hk2]
 have hk2':¬ (nth r.l r.i.toNat).kind=2:=hk2
 by_cases hk3:r.tok.kind=3
 ·rw [if_pos hk3]
  obtain ⟨hi,hr,hb⟩:=hinc (by omega)
  have hk3':(nth r.l r.i.toNat).kind=3:=hk3
  by_cases hx:r.inc.is (⟨#[91]⟩:ByteArray)=true
  ·rw [if_pos hx]
   obtain ⟨d1,d2,d3,d4,d5,d6⟩:=deeper r.inc (⟨#[91]⟩:ByteArray) (⟨#[93]⟩:ByteArray) hi he
   have d4l:=d4.dlo
   have d4h:=d4.dhi
   refine jaK Tryz.func289 Tryz.ntmps289 ?_
   (refine S ?_;try exact True.intro)
   (have W:=And.intro he (And.intro hk3' (hx));repeat' (first|refine jaa fun K hK=>?_|refine wkA ?_|(with_reducible refine gR 2 ?_);refine dE 2 [0,1,2,3,4,5,6,7,8,9,10,11] mixed ?_|(refine hK _ _ ?_;clear hK K)|(refine jae (fun hc=>?_) (fun hc=>?_)<;>first | contradiction | (exfalso;omega) | skip)|refine cm (ja4 r (rok h)) ?_|refine cm (jeD r.inc _ (rok hi)) ?_|refine cm (jiy r.inc (rok hi)) ?_|refine cm (jbR r.inc.down _ (rok d1)) ?_|refine cm (hch (r.inc.down.must (⟨#[91]⟩:ByteArray)) d2 (by omega)) ?_|refine cm (jbR (jaG n 0 (r.inc.down.must (⟨#[91]⟩:ByteArray))).1 _ (rok d3)) ?_|refine cm (jd1 ((jaG n 0 (r.inc.down.must (⟨#[91]⟩:ByteArray))).1.must (⟨#[93]⟩:ByteArray)).up _ _ _ _ [(jaG n 0 (r.inc.down.must (⟨#[91]⟩:ByteArray))).2] _ VLe.sl (rok d5)) ?_|refine wkB ?_|exact True.intro|(clear hK K)));all_goals (try clear W)
   (refine ja2 [.tmp 2] ?_;try simp only [go_sem])
   all_goals rfl
  ·rw [if_neg hx]
   have hx':r.inc.is (⟨#[91]⟩:ByteArray)=false:=by simpa using hx
   refine jaK Tryz.func289 Tryz.ntmps289 ?_
   (refine S ?_;try exact True.intro)
   (have W:=And.intro he (And.intro hk3' (hx'));repeat' (first|refine jaa fun K hK=>?_|refine wkA ?_|(with_reducible refine gR 2 ?_);refine dE 2 [0,1,2,3,4,5,6,7,8,9,10,11] mixed ?_|(refine hK _ _ ?_;clear hK K)|(refine jae (fun hc=>?_) (fun hc=>?_)<;>first | contradiction | (exfalso;omega) | skip)|refine cm (ja4 r (rok h)) ?_|refine cm (jeD r.inc _ (rok hi)) ?_|refine cm (jd1 r.inc _ _ _ _ [] _ VLe.nil (rok hi)) ?_|refine wkB ?_|exact True.intro|(clear hK K)));all_goals (try clear W)
   (refine ja2 [.tmp 2] ?_;try simp only [go_sem])
   all_goals rfl
 rw [if_neg hk3]
 have hk3':¬ (nth r.l r.i.toNat).kind=3:=hk3
 by_cases ht:r.is (⟨#[116,114,117,101]⟩:ByteArray)=true
 ·rw [if_pos ht]
  obtain ⟨hi,hr,hb⟩:=hinc (Rd.is_kind ht).2
  refine jaK Tryz.func289 Tryz.ntmps289 ?_
  (refine S ?_;try exact True.intro)
  (have W:=And.intro he (And.intro ht (And.intro hk1' (And.intro hk2' (hk3'))));repeat' (first|refine jaa fun K hK=>?_|refine wkA ?_|(with_reducible refine gR 2 ?_);refine dE 2 [0,1,2,3,4,5,6,7,8,9,10,11] mixed ?_|(refine hK _ _ ?_;clear hK K)|(refine jae (fun hc=>?_) (fun hc=>?_)<;>first | contradiction | (exfalso;omega) | skip)|refine cm (ja4 r (rok h)) ?_|refine cm (jeD r _ (rok h)) ?_|refine cm (jd1 r.inc _ _ _ _ [] _ VLe.nil (rok hi)) ?_|refine wkB ?_|exact True.intro|(clear hK K)));all_goals (try clear W)
  (refine ja2 [.tmp 2] ?_;try simp only [go_sem])
 rw [if_neg ht]
 have ht':r.is (⟨#[116,114,117,101]⟩:ByteArray)=false:=by simpa using ht
 by_cases hf:r.is (⟨#[102,97,108,115,101]⟩:ByteArray)=true
 ·rw [if_pos hf]
  obtain ⟨hi,hr,hb⟩:=hinc (Rd.is_kind hf).2
  refine jaK Tryz.func289 Tryz.ntmps289 ?_
  (refine S ?_;try exact True.intro)
  (have W:=And.intro he (And.intro ht' (And.intro hf (And.intro hk1' (And.intro hk2' (hk3')))));repeat' (first|refine jaa fun K hK=>?_|refine wkA ?_|(with_reducible refine gR 2 ?_);refine dE 2 [0,1,2,3,4,5,6,7,8,9,10,11] mixed ?_|(refine hK _ _ ?_;clear hK K)|(refine jae (fun hc=>?_) (fun hc=>?_)<;>first | contradiction | (exfalso;omega) | skip)|refine cm (ja4 r (rok h)) ?_|refine cm (jeD r _ (rok h)) ?_|refine cm (jd1 r.inc _ _ _ _ [] _ VLe.nil (rok hi)) ?_|refine wkB ?_|exact True.intro|(clear hK K)));all_goals (try clear W)
  (refine ja2 [.tmp 2] ?_;try simp only [go_sem])
 rw [if_neg hf]
 have hf':r.is (⟨#[102,97,108,115,101]⟩:ByteArray)=false:=by simpa using hf
 by_cases hl:r.is (⟨#[108,101,110]⟩:ByteArray)=true
 ·rw [if_pos hl]
  obtain ⟨hi,hr,hb⟩:=hinc (Rd.is_kind hl).2
  by_cases hx:r.inc.is (⟨#[40]⟩:ByteArray)=true
  ·rw [if_pos hx]
   obtain ⟨d1,d2,d3,d4,d5,d6⟩:=deeper r.inc (⟨#[40]⟩:ByteArray) (⟨#[41]⟩:ByteArray) hi he
   have d4l:=d4.dlo
   have d4h:=d4.dhi
   refine jaK Tryz.func289 Tryz.ntmps289 ?_
   (refine S ?_;try exact True.intro)
   (have W:=And.intro he (And.intro ht' (And.intro hf' (And.intro hl (And.intro hk1' (And.intro hk2' (And.intro hk3' (hx)))))));repeat' (first|refine jaa fun K hK=>?_|refine wkA ?_|(with_reducible refine gR 2 ?_);refine dE 2 [0,1,2,3,4,5,6,7,8,9,10,11] mixed ?_|(refine hK _ _ ?_;clear hK K)|(refine jae (fun hc=>?_) (fun hc=>?_)<;>first | contradiction | (exfalso;omega) | skip)|refine cm (ja4 r (rok h)) ?_|refine cm (jeD r _ (rok h)) ?_|refine cm (jeD r.inc _ (rok hi)) ?_|refine cm (jiy r.inc (rok hi)) ?_|refine cm (jbR r.inc.down _ (rok d1)) ?_|refine cm (hch (r.inc.down.must (⟨#[40]⟩:ByteArray)) d2 (by omega)) ?_|refine cm (jbR (jaG n 0 (r.inc.down.must (⟨#[40]⟩:ByteArray))).1 _ (rok d3)) ?_|refine cm (jd1 ((jaG n 0 (r.inc.down.must (⟨#[40]⟩:ByteArray))).1.must (⟨#[41]⟩:ByteArray)).up _ _ _ _ [(jaG n 0 (r.inc.down.must (⟨#[40]⟩:ByteArray))).2] _ VLe.sl (rok d5)) ?_|refine wkB ?_|exact True.intro|(clear hK K)));all_goals (try clear W)
   (refine ja2 [.tmp 2] ?_;try simp only [go_sem])
  ·rw [if_neg hx]
   have hx':r.inc.is (⟨#[40]⟩:ByteArray)=false:=by simpa using hx
   refine jaK Tryz.func289 Tryz.ntmps289 ?_
   (refine S ?_;try exact True.intro)
   (have W:=And.intro he (And.intro ht' (And.intro hf' (And.intro hl (And.intro hk1' (And.intro hk2' (And.intro hk3' (hx')))))));repeat' (first|refine jaa fun K hK=>?_|refine wkA ?_|(with_reducible refine gR 2 ?_);refine dE 2 [0,1,2,3,4,5,6,7,8,9,10,11] mixed ?_|(refine hK _ _ ?_;clear hK K)|(refine jae (fun hc=>?_) (fun hc=>?_)<;>first | contradiction | (exfalso;omega) | skip)|refine cm (ja4 r (rok h)) ?_|refine cm (jeD r _ (rok h)) ?_|refine cm (jeD r.inc _ (rok hi)) ?_|refine cm (jfC r.inc _ (rok hi)) ?_|refine wkB ?_|exact True.intro|(clear hK K)));all_goals (try clear W)
   (refine ja2 [.tmp 2] ?_;try simp only [go_sem])
 rw [if_neg hl]
 have hl':r.is (⟨#[108,101,110]⟩:ByteArray)=false:=by simpa using hl
 by_cases hx:r.is (⟨#[40]⟩:ByteArray)=true
 ·rw [if_pos hx]
  obtain ⟨hi,hr,hb⟩:=hinc (Rd.is_kind hx).2
  obtain ⟨d1,d2,d3,d4,d5,d6⟩:=deeper r (⟨#[40]⟩:ByteArray) (⟨#[41]⟩:ByteArray) h he
  have d4l:=d4.dlo
  have d4h:=d4.dhi
  have d7:(r.down.must (⟨#[40]⟩:ByteArray)).rem+1≤r.rem:=by
   have hdn:=Rd.down_inv h he
   unfold Rd.rem
   rw [if_pos he]
   have hl2:(r.down.must (⟨#[40]⟩:ByteArray)).l=r.l:=(Rd.st_must d1 _).l.trans hdn.2.2.2.1
   rw [hl2]
   by_cases hq:r.down.is (⟨#[40]⟩:ByteArray)=true
   ·have:r.down.must (⟨#[40]⟩:ByteArray)=r.down.inc:=by unfold Rd.must;rw [if_pos hq]
    rw [this]
    have:r.down.inc.i=r.i+1:=by show r.down.i+1=_;rw [hdn.2.2.1]
    rw [this]
    split<;>omega
   ·have hm:r.down.must (⟨#[40]⟩:ByteArray)=r.down.fails 20:=by unfold Rd.must;rw [if_neg hq]
    rw [hm]
    have:(r.down.fails 20).e≠0:=by
     unfold Rd.fails
     split
     ·show (20:Int)≠0;decide
     ·assumption
    rw [if_neg this]
    omega
  refine jaK Tryz.func289 Tryz.ntmps289 ?_
  (refine S ?_;try exact True.intro)
  (have W:=And.intro he (And.intro ht' (And.intro hf' (And.intro hl' (And.intro hk1' (And.intro hk2' (And.intro hk3' (hx)))))));repeat' (first|refine jaa fun K hK=>?_|refine wkA ?_|(with_reducible refine gR 2 ?_);refine dE 2 [0,1,2,3,4,5,6,7,8,9,10,11] mixed ?_|(refine hK _ _ ?_;clear hK K)|(refine jae (fun hc=>?_) (fun hc=>?_)<;>first | contradiction | (exfalso;omega) | skip)|refine cm (ja4 r (rok h)) ?_|refine cm (jeD r _ (rok h)) ?_|refine cm (jiy r (rok h)) ?_|refine cm (jbR r.down _ (rok d1)) ?_|refine cm (hch (r.down.must (⟨#[40]⟩:ByteArray)) d2 (by omega)) ?_|refine cm (jbR (jaG n 0 (r.down.must (⟨#[40]⟩:ByteArray))).1 _ (rok d3)) ?_|refine wkB ?_|exact True.intro|(clear hK K)));all_goals (try clear W)
  (refine ja2 [.tmp 2] ?_;try simp only [go_sem])
 rw [if_neg hx]
 have hx':r.is (⟨#[40]⟩:ByteArray)=false:=by simpa using hx
 refine jaK Tryz.func289 Tryz.ntmps289 ?_
 (refine S ?_;try exact True.intro)
 (have W:=And.intro he (And.intro ht' (And.intro hf' (And.intro hl' (And.intro hk1' (And.intro hk2' (And.intro hk3' (hx')))))));repeat' (first|refine jaa fun K hK=>?_|refine wkA ?_|(with_reducible refine gR 2 ?_);refine dE 2 [0,1,2,3,4,5,6,7,8,9,10,11] mixed ?_|(refine hK _ _ ?_;clear hK K)|(refine jae (fun hc=>?_) (fun hc=>?_)<;>first | contradiction | (exfalso;omega) | skip)|refine cm (ja4 r (rok h)) ?_|refine cm (jeD r _ (rok h)) ?_|refine cm (jfC r _ (rok h)) ?_|refine wkB ?_|exact True.intro|(clear hK K)));all_goals (try clear W)
 (refine ja2 [.tmp 2] ?_;try simp only [go_sem])
theorem jvs:∀ m n,n≤m→juJ n∧jku n∧jnO n
 | 0,0,_=>⟨fun r h hn=>by omega,fun r h hn=>by omega,fun lv r hl h hn=>by omega⟩
 | m+1,0,_=>⟨fun r h hn=>by omega,fun r h hn=>by omega,fun lv r hl h hn=>by omega⟩
 | m+1,n+1,hm=>by
  obtain ⟨ha,hf,hc⟩:=jvs m n (by omega)
  exact ⟨jx5 n hc,jsQ n ha hf,ju2 n hf fun k hk=>(jvs m k (by omega)).2.2⟩
set_option maxHeartbeats 1000000 in
theorem jyF (n:Nat) (r:Rd) (h:r.Inv) (hn:8 * r.rem+8≤n):ACalls Tryz.prog 248 [pR] (jbG r) (fun v l=>v=rI (jaG n 0 r).2∧l=jbG (jaG n 0 r).1):=by
 have:=(jvs n n (Nat.le_refl _)).2.2 0 r (by omega) h (by omega)
 refine jaK Tryz.func248 Tryz.ntmps248 ?_
 (refine S ?_;try exact True.intro)
 (repeat' (first|refine jaa fun K hK=>?_|refine wkA ?_|(refine hK _ _ ?_;clear hK K)|(refine jae (fun hc=>?_) (fun hc=>?_)<;>first | contradiction | (exfalso;omega) | skip)|refine cm (this) ?_|refine wkB ?_|exact True.intro|(clear hK K)))
 (refine jbS [.tmp 2] ?_ ?_<;>(try simp only [go_sem]))
theorem jdF {r:Rd} (h:r.Inv):ACalls Tryz.prog 248 [pR] (jbG r) (fun v l=>v=rI (jaU r).2∧l=jbG (jaU r).1):=jyF _ r h (Nat.le_refl _)
set_option maxHeartbeats 4000000 in
set_option maxRecDepth 10000 in
theorem jtY {r:Rd} (h:r.Inv):ACalls Tryz.prog 270 [pR] (jbG r) (fun v l=>v=rI (jfj r).2∧l=jbG (jfj r).1):=by
 have h1:=(Rd.st_name h).inv h
 have h2:=(jh1 h).inv h
 have h3:=(jkC h).inv h
 have h4:=(jsD h).inv h
 have hr0:(jhL r).rem≤2000:=by
  have:=h2.pos;have:=h2.len
  unfold Rd.rem;split<;>omega
 have hm:ACalls Tryz.prog 145 [pR,rS (⟨#[40]⟩:ByteArray)] (jbG r.name.1) (fun v l=>v=.tup []∧l=jbG (jhL r)):=jbR r.name.1 _ (rok h1)
 refine jaK Tryz.func270 Tryz.ntmps270 ?_
 (refine S ?_;try exact True.intro)
 (repeat' (first|refine jaa fun K hK=>?_|refine wkA ?_|(refine hK _ _ ?_;clear hK K)|(refine jae (fun hc=>?_) (fun hc=>?_)<;>first | contradiction | (exfalso;omega) | skip)|refine cm (ja4 r (rok h)) ?_|refine cm (jkb r (rok h)) ?_|refine cm (hm) ?_|refine cm (jeD (jhL r) _ (rok h2)) ?_|refine wkB ?_|exact True.intro|(clear hK K)))
 have hKo:=hK;clear hK
 refine ja1 (FLe.nil 2 5 3 (sz:=1) rfl (by decide) (Or.inr ⟨_,_,_,rfl,rfl⟩)) ?_
 (refine S ?_;try exact True.intro)
 refine jah (S:=Nat×Bool×Rd×List Int) [(5,1),(7,2),(27,17)] (fun s=>s.2.2.1.Inv∧(s.2.1=true→s.2.2.1.rem+2≤s.1)∧1≤s.1∧s.2.2.2.length+s.1≤5000∧jfy s.1 s.2.1 s.2.2.1 s.2.2.2=jfX r) (fun s=>[(5,.rs 2 s.2.2.2.length 1 s.2.2.2.length),(7,rB s.2.1)]) (fun s=>⟨[0,1],jbG s.2.2.1++[(2,.vec 3 1 (s.2.2.2.map eI))]⟩) (fun s=>s.1) ((jhL r).rem+2,more (jhL r),jhL r,[]) ⟨h2,fun _=>Nat.le_refl _,by (try simp only);omega,by (try simp only [List.length_nil]);omega,rfl⟩ (jaH rfl (by simp only [go_sem,LLe,Nat.reduceAdd,AV.raw.injEq,Value.int.injEq,Value.slice.injEq,Value.pointer.injEq,AV.rs.injEq,more,List.length_nil];try omega)) ?_
 rintro ⟨n,b,q,L⟩ ⟨hq,hn1,hn2,hn3,hA⟩ Kr hKr
 simp only at hq hn1 hn2 hn3 hA
 have hqi:=hq.lt
 have hqp:=hq.pos
 have hql:=hq.len
 obtain ⟨n,rfl⟩:∃ k,n=k+1:=⟨n - 1,by omega⟩
 cases b with
 | false=>
  rw [jfy] at hA
  have e1:q=(jfX r).1:=by rw [← hA]
  have e2:L=(jfX r).2:=by rw [← hA]
  rw [← e1] at h4
  (refine S ?_;try exact True.intro)
  (repeat' (first|refine jaa fun K hK=>?_|refine wkA ?_|(refine hK _ _ ?_;clear hK K)|(refine jae (fun hc=>?_) (fun hc=>?_)<;>first | contradiction | (exfalso;omega) | skip)|refine wkB ?_|exact True.intro|(clear hK K)))
  refine hKo _ _ ?_
  refine jnW [2] 5 (jal eI 1 L) Sd Sd vtl ?_
  (refine S ?_;try exact True.intro)
  (repeat' (first|refine jaa fun K hK=>?_|refine wkA ?_|(refine hK _ _ ?_;clear hK K)|(refine jae (fun hc=>?_) (fun hc=>?_)<;>first | contradiction | (exfalso;omega) | skip)|refine cm (jbR q _ (rok hq)) ?_|refine cm (jrj (q.must (⟨#[41]⟩:ByteArray)) _ _ _ _ L (rok h4)) ?_|refine wkB ?_|exact True.intro|(clear hK K)))
  (refine jbS [.tmp 2] ?_ ?_<;>(try simp only [go_sem]))
  ·unfold jfj;rw [← e1,← e2]
  ·unfold jfj;rw [← e1,← e2]
 | true=>
  have s1:=ja9 hq
  have hx:=s1.inv hq
  have hr1:=s1.rem
  have hxi:=hx.lt
  have hxp:=hx.pos
  have hxl:=hx.len
  have hn1:=hn1 rfl
  rw [jfy] at hA
  (refine S ?_;try exact True.intro)
  (repeat' (first|refine jaa fun K hK=>?_|refine wkA ?_|(refine hK _ _ ?_;clear hK K)|(refine jae (fun hc=>?_) (fun hc=>?_)<;>first | contradiction | (exfalso;omega) | skip)|refine cm (jdF hq) ?_|refine cm (jeD (jaU q).1 _ (rok hx)) ?_|refine wkB ?_|exact True.intro|(clear hK K)))
  ·rw [if_pos hc] at hA
   have hk:=Rd.is_kind hc
   have hr2:=Rd.rem_inc hx hk
   refine hKr _ _ (jaD (n,true,(jaU q).1.inc,L++[(jaU q).2]) ⟨(Rd.st_inc hx hk.2).1.inv hx,fun _=>by (try simp only);omega,by (try simp only);omega,by (try simp only [List.length_append,List.length_cons,List.length_nil]);omega,hA⟩ (by (try simp only);omega) (by simp only [go_sem,jbG,ja6,List.map_append,List.map_cons,List.map_nil,List.cons_append,List.nil_append];(try rfl)) (by simp only [go_sem,LLe,Nat.reduceAdd,AV.raw.injEq,Value.int.injEq,Value.slice.injEq,Value.pointer.injEq,AV.rs.injEq,hc,List.length_append,List.length_cons,List.length_nil];try omega))
  ·rw [if_neg (by rw [hc];decide)] at hA
   refine hKr _ _ (jaD (n,false,(jaU q).1,L++[(jaU q).2]) ⟨hx,(by intro h;cases h),by (try simp only);omega,by (try simp only [List.length_append,List.length_cons,List.length_nil]);omega,?_⟩ (by (try simp only);omega) (by simp only [go_sem,jbG,ja6,List.map_append,List.map_cons,List.map_nil,List.cons_append,List.nil_append];(try rfl)) (by simp only [go_sem,LLe,Nat.reduceAdd,AV.raw.injEq,Value.int.injEq,Value.slice.injEq,Value.pointer.injEq,AV.rs.injEq,hc,List.length_append,List.length_cons,List.length_nil];try omega))
   rw [← hA]
   obtain ⟨n,rfl⟩:∃ k,n=k+1:=⟨n - 1,by omega⟩
   rw [jfy]
theorem jit {r:Rd} (h:r.Inv):ACalls Tryz.prog 269 [pR] (jbG r) (fun v l=>v=rB r.calls∧l=jbG r):=jtp r (rok h) (fun hk=>Rd.behind h (Rd.kind_kind hk (by decide)).2)
set_option maxHeartbeats 4000000 in
set_option maxRecDepth 10000 in
theorem jrz {r:Rd} (h:r.Inv):ACalls Tryz.prog 247 [pR] (jbG r) (fun v l=>v=rI (jcE r).2∧l=jbG (jcE r).1):=by
 have hri:=h.lt
 have hrp:=h.pos
 have hrl:=h.len
 have hinc:r.tok.kind≠0→r.inc.Inv:=fun hk=>(Rd.st_inc h hk).1.inv h
 by_cases hx:r.is (⟨#[105,110,112,117,116]⟩:ByteArray)=true
 ·have hi:=hinc (Rd.is_kind hx).2
  rw [jcE,if_pos hx]
  refine jaK Tryz.func247 Tryz.ntmps247 ?_
  (refine S ?_;try exact True.intro)
  (have W:=hx;repeat' (first|refine jaa fun K hK=>?_|refine wkA ?_|(refine hK _ _ ?_;clear hK K)|(refine jae (fun hc=>?_) (fun hc=>?_)<;>first | contradiction | (exfalso;omega) | skip)|refine cm (ja4 r (rok h)) ?_|refine cm (jeD r _ (rok h)) ?_|refine cm (jd1 r.inc _ _ _ _ [] _ VLe.nil (rok hi)) ?_|refine wkB ?_|exact True.intro|(clear hK K)));all_goals (try clear W)
  (refine jbS [.tmp 2] ?_ ?_<;>(try simp only [go_sem]))
 rw [jcE,if_neg hx]
 have hx':r.is (⟨#[105,110,112,117,116]⟩:ByteArray)=false:=by simpa using hx
 by_cases hy:r.is (⟨#[110,101,119]⟩:ByteArray)=true
 ·have hi:=hinc (Rd.is_kind hy).2
  have h1:=(Rd.st_must hi (⟨#[40]⟩:ByteArray)).inv hi
  have h2:=(ja9 h1).inv h1
  have h3:=(Rd.st_must h2 (⟨#[41]⟩:ByteArray)).inv h2
  rw [if_pos hy]
  refine jaK Tryz.func247 Tryz.ntmps247 ?_
  (refine S ?_;try exact True.intro)
  (have W:=And.intro hx' (hy);repeat' (first|refine jaa fun K hK=>?_|refine wkA ?_|(refine hK _ _ ?_;clear hK K)|(refine jae (fun hc=>?_) (fun hc=>?_)<;>first | contradiction | (exfalso;omega) | skip)|refine cm (ja4 r (rok h)) ?_|refine cm (jeD r _ (rok h)) ?_|refine cm (jbR r.inc _ (rok hi)) ?_|refine cm (jdF h1) ?_|refine cm (jbR (jaU (r.inc.must (⟨#[40]⟩:ByteArray))).1 _ (rok h2)) ?_|refine cm (jd1 ((jaU (r.inc.must (⟨#[40]⟩:ByteArray))).1.must (⟨#[41]⟩:ByteArray)) _ _ _ _ [(jaU (r.inc.must (⟨#[40]⟩:ByteArray))).2] _ VLe.sl (rok h3)) ?_|refine wkB ?_|exact True.intro|(clear hK K)));all_goals (try clear W)
  (refine jbS [.tmp 2] ?_ ?_<;>(try simp only [go_sem]))
 rw [if_neg hy]
 have hy':r.is (⟨#[110,101,119]⟩:ByteArray)=false:=by simpa using hy
 by_cases hcl:r.calls=true
 ·rw [if_pos hcl]
  refine jaK Tryz.func247 Tryz.ntmps247 ?_
  (refine S ?_;try exact True.intro)
  (have W:=And.intro hx' (And.intro hy' (hcl));repeat' (first|refine jaa fun K hK=>?_|refine wkA ?_|(refine hK _ _ ?_;clear hK K)|(refine jae (fun hc=>?_) (fun hc=>?_)<;>first | contradiction | (exfalso;omega) | skip)|refine cm (ja4 r (rok h)) ?_|refine cm (jeD r _ (rok h)) ?_|refine cm (jit h) ?_|refine cm (jtY h) ?_|refine wkB ?_|exact True.intro|(clear hK K)));all_goals (try clear W)
  (refine jbS [.tmp 2] ?_ ?_<;>(try simp only [go_sem]))
 ·rw [if_neg hcl]
  have hc':r.calls=false:=by simpa using hcl
  refine jaK Tryz.func247 Tryz.ntmps247 ?_
  (refine S ?_;try exact True.intro)
  (have W:=And.intro hx' (And.intro hy' (hc'));repeat' (first|refine jaa fun K hK=>?_|refine wkA ?_|(refine hK _ _ ?_;clear hK K)|(refine jae (fun hc=>?_) (fun hc=>?_)<;>first | contradiction | (exfalso;omega) | skip)|refine cm (ja4 r (rok h)) ?_|refine cm (jeD r _ (rok h)) ?_|refine cm (jit h) ?_|refine cm (jdF h) ?_|refine wkB ?_|exact True.intro|(clear hK K)));all_goals (try clear W)
  (refine jbS [.tmp 2] ?_ ?_<;>(try simp only [go_sem]))
set_option maxHeartbeats 4000000 in
set_option maxRecDepth 10000 in
theorem jvQ {r:Rd} (h:r.Inv) (he:r.e=0) (ln:Int):ACalls Tryz.prog 249 [pR,rI ln] (jbG r) (fun v l=>v=rI (jeI r ln).2∧l=jbG (jeI r ln).1):=by
 have hri:=h.lt
 have hrp:=h.pos
 have hrl:=h.len
 by_cases hcl:r.calls=true
 ·have h1:=(jkD h hcl).1.inv h
  have h2:=(Rd.st_must h1 (⟨#[59]⟩:ByteArray)).inv h1
  rw [jeI,if_pos hcl]
  refine jaK Tryz.func249 Tryz.ntmps249 ?_
  (refine S ?_;try exact True.intro)
  (have W:=hcl;repeat' (first|refine jaa fun K hK=>?_|refine wkA ?_|(refine hK _ _ ?_;clear hK K)|(refine jae (fun hc=>?_) (fun hc=>?_)<;>first | contradiction | (exfalso;omega) | skip)|refine cm (jit h) ?_|refine cm (jtY h) ?_|refine cm (jbR (jfj r).1 _ (rok h1)) ?_|refine cm (jd1 ((jfj r).1.must (⟨#[59]⟩:ByteArray)) _ _ _ _ [(jfj r).2] _ VLe.sl (rok h2)) ?_|refine wkB ?_|exact True.intro|(clear hK K)));all_goals (try clear W)
  (refine jbS [.tmp 4] ?_ ?_<;>(try simp only [go_sem]))
 rw [jeI,if_neg hcl]
 have hc':r.calls=false:=by simpa using hcl
 have h0:=(Rd.st_name h).inv h
 by_cases hx:r.name.1.is (⟨#[91]⟩:ByteArray)=true
 ·rw [if_pos hx]
  have d0:=(Rd.down_inv h0 (Rd.is_kind hx).1).1
  have d1:=(Rd.st_must d0 (⟨#[91]⟩:ByteArray)).inv d0
  have d2:=(ja9 d1).inv d1
  have d3:=(Rd.st_must d2 (⟨#[93]⟩:ByteArray)).inv d2
  have d4:=(jri h0 hx).2.inv h0
  have d5:=(joS h0 hx).1.inv h0
  have d6:=(joS h0 hx).2.inv h0
  have d7:=(Rd.st_must d6 (⟨#[59]⟩:ByteArray)).inv d6
  have d3l:=d3.dlo
  have d3h:=d3.dhi
  unfold ptB ptA at *
  refine jaK Tryz.func249 Tryz.ntmps249 ?_
  (refine S ?_;try exact True.intro)
  (have W:=And.intro hc' (hx);repeat' (first|refine jaa fun K hK=>?_|refine wkA ?_|(refine hK _ _ ?_;clear hK K)|(refine jae (fun hc=>?_) (fun hc=>?_)<;>first | contradiction | (exfalso;omega) | skip)|refine cm (jit h) ?_|refine cm (jkb r (rok h)) ?_|refine cm (jeD r.name.1 _ (rok h0)) ?_|refine cm (jiy r.name.1 (rok h0)) ?_|refine cm (jbR r.name.1.down _ (rok d0)) ?_|refine cm (jdF d1) ?_|refine cm (jbR (jaU (r.name.1.down.must (⟨#[91]⟩:ByteArray))).1 _ (rok d2)) ?_|refine cm (jbR ((jaU (r.name.1.down.must (⟨#[91]⟩:ByteArray))).1.must (⟨#[93]⟩:ByteArray)).up _ (rok d4)) ?_|refine cm (jdF d5) ?_|refine cm (jbR (jaU (((jaU (r.name.1.down.must (⟨#[91]⟩:ByteArray))).1.must (⟨#[93]⟩:ByteArray)).up.must (⟨#[61]⟩:ByteArray))).1 _ (rok d6)) ?_|refine cm (jd1 ((jaU (((jaU (r.name.1.down.must (⟨#[91]⟩:ByteArray))).1.must (⟨#[93]⟩:ByteArray)).up.must (⟨#[61]⟩:ByteArray))).1.must (⟨#[59]⟩:ByteArray)) _ _ _ _ [(jaU (r.name.1.down.must (⟨#[91]⟩:ByteArray))).2,(jaU (((jaU (r.name.1.down.must (⟨#[91]⟩:ByteArray))).1.must (⟨#[93]⟩:ByteArray)).up.must (⟨#[61]⟩:ByteArray))).2] _ VLe.sl (rok d7)) ?_|refine wkB ?_|exact True.intro|(clear hK K)));all_goals (try clear W)
  (refine jbS [.tmp 4] ?_ ?_<;>(try simp only [go_sem]))
 ·rw [if_neg hx]
  have hx':r.name.1.is (⟨#[91]⟩:ByteArray)=false:=by simpa using hx
  have d1:=(Rd.st_must h0 (⟨#[61]⟩:ByteArray)).inv h0
  have d2:=(jgg d1).inv d1
  have d3:=(Rd.st_must d2 (⟨#[59]⟩:ByteArray)).inv d2
  refine jaK Tryz.func249 Tryz.ntmps249 ?_
  (refine S ?_;try exact True.intro)
  (have W:=And.intro hc' (hx');repeat' (first|refine jaa fun K hK=>?_|refine wkA ?_|(refine hK _ _ ?_;clear hK K)|(refine jae (fun hc=>?_) (fun hc=>?_)<;>first | contradiction | (exfalso;omega) | skip)|refine cm (jit h) ?_|refine cm (jkb r (rok h)) ?_|refine cm (jeD r.name.1 _ (rok h0)) ?_|refine cm (jbR r.name.1 _ (rok h0)) ?_|refine cm (jrz d1) ?_|refine cm (jbR (jcE (r.name.1.must (⟨#[61]⟩:ByteArray))).1 _ (rok d2)) ?_|refine cm (jd1 ((jcE (r.name.1.must (⟨#[61]⟩:ByteArray))).1.must (⟨#[59]⟩:ByteArray)) _ _ _ _ [(jcE (r.name.1.must (⟨#[61]⟩:ByteArray))).2] _ VLe.sl (rok d3)) ?_|refine wkB ?_|exact True.intro|(clear hK K)));all_goals (try clear W)
  (refine jbS [.tmp 4] ?_ ?_<;>(try simp only [go_sem]))
set_option maxHeartbeats 1000000 in
theorem jzB (w:ByteArray):PCall Tryz.prog 212 [rS w] (rI (jhG w)):=by
 refine jb9 Tryz.func212 Tryz.ntmps212 ?_
 (repeat' (first|refine jaa fun K hK=>?_|refine wkA ?_|(refine hK _ _ ?_;clear hK K)|(refine jae (fun hc=>?_) (fun hc=>?_)<;>first | contradiction | (exfalso;omega) | skip)|refine wkB ?_|exact True.intro|(clear hK K)))
 all_goals (refine jbS [.tmp 2] ?_ ?_<;>(try simp only [go_sem]))
 all_goals unfold jhG
 all_goals repeat' split
 all_goals first | rfl | (exfalso;simp_all;done)
set_option maxHeartbeats 1000000 in
set_option maxRecDepth 10000 in
theorem jrZ {r:Rd} (h:r.Inv):ACalls Tryz.prog 148 [pR] (jbG r) (fun v l=>v=rI (jbT r).2∧l=jbG (jbT r).1):=by
 have hri:=h.lt
 have hrp:=h.pos
 have hrl:=h.len
 refine jaK Tryz.func148 Tryz.ntmps148 ?_
 (refine S ?_;try exact True.intro)
 (repeat' (first|refine jaa fun K hK=>?_|refine wkA ?_|(refine hK _ _ ?_;clear hK K)|(refine jae (fun hc=>?_) (fun hc=>?_)<;>first | contradiction | (exfalso;omega) | skip)|refine cm (jem r (rok h)) ?_|refine cp (jzB r.word) ?_|refine cm (jfC r _ (rok h)) ?_|refine wkB ?_|exact True.intro|(clear hK K)))
 ·(refine jbS [.tmp 2] ?_ ?_<;>(try simp only [go_sem]))
  ·simp only [jbT,if_pos hc]
  ·simp only [jbT,if_pos hc,go_sem]
 ·(refine jbS [.tmp 2] ?_ ?_<;>(try simp only [go_sem]))
  ·simp only [jbT,if_neg hc]
  ·simp only [jbT,if_neg hc];rfl
end Go.Proofs.YtfkgcobaheegbaaGreatDoor

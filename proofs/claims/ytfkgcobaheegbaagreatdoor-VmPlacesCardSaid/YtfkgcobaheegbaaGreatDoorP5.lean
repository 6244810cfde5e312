/- Lemmas. No conditions. -/
import Derived.Test.YtfkgcobaheegbaaGreatDoorP2
import Derived.Test.YtfkgcobaheegbaaGreatDoorShelf
set_option linter.all false
set_option maxHeartbeats 8000000
set_option maxRecDepth 10000
namespace Go.Gd
open Go
theorem G5{P:Program}{f:FuncId}{args:List AV}{r:AV}(cv:List Value)(v:Value)(ha:args=cv.map .raw)(hr:∀w:NW,av w r v)(h:∀w:World,Calls P f cv.toArray w fun e w'=>e=.returned v/\RowKit.Below w.heap.size w w'):dV P f args r:=by
 intro w vs h1 h2;have hvs:vs=cv.toArray:=by
  apply Array.ext';apply List.ext_getElem?;intro i;obtain⟨hl,hv⟩:=h2;subst ha;by_cases hi:i<cv.length
  ·have hi':i<vs.size:=by rw[<-hl];simpa using hi
   have:=de (hv i (.raw cv[i]) vs[i] (by simp[hi]) (by simp[hi']));simp[hi,hi',this]
  ·have hi':¬i<vs.size:=by rw[<-hl];simpa using hi
   rw[List.getElem?_eq_none (by simpa using hi'),List.getElem?_eq_none (by simpa using hi)]
 subst hvs;refine(h w.toWorld).mono ?_;rintro e W ⟨rfl,hb⟩;have ex:Ext w (entry []) (w.to W) (entry []):={ size:=hb.size,free:=fun b hb' hO=>⟨hb.block b hb',hO⟩,names:=fun _ _ _ _ h=>h,os:=hb.os,tape:=hb.tape,output:=hb.output,rest:=fun b hb' hO hno=>⟨hb.block b hb',hO,hno⟩,base:=rfl };refine⟨v,r,entry [],w.to W,rfl,rfl,⟨rfl,rfl⟩,{ rows:=fun i row hi=>(by cases hi),dF:=h1.dF,inj:=h1.inj,own:=h1.own,ct:=h1.ct.aX ex.toKeep,fin:=fun b hb'=>Nat.lt_of_lt_of_le (h1.fin b hb') hb.size },hr _,ex.qB⟩
end Go.Gd
namespace Go.Proofs.YtfkgcobaheegbaaGreatDoor
open Go Go.Gd Tryz
theorem zT(s:ByteArray)(k:Nat):ec s k=((s.data.toList.getD k 0).toNat:Int):=by
 unfold ec;simp
def jX:List UInt8->Nat->Nat
 |[],a=>a
 |c::l,a=>jX l (a*10+(c.toNat-48))
theorem Ho:∀(l:List UInt8) (a:Nat),a<=jX l a
 |[],a=>Nat.le_refl _
 |c::l,a=>Nat.le_trans jB (Ho l _)
theorem CD:∀(l:List UInt8) (a:Nat),(∀c∈l,48<=c.toNat/\c.toNat<=57)->jX l a<=9223372036854775807->Lib.parseUint10 a l=.ok (jX l a)
 |[],a,_,_=>rfl
 |c::l,a,h,hm=>by
  have hc:=h c jE;have h1:=Ho l (a*10+(c.toNat-48));simp only[jX]at hm ⊢;unfold Lib.parseUint10;rw[if_pos hc,jN,jN];exact CD l _ (fun x hx=>h x (by simp[hx])) hm
theorem Gs:∀(l:List UInt8) (c:UInt8) (a:Nat),jX (l++[c]) a=jX l a*10+(c.toNat-48)
 |[],_,_=>rfl
 |_::l,c,_=>Gs l c _
theorem Ak:∀(l:List UInt8) (a:Nat),(∀c∈l,48<=c.toNat/\c.toNat<=57)->jX l a+1<=(a+1)*10 ^ l.length
 |[],a,_=>by simp[jX]
 |c::l,a,h=>by
  have hc:=h c jE;have ih:=Ak l (a*10+(c.toNat-48)) (fun x hx=>h x (by simp[hx]));simp only[jX,List.length_cons,Nat.pow_succ];refine Nat.le_trans ih ?_;rw[Nat.mul_comm (10 ^ l.length) 10,<-Nat.mul_assoc];exact Nat.mul_le_mul_right _ jB
theorem Eb:∀(l:List UInt8) (a:Nat),a*10 ^ l.length<=jX l a
 |[],a=>by simp[jX]
 |c::l,a=>by
  have ih:=Eb l (a*10+(c.toNat-48));simp only[jX,List.length_cons,Nat.pow_succ];refine Nat.le_trans ?_ ih;rw[Nat.mul_comm (10 ^ l.length) 10,<-Nat.mul_assoc];exact Nat.mul_le_mul_right _ jB
theorem Es:∀(l m:List UInt8) (a:Nat),l.length=m.length->(∀c∈l,48<=c.toNat/\c.toNat<=57)->(∀c∈m,48<=c.toNat/\c.toNat<=57)->Op.bytesLess l m=true->jX l a<jX m a
 |[],[],_,_,_,_,h=>by simp[Op.bytesLess]at h
 |[],_::_,_,hl,_,_,_=>by simp at hl
 |_::_,[],_,hl,_,_,_=>by simp at hl
 |x::l,y::m,a,hl,h1,h2,h=>by
  have hx:=h1 x jE;have hy:=h2 y jE;simp only[Op.bytesLess,Bool.or_eq_true,decide_eq_true_eq,Bool.and_eq_true,beq_iff_eq]at h;simp only[jX];rcases h with h|⟨rfl,h⟩
  ·have h:x.toNat<y.toNat:=h
   have e1:=Ak l (a*10+(x.toNat-48)) (fun c hc=>h1 c (by simp[hc]));have e2:=Eb m (a*10+(y.toNat-48));have e3:(a*10+(x.toNat-48)+1)*10 ^ l.length<=(a*10+(y.toNat-48))*10 ^ m.length:=by
    rw[show l.length=m.length by simpa using hl];exact Nat.mul_le_mul_right _ jB
   omega
  ·exact Es l m _ (by simpa using hl) (fun c hc=>h1 c (by simp[hc])) (fun c hc=>h2 c (by simp[hc])) h
theorem zo(s:ByteArray)(hd:∀j,j<s.size->jd (ec s j)=true):∀k,k<=s.size->wm s k=(jX (s.data.toList.take k) 0:Nat)
 |0,_=>by simp[wm,jX]
 |k+1,hk=>by
  have hk':k<s.data.toList.length:=by simp;omega
  have h1:=hd k jB;simp only[jd,Bool.and_eq_true,decide_eq_true_eq]at h1;rw[zT]at h1;rw[wm,zo s hd k jB,List.take_succ_eq_append_getElem hk',Gs,zT];have:s.data.toList.getD k 0=s.data.toList[k]:=by rw[List.getD_eq_getElem?_getD,List.getElem?_eq_getElem hk'];rfl
  rw[this]at h1 ⊢;omega
variable{s:ByteArray}
theorem CR(h:qs s):∀c∈s.data.toList,48<=c.toNat/\c.toNat<=57:=fun c hc=>by
 obtain⟨k,hk,rfl⟩:=List.getElem_of_mem hc;have:=h.2.2 k (by simpa using hk);simp only[jd,Bool.and_eq_true,decide_eq_true_eq]at this;rw[zT,List.getD_eq_getElem?_getD,List.getElem?_eq_getElem hk]at this;simp only[Option.getD_some]at this;omega
theorem DH(h:qs s):jX s.data.toList 0<=9223372036854775807:=by
 have hd:=CR h;have hn:=h.2.1;have hl:=Ak s.data.toList 0 hd;have hlen:s.data.toList.length=s.size:=jE
 unfold wB at hn;simp only[Bool.or_eq_true,decide_eq_true_eq,Bool.and_eq_true]at hn;rcases hn with hn|⟨hn,h2|h2⟩
 ·have:10 ^ s.data.toList.length<=10 ^ 18:=Nat.pow_le_pow_right jB (by rw[hlen];omega)
  simp only[Nat.zero_add,Nat.one_mul]at hl;omega
 ·have e:s.toList=s.data.toList:=ByteArray.toList_eq s
  have:=Es s.data.toList [57,50,50,51,51,55,50,48,51,54,56,53,52,55,55,53,56,48,55] 0 (by rw[hlen];simp;omega) hd jC (by rw[<-e,show[57,50,50,51,51,55,50,48,51,54,56,53,52,55,55,53,56,48,55]=(⟨#[57,50,50,51,51,55,50,48,51,54,56,53,52,55,55,53,56,48,55]⟩:ByteArray).toList by rw[ByteArray.toList_eq]];exact h2);have e2:jX [57,50,50,51,51,55,50,48,51,54,56,53,52,55,55,53,56,48,55] 0=9223372036854775807:=jC
  omega
 ·subst h2
  decide
theorem Nl(h:qs s):Lib.atoiAll s.data.toList=.ok (pq s):=by
 have hd:=CR h;have hle:=DH h;have hnum:pq s=(jX s.data.toList 0:Nat):=by
  unfold pq;rw[zo s h.2.2 _ jl,List.take_of_length_le jE]
 have hp:=CD s.data.toList 0 hd hle;have hpos:=h.1;cases hs:s.data.toList with
 |nil=>
  have:s.data.toList.length=s.size:=jE
  rw[hs]at this;simp at this;omega
 |cons c l=>
  rw[hs]at hd hp hnum hle;have hc:=hd c jE;simp only[Lib.atoiAll];rw[jN];simp only[Lib.parseMag,List.cons_ne_nil,if_false,hp,reduceCtorEq];rw[jN,jN,jN,hnum]
theorem Lq(s:ByteArray)(h:qs s):dV prog 291 [rS s] (.bg [rI (pq s),.raw .nilIface]):=by
 have hs:s.size<=9223372036854775806:=by
  have hn:=h.2.1;unfold wB at hn;simp only[Bool.or_eq_true,decide_eq_true_eq,Bool.and_eq_true]at hn;omega
 refine G5 [.string s] (.tuple #[.int .i64 (pq s),.nilIface]) rfl (fun w=>?_) fun w=>?_
 ·exact .bg _ _ rfl fun i a v ha hv=>by
   match i with
   |0=>simp at ha hv;subst ha hv;exact .raw _
   |1=>simp at ha hv;subst ha hv;exact .raw _
   |i+2=>simp at ha
 ·refine(Tryz.strconv_Atoi_ok s hs (pq s) (Nl h) w).mono ?_
  rintro e W ⟨rfl,hW⟩;refine⟨rfl,?_⟩;rcases hW with rfl|⟨t,rfl⟩
  ·exact RowKit.Below.refl _ _
  ·exact Lib.bytesWorld_below _ _ _
theorem K4(n:Nat)(hc:yh n):BF (n+1):=by
 intro r h hn;have hil:=h.lt;have hip:=h.pos;have hin:=h.len;have hin':(r.l.length:Int)<=2000:=jB
 have hch:∀q:Rd,q.Inv->8*q.rem+8<=n->aj prog 248 [pR] (ce q) (fun v l=>v=rI (dJ n 0 q).2/\l=ce (dJ n 0 q).1):=fun q hq hm=>by
  have:=hc 0 q jB hq jB;refine aU func248 ntmps248 ?_
  (refine S ?_;try exact jI)
  (repeat' (first|refine aA fun K hK=>?_|refine aC ?_|(refine hK _ _ ?_;clear hK K)|(refine aB ?_ ?_<;>intro hc<;>try exact jz)|refine cm (this) ?_|refine az ?_|exact jI|(clear hK K)))
  (refine bV [.tmp 2] ?_ ?_<;>(try simp only[go_sem]))
 have bq:∀(q:Rd) (t u:ByteArray),q.Inv->q.e=0->q.down.Inv/\(q.down.aq t).Inv/\(dJ n 0 (q.down.aq t)).1.Inv/\((dJ n 0 (q.down.aq t)).1.aq u).Inv/\((dJ n 0 (q.down.aq t)).1.aq u).up.Inv/\(q.down.aq t).rem<=q.rem:=fun q t u hq he=>by
  have h1:=(Rd.bF hq he).1;have s1:=Rd.aL h1 t;have h2:=s1.inv h1;have s2:=(ry n).2.2.1 0 _ h2;have h3:=s2.inv h2;have s3:=Rd.aL h3 u;refine⟨h1,h2,h3,s3.inv h3,(Rd.fc hq he ((s1.trans s2).trans s3)).inv hq,Nat.le_trans s1.rem ?_⟩;have hd:=Rd.bF hq he;unfold Rd.rem;rw[if_pos he,hd.2.2.1,hd.2.2.2.1];split<;>omega
 rw[p8];by_cases he:r.e≠0
 ·rw[if_pos he]
  refine aU func289 ntmps289 ?_
  (refine S ?_;try exact jI)
  (repeat' (first|refine aA fun K hK=>?_|refine aC ?_|(with_reducible refine gR 2 ?_);refine dE 2 [0,1,2,3,4,5,6,7,8,9,10,11] mixed ?_|(refine hK _ _ ?_;clear hK K)|(refine aB ?_ ?_<;>intro hc<;>try exact jz)|refine cm (gA r (bw h)) ?_|refine az ?_|exact jI|(clear hK K)))
  (refine bH [.tmp 2] ?_;try simp only[go_sem])
 rw[if_neg he];have he:r.e=0:=jB
 have hinc:r.tok.kind≠0->r.inc.Inv/\r.inc.rem+1<=r.rem/\r.i+1<r.l.length:=fun hk=>⟨(Rd.bj h hk).1.inv h,Rd.cO h ⟨he,hk⟩,Rd.behind h hk⟩
 by_cases hk1:r.tok.kind=1
 ·rw[if_pos hk1]
  obtain⟨hi,_,hb⟩:=hinc jB;have hnt:=h.num r.i.toNat jB hk1;have hk1':(nth r.l r.i.toNat).kind=1:=hk1;refine aU func289 ntmps289 ?_
  (refine S ?_;try exact jI)
  (have W:=jA he (hk1');repeat' (first|refine aA fun K hK=>?_|refine aC ?_|(with_reducible refine gR 2 ?_);refine dE 2 [0,1,2,3,4,5,6,7,8,9,10,11] mixed ?_|(refine hK _ _ ?_;clear hK K)|(refine aB ?_ ?_<;>intro hc<;>try exact jz)|refine cm (gA r (bw h)) ?_|refine cp (Lq _ hnt) ?_|refine cm (kM r.inc _ _ _ _ [] _ gq.nil (bw hi)) ?_|refine az ?_|exact jI|(clear hK K)));all_goals(try clear W)
  (refine bH [.tmp 2] ?_;try simp only[go_sem])
  all_goals rfl
 rw[if_neg hk1];have hk1':¬(nth r.l r.i.toNat).kind=1:=hk1;by_cases hk2:r.tok.kind=2
 ·rw[if_pos hk2]
  obtain⟨hi,_,hb⟩:=hinc jB;have hk2':(nth r.l r.i.toNat).kind=2:=hk2;refine aU func289 ntmps289 ?_
  (refine S ?_;try exact jI)
  (have W:=jA he (hk2');repeat' (first|refine aA fun K hK=>?_|refine aC ?_|(with_reducible refine gR 2 ?_);refine dE 2 [0,1,2,3,4,5,6,7,8,9,10,11] mixed ?_|(refine hK _ _ ?_;clear hK K)|(refine aB ?_ ?_<;>intro hc<;>try exact jz)|refine cm (gA r (bw h)) ?_|refine cm (kM r.inc _ _ _ _ [] _ gq.nil (bw hi)) ?_|refine az ?_|exact jI|(clear hK K)));all_goals(try clear W)
  (refine bH [.tmp 2] ?_;try simp only[go_sem])
  all_goals rfl
 rw[if_neg hk2];have hk2':¬(nth r.l r.i.toNat).kind=2:=hk2;by_cases hk3:r.tok.kind=3
 ·rw[if_pos hk3]
  obtain⟨hi,hr,hb⟩:=hinc jB;have hk3':(nth r.l r.i.toNat).kind=3:=hk3;by_cases hx:r.inc.is (⟨#[91]⟩:ByteArray)=true
  ·rw[if_pos hx]
   obtain⟨d1,d2,d3,d4,d5,d6⟩:=bq r.inc (⟨#[91]⟩:ByteArray) (⟨#[93]⟩:ByteArray) hi he;have d4l:=d4.ou;have d4h:=d4.pi;refine aU func289 ntmps289 ?_
   (refine S ?_;try exact jI)
   (have W:=jA he (jA hk3' (hx));repeat' (first|refine aA fun K hK=>?_|refine aC ?_|(with_reducible refine gR 2 ?_);refine dE 2 [0,1,2,3,4,5,6,7,8,9,10,11] mixed ?_|(refine hK _ _ ?_;clear hK K)|(refine aB ?_ ?_<;>intro hc<;>try exact jz)|refine cm (gA r (bw h)) ?_|refine cm (gb r.inc _ (bw hi)) ?_|refine cm (tL r.inc (bw hi)) ?_|refine cm (iz r.inc.down _ (bw d1)) ?_|refine cm (hch (r.inc.down.aq (⟨#[91]⟩:ByteArray)) d2 jB) ?_|refine cm (iz (dJ n 0 (r.inc.down.aq (⟨#[91]⟩:ByteArray))).1 _ (bw d3)) ?_|refine cm (kM ((dJ n 0 (r.inc.down.aq (⟨#[91]⟩:ByteArray))).1.aq (⟨#[93]⟩:ByteArray)).up _ _ _ _ [(dJ n 0 (r.inc.down.aq (⟨#[91]⟩:ByteArray))).2] _ gq.sl (bw d5)) ?_|refine az ?_|exact jI|(clear hK K)));all_goals(try clear W)
   (refine bH [.tmp 2] ?_;try simp only[go_sem])
   all_goals rfl
  ·rw[if_neg hx]
   have hx':r.inc.is (⟨#[91]⟩:ByteArray)=false:=by simpa using hx
   refine aU func289 ntmps289 ?_
   (refine S ?_;try exact jI)
   (have W:=jA he (jA hk3' (hx'));repeat' (first|refine aA fun K hK=>?_|refine aC ?_|(with_reducible refine gR 2 ?_);refine dE 2 [0,1,2,3,4,5,6,7,8,9,10,11] mixed ?_|(refine hK _ _ ?_;clear hK K)|(refine aB ?_ ?_<;>intro hc<;>try exact jz)|refine cm (gA r (bw h)) ?_|refine cm (gb r.inc _ (bw hi)) ?_|refine cm (kM r.inc _ _ _ _ [] _ gq.nil (bw hi)) ?_|refine az ?_|exact jI|(clear hK K)));all_goals(try clear W)
   (refine bH [.tmp 2] ?_;try simp only[go_sem])
   all_goals rfl
 rw[if_neg hk3];have hk3':¬(nth r.l r.i.toNat).kind=3:=hk3;by_cases ht:r.is (⟨#[116,114,117,101]⟩:ByteArray)=true
 ·rw[if_pos ht]
  obtain⟨hi,hr,hb⟩:=hinc (Rd.aT ht).2;refine aU func289 ntmps289 ?_
  (refine S ?_;try exact jI)
  (have W:=jA he (jA ht (jA hk1' (jA hk2' (hk3'))));repeat' (first|refine aA fun K hK=>?_|refine aC ?_|(with_reducible refine gR 2 ?_);refine dE 2 [0,1,2,3,4,5,6,7,8,9,10,11] mixed ?_|(refine hK _ _ ?_;clear hK K)|(refine aB ?_ ?_<;>intro hc<;>try exact jz)|refine cm (gA r (bw h)) ?_|refine cm (gb r _ (bw h)) ?_|refine cm (kM r.inc _ _ _ _ [] _ gq.nil (bw hi)) ?_|refine az ?_|exact jI|(clear hK K)));all_goals(try clear W)
  (refine bH [.tmp 2] ?_;try simp only[go_sem])
 rw[if_neg ht];have ht':r.is (⟨#[116,114,117,101]⟩:ByteArray)=false:=by simpa using ht
 by_cases hf:r.is (⟨#[102,97,108,115,101]⟩:ByteArray)=true
 ·rw[if_pos hf]
  obtain⟨hi,hr,hb⟩:=hinc (Rd.aT hf).2;refine aU func289 ntmps289 ?_
  (refine S ?_;try exact jI)
  (have W:=jA he (jA ht' (jA hf (jA hk1' (jA hk2' (hk3')))));repeat' (first|refine aA fun K hK=>?_|refine aC ?_|(with_reducible refine gR 2 ?_);refine dE 2 [0,1,2,3,4,5,6,7,8,9,10,11] mixed ?_|(refine hK _ _ ?_;clear hK K)|(refine aB ?_ ?_<;>intro hc<;>try exact jz)|refine cm (gA r (bw h)) ?_|refine cm (gb r _ (bw h)) ?_|refine cm (kM r.inc _ _ _ _ [] _ gq.nil (bw hi)) ?_|refine az ?_|exact jI|(clear hK K)));all_goals(try clear W)
  (refine bH [.tmp 2] ?_;try simp only[go_sem])
 rw[if_neg hf];have hf':r.is (⟨#[102,97,108,115,101]⟩:ByteArray)=false:=by simpa using hf
 by_cases hl:r.is (⟨#[108,101,110]⟩:ByteArray)=true
 ·rw[if_pos hl]
  obtain⟨hi,hr,hb⟩:=hinc (Rd.aT hl).2;by_cases hx:r.inc.is (⟨#[40]⟩:ByteArray)=true
  ·rw[if_pos hx]
   obtain⟨d1,d2,d3,d4,d5,d6⟩:=bq r.inc (⟨#[40]⟩:ByteArray) (⟨#[41]⟩:ByteArray) hi he;have d4l:=d4.ou;have d4h:=d4.pi;refine aU func289 ntmps289 ?_
   (refine S ?_;try exact jI)
   (have W:=jA he (jA ht' (jA hf' (jA hl (jA hk1' (jA hk2' (jA hk3' (hx)))))));repeat' (first|refine aA fun K hK=>?_|refine aC ?_|(with_reducible refine gR 2 ?_);refine dE 2 [0,1,2,3,4,5,6,7,8,9,10,11] mixed ?_|(refine hK _ _ ?_;clear hK K)|(refine aB ?_ ?_<;>intro hc<;>try exact jz)|refine cm (gA r (bw h)) ?_|refine cm (gb r _ (bw h)) ?_|refine cm (gb r.inc _ (bw hi)) ?_|refine cm (tL r.inc (bw hi)) ?_|refine cm (iz r.inc.down _ (bw d1)) ?_|refine cm (hch (r.inc.down.aq (⟨#[40]⟩:ByteArray)) d2 jB) ?_|refine cm (iz (dJ n 0 (r.inc.down.aq (⟨#[40]⟩:ByteArray))).1 _ (bw d3)) ?_|refine cm (kM ((dJ n 0 (r.inc.down.aq (⟨#[40]⟩:ByteArray))).1.aq (⟨#[41]⟩:ByteArray)).up _ _ _ _ [(dJ n 0 (r.inc.down.aq (⟨#[40]⟩:ByteArray))).2] _ gq.sl (bw d5)) ?_|refine az ?_|exact jI|(clear hK K)));all_goals(try clear W)
   (refine bH [.tmp 2] ?_;try simp only[go_sem])
  ·rw[if_neg hx]
   have hx':r.inc.is (⟨#[40]⟩:ByteArray)=false:=by simpa using hx
   refine aU func289 ntmps289 ?_
   (refine S ?_;try exact jI)
   (have W:=jA he (jA ht' (jA hf' (jA hl (jA hk1' (jA hk2' (jA hk3' (hx')))))));repeat' (first|refine aA fun K hK=>?_|refine aC ?_|(with_reducible refine gR 2 ?_);refine dE 2 [0,1,2,3,4,5,6,7,8,9,10,11] mixed ?_|(refine hK _ _ ?_;clear hK K)|(refine aB ?_ ?_<;>intro hc<;>try exact jz)|refine cm (gA r (bw h)) ?_|refine cm (gb r _ (bw h)) ?_|refine cm (gb r.inc _ (bw hi)) ?_|refine cm (te r.inc _ (bw hi)) ?_|refine az ?_|exact jI|(clear hK K)));all_goals(try clear W)
   (refine bH [.tmp 2] ?_;try simp only[go_sem])
 rw[if_neg hl];have hl':r.is (⟨#[108,101,110]⟩:ByteArray)=false:=by simpa using hl
 by_cases hx:r.is (⟨#[40]⟩:ByteArray)=true
 ·rw[if_pos hx]
  obtain⟨hi,hr,hb⟩:=hinc (Rd.aT hx).2;obtain⟨d1,d2,d3,d4,d5,d6⟩:=bq r (⟨#[40]⟩:ByteArray) (⟨#[41]⟩:ByteArray) h he;have d4l:=d4.ou;have d4h:=d4.pi;have d7:(r.down.aq (⟨#[40]⟩:ByteArray)).rem+1<=r.rem:=by
   have hdn:=Rd.bF h he;unfold Rd.rem;rw[if_pos he];have hl2:(r.down.aq (⟨#[40]⟩:ByteArray)).l=r.l:=(Rd.aL d1 _).l.trans hdn.2.2.2.1;rw[hl2];by_cases hq:r.down.is (⟨#[40]⟩:ByteArray)=true
   ·have:r.down.aq (⟨#[40]⟩:ByteArray)=r.down.inc:=by unfold Rd.aq;rw[if_pos hq]
    rw[this];have:r.down.inc.i=r.i+1:=by show r.down.i+1=_;rw[hdn.2.2.1]
    rw[this];split<;>omega
   ·have hm:r.down.aq (⟨#[40]⟩:ByteArray)=r.down.aE 20:=by unfold Rd.aq;rw[if_neg hq]
    rw[hm];have:(r.down.aE 20).e≠0:=by
     unfold Rd.aE;split
     ·show(20:Int)≠0;decide
     ·assumption
    rw[if_neg this];omega
  refine aU func289 ntmps289 ?_
  (refine S ?_;try exact jI)
  (have W:=jA he (jA ht' (jA hf' (jA hl' (jA hk1' (jA hk2' (jA hk3' (hx)))))));repeat' (first|refine aA fun K hK=>?_|refine aC ?_|(with_reducible refine gR 2 ?_);refine dE 2 [0,1,2,3,4,5,6,7,8,9,10,11] mixed ?_|(refine hK _ _ ?_;clear hK K)|(refine aB ?_ ?_<;>intro hc<;>try exact jz)|refine cm (gA r (bw h)) ?_|refine cm (gb r _ (bw h)) ?_|refine cm (tL r (bw h)) ?_|refine cm (iz r.down _ (bw d1)) ?_|refine cm (hch (r.down.aq (⟨#[40]⟩:ByteArray)) d2 jB) ?_|refine cm (iz (dJ n 0 (r.down.aq (⟨#[40]⟩:ByteArray))).1 _ (bw d3)) ?_|refine az ?_|exact jI|(clear hK K)));all_goals(try clear W)
  (refine bH [.tmp 2] ?_;try simp only[go_sem])
 rw[if_neg hx];have hx':r.is (⟨#[40]⟩:ByteArray)=false:=by simpa using hx
 refine aU func289 ntmps289 ?_
 (refine S ?_;try exact jI)
 (have W:=jA he (jA ht' (jA hf' (jA hl' (jA hk1' (jA hk2' (jA hk3' (hx')))))));repeat' (first|refine aA fun K hK=>?_|refine aC ?_|(with_reducible refine gR 2 ?_);refine dE 2 [0,1,2,3,4,5,6,7,8,9,10,11] mixed ?_|(refine hK _ _ ?_;clear hK K)|(refine aB ?_ ?_<;>intro hc<;>try exact jz)|refine cm (gA r (bw h)) ?_|refine cm (gb r _ (bw h)) ?_|refine cm (te r _ (bw h)) ?_|refine az ?_|exact jI|(clear hK K)));all_goals(try clear W)
 (refine bH [.tmp 2] ?_;try simp only[go_sem])
theorem Bx:∀m n,n<=m->BF n/\xe n/\yh n
 |0,0,_=>⟨fun r h hn=>by omega,fun r h hn=>by omega,fun lv r hl h hn=>by omega⟩
 |m+1,0,_=>⟨fun r h hn=>jB,fun r h hn=>jB,fun lv r hl h hn=>jB⟩
 |m+1,n+1,hm=>by
  obtain⟨ha,hf,hc⟩:=Bx m n jB;exact⟨K4 n hc,H9 n ha hf,Ij n hf fun k hk=>(Bx m k jB).2.2⟩
theorem Ip(n:Nat)(r:Rd)(h:r.Inv)(hn:8*r.rem+8<=n):aj prog 248 [pR] (ce r) (fun v l=>v=rI (dJ n 0 r).2/\l=ce (dJ n 0 r).1):=by
 have:=(Bx n n jl).2.2 0 r jB h jB;refine aU func248 ntmps248 ?_
 (refine S ?_;try exact jI)
 (repeat' (first|refine aA fun K hK=>?_|refine aC ?_|(refine hK _ _ ?_;clear hK K)|(refine aB ?_ ?_<;>intro hc<;>try exact jz)|refine cm (this) ?_|refine az ?_|exact jI|(clear hK K)))
 (refine bV [.tmp 2] ?_ ?_<;>(try simp only[go_sem]))
variable{r:Rd}
theorem pO(h:r.Inv):aj prog 248 [pR] (ce r) (fun v l=>v=rI (cL r).2/\l=ce (cL r).1):=Ip _ r h jl
theorem Eu(h:r.Inv):aj prog 270 [pR] (ce r) (fun v l=>v=rI (mi r).2/\l=ce (mi r).1):=by
 have h1:=(Rd.cZ h).inv h;have h2:=(zb h).inv h;have h3:=(zS h).inv h;have h4:=(KA h).inv h;have hr0:(oO r).rem<=2000:=by
  have:=h2.pos;have:=h2.len
  unfold Rd.rem;split<;>omega
 have hm:aj prog 145 [pR,rS (⟨#[40]⟩:ByteArray)] (ce r.name.1) (fun v l=>v=.bg []/\l=ce (oO r)):=iz r.name.1 _ (bw h1);refine aU func270 ntmps270 ?_
 (refine S ?_;try exact jI)
 (repeat' (first|refine aA fun K hK=>?_|refine aC ?_|(refine hK _ _ ?_;clear hK K)|(refine aB ?_ ?_<;>intro hc<;>try exact jz)|refine cm (gA r (bw h)) ?_|refine cm (uo r (bw h)) ?_|refine cm (hm) ?_|refine cm (gb (oO r) _ (bw h2)) ?_|refine az ?_|exact jI|(clear hK K)))
 have hKo:=hK;clear hK;refine iS (dz.nil 2 5 3 (sz:=1) rfl jC (Or.inr ⟨_,_,_,rfl,rfl⟩)) ?_
 (refine S ?_;try exact jI)
 refine fm (S:=Nat×Bool×Rd×List Int) [(5,1),(7,2),(27,17)] (fun s=>s.2.2.1.Inv/\(s.2.1=true->s.2.2.1.rem+2<=s.1)/\1<=s.1/\s.2.2.2.length+s.1<=5000/\mF s.1 s.2.1 s.2.2.1 s.2.2.2=ns r) (fun s=>[(5,.rs 2 s.2.2.2.length 1 s.2.2.2.length),(7,rB s.2.1)]) (fun s=>⟨[0,1],ce s.2.2.1++[(2,.aO 3 1 (s.2.2.2.map eI))]⟩) (fun s=>s.1) ((oO r).rem+2,more (oO r),oO r,[]) ⟨h2,fun _=>Nat.le_refl _,jJ,by(try simp only[List.length_nil]);omega,rfl⟩ (fi rfl (by simp only[go_sem,jt,Nat.reduceAdd,AV.raw.injEq,Value.int.injEq,Value.slice.injEq,Value.pointer.injEq,AV.rs.injEq,more,List.length_nil];try omega)) ?_;rintro⟨n,b,q,L⟩ ⟨hq,hn1,hn2,hn3,hA⟩ Kr hKr;simp only at hq hn1 hn2 hn3 hA;have hqi:=hq.lt;have hqp:=hq.pos;have hql:=hq.len;obtain⟨n,rfl⟩:∃k,n=k+1:=⟨n-1,jB⟩;cases b with
 |false=>
  rw[mF]at hA;have e1:q=(ns r).1:=by rw[<-hA]
  have e2:L=(ns r).2:=by rw[<-hA]
  rw[<-e1]at h4
  (refine S ?_;try exact jI)
  (repeat' (first|refine aA fun K hK=>?_|refine aC ?_|(refine hK _ _ ?_;clear hK K)|(refine aB ?_ ?_<;>intro hc<;>try exact jz)|refine az ?_|exact jI|(clear hK K)))
  refine hKo _ _ ?_;refine CC [2] 5 (bt eI 1 L) Sd Sd kY ?_
  (refine S ?_;try exact jI)
  (repeat' (first|refine aA fun K hK=>?_|refine aC ?_|(refine hK _ _ ?_;clear hK K)|(refine aB ?_ ?_<;>intro hc<;>try exact jz)|refine cm (iz q _ (bw hq)) ?_|refine cm (wl (q.aq (⟨#[41]⟩:ByteArray)) _ _ _ _ L (bw h4)) ?_|refine az ?_|exact jI|(clear hK K)))
  (refine bV [.tmp 2] ?_ ?_<;>(try simp only[go_sem]))
  ·unfold mi;rw[<-e1,<-e2]
  ·unfold mi;rw[<-e1,<-e2]
 |true=>
  have s1:=ju hq;have hx:=s1.inv hq;have hr1:=s1.rem;have hxi:=hx.lt;have hxp:=hx.pos;have hxl:=hx.len;have hn1:=hn1 rfl;rw[mF]at hA
  (refine S ?_;try exact jI)
  (repeat' (first|refine aA fun K hK=>?_|refine aC ?_|(refine hK _ _ ?_;clear hK K)|(refine aB ?_ ?_<;>intro hc<;>try exact jz)|refine cm (pO hq) ?_|refine cm (gb (cL q).1 _ (bw hx)) ?_|refine az ?_|exact jI|(clear hK K)))
  ·rw[if_pos hc]at hA
   have hk:=Rd.aT hc;have hr2:=Rd.cO hx hk;refine hKr _ _ (fw (n,true,(cL q).1.inc,L++[(cL q).2]) ⟨(Rd.bj hx hk.2).1.inv hx,fun _=>jJ,jJ,by(try simp only[List.length_append,List.length_cons,List.length_nil]);omega,hA⟩ jJ (by simp only[go_sem,ce,gL,List.map_append,List.map_cons,List.map_nil,List.cons_append,List.nil_append];(try rfl)) (by simp only[go_sem,jt,Nat.reduceAdd,AV.raw.injEq,Value.int.injEq,Value.slice.injEq,Value.pointer.injEq,AV.rs.injEq,hc,List.length_append,List.length_cons,List.length_nil];try omega))
  ·rw[if_neg (by rw[hc];decide)]at hA
   refine hKr _ _ (fw (n,false,(cL q).1,L++[(cL q).2]) ⟨hx,(by intro h;cases h),jJ,by(try simp only[List.length_append,List.length_cons,List.length_nil]);omega,?_⟩ jJ (by simp only[go_sem,ce,gL,List.map_append,List.map_cons,List.map_nil,List.cons_append,List.nil_append];(try rfl)) (by simp only[go_sem,jt,Nat.reduceAdd,AV.raw.injEq,Value.int.injEq,Value.slice.injEq,Value.pointer.injEq,AV.rs.injEq,hc,List.length_append,List.length_cons,List.length_nil];try omega));rw[<-hA];obtain⟨n,rfl⟩:∃k,n=k+1:=⟨n-1,jB⟩;rw[mF]
theorem vm(h:r.Inv):aj prog 269 [pR] (ce r) (fun v l=>v=rB r.calls/\l=ce r):=M0 r (bw h) (fun hk=>Rd.behind h (Rd.du hk jC).2)
theorem DQ(h:r.Inv):aj prog 247 [pR] (ce r) (fun v l=>v=rI (ld r).2/\l=ce (ld r).1):=by
 have hri:=h.lt;have hrp:=h.pos;have hrl:=h.len;have hinc:r.tok.kind≠0->r.inc.Inv:=fun hk=>(Rd.bj h hk).1.inv h
 by_cases hx:r.is (⟨#[105,110,112,117,116]⟩:ByteArray)=true
 ·have hi:=hinc (Rd.aT hx).2
  rw[ld,if_pos hx];refine aU func247 ntmps247 ?_
  (refine S ?_;try exact jI)
  (have W:=hx;repeat' (first|refine aA fun K hK=>?_|refine aC ?_|(refine hK _ _ ?_;clear hK K)|(refine aB ?_ ?_<;>intro hc<;>try exact jz)|refine cm (gA r (bw h)) ?_|refine cm (gb r _ (bw h)) ?_|refine cm (kM r.inc _ _ _ _ [] _ gq.nil (bw hi)) ?_|refine az ?_|exact jI|(clear hK K)));all_goals(try clear W)
  (refine bV [.tmp 2] ?_ ?_<;>(try simp only[go_sem]))
 rw[ld,if_neg hx];have hx':r.is (⟨#[105,110,112,117,116]⟩:ByteArray)=false:=by simpa using hx
 by_cases hy:r.is (⟨#[110,101,119]⟩:ByteArray)=true
 ·have hi:=hinc (Rd.aT hy).2
  have h1:=(Rd.aL hi (⟨#[40]⟩:ByteArray)).inv hi;have h2:=(ju h1).inv h1;have h3:=(Rd.aL h2 (⟨#[41]⟩:ByteArray)).inv h2;rw[if_pos hy];refine aU func247 ntmps247 ?_
  (refine S ?_;try exact jI)
  (have W:=jA hx' hy;repeat' (first|refine aA fun K hK=>?_|refine aC ?_|(refine hK _ _ ?_;clear hK K)|(refine aB ?_ ?_<;>intro hc<;>try exact jz)|refine cm (gA r (bw h)) ?_|refine cm (gb r _ (bw h)) ?_|refine cm (iz r.inc _ (bw hi)) ?_|refine cm (pO h1) ?_|refine cm (iz (cL (r.inc.aq (⟨#[40]⟩:ByteArray))).1 _ (bw h2)) ?_|refine cm (kM ((cL (r.inc.aq (⟨#[40]⟩:ByteArray))).1.aq (⟨#[41]⟩:ByteArray)) _ _ _ _ [(cL (r.inc.aq (⟨#[40]⟩:ByteArray))).2] _ gq.sl (bw h3)) ?_|refine az ?_|exact jI|(clear hK K)));all_goals(try clear W)
  (refine bV [.tmp 2] ?_ ?_<;>(try simp only[go_sem]))
 rw[if_neg hy];have hy':r.is (⟨#[110,101,119]⟩:ByteArray)=false:=by simpa using hy
 by_cases hcl:r.calls=true
 ·rw[if_pos hcl]
  refine aU func247 ntmps247 ?_
  (refine S ?_;try exact jI)
  (have W:=jA hx' (jA hy' (hcl));repeat' (first|refine aA fun K hK=>?_|refine aC ?_|(refine hK _ _ ?_;clear hK K)|(refine aB ?_ ?_<;>intro hc<;>try exact jz)|refine cm (gA r (bw h)) ?_|refine cm (gb r _ (bw h)) ?_|refine cm (vm h) ?_|refine cm (Eu h) ?_|refine az ?_|exact jI|(clear hK K)));all_goals(try clear W)
  (refine bV [.tmp 2] ?_ ?_<;>(try simp only[go_sem]))
 ·rw[if_neg hcl]
  have hc':r.calls=false:=by simpa using hcl
  refine aU func247 ntmps247 ?_
  (refine S ?_;try exact jI)
  (have W:=jA hx' (jA hy' (hc'));repeat' (first|refine aA fun K hK=>?_|refine aC ?_|(refine hK _ _ ?_;clear hK K)|(refine aB ?_ ?_<;>intro hc<;>try exact jz)|refine cm (gA r (bw h)) ?_|refine cm (gb r _ (bw h)) ?_|refine cm (vm h) ?_|refine cm (pO h) ?_|refine az ?_|exact jI|(clear hK K)));all_goals(try clear W)
  (refine bV [.tmp 2] ?_ ?_<;>(try simp only[go_sem]))
theorem J2(h:r.Inv)(he:r.e=0)(ln:Int):aj prog 249 [pR,rI ln] (ce r) (fun v l=>v=rI (py r ln).2/\l=ce (py r ln).1):=by
 have hri:=h.lt;have hrp:=h.pos;have hrl:=h.len;by_cases hcl:r.calls=true
 ·have h1:=(zC h hcl).1.inv h
  have h2:=(Rd.aL h1 (⟨#[59]⟩:ByteArray)).inv h1;rw[py,if_pos hcl];refine aU func249 ntmps249 ?_
  (refine S ?_;try exact jI)
  (have W:=hcl;repeat' (first|refine aA fun K hK=>?_|refine aC ?_|(refine hK _ _ ?_;clear hK K)|(refine aB ?_ ?_<;>intro hc<;>try exact jz)|refine cm (vm h) ?_|refine cm (Eu h) ?_|refine cm (iz (mi r).1 _ (bw h1)) ?_|refine cm (kM ((mi r).1.aq (⟨#[59]⟩:ByteArray)) _ _ _ _ [(mi r).2] _ gq.sl (bw h2)) ?_|refine az ?_|exact jI|(clear hK K)));all_goals(try clear W)
  (refine bV [.tmp 4] ?_ ?_<;>(try simp only[go_sem]))
 rw[py,if_neg hcl];have hc':r.calls=false:=by simpa using hcl
 have h0:=(Rd.cZ h).inv h;by_cases hx:r.name.1.is (⟨#[91]⟩:ByteArray)=true
 ·rw[if_pos hx]
  have d0:=(Rd.bF h0 (Rd.aT hx).1).1;have d1:=(Rd.aL d0 (⟨#[91]⟩:ByteArray)).inv d0;have d2:=(ju d1).inv d1;have d3:=(Rd.aL d2 (⟨#[93]⟩:ByteArray)).inv d2;have d4:=(BD h0 hx).2.inv h0;have d5:=(xr h0 hx).1.inv h0;have d6:=(xr h0 hx).2.inv h0;have d7:=(Rd.aL d6 (⟨#[59]⟩:ByteArray)).inv d6;have d3l:=d3.ou;have d3h:=d3.pi;unfold uX oB at*;refine aU func249 ntmps249 ?_
  (refine S ?_;try exact jI)
  (have W:=jA hc' hx;repeat' (first|refine aA fun K hK=>?_|refine aC ?_|(refine hK _ _ ?_;clear hK K)|(refine aB ?_ ?_<;>intro hc<;>try exact jz)|refine cm (vm h) ?_|refine cm (uo r (bw h)) ?_|refine cm (gb r.name.1 _ (bw h0)) ?_|refine cm (tL r.name.1 (bw h0)) ?_|refine cm (iz r.name.1.down _ (bw d0)) ?_|refine cm (pO d1) ?_|refine cm (iz (cL (r.name.1.down.aq (⟨#[91]⟩:ByteArray))).1 _ (bw d2)) ?_|refine cm (iz ((cL (r.name.1.down.aq (⟨#[91]⟩:ByteArray))).1.aq (⟨#[93]⟩:ByteArray)).up _ (bw d4)) ?_|refine cm (pO d5) ?_|refine cm (iz (cL (((cL (r.name.1.down.aq (⟨#[91]⟩:ByteArray))).1.aq (⟨#[93]⟩:ByteArray)).up.aq (⟨#[61]⟩:ByteArray))).1 _ (bw d6)) ?_|refine cm (kM ((cL (((cL (r.name.1.down.aq (⟨#[91]⟩:ByteArray))).1.aq (⟨#[93]⟩:ByteArray)).up.aq (⟨#[61]⟩:ByteArray))).1.aq (⟨#[59]⟩:ByteArray)) _ _ _ _ [(cL (r.name.1.down.aq (⟨#[91]⟩:ByteArray))).2,(cL (((cL (r.name.1.down.aq (⟨#[91]⟩:ByteArray))).1.aq (⟨#[93]⟩:ByteArray)).up.aq (⟨#[61]⟩:ByteArray))).2] _ gq.sl (bw d7)) ?_|refine az ?_|exact jI|(clear hK K)));all_goals(try clear W)
  (refine bV [.tmp 4] ?_ ?_<;>(try simp only[go_sem]))
 ·rw[if_neg hx]
  have hx':r.name.1.is (⟨#[91]⟩:ByteArray)=false:=by simpa using hx
  have d1:=(Rd.aL h0 (⟨#[61]⟩:ByteArray)).inv h0;have d2:=(yM d1).inv d1;have d3:=(Rd.aL d2 (⟨#[59]⟩:ByteArray)).inv d2;refine aU func249 ntmps249 ?_
  (refine S ?_;try exact jI)
  (have W:=jA hc' (hx');repeat' (first|refine aA fun K hK=>?_|refine aC ?_|(refine hK _ _ ?_;clear hK K)|(refine aB ?_ ?_<;>intro hc<;>try exact jz)|refine cm (vm h) ?_|refine cm (uo r (bw h)) ?_|refine cm (gb r.name.1 _ (bw h0)) ?_|refine cm (iz r.name.1 _ (bw h0)) ?_|refine cm (DQ d1) ?_|refine cm (iz (ld (r.name.1.aq (⟨#[61]⟩:ByteArray))).1 _ (bw d2)) ?_|refine cm (kM ((ld (r.name.1.aq (⟨#[61]⟩:ByteArray))).1.aq (⟨#[59]⟩:ByteArray)) _ _ _ _ [(ld (r.name.1.aq (⟨#[61]⟩:ByteArray))).2] _ gq.sl (bw d3)) ?_|refine az ?_|exact jI|(clear hK K)));all_goals(try clear W)
  (refine bV [.tmp 4] ?_ ?_<;>(try simp only[go_sem]))
theorem Ot(w:ByteArray):dV prog 212 [rS w] (rI (rR w)):=by
 refine eQ func212 ntmps212 ?_
 (repeat' (first|refine aA fun K hK=>?_|refine aC ?_|(refine hK _ _ ?_;clear hK K)|(refine aB ?_ ?_<;>intro hc<;>try exact jz)|refine az ?_|exact jI|(clear hK K)))
 all_goals(refine bV [.tmp 2] ?_ ?_<;>(try simp only[go_sem]))
 all_goals unfold rR
 all_goals repeat' split
 all_goals first|rfl|(exfalso;simp_all;done)
theorem C6(h:r.Inv):aj prog 148 [pR] (ce r) (fun v l=>v=rI (iu r).2/\l=ce (iu r).1):=by
 have hri:=h.lt;have hrp:=h.pos;have hrl:=h.len;refine aU func148 ntmps148 ?_
 (refine S ?_;try exact jI)
 (repeat' (first|refine aA fun K hK=>?_|refine aC ?_|(refine hK _ _ ?_;clear hK K)|(refine aB ?_ ?_<;>intro hc<;>try exact jz)|refine cm (qz r (bw h)) ?_|refine cp (Ot r.word) ?_|refine cm (te r _ (bw h)) ?_|refine az ?_|exact jI|(clear hK K)))
 ·(refine bV [.tmp 2] ?_ ?_<;>(try simp only[go_sem]))
  ·simp only[iu,if_pos hc]
  ·simp only[iu,if_pos hc,go_sem]
 ·(refine bV [.tmp 2] ?_ ?_<;>(try simp only[go_sem]))
  ·simp only[iu,if_neg hc]
  ·simp only[iu,if_neg hc];rfl
end Go.Proofs.YtfkgcobaheegbaaGreatDoor

/- Lemmas. No conditions. -/
import Derived.Test.YtfkgcobaheegbaaGreatDoorP2
import Derived.Test.YtfkgcobaheegbaaGreatDoorShelf
set_option linter.all false
set_option maxHeartbeats 8000000
set_option maxRecDepth 10000
namespace Go.Gd
open Go
theorem EI{P:Program}{f:FuncId}{args:List AV}{r:AV}(cw:List Value)(v:Value)(ha:args=cw.map .raw)(hr:∀w:NW,aw w r v)(h:∀w:World,Calls P f cw.toArray w fun e w'=>e=.returned v/\RowKit.Below w.heap.size w w'):eG P f args r:=by
 intro w vs h1 h2;have hvs:vs=cw.toArray:=by
  apply Array.ext';apply List.ext_getElem?;intro i;obtain⟨hl,hv⟩:=h2;subst ha;by_cases hi:i<cw.length
  ·have hi':i<vs.size:=by rw[<-hl];simpa using hi
   have:=dm (hv i (.raw cw[i]) vs[i] (by simp[hi]) (by simp[hi']));simp[hi,hi',this]
  ·have hi':¬i<vs.size:=by rw[<-hl];simpa using hi
   rw[List.getElem?_eq_none (by simpa using hi'),List.getElem?_eq_none (by simpa using hi)]
 subst hvs;refine(h w.toWorld).mono ?_;rintro e W ⟨rfl,hb⟩;have ex:Ext w (entry []) (w.to W) (entry []):={ size:=hb.size,free:=fun b hb' hO=>⟨hb.block b hb',hO⟩,names:=fun _ _ _ _ h=>h,os:=hb.os,tape:=hb.tape,output:=hb.output,rest:=fun b hb' hO hno=>⟨hb.block b hb',hO,hno⟩,base:=rfl };refine⟨v,r,entry [],w.to W,rfl,rfl,⟨rfl,rfl⟩,{ rows:=fun i row hi=>(by cases hi),dO:=h1.dO,inj:=h1.inj,own:=h1.own,cn:=h1.cn.aY ex.toKeep,fin:=fun b hb'=>Nat.lt_of_lt_of_le (h1.fin b hb') hb.size },hr _,ex.pB⟩
end Go.Gd
namespace Go.Proofs.YtfkgcobaheegbaaGreatDoor
open Go Go.Gd Tryz
theorem zL(s:ByteArray)(k:Nat):eL s k=((s.data.toList.getD k 0).toNat:Int):=by unfold eL;simp
def j7:List UInt8->Nat->Nat
 |[],a=>a
 |c::l,a=>j7 l (a*10+(c.toNat-48))
theorem F2:∀(l:List UInt8) (a:Nat),a<=j7 l a
 |[],a=>Nat.le_refl _
 |c::l,a=>Nat.le_trans jB (F2 l _)
theorem GR:∀(l:List UInt8) (a:Nat),(∀c∈l,48<=c.toNat/\c.toNat<=57)->j7 l a<=9223372036854775807->Lib.parseUint10 a l=.ok (j7 l a)
 |[],a,_,_=>rfl
 |c::l,a,h,hm=>by have hc:=h c jE;have h1:=F2 l (a*10+(c.toNat-48));simp only[j7]at hm ⊢;unfold Lib.parseUint10;rw[if_pos hc,jN,jN];exact GR l _ (fun x hx=>h x (by simp[hx])) hm
theorem Ij:∀(l:List UInt8) (c:UInt8) (a:Nat),j7 (l++[c]) a=j7 l a*10+(c.toNat-48)
 |[],_,_=>rfl
 |_::l,c,_=>Ij l c _
theorem A9:∀(l:List UInt8) (a:Nat),(∀c∈l,48<=c.toNat/\c.toNat<=57)->j7 l a+1<=(a+1)*10 ^ l.length
 |[],a,_=>by simp[j7]
 |c::l,a,h=>by have hc:=h c jE;have ih:=A9 l (a*10+(c.toNat-48)) (fun x hx=>h x (by simp[hx]));simp only[j7,List.length_cons,Nat.pow_succ];refine Nat.le_trans ih ?_;rw[Nat.mul_comm (10 ^ l.length) 10,<-Nat.mul_assoc];exact Nat.mul_le_mul_right _ jB
theorem Dr:∀(l:List UInt8) (a:Nat),a*10 ^ l.length<=j7 l a
 |[],a=>by simp[j7]
 |c::l,a=>by have ih:=Dr l (a*10+(c.toNat-48));simp only[j7,List.length_cons,Nat.pow_succ];refine Nat.le_trans ?_ ih;rw[Nat.mul_comm (10 ^ l.length) 10,<-Nat.mul_assoc];exact Nat.mul_le_mul_right _ jB
theorem Hl:∀(l m:List UInt8) (a:Nat),l.length=m.length->(∀c∈l,48<=c.toNat/\c.toNat<=57)->(∀c∈m,48<=c.toNat/\c.toNat<=57)->Op.bytesLess l m=true->j7 l a<j7 m a
 |[],[],_,_,_,_,h=>by simp[Op.bytesLess]at h
 |[],_::_,_,hl,_,_,_=>by simp at hl
 |_::_,[],_,hl,_,_,_=>by simp at hl
 |x::l,y::m,a,hl,h1,h2,h=>by
  have hx:=h1 x jE;have hy:=h2 y jE;simp only[Op.bytesLess,Bool.or_eq_true,decide_eq_true_eq,Bool.and_eq_true,beq_iff_eq]at h;simp only[j7];rcases h with h|⟨rfl,h⟩
  ·have h:x.toNat<y.toNat:=h;have e1:=A9 l (a*10+(x.toNat-48)) (fun c hc=>h1 c (by simp[hc]));have e2:=Dr m (a*10+(y.toNat-48));have e3:(a*10+(x.toNat-48)+1)*10 ^ l.length<=(a*10+(y.toNat-48))*10 ^ m.length:=by
    rw[show l.length=m.length by simpa using hl];exact Nat.mul_le_mul_right _ jB
   omega
  ·exact Hl l m _ (by simpa using hl) (fun c hc=>h1 c (by simp[hc])) (fun c hc=>h2 c (by simp[hc])) h
theorem Cf(s:ByteArray)(hd:∀j,j<s.size->jY (eL s j)=true):∀k,k<=s.size->wb s k=(j7 (s.data.toList.take k) 0:Nat)
 |0,_=>by simp[wb,j7]
 |k+1,hk=>by
  have hk':k<s.data.toList.length:=by simp;omega
  have h1:=hd k jB;simp only[jY,Bool.and_eq_true,decide_eq_true_eq]at h1;rw[zL]at h1;rw[wb,Cf s hd k jB,List.take_succ_eq_append_getElem hk',Ij,zL];have:s.data.toList.getD k 0=s.data.toList[k]:=by rw[List.getD_eq_getElem?_getD,List.getElem?_eq_getElem hk'];rfl
  rw[this]at h1 ⊢;omega
variable{s:ByteArray}
theorem Dc(h:qu s):∀c∈s.data.toList,48<=c.toNat/\c.toNat<=57:=fun c hc=>by obtain⟨k,hk,rfl⟩:=List.getElem_of_mem hc;have:=h.2.2 k (by simpa using hk);simp only[jY,Bool.and_eq_true,decide_eq_true_eq]at this;rw[zL,List.getD_eq_getElem?_getD,List.getElem?_eq_getElem hk]at this;simp only[Option.getD_some]at this;omega
theorem F6(h:qu s):j7 s.data.toList 0<=9223372036854775807:=by
 have hd:=Dc h;have hn:=h.2.1;have hl:=A9 s.data.toList 0 hd;have hlen:s.data.toList.length=s.size:=jE;unfold xd at hn;simp only[Bool.or_eq_true,decide_eq_true_eq,Bool.and_eq_true]at hn;rcases hn with hn|⟨hn,h2|h2⟩
 ·have:10 ^ s.data.toList.length<=10 ^ 18:=Nat.pow_le_pow_right jB (by rw[hlen];omega);simp only[Nat.zero_add,Nat.one_mul]at hl;omega
 ·have e:s.toList=s.data.toList:=ByteArray.toList_eq s;have:=Hl s.data.toList [57,50,50,51,51,55,50,48,51,54,56,53,52,55,55,53,56,48,55] 0 (by rw[hlen];simp;omega) hd jC (by rw[<-e,show[57,50,50,51,51,55,50,48,51,54,56,53,52,55,55,53,56,48,55]=(⟨#[57,50,50,51,51,55,50,48,51,54,56,53,52,55,55,53,56,48,55]⟩:ByteArray).toList by rw[ByteArray.toList_eq]];exact h2);have e2:j7 [57,50,50,51,51,55,50,48,51,54,56,53,52,55,55,53,56,48,55] 0=9223372036854775807:=jC;omega
 ·subst h2;decide
theorem Ng(h:qu s):Lib.atoiAll s.data.toList=.ok (pj s):=by
 have hd:=Dc h;have hle:=F6 h;have hnum:pj s=(j7 s.data.toList 0:Nat):=by unfold pj;rw[Cf s h.2.2 _ jl,List.take_of_length_le jE]
 have hp:=GR s.data.toList 0 hd hle;have hpos:=h.1;cases hs:s.data.toList with
 |nil=> have:s.data.toList.length=s.size:=jE;rw[hs]at this;simp at this;omega
 |cons c l=> rw[hs]at hd hp hnum hle;have hc:=hd c jE;simp only[Lib.atoiAll];rw[jN];simp only[Lib.parseMag,List.cons_ne_nil,if_false,hp,reduceCtorEq];rw[jN,jN,jN,hnum]
theorem P2(s:ByteArray)(h:qu s):eG prog 291 [rS s] (.bj [rI (pj s),.raw .nilIface]):=by
 have hs:s.size<=9223372036854775806:=by have hn:=h.2.1;unfold xd at hn;simp only[Bool.or_eq_true,decide_eq_true_eq,Bool.and_eq_true]at hn;omega
 refine EI [.string s] (.tuple #[.int .i64 (pj s),.nilIface]) rfl (fun w=>?_) fun w=>?_
 ·exact .bj _ _ rfl fun i a v ha hv=>by
   match i with
   |0=>simp at ha hv;subst ha hv;exact .raw _
   |1=>simp at ha hv;subst ha hv;exact .raw _
   |i+2=>simp at ha
 ·refine(Tryz.strconv_Atoi_ok s hs (pj s) (Ng h) w).mono ?_;rintro e W ⟨rfl,hW⟩;refine⟨rfl,?_⟩;rcases hW with rfl|⟨t,rfl⟩
  ·exact RowKit.Below.refl _ _
  ·exact Lib.bytesWorld_below _ _ _
theorem On(n:Nat)(hc:zi n):Bf (n+1):=by
 intro r h hn;have hil:=h.lt;have hip:=h.pos;have hin:=h.len;have hin':(r.l.length:Int)<=2000:=jB;have hch:∀q:Rd,q.Inv->8*q.rem+8<=n->aj prog 248 [pR] (cr q) (fun v l=>v=rI (dV n 0 q).2/\l=cr (dV n 0 q).1):=fun q hq hm=>by
  have:=hc 0 q jB hq jB;refine aT func248 ntmps248 ?_
  (refine S ?_;try exact jI)
  (repeat' (first|refine aB fun K hK=>?_|refine aC ?_|(refine hK _ _ ?_;clear hK K)|(refine aA ?_ ?_<;>intro hc<;>try exact jz)|refine cm (this) ?_|refine aD ?_|exact jI|(clear hK K)))
  (refine bW [.tmp 2] ?_ ?_<;>(try simp only[go_sem]))
 have bs:∀(q:Rd) (t u:ByteArray),q.Inv->q.e=0->q.down.Inv/\(q.down.ap t).Inv/\(dV n 0 (q.down.ap t)).1.Inv/\((dV n 0 (q.down.ap t)).1.ap u).Inv/\((dV n 0 (q.down.ap t)).1.ap u).up.Inv/\(q.down.ap t).rem<=q.rem:=fun q t u hq he=>by have h1:=(Rd.bK hq he).1;have s1:=Rd.aM h1 t;have h2:=s1.inv h1;have s2:=(rG n).2.2.1 0 _ h2;have h3:=s2.inv h2;have s3:=Rd.aM h3 u;refine⟨h1,h2,h3,s3.inv h3,(Rd.fq hq he ((s1.trans s2).trans s3)).inv hq,Nat.le_trans s1.rem ?_⟩;have hd:=Rd.bK hq he;unfold Rd.rem;rw[if_pos he,hd.2.2.1,hd.2.2.2.1];split<;>omega
 rw[qm];by_cases he:r.e≠0
 ·rw[if_pos he];refine aT func289 ntmps289 ?_
  (refine S ?_;try exact jI)
  (repeat' (first|refine aB fun K hK=>?_|refine aC ?_|(with_reducible refine gR 2 ?_);refine dE 2 [0,1,2,3,4,5,6,7,8,9,10,11] mixed ?_|(refine hK _ _ ?_;clear hK K)|(refine aA ?_ ?_<;>intro hc<;>try exact jz)|refine cm (gT r (bw h)) ?_|refine aD ?_|exact jI|(clear hK K)))
  (refine bH [.tmp 2] ?_;try simp only[go_sem])
 rw[if_neg he];have he:r.e=0:=jB;have hinc:r.tok.kind≠0->r.inc.Inv/\r.inc.rem+1<=r.rem/\r.i+1<r.l.length:=fun hk=>⟨(Rd.bn h hk).1.inv h,Rd.cX h ⟨he,hk⟩,Rd.behind h hk⟩
 by_cases hk1:r.tok.kind=1
 ·rw[if_pos hk1];obtain⟨hi,_,hb⟩:=hinc jB;have hnt:=h.num r.i.toNat jB hk1;have hk1':(nth r.l r.i.toNat).kind=1:=hk1;refine aT func289 ntmps289 ?_
  (refine S ?_;try exact jI)
  (have W:=jA he (hk1');repeat' (first|refine aB fun K hK=>?_|refine aC ?_|(with_reducible refine gR 2 ?_);refine dE 2 [0,1,2,3,4,5,6,7,8,9,10,11] mixed ?_|(refine hK _ _ ?_;clear hK K)|(refine aA ?_ ?_<;>intro hc<;>try exact jz)|refine cm (gT r (bw h)) ?_|refine cp (P2 _ hnt) ?_|refine cm (lf r.inc _ _ _ _ [] _ gB.nil (bw hi)) ?_|refine aD ?_|exact jI|(clear hK K)));all_goals(try clear W)
  (refine bH [.tmp 2] ?_;try simp only[go_sem])
  all_goals rfl
 rw[if_neg hk1];have hk1':¬(nth r.l r.i.toNat).kind=1:=hk1;by_cases hk2:r.tok.kind=2
 ·rw[if_pos hk2];obtain⟨hi,_,hb⟩:=hinc jB;have hk2':(nth r.l r.i.toNat).kind=2:=hk2;refine aT func289 ntmps289 ?_
  (refine S ?_;try exact jI)
  (have W:=jA he (hk2');repeat' (first|refine aB fun K hK=>?_|refine aC ?_|(with_reducible refine gR 2 ?_);refine dE 2 [0,1,2,3,4,5,6,7,8,9,10,11] mixed ?_|(refine hK _ _ ?_;clear hK K)|(refine aA ?_ ?_<;>intro hc<;>try exact jz)|refine cm (gT r (bw h)) ?_|refine cm (lf r.inc _ _ _ _ [] _ gB.nil (bw hi)) ?_|refine aD ?_|exact jI|(clear hK K)));all_goals(try clear W)
  (refine bH [.tmp 2] ?_;try simp only[go_sem])
  all_goals rfl
 rw[if_neg hk2];have hk2':¬(nth r.l r.i.toNat).kind=2:=hk2;by_cases hk3:r.tok.kind=3
 ·rw[if_pos hk3];obtain⟨hi,hr,hb⟩:=hinc jB;have hk3':(nth r.l r.i.toNat).kind=3:=hk3;by_cases hx:r.inc.is (⟨#[91]⟩:ByteArray)=true
  ·rw[if_pos hx];obtain⟨d1,d2,d3,d4,d5,d6⟩:=bs r.inc (⟨#[91]⟩:ByteArray) (⟨#[93]⟩:ByteArray) hi he;have d4l:=d4.oT;have d4h:=d4.pM;refine aT func289 ntmps289 ?_
   (refine S ?_;try exact jI)
   (have W:=jA he (jA hk3' (hx));repeat' (first|refine aB fun K hK=>?_|refine aC ?_|(with_reducible refine gR 2 ?_);refine dE 2 [0,1,2,3,4,5,6,7,8,9,10,11] mixed ?_|(refine hK _ _ ?_;clear hK K)|(refine aA ?_ ?_<;>intro hc<;>try exact jz)|refine cm (gT r (bw h)) ?_|refine cm (gk r.inc _ (bw hi)) ?_|refine cm (tG r.inc (bw hi)) ?_|refine cm (iF r.inc.down _ (bw d1)) ?_|refine cm (hch (r.inc.down.ap (⟨#[91]⟩:ByteArray)) d2 jB) ?_|refine cm (iF (dV n 0 (r.inc.down.ap (⟨#[91]⟩:ByteArray))).1 _ (bw d3)) ?_|refine cm (lf ((dV n 0 (r.inc.down.ap (⟨#[91]⟩:ByteArray))).1.ap (⟨#[93]⟩:ByteArray)).up _ _ _ _ [(dV n 0 (r.inc.down.ap (⟨#[91]⟩:ByteArray))).2] _ gB.sl (bw d5)) ?_|refine aD ?_|exact jI|(clear hK K)));all_goals(try clear W)
   (refine bH [.tmp 2] ?_;try simp only[go_sem])
   all_goals rfl
  ·rw[if_neg hx];have hx':r.inc.is (⟨#[91]⟩:ByteArray)=false:=by simpa using hx
   refine aT func289 ntmps289 ?_
   (refine S ?_;try exact jI)
   (have W:=jA he (jA hk3' (hx'));repeat' (first|refine aB fun K hK=>?_|refine aC ?_|(with_reducible refine gR 2 ?_);refine dE 2 [0,1,2,3,4,5,6,7,8,9,10,11] mixed ?_|(refine hK _ _ ?_;clear hK K)|(refine aA ?_ ?_<;>intro hc<;>try exact jz)|refine cm (gT r (bw h)) ?_|refine cm (gk r.inc _ (bw hi)) ?_|refine cm (lf r.inc _ _ _ _ [] _ gB.nil (bw hi)) ?_|refine aD ?_|exact jI|(clear hK K)));all_goals(try clear W)
   (refine bH [.tmp 2] ?_;try simp only[go_sem])
   all_goals rfl
 rw[if_neg hk3];have hk3':¬(nth r.l r.i.toNat).kind=3:=hk3;by_cases ht:r.is (⟨#[116,114,117,101]⟩:ByteArray)=true
 ·rw[if_pos ht];obtain⟨hi,hr,hb⟩:=hinc (Rd.aU ht).2;refine aT func289 ntmps289 ?_
  (refine S ?_;try exact jI)
  (have W:=jA he (jA ht (jA hk1' (jA hk2' (hk3'))));repeat' (first|refine aB fun K hK=>?_|refine aC ?_|(with_reducible refine gR 2 ?_);refine dE 2 [0,1,2,3,4,5,6,7,8,9,10,11] mixed ?_|(refine hK _ _ ?_;clear hK K)|(refine aA ?_ ?_<;>intro hc<;>try exact jz)|refine cm (gT r (bw h)) ?_|refine cm (gk r _ (bw h)) ?_|refine cm (lf r.inc _ _ _ _ [] _ gB.nil (bw hi)) ?_|refine aD ?_|exact jI|(clear hK K)));all_goals(try clear W)
  (refine bH [.tmp 2] ?_;try simp only[go_sem])
 rw[if_neg ht];have ht':r.is (⟨#[116,114,117,101]⟩:ByteArray)=false:=by simpa using ht
 by_cases hf:r.is (⟨#[102,97,108,115,101]⟩:ByteArray)=true
 ·rw[if_pos hf];obtain⟨hi,hr,hb⟩:=hinc (Rd.aU hf).2;refine aT func289 ntmps289 ?_
  (refine S ?_;try exact jI)
  (have W:=jA he (jA ht' (jA hf (jA hk1' (jA hk2' (hk3')))));repeat' (first|refine aB fun K hK=>?_|refine aC ?_|(with_reducible refine gR 2 ?_);refine dE 2 [0,1,2,3,4,5,6,7,8,9,10,11] mixed ?_|(refine hK _ _ ?_;clear hK K)|(refine aA ?_ ?_<;>intro hc<;>try exact jz)|refine cm (gT r (bw h)) ?_|refine cm (gk r _ (bw h)) ?_|refine cm (lf r.inc _ _ _ _ [] _ gB.nil (bw hi)) ?_|refine aD ?_|exact jI|(clear hK K)));all_goals(try clear W)
  (refine bH [.tmp 2] ?_;try simp only[go_sem])
 rw[if_neg hf];have hf':r.is (⟨#[102,97,108,115,101]⟩:ByteArray)=false:=by simpa using hf
 by_cases hl:r.is (⟨#[108,101,110]⟩:ByteArray)=true
 ·rw[if_pos hl];obtain⟨hi,hr,hb⟩:=hinc (Rd.aU hl).2;by_cases hx:r.inc.is (⟨#[40]⟩:ByteArray)=true
  ·rw[if_pos hx];obtain⟨d1,d2,d3,d4,d5,d6⟩:=bs r.inc (⟨#[40]⟩:ByteArray) (⟨#[41]⟩:ByteArray) hi he;have d4l:=d4.oT;have d4h:=d4.pM;refine aT func289 ntmps289 ?_
   (refine S ?_;try exact jI)
   (have W:=jA he (jA ht' (jA hf' (jA hl (jA hk1' (jA hk2' (jA hk3' (hx)))))));repeat' (first|refine aB fun K hK=>?_|refine aC ?_|(with_reducible refine gR 2 ?_);refine dE 2 [0,1,2,3,4,5,6,7,8,9,10,11] mixed ?_|(refine hK _ _ ?_;clear hK K)|(refine aA ?_ ?_<;>intro hc<;>try exact jz)|refine cm (gT r (bw h)) ?_|refine cm (gk r _ (bw h)) ?_|refine cm (gk r.inc _ (bw hi)) ?_|refine cm (tG r.inc (bw hi)) ?_|refine cm (iF r.inc.down _ (bw d1)) ?_|refine cm (hch (r.inc.down.ap (⟨#[40]⟩:ByteArray)) d2 jB) ?_|refine cm (iF (dV n 0 (r.inc.down.ap (⟨#[40]⟩:ByteArray))).1 _ (bw d3)) ?_|refine cm (lf ((dV n 0 (r.inc.down.ap (⟨#[40]⟩:ByteArray))).1.ap (⟨#[41]⟩:ByteArray)).up _ _ _ _ [(dV n 0 (r.inc.down.ap (⟨#[40]⟩:ByteArray))).2] _ gB.sl (bw d5)) ?_|refine aD ?_|exact jI|(clear hK K)));all_goals(try clear W)
   (refine bH [.tmp 2] ?_;try simp only[go_sem])
  ·rw[if_neg hx];have hx':r.inc.is (⟨#[40]⟩:ByteArray)=false:=by simpa using hx
   refine aT func289 ntmps289 ?_
   (refine S ?_;try exact jI)
   (have W:=jA he (jA ht' (jA hf' (jA hl (jA hk1' (jA hk2' (jA hk3' (hx')))))));repeat' (first|refine aB fun K hK=>?_|refine aC ?_|(with_reducible refine gR 2 ?_);refine dE 2 [0,1,2,3,4,5,6,7,8,9,10,11] mixed ?_|(refine hK _ _ ?_;clear hK K)|(refine aA ?_ ?_<;>intro hc<;>try exact jz)|refine cm (gT r (bw h)) ?_|refine cm (gk r _ (bw h)) ?_|refine cm (gk r.inc _ (bw hi)) ?_|refine cm (ui r.inc _ (bw hi)) ?_|refine aD ?_|exact jI|(clear hK K)));all_goals(try clear W)
   (refine bH [.tmp 2] ?_;try simp only[go_sem])
 rw[if_neg hl];have hl':r.is (⟨#[108,101,110]⟩:ByteArray)=false:=by simpa using hl
 by_cases hx:r.is (⟨#[40]⟩:ByteArray)=true
 ·rw[if_pos hx];obtain⟨hi,hr,hb⟩:=hinc (Rd.aU hx).2;obtain⟨d1,d2,d3,d4,d5,d6⟩:=bs r (⟨#[40]⟩:ByteArray) (⟨#[41]⟩:ByteArray) h he;have d4l:=d4.oT;have d4h:=d4.pM;have d7:(r.down.ap (⟨#[40]⟩:ByteArray)).rem+1<=r.rem:=by
   have hdn:=Rd.bK h he;unfold Rd.rem;rw[if_pos he];have hl2:(r.down.ap (⟨#[40]⟩:ByteArray)).l=r.l:=(Rd.aM d1 _).l.trans hdn.2.2.2.1;rw[hl2];by_cases hq:r.down.is (⟨#[40]⟩:ByteArray)=true
   ·have:r.down.ap (⟨#[40]⟩:ByteArray)=r.down.inc:=by unfold Rd.ap;rw[if_pos hq]
    rw[this];have:r.down.inc.i=r.i+1:=by show r.down.i+1=_;rw[hdn.2.2.1]
    rw[this];split<;>omega
   ·have hm:r.down.ap (⟨#[40]⟩:ByteArray)=r.down.aF 20:=by unfold Rd.ap;rw[if_neg hq]
    rw[hm];have:(r.down.aF 20).e≠0:=by
     unfold Rd.aF;split
     ·show(20:Int)≠0;decide
     ·assumption
    rw[if_neg this];omega
  refine aT func289 ntmps289 ?_
  (refine S ?_;try exact jI)
  (have W:=jA he (jA ht' (jA hf' (jA hl' (jA hk1' (jA hk2' (jA hk3' (hx)))))));repeat' (first|refine aB fun K hK=>?_|refine aC ?_|(with_reducible refine gR 2 ?_);refine dE 2 [0,1,2,3,4,5,6,7,8,9,10,11] mixed ?_|(refine hK _ _ ?_;clear hK K)|(refine aA ?_ ?_<;>intro hc<;>try exact jz)|refine cm (gT r (bw h)) ?_|refine cm (gk r _ (bw h)) ?_|refine cm (tG r (bw h)) ?_|refine cm (iF r.down _ (bw d1)) ?_|refine cm (hch (r.down.ap (⟨#[40]⟩:ByteArray)) d2 jB) ?_|refine cm (iF (dV n 0 (r.down.ap (⟨#[40]⟩:ByteArray))).1 _ (bw d3)) ?_|refine aD ?_|exact jI|(clear hK K)));all_goals(try clear W)
  (refine bH [.tmp 2] ?_;try simp only[go_sem])
 rw[if_neg hx];have hx':r.is (⟨#[40]⟩:ByteArray)=false:=by simpa using hx
 refine aT func289 ntmps289 ?_
 (refine S ?_;try exact jI)
 (have W:=jA he (jA ht' (jA hf' (jA hl' (jA hk1' (jA hk2' (jA hk3' (hx')))))));repeat' (first|refine aB fun K hK=>?_|refine aC ?_|(with_reducible refine gR 2 ?_);refine dE 2 [0,1,2,3,4,5,6,7,8,9,10,11] mixed ?_|(refine hK _ _ ?_;clear hK K)|(refine aA ?_ ?_<;>intro hc<;>try exact jz)|refine cm (gT r (bw h)) ?_|refine cm (gk r _ (bw h)) ?_|refine cm (ui r _ (bw h)) ?_|refine aD ?_|exact jI|(clear hK K)));all_goals(try clear W)
 (refine bH [.tmp 2] ?_;try simp only[go_sem])
theorem zX:∀m n,n<=m->Bf n/\xK n/\zi n
 |0,0,_=>⟨fun r h hn=>by omega,fun r h hn=>by omega,fun lv r hl h hn=>by omega⟩
 |m+1,0,_=>⟨fun r h hn=>jB,fun r h hn=>jB,fun lv r hl h hn=>jB⟩
 |m+1,n+1,hm=>by obtain⟨ha,hf,hc⟩:=zX m n jB;exact⟨On n hc,O5 n ha hf,OL n hf fun k hk=>(zX m k jB).2.2⟩
theorem NX(n:Nat)(r:Rd)(h:r.Inv)(hn:8*r.rem+8<=n):aj prog 248 [pR] (cr r) (fun v l=>v=rI (dV n 0 r).2/\l=cr (dV n 0 r).1):=by
 have:=(zX n n jl).2.2 0 r jB h jB;refine aT func248 ntmps248 ?_
 (refine S ?_;try exact jI)
 (repeat' (first|refine aB fun K hK=>?_|refine aC ?_|(refine hK _ _ ?_;clear hK K)|(refine aA ?_ ?_<;>intro hc<;>try exact jz)|refine cm (this) ?_|refine aD ?_|exact jI|(clear hK K)))
 (refine bW [.tmp 2] ?_ ?_<;>(try simp only[go_sem]))
variable{r:Rd}
theorem qg(h:r.Inv):aj prog 248 [pR] (cr r) (fun v l=>v=rI (cW r).2/\l=cr (cW r).1):=NX _ r h jl
theorem Dd(h:r.Inv):aj prog 270 [pR] (cr r) (fun v l=>v=rI (mv r).2/\l=cr (mv r).1):=by
 have h1:=(Rd.df h).inv h;have h2:=(yy h).inv h;have h3:=(AX h).inv h;have h4:=(PU h).inv h;have hr0:(oF r).rem<=2000:=by have:=h2.pos;have:=h2.len;unfold Rd.rem;split<;>omega
 have hm:aj prog 145 [pR,rS (⟨#[40]⟩:ByteArray)] (cr r.name.1) (fun v l=>v=.bj []/\l=cr (oF r)):=iF r.name.1 _ (bw h1);refine aT func270 ntmps270 ?_
 (refine S ?_;try exact jI)
 (repeat' (first|refine aB fun K hK=>?_|refine aC ?_|(refine hK _ _ ?_;clear hK K)|(refine aA ?_ ?_<;>intro hc<;>try exact jz)|refine cm (gT r (bw h)) ?_|refine cm (uy r (bw h)) ?_|refine cm (hm) ?_|refine cm (gk (oF r) _ (bw h2)) ?_|refine aD ?_|exact jI|(clear hK K)))
 have hKo:=hK;clear hK;refine iV (dq.nil 2 5 3 (sz:=1) rfl jC (Or.inr ⟨_,_,_,rfl,rfl⟩)) ?_
 (refine S ?_;try exact jI)
 refine fi (S:=Nat×Bool×Rd×List Int) [(5,1),(7,2),(27,17)] (fun s=>s.2.2.1.Inv/\(s.2.1=true->s.2.2.1.rem+2<=s.1)/\1<=s.1/\s.2.2.2.length+s.1<=5000/\mM s.1 s.2.1 s.2.2.1 s.2.2.2=nI r) (fun s=>[(5,.rs 2 s.2.2.2.length 1 s.2.2.2.length),(7,rB s.2.1)]) (fun s=>⟨[0,1],cr s.2.2.1++[(2,.aL 3 1 (s.2.2.2.map eI))]⟩) (fun s=>s.1) ((oF r).rem+2,more (oF r),oF r,[]) ⟨h2,fun _=>Nat.le_refl _,jJ,by(try simp only[List.length_nil]);omega,rfl⟩ (fj rfl (by simp only[go_sem,jR,Nat.reduceAdd,AV.raw.injEq,Value.int.injEq,Value.slice.injEq,Value.pointer.injEq,AV.rs.injEq,more,List.length_nil];try omega)) ?_;rintro⟨n,b,q,L⟩ ⟨hq,hn1,hn2,hn3,hA⟩ Kr hKr;simp only at hq hn1 hn2 hn3 hA;have hqi:=hq.lt;have hqp:=hq.pos;have hql:=hq.len;obtain⟨n,rfl⟩:∃k,n=k+1:=⟨n-1,jB⟩;cases b with
 |false=>
  rw[mM]at hA;have e1:q=(nI r).1:=by rw[<-hA]
  have e2:L=(nI r).2:=by rw[<-hA]
  rw[<-e1]at h4
  (refine S ?_;try exact jI)
  (repeat' (first|refine aB fun K hK=>?_|refine aC ?_|(refine hK _ _ ?_;clear hK K)|(refine aA ?_ ?_<;>intro hc<;>try exact jz)|refine aD ?_|exact jI|(clear hK K)))
  refine hKo _ _ ?_;refine HZ [2] 5 (bp eI 1 L) Sd Sd ki ?_
  (refine S ?_;try exact jI)
  (repeat' (first|refine aB fun K hK=>?_|refine aC ?_|(refine hK _ _ ?_;clear hK K)|(refine aA ?_ ?_<;>intro hc<;>try exact jz)|refine cm (iF q _ (bw hq)) ?_|refine cm (xw (q.ap (⟨#[41]⟩:ByteArray)) _ _ _ _ L (bw h4)) ?_|refine aD ?_|exact jI|(clear hK K)))
  (refine bW [.tmp 2] ?_ ?_<;>(try simp only[go_sem]))
  ·unfold mv;rw[<-e1,<-e2]
  ·unfold mv;rw[<-e1,<-e2]
 |true=>
  have s1:=jM hq;have hx:=s1.inv hq;have hr1:=s1.rem;have hxi:=hx.lt;have hxp:=hx.pos;have hxl:=hx.len;have hn1:=hn1 rfl;rw[mM]at hA
  (refine S ?_;try exact jI)
  (repeat' (first|refine aB fun K hK=>?_|refine aC ?_|(refine hK _ _ ?_;clear hK K)|(refine aA ?_ ?_<;>intro hc<;>try exact jz)|refine cm (qg hq) ?_|refine cm (gk (cW q).1 _ (bw hx)) ?_|refine aD ?_|exact jI|(clear hK K)))
  ·rw[if_pos hc]at hA;have hk:=Rd.aU hc;have hr2:=Rd.cX hx hk;refine hKr _ _ (fw (n,true,(cW q).1.inc,L++[(cW q).2]) ⟨(Rd.bn hx hk.2).1.inv hx,fun _=>jJ,jJ,by(try simp only[List.length_append,List.length_cons,List.length_nil]);omega,hA⟩ jJ (by simp only[go_sem,cr,hJ,List.map_append,List.map_cons,List.map_nil,List.cons_append,List.nil_append];(try rfl)) (by simp only[go_sem,jR,Nat.reduceAdd,AV.raw.injEq,Value.int.injEq,Value.slice.injEq,Value.pointer.injEq,AV.rs.injEq,hc,List.length_append,List.length_cons,List.length_nil];try omega))
  ·rw[if_neg (by rw[hc];decide)]at hA;refine hKr _ _ (fw (n,false,(cW q).1,L++[(cW q).2]) ⟨hx,(by intro h;cases h),jJ,by(try simp only[List.length_append,List.length_cons,List.length_nil]);omega,?_⟩ jJ (by simp only[go_sem,cr,hJ,List.map_append,List.map_cons,List.map_nil,List.cons_append,List.nil_append];(try rfl)) (by simp only[go_sem,jR,Nat.reduceAdd,AV.raw.injEq,Value.int.injEq,Value.slice.injEq,Value.pointer.injEq,AV.rs.injEq,hc,List.length_append,List.length_cons,List.length_nil];try omega));rw[<-hA];obtain⟨n,rfl⟩:∃k,n=k+1:=⟨n-1,jB⟩;rw[mM]
theorem xq(h:r.Inv):aj prog 269 [pR] (cr r) (fun v l=>v=rB r.calls/\l=cr r):=Oj r (bw h) (fun hk=>Rd.behind h (Rd.dJ hk jC).2)
theorem Hc(h:r.Inv):aj prog 247 [pR] (cr r) (fun v l=>v=rI (lr r).2/\l=cr (lr r).1):=by
 have hri:=h.lt;have hrp:=h.pos;have hrl:=h.len;have hinc:r.tok.kind≠0->r.inc.Inv:=fun hk=>(Rd.bn h hk).1.inv h
 by_cases hx:r.is (⟨#[105,110,112,117,116]⟩:ByteArray)=true
 ·have hi:=hinc (Rd.aU hx).2;rw[lr,if_pos hx];refine aT func247 ntmps247 ?_
  (refine S ?_;try exact jI)
  (have W:=hx;repeat' (first|refine aB fun K hK=>?_|refine aC ?_|(refine hK _ _ ?_;clear hK K)|(refine aA ?_ ?_<;>intro hc<;>try exact jz)|refine cm (gT r (bw h)) ?_|refine cm (gk r _ (bw h)) ?_|refine cm (lf r.inc _ _ _ _ [] _ gB.nil (bw hi)) ?_|refine aD ?_|exact jI|(clear hK K)));all_goals(try clear W)
  (refine bW [.tmp 2] ?_ ?_<;>(try simp only[go_sem]))
 rw[lr,if_neg hx];have hx':r.is (⟨#[105,110,112,117,116]⟩:ByteArray)=false:=by simpa using hx
 by_cases hy:r.is (⟨#[110,101,119]⟩:ByteArray)=true
 ·have hi:=hinc (Rd.aU hy).2;have h1:=(Rd.aM hi (⟨#[40]⟩:ByteArray)).inv hi;have h2:=(jM h1).inv h1;have h3:=(Rd.aM h2 (⟨#[41]⟩:ByteArray)).inv h2;rw[if_pos hy];refine aT func247 ntmps247 ?_
  (refine S ?_;try exact jI)
  (have W:=jA hx' hy;repeat' (first|refine aB fun K hK=>?_|refine aC ?_|(refine hK _ _ ?_;clear hK K)|(refine aA ?_ ?_<;>intro hc<;>try exact jz)|refine cm (gT r (bw h)) ?_|refine cm (gk r _ (bw h)) ?_|refine cm (iF r.inc _ (bw hi)) ?_|refine cm (qg h1) ?_|refine cm (iF (cW (r.inc.ap (⟨#[40]⟩:ByteArray))).1 _ (bw h2)) ?_|refine cm (lf ((cW (r.inc.ap (⟨#[40]⟩:ByteArray))).1.ap (⟨#[41]⟩:ByteArray)) _ _ _ _ [(cW (r.inc.ap (⟨#[40]⟩:ByteArray))).2] _ gB.sl (bw h3)) ?_|refine aD ?_|exact jI|(clear hK K)));all_goals(try clear W)
  (refine bW [.tmp 2] ?_ ?_<;>(try simp only[go_sem]))
 rw[if_neg hy];have hy':r.is (⟨#[110,101,119]⟩:ByteArray)=false:=by simpa using hy
 by_cases hcl:r.calls=true
 ·rw[if_pos hcl];refine aT func247 ntmps247 ?_
  (refine S ?_;try exact jI)
  (have W:=jA hx' (jA hy' (hcl));repeat' (first|refine aB fun K hK=>?_|refine aC ?_|(refine hK _ _ ?_;clear hK K)|(refine aA ?_ ?_<;>intro hc<;>try exact jz)|refine cm (gT r (bw h)) ?_|refine cm (gk r _ (bw h)) ?_|refine cm (xq h) ?_|refine cm (Dd h) ?_|refine aD ?_|exact jI|(clear hK K)));all_goals(try clear W)
  (refine bW [.tmp 2] ?_ ?_<;>(try simp only[go_sem]))
 ·rw[if_neg hcl];have hc':r.calls=false:=by simpa using hcl
  refine aT func247 ntmps247 ?_
  (refine S ?_;try exact jI)
  (have W:=jA hx' (jA hy' (hc'));repeat' (first|refine aB fun K hK=>?_|refine aC ?_|(refine hK _ _ ?_;clear hK K)|(refine aA ?_ ?_<;>intro hc<;>try exact jz)|refine cm (gT r (bw h)) ?_|refine cm (gk r _ (bw h)) ?_|refine cm (xq h) ?_|refine cm (qg h) ?_|refine aD ?_|exact jI|(clear hK K)));all_goals(try clear W)
  (refine bW [.tmp 2] ?_ ?_<;>(try simp only[go_sem]))
theorem LP(h:r.Inv)(he:r.e=0)(ln:Int):aj prog 249 [pR,rI ln] (cr r) (fun v l=>v=rI (pP r ln).2/\l=cr (pP r ln).1):=by
 have hri:=h.lt;have hrp:=h.pos;have hrl:=h.len;by_cases hcl:r.calls=true
 ·have h1:=(Bp h hcl).1.inv h;have h2:=(Rd.aM h1 (⟨#[59]⟩:ByteArray)).inv h1;rw[pP,if_pos hcl];refine aT func249 ntmps249 ?_
  (refine S ?_;try exact jI)
  (have W:=hcl;repeat' (first|refine aB fun K hK=>?_|refine aC ?_|(refine hK _ _ ?_;clear hK K)|(refine aA ?_ ?_<;>intro hc<;>try exact jz)|refine cm (xq h) ?_|refine cm (Dd h) ?_|refine cm (iF (mv r).1 _ (bw h1)) ?_|refine cm (lf ((mv r).1.ap (⟨#[59]⟩:ByteArray)) _ _ _ _ [(mv r).2] _ gB.sl (bw h2)) ?_|refine aD ?_|exact jI|(clear hK K)));all_goals(try clear W)
  (refine bW [.tmp 4] ?_ ?_<;>(try simp only[go_sem]))
 rw[pP,if_neg hcl];have hc':r.calls=false:=by simpa using hcl
 have h0:=(Rd.df h).inv h;by_cases hx:r.name.1.is (⟨#[91]⟩:ByteArray)=true
 ·rw[if_pos hx];have d0:=(Rd.bK h0 (Rd.aU hx).1).1;have d1:=(Rd.aM d0 (⟨#[91]⟩:ByteArray)).inv d0;have d2:=(jM d1).inv d1;have d3:=(Rd.aM d2 (⟨#[93]⟩:ByteArray)).inv d2;have d4:=(AK h0 hx).2.inv h0;have d5:=(xU h0 hx).1.inv h0;have d6:=(xU h0 hx).2.inv h0;have d7:=(Rd.aM d6 (⟨#[59]⟩:ByteArray)).inv d6;have d3l:=d3.oT;have d3h:=d3.pM;unfold uP oE at*;refine aT func249 ntmps249 ?_
  (refine S ?_;try exact jI)
  (have W:=jA hc' hx;repeat' (first|refine aB fun K hK=>?_|refine aC ?_|(refine hK _ _ ?_;clear hK K)|(refine aA ?_ ?_<;>intro hc<;>try exact jz)|refine cm (xq h) ?_|refine cm (uy r (bw h)) ?_|refine cm (gk r.name.1 _ (bw h0)) ?_|refine cm (tG r.name.1 (bw h0)) ?_|refine cm (iF r.name.1.down _ (bw d0)) ?_|refine cm (qg d1) ?_|refine cm (iF (cW (r.name.1.down.ap (⟨#[91]⟩:ByteArray))).1 _ (bw d2)) ?_|refine cm (iF ((cW (r.name.1.down.ap (⟨#[91]⟩:ByteArray))).1.ap (⟨#[93]⟩:ByteArray)).up _ (bw d4)) ?_|refine cm (qg d5) ?_|refine cm (iF (cW (((cW (r.name.1.down.ap (⟨#[91]⟩:ByteArray))).1.ap (⟨#[93]⟩:ByteArray)).up.ap (⟨#[61]⟩:ByteArray))).1 _ (bw d6)) ?_|refine cm (lf ((cW (((cW (r.name.1.down.ap (⟨#[91]⟩:ByteArray))).1.ap (⟨#[93]⟩:ByteArray)).up.ap (⟨#[61]⟩:ByteArray))).1.ap (⟨#[59]⟩:ByteArray)) _ _ _ _ [(cW (r.name.1.down.ap (⟨#[91]⟩:ByteArray))).2,(cW (((cW (r.name.1.down.ap (⟨#[91]⟩:ByteArray))).1.ap (⟨#[93]⟩:ByteArray)).up.ap (⟨#[61]⟩:ByteArray))).2] _ gB.sl (bw d7)) ?_|refine aD ?_|exact jI|(clear hK K)));all_goals(try clear W)
  (refine bW [.tmp 4] ?_ ?_<;>(try simp only[go_sem]))
 ·rw[if_neg hx];have hx':r.name.1.is (⟨#[91]⟩:ByteArray)=false:=by simpa using hx
  have d1:=(Rd.aM h0 (⟨#[61]⟩:ByteArray)).inv h0;have d2:=(zq d1).inv d1;have d3:=(Rd.aM d2 (⟨#[59]⟩:ByteArray)).inv d2;refine aT func249 ntmps249 ?_
  (refine S ?_;try exact jI)
  (have W:=jA hc' (hx');repeat' (first|refine aB fun K hK=>?_|refine aC ?_|(refine hK _ _ ?_;clear hK K)|(refine aA ?_ ?_<;>intro hc<;>try exact jz)|refine cm (xq h) ?_|refine cm (uy r (bw h)) ?_|refine cm (gk r.name.1 _ (bw h0)) ?_|refine cm (iF r.name.1 _ (bw h0)) ?_|refine cm (Hc d1) ?_|refine cm (iF (lr (r.name.1.ap (⟨#[61]⟩:ByteArray))).1 _ (bw d2)) ?_|refine cm (lf ((lr (r.name.1.ap (⟨#[61]⟩:ByteArray))).1.ap (⟨#[59]⟩:ByteArray)) _ _ _ _ [(lr (r.name.1.ap (⟨#[61]⟩:ByteArray))).2] _ gB.sl (bw d3)) ?_|refine aD ?_|exact jI|(clear hK K)));all_goals(try clear W)
  (refine bW [.tmp 4] ?_ ?_<;>(try simp only[go_sem]))
theorem Ot(w:ByteArray):eG prog 212 [rS w] (rI (rz w)):=by
 refine fm func212 ntmps212 ?_
 (repeat' (first|refine aB fun K hK=>?_|refine aC ?_|(refine hK _ _ ?_;clear hK K)|(refine aA ?_ ?_<;>intro hc<;>try exact jz)|refine aD ?_|exact jI|(clear hK K)))
 all_goals(refine bW [.tmp 2] ?_ ?_<;>(try simp only[go_sem]))
 all_goals unfold rz
 all_goals repeat' split
 all_goals first|rfl|(exfalso;simp_all;done)
theorem Fp(h:r.Inv):aj prog 148 [pR] (cr r) (fun v l=>v=rI (iP r).2/\l=cr (iP r).1):=by
 have hri:=h.lt;have hrp:=h.pos;have hrl:=h.len;refine aT func148 ntmps148 ?_
 (refine S ?_;try exact jI)
 (repeat' (first|refine aB fun K hK=>?_|refine aC ?_|(refine hK _ _ ?_;clear hK K)|(refine aA ?_ ?_<;>intro hc<;>try exact jz)|refine cm (qR r (bw h)) ?_|refine cp (Ot r.word) ?_|refine cm (ui r _ (bw h)) ?_|refine aD ?_|exact jI|(clear hK K)))
 ·(refine bW [.tmp 2] ?_ ?_<;>(try simp only[go_sem]))
  ·simp only[iP,if_pos hc]
  ·simp only[iP,if_pos hc,go_sem]
 ·(refine bW [.tmp 2] ?_ ?_<;>(try simp only[go_sem]))
  ·simp only[iP,if_neg hc]
  ·simp only[iP,if_neg hc];rfl
end Go.Proofs.YtfkgcobaheegbaaGreatDoor

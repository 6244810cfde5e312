/- Lemmas. No conditions. -/
import Derived.Test.YtghoellpinmenaaGreatDoorP2
import Derived.Test.YtghoellpinmenaaGreatDoorShelf
set_option linter.all false
set_option maxHeartbeats 8000000
set_option maxRecDepth 10000
namespace Go.Gd
open Go
def CD{P:PS}{f:FuncId}{args:PH}{r:AV}(cf:PQ)(v:Value)(ha:args=cf.map .raw)(hr:∀w:NW,ar w r v)(h:∀w:World,Calls P f cf.toArray w fun e w'=>e=.returned v/\RowKit.Below w.heap.size w w'):dO P f args r:=by
 intro w vs h1 h2;have Uu:vs=cf.toArray:=by
  apply Array.ext';apply List.ext_getElem?;intro i;obtain⟨hl,hv⟩:=h2;subst ha;by_cases hi:i<cf.length
  ·have Rx:i<vs.size:=by rw[<-hl];simpa using hi
   have:=cY (hv i (.raw cf[i]) vs[i] (by simp[hi]) (by simp[Rx]));simp[hi,Rx,this]
  ·have Rx:¬i<vs.size:=by rw[<-hl];simpa using hi
   rw[List.getElem?_eq_none (by simpa using Rx),List.getElem?_eq_none (by simpa using hi)]
 subst Uu;refine(h w.toWorld).mono ?_;rintro e W ⟨rfl,hb⟩;have ex:Ext w (entry []) (w.to W) (entry []):={ size:=hb.size,free:=fun b QX hO=>⟨hb.block b QX,hO⟩,names:=fun _ _ _ _ h=>h,os:=hb.os,tape:=hb.tape,output:=hb.output,rest:=fun b QX hO Qb=>⟨hb.block b QX,hO,Qb⟩,base:=rfl };refine⟨v,r,entry [],w.to W,rfl,rfl,⟨rfl,rfl⟩,{ rows:=fun i row hi=>(by cases hi),dr:=h1.dr,inj:=h1.inj,own:=h1.own,ca:=h1.ca.aT ex.toKeep,fin:=fun b QX=>Nat.lt_of_lt_of_le (h1.fin b QX) hb.size },hr _,ex.px⟩
variable{H:Hp}{t:PM}{cs:PH}
def Al{w:NW}(r:aH w H){j:Nat}{cs':PH}(hj:H.get j=some (.var t cs))(hl:cs'.length=cs.length)(h:∀(k:Nat) a a' v,cs[k]?=some a->cs'[k]?=some a'->ar w a v->ar w a' v):aH w (H.put j (.var t cs'))/\Ext w H w (H.put j (.var t cs')):=by
 have ex:Ext w H w (H.put j (.var t cs')):={ ExtQ.refl _ w with base:=rfl };refine⟨{ rows:=fun i s hi=>?_,dr:=fun i m z hz=>?_,inj:=r.inj,own:=r.own,fin:=r.fin,ca:=r.ca.aT ex.toKeep },ex⟩
 ·rw[Hp.aW]at hi;split at hi
  ·rename_i e;subst e;cases hi;obtain⟨h1,z,h2,h3⟩:=r.rows _ _ hj;refine⟨trivial,z,h2,?_⟩;cases z with
   |nil=>obtain⟨e,sz,h4⟩:=h3;cases h4
   |«at» b u s=>
    obtain⟨g1,cur,g2,⟨g3,g4⟩,g5⟩:=h3;refine⟨g1,cur,g2,⟨g3,by show cs'.length<=u;rw[hl];exact g4⟩,fun k a v ha hv=>?_⟩;have ha:cs'[k]?=some a:=ha;have hk:k<cs.length:=by rw[<-hl];exact(List.getElem?_eq_some_iff.1 ha).1
    exact h k cs[k] a v (List.getElem?_eq_getElem hk) ha (g5 k cs[k] v (List.getElem?_eq_getElem hk) hv)
  ·exact r.rows i s hi
 ·obtain⟨s,h1,h2⟩:=r.dr i m z hz;rw[Hp.aW];split
  ·rename_i e;subst e;rw[hj]at h1;cases h1;exact⟨_,rfl,h2⟩
  ·exact⟨s,h1,h2⟩
variable{F:PH}
def cU.fl(i j k:Nat)(e:PM)(sz:Nat)(hi:H.get i=none)(h0:0<sz)(hj:H.get j=some (.var t cs))(hk:cs[k]?=some (.raw (.slice none 0 0))):cU F H F ((H.put i (.aE e sz [])).put j (.var t (cs.set k (.rs i 0 sz 0)))):=fun w tm h1 h2=>by
 obtain⟨a,b⟩:=vr h1 hi e h0;have Vq:j≠i:=fun e=>by subst e;rw[hi]at hj;cases hj
 obtain⟨a',b'⟩:=Al (cs':=cs.set k (.rs i 0 sz 0)) a (j:=j) (t:=t) (cs:=cs) (by rw[Hp.aW,if_neg Vq];exact hj) jE fun n x x' v hx Qd hv=>by
  rw[List.getElem?_set]at Qd;by_cases hn:k=n
  ·subst hn;rw[if_pos rfl]at Qd;split at Qd
   ·cases Qd;rw[hk]at hx;cases hx;cases hv;exact .ik _ _ _ _ (NW.bU _ _ _ _)
   ·cases Qd
  ·rw[if_neg hn,hx]at Qd;cases Qd;exact hv
 exact⟨w.name i 0 .nil,rfl,a',h2.ext b,(b.trans b').px⟩
def cU.ra(j k:Nat)(hj:H.get j=some (.var t cs)):cU F H F (H.put j (.var t (cs.set k .any))):=fun w tm h1 h2=>by
 obtain⟨a',b'⟩:=Al (cs':=cs.set k .any) h1 (j:=j) (t:=t) (cs:=cs) hj jE fun n x x' v hx Qd hv=>by
  rw[List.getElem?_set]at Qd;by_cases hn:k=n
  ·subst hn;rw[if_pos rfl]at Qd;split at Qd
   ·cases Qd;exact .any _
   ·cases Qd
  ·rw[if_neg hn]at Qd;rw[hx]at Qd;cases Qd;exact hv
 exact⟨w,rfl,a',h2,b'.px⟩
def F5{P:PS}{id:Nat}{l:List Oper}{b:Bool}{Q:Exit->PD}{q:Prop}(j k:Nat){i m sz n:Nat}(h:q)(hj:H.get j=some (.var t cs):=by rfl)(hc:cs[k]?=some (.rs i m sz n):=by rfl)(e:dp P (.region id l.toArray b) Q F (H.put j (.var t (cs.set k .any)))=q:=by first|(simp only[go_sem];rfl)|rfl):dp P (.region id l.toArray b) Q F H:=gT (cU.ra j k hj) (e ▸ h)
end Go.Gd
namespace Go.Proofs.YtghoellpinmenaaGreatDoor
open Go Go.Gd Tryz
def zU(s:PL)(k:Nat):dX s k=((s.data.toList.getD k 0).toNat:Int):=by unfold dX;simp
def jS:List UInt8->Nat->Nat
 |[],a=>a
 |c::l,a=>jS l (a*10+(c.toNat-48))
theorem GY:∀(l:List UInt8) (a:Nat),a<=jS l a
 |[],a=>Nat.le_refl _
 |c::l,a=>Nat.le_trans jB (GY l _)
theorem Cu:∀(l:List UInt8) (a:Nat),(∀c∈l,48<=c.toNat/\c.toNat<=57)->jS l a<=9223372036854775807->Lib.parseUint10 a l=.ok (jS l a)
 |[],a,_,_=>rfl
 |c::l,a,h,hm=>by have hc:=h c jE;have h1:=GY l (a*10+(c.toNat-48));simp only[jS]at hm ⊢;unfold Lib.parseUint10;rw[if_pos hc,jN,jN];exact Cu l _ (fun x hx=>h x (by simp[hx])) hm
theorem Et:∀(l:List UInt8) (c:UInt8) (a:Nat),jS (l++[c]) a=jS l a*10+(c.toNat-48)
 |[],_,_=>rfl
 |_::l,c,_=>Et l c _
theorem zx:∀(l:List UInt8) (a:Nat),(∀c∈l,48<=c.toNat/\c.toNat<=57)->jS l a+1<=(a+1)*10 ^ l.length
 |[],a,_=>by simp[jS]
 |c::l,a,h=>by have hc:=h c jE;have ih:=zx l (a*10+(c.toNat-48)) (fun x hx=>h x (by simp[hx]));simp only[jS,List.length_cons,Nat.pow_succ];refine Nat.le_trans ih ?_;rw[Nat.mul_comm (10 ^ l.length) 10,<-Nat.mul_assoc];exact Nat.mul_le_mul_right _ jB
theorem CC:∀(l:List UInt8) (a:Nat),a*10 ^ l.length<=jS l a
 |[],a=>by simp[jS]
 |c::l,a=>by have ih:=CC l (a*10+(c.toNat-48));simp only[jS,List.length_cons,Nat.pow_succ];refine Nat.le_trans ?_ ih;rw[Nat.mul_comm (10 ^ l.length) 10,<-Nat.mul_assoc];exact Nat.mul_le_mul_right _ jB
theorem Cr:∀(l m:List UInt8) (a:Nat),l.length=m.length->(∀c∈l,48<=c.toNat/\c.toNat<=57)->(∀c∈m,48<=c.toNat/\c.toNat<=57)->Op.bytesLess l m=true->jS l a<jS m a
 |[],[],_,_,_,_,h=>by simp[Op.bytesLess]at h
 |[],_::_,_,hl,_,_,_=>by simp at hl
 |_::_,[],_,hl,_,_,_=>by simp at hl
 |x::l,y::m,a,hl,h1,h2,h=>by
  have hx:=h1 x jE;have hy:=h2 y jE;simp only[Op.bytesLess,Bool.or_eq_true,decide_eq_true_eq,Bool.and_eq_true,beq_iff_eq]at h;simp only[jS];rcases h with h|⟨rfl,h⟩
  ·have h:x.toNat<y.toNat:=h;have e1:=zx l (a*10+(x.toNat-48)) (fun c hc=>h1 c (by simp[hc]));have e2:=CC m (a*10+(y.toNat-48));have e3:(a*10+(x.toNat-48)+1)*10 ^ l.length<=(a*10+(y.toNat-48))*10 ^ m.length:=by
    rw[show l.length=m.length by simpa using hl];exact Nat.mul_le_mul_right _ jB
   omega
  ·exact Cr l m _ (by simpa using hl) (fun c hc=>h1 c (by simp[hc])) (fun c hc=>h2 c (by simp[hc])) h
theorem A8(s:PL)(hd:∀j,j<s.size->jg (dX s j)=true):∀k,k<=s.size->u9 s k=(jS (s.data.toList.take k) 0:Nat)
 |0,_=>by simp[u9,jS]
 |k+1,hk=>by
  have P8:k<s.data.toList.length:=by simp;omega
  have h1:=hd k jB;simp only[jg,Bool.and_eq_true,decide_eq_true_eq]at h1;rw[zU]at h1;rw[u9,A8 s hd k jB,List.take_succ_eq_append_getElem P8,Et,zU];have:s.data.toList.getD k 0=s.data.toList[k]:=by rw[List.getD_eq_getElem?_getD,List.getElem?_eq_getElem P8];rfl
  rw[this]at h1 ⊢;omega
variable{s:PL}
def DI(h:qq s):∀c∈s.data.toList,48<=c.toNat/\c.toNat<=57:=fun c hc=>by obtain⟨k,hk,rfl⟩:=List.getElem_of_mem hc;have:=h.2.2 k (by simpa using hk);simp only[jg,Bool.and_eq_true,decide_eq_true_eq]at this;rw[zU,List.getD_eq_getElem?_getD,List.getElem?_eq_getElem hk]at this;simp only[Option.getD_some]at this;omega
def Dh(h:qq s):jS s.data.toList 0<=9223372036854775807:=by
 have hd:=DI h;have hn:=h.2.1;have hl:=zx s.data.toList 0 hd;have J':s.data.toList.length=s.size:=jE;unfold vG at hn;simp only[Bool.or_eq_true,decide_eq_true_eq,Bool.and_eq_true]at hn;rcases hn with hn|⟨hn,h2|h2⟩
 ·have:10 ^ s.data.toList.length<=10 ^ 18:=Nat.pow_le_pow_right jB (by rw[J'];omega);simp only[Nat.zero_add,Nat.one_mul]at hl;omega
 ·have e:s.toList=s.data.toList:=ByteArray.toList_eq s;have:=Cr s.data.toList [57,50,50,51,51,55,50,48,51,54,56,53,52,55,55,53,56,48,55] 0 (by rw[J'];simp;omega) hd jC (by rw[<-e,show[57,50,50,51,51,55,50,48,51,54,56,53,52,55,55,53,56,48,55]=(⟨#[57,50,50,51,51,55,50,48,51,54,56,53,52,55,55,53,56,48,55]⟩:PL).toList by rw[ByteArray.toList_eq]];exact h2);have e2:jS [57,50,50,51,51,55,50,48,51,54,56,53,52,55,55,53,56,48,55] 0=9223372036854775807:=jC;omega
 ·subst h2;decide
def OL(h:qq s):Lib.atoiAll s.data.toList=.ok (oY s):=by
 have hd:=DI h;have Qa:=Dh h;have TQ:oY s=(jS s.data.toList 0:Nat):=by unfold oY;rw[A8 s h.2.2 _ jl,List.take_of_length_le jE]
 have hp:=Cu s.data.toList 0 hd Qa;have Q5:=h.1;cases hs:s.data.toList with
 |nil=> have:s.data.toList.length=s.size:=jE;rw[hs]at this;simp at this;omega
 |cons c l=> rw[hs]at hd hp TQ Qa;have hc:=hd c jE;simp only[Lib.atoiAll];rw[jN];simp only[Lib.parseMag,List.cons_ne_nil,if_false,hp,reduceCtorEq];rw[jN,jN,jN,TQ]
def Pk(s:PL)(h:qq s):dO prog 196 [rS s] (.ba [rI (oY s),.raw .nilIface]):=by
 have hs:s.size<=9223372036854775806:=by have hn:=h.2.1;unfold vG at hn;simp only[Bool.or_eq_true,decide_eq_true_eq,Bool.and_eq_true]at hn;omega
 refine CD [.string s] (.tuple #[.int .i64 (oY s),.nilIface]) rfl (fun w=>?_) fun w=>?_
 ·exact .ba _ _ rfl fun i a v ha hv=>by
   match i with
   |0=>simp at ha hv;subst ha hv;exact .raw _
   |1=>simp at ha hv;subst ha hv;exact .raw _
   |i+2=>simp at ha
 ·refine(Tryz.strconv_Atoi_ok s hs (oY s) (OL h) w).mono ?_;rintro e W ⟨rfl,hW⟩;refine⟨rfl,?_⟩;rcases hW with rfl|⟨t,rfl⟩
  ·exact RowKit.Below.refl _ _
  ·exact Lib.bytesWorld_below _ _ _
def Jx(n:Nat)(hc:wW n):BB (n+1):=by
 intro r h hn;have Rl:=h.lt;have hip:=h.pos;have Q2:=h.len;have hin':(r.l.length:Int)<=2000:=jB;have O':∀q:Rd,q.Inv->8*q.rem+8<=n->ai prog 158 [pR] (bZ q) (fun v l=>v=rI (dw n 0 q).2/\l=bZ (dw n 0 q).1):=fun q hq hm=>by
  have:=hc 0 q jB hq jB;refine aQ func158 ntmps158 ?_;refine S ?_
  (repeat' (first|refine ax fun K hK=>?_|refine az ?_|(refine hK _ _ ?_;clear hK K)|(refine aw ?_ ?_<;>intro hc<;>try exact jz)|refine cm (this) ?_|refine ay ?_|exact jI|(clear hK K)))
  (refine bQ [.tmp 2] ?_ ?_<;>(try simp only[go_sem]))
 have bM:∀(q:Rd) (t u:PL),q.Inv->q.e=0->q.down.Inv/\(q.down.ap t).Inv/\(dw n 0 (q.down.ap t)).1.Inv/\((dw n 0 (q.down.ap t)).1.ap u).Inv/\((dw n 0 (q.down.ap t)).1.ap u).up.Inv/\(q.down.ap t).rem<=q.rem:=fun q t u hq he=>by have h1:=(Rd.bC hq he).1;have s1:=Rd.aI h1 t;have h2:=s1.inv h1;have s2:=(rY n).2.2.1 0 _ h2;have h3:=s2.inv h2;have s3:=Rd.aI h3 u;refine⟨h1,h2,h3,s3.inv h3,(Rd.fk hq he ((s1.trans s2).trans s3)).inv hq,Nat.le_trans s1.rem ?_⟩;have hd:=Rd.bC hq he;unfold Rd.rem;rw[if_pos he,hd.2.2.1,hd.2.2.2.1];split<;>omega
 rw[py];by_cases he:r.e≠0
 ·rw[if_pos he];refine aQ func192 ntmps192 ?_;refine S ?_
  (repeat' (first|refine ax fun K hK=>?_|refine az ?_|(with_reducible refine gR 2 ?_);refine dE 2 (aK 0 12) mixed ?_|(refine hK _ _ ?_;clear hK K)|(refine aw ?_ ?_<;>intro hc<;>try exact jz)|refine cm (gB r (bq h)) ?_|refine ay ?_|exact jI|(clear hK K)))
  (refine bA [.tmp 2] ?_;try simp only[go_sem])
 rw[if_neg he];have he:r.e=0:=jB;have RI:r.tok.kind≠0->r.inc.Inv/\r.inc.rem+1<=r.rem/\r.i+1<r.l.length:=fun hk=>⟨(Rd.bk h hk).1.inv h,Rd.cI h ⟨he,hk⟩,Rd.behind h hk⟩
 by_cases Qg:r.tok.kind=1
 ·rw[if_pos Qg];obtain⟨hi,_,hb⟩:=RI jB;have VC:=h.num r.i.toNat jB Qg;have R9:(nth r.l r.i.toNat).kind=1:=Qg;refine aQ func192 ntmps192 ?_;refine S ?_
  (have W:=jA he (R9);repeat' (first|refine ax fun K hK=>?_|refine az ?_|(with_reducible refine gR 2 ?_);refine dE 2 (aK 0 12) mixed ?_|(refine hK _ _ ?_;clear hK K)|(refine aw ?_ ?_<;>intro hc<;>try exact jz)|refine cm (gB r (bq h)) ?_|refine cp (Pk _ VC) ?_|refine cm (kf r.inc _ _ _ _ [] _ gj.nil (bq hi)) ?_|refine ay ?_|exact jI|(clear hK K)))
  (refine bA [.tmp 2] ?_;try simp only[go_sem])
  all_goals rfl
 rw[if_neg Qg];have R9:¬(nth r.l r.i.toNat).kind=1:=Qg;by_cases P1:r.tok.kind=2
 ·rw[if_pos P1];obtain⟨hi,_,hb⟩:=RI jB;have Sa:(nth r.l r.i.toNat).kind=2:=P1;refine aQ func192 ntmps192 ?_;refine S ?_
  (have W:=jA he (Sa);repeat' (first|refine ax fun K hK=>?_|refine az ?_|(with_reducible refine gR 2 ?_);refine dE 2 (aK 0 12) mixed ?_|(refine hK _ _ ?_;clear hK K)|(refine aw ?_ ?_<;>intro hc<;>try exact jz)|refine cm (gB r (bq h)) ?_|refine cm (kf r.inc _ _ _ _ [] _ gj.nil (bq hi)) ?_|refine ay ?_|exact jI|(clear hK K)))
  (refine bA [.tmp 2] ?_;try simp only[go_sem])
  all_goals rfl
 rw[if_neg P1];have Sa:¬(nth r.l r.i.toNat).kind=2:=P1;by_cases SI:r.tok.kind=3
 ·rw[if_pos SI];obtain⟨hi,hr,hb⟩:=RI jB;have RX:(nth r.l r.i.toNat).kind=3:=SI;by_cases hx:r.inc.is (⟨#[91]⟩:PL)=true
  ·rw[if_pos hx];obtain⟨d1,d2,d3,d4,d5,d6⟩:=bM r.inc (⟨#[91]⟩:PL) (⟨#[93]⟩:PL) hi he;have d4l:=d4.od;have d4h:=d4.o3;refine aQ func192 ntmps192 ?_;refine S ?_
   (have W:=jA he (jA RX (hx));repeat' (first|refine ax fun K hK=>?_|refine az ?_|(with_reducible refine gR 2 ?_);refine dE 2 (aK 0 12) mixed ?_|(refine hK _ _ ?_;clear hK K)|(refine aw ?_ ?_<;>intro hc<;>try exact jz)|refine cm (gB r (bq h)) ?_|refine cm (ga r.inc _ (bq hi)) ?_|refine cm (sy r.inc (bq hi)) ?_|refine cm (ir r.inc.down _ (bq d1)) ?_|refine cm (O' (r.inc.down.ap (⟨#[91]⟩:PL)) d2 jB) ?_|refine cm (ir (dw n 0 (r.inc.down.ap (⟨#[91]⟩:PL))).1 _ (bq d3)) ?_|refine cm (kf ((dw n 0 (r.inc.down.ap (⟨#[91]⟩:PL))).1.ap (⟨#[93]⟩:PL)).up _ _ _ _ [(dw n 0 (r.inc.down.ap (⟨#[91]⟩:PL))).2] _ gj.sl (bq d5)) ?_|refine ay ?_|exact jI|(clear hK K)))
   (refine bA [.tmp 2] ?_;try simp only[go_sem])
   all_goals rfl
  ·rw[if_neg hx];have Qd:r.inc.is (⟨#[91]⟩:PL)=false:=by simpa using hx
   refine aQ func192 ntmps192 ?_;refine S ?_
   (have W:=jA he (jA RX (Qd));repeat' (first|refine ax fun K hK=>?_|refine az ?_|(with_reducible refine gR 2 ?_);refine dE 2 (aK 0 12) mixed ?_|(refine hK _ _ ?_;clear hK K)|(refine aw ?_ ?_<;>intro hc<;>try exact jz)|refine cm (gB r (bq h)) ?_|refine cm (ga r.inc _ (bq hi)) ?_|refine cm (kf r.inc _ _ _ _ [] _ gj.nil (bq hi)) ?_|refine ay ?_|exact jI|(clear hK K)))
   (refine bA [.tmp 2] ?_;try simp only[go_sem])
   all_goals rfl
 rw[if_neg SI];have RX:¬(nth r.l r.i.toNat).kind=3:=SI;by_cases ht:r.is (⟨#[116,114,117,101]⟩:PL)=true
 ·rw[if_pos ht];obtain⟨hi,hr,hb⟩:=RI (Rd.aR ht).2;refine aQ func192 ntmps192 ?_;refine S ?_
  (have W:=jA he (jA ht (jA R9 (jA Sa (RX))));repeat' (first|refine ax fun K hK=>?_|refine az ?_|(with_reducible refine gR 2 ?_);refine dE 2 (aK 0 12) mixed ?_|(refine hK _ _ ?_;clear hK K)|(refine aw ?_ ?_<;>intro hc<;>try exact jz)|refine cm (gB r (bq h)) ?_|refine cm (ga r _ (bq h)) ?_|refine cm (kf r.inc _ _ _ _ [] _ gj.nil (bq hi)) ?_|refine ay ?_|exact jI|(clear hK K)))
  (refine bA [.tmp 2] ?_;try simp only[go_sem])
 rw[if_neg ht];have RQ:r.is (⟨#[116,114,117,101]⟩:PL)=false:=by simpa using ht
 by_cases hf:r.is (⟨#[102,97,108,115,101]⟩:PL)=true
 ·rw[if_pos hf];obtain⟨hi,hr,hb⟩:=RI (Rd.aR hf).2;refine aQ func192 ntmps192 ?_;refine S ?_
  (have W:=jA he (jA RQ (jA hf (jA R9 (jA Sa (RX)))));repeat' (first|refine ax fun K hK=>?_|refine az ?_|(with_reducible refine gR 2 ?_);refine dE 2 (aK 0 12) mixed ?_|(refine hK _ _ ?_;clear hK K)|(refine aw ?_ ?_<;>intro hc<;>try exact jz)|refine cm (gB r (bq h)) ?_|refine cm (ga r _ (bq h)) ?_|refine cm (kf r.inc _ _ _ _ [] _ gj.nil (bq hi)) ?_|refine ay ?_|exact jI|(clear hK K)))
  (refine bA [.tmp 2] ?_;try simp only[go_sem])
 rw[if_neg hf];have Ua:r.is (⟨#[102,97,108,115,101]⟩:PL)=false:=by simpa using hf
 by_cases hl:r.is (⟨#[108,101,110]⟩:PL)=true
 ·rw[if_pos hl];obtain⟨hi,hr,hb⟩:=RI (Rd.aR hl).2;by_cases hx:r.inc.is (⟨#[40]⟩:PL)=true
  ·rw[if_pos hx];obtain⟨d1,d2,d3,d4,d5,d6⟩:=bM r.inc (⟨#[40]⟩:PL) (⟨#[41]⟩:PL) hi he;have d4l:=d4.od;have d4h:=d4.o3;refine aQ func192 ntmps192 ?_;refine S ?_
   (have W:=jA he (jA RQ (jA Ua (jA hl (jA R9 (jA Sa (jA RX (hx)))))));repeat' (first|refine ax fun K hK=>?_|refine az ?_|(with_reducible refine gR 2 ?_);refine dE 2 (aK 0 12) mixed ?_|(refine hK _ _ ?_;clear hK K)|(refine aw ?_ ?_<;>intro hc<;>try exact jz)|refine cm (gB r (bq h)) ?_|refine cm (ga r _ (bq h)) ?_|refine cm (ga r.inc _ (bq hi)) ?_|refine cm (sy r.inc (bq hi)) ?_|refine cm (ir r.inc.down _ (bq d1)) ?_|refine cm (O' (r.inc.down.ap (⟨#[40]⟩:PL)) d2 jB) ?_|refine cm (ir (dw n 0 (r.inc.down.ap (⟨#[40]⟩:PL))).1 _ (bq d3)) ?_|refine cm (kf ((dw n 0 (r.inc.down.ap (⟨#[40]⟩:PL))).1.ap (⟨#[41]⟩:PL)).up _ _ _ _ [(dw n 0 (r.inc.down.ap (⟨#[40]⟩:PL))).2] _ gj.sl (bq d5)) ?_|refine ay ?_|exact jI|(clear hK K)))
   (refine bA [.tmp 2] ?_;try simp only[go_sem])
  ·rw[if_neg hx];have Qd:r.inc.is (⟨#[40]⟩:PL)=false:=by simpa using hx
   refine aQ func192 ntmps192 ?_;refine S ?_
   (have W:=jA he (jA RQ (jA Ua (jA hl (jA R9 (jA Sa (jA RX (Qd)))))));repeat' (first|refine ax fun K hK=>?_|refine az ?_|(with_reducible refine gR 2 ?_);refine dE 2 (aK 0 12) mixed ?_|(refine hK _ _ ?_;clear hK K)|(refine aw ?_ ?_<;>intro hc<;>try exact jz)|refine cm (gB r (bq h)) ?_|refine cm (ga r _ (bq h)) ?_|refine cm (ga r.inc _ (bq hi)) ?_|refine cm (td r.inc _ (bq hi)) ?_|refine ay ?_|exact jI|(clear hK K)))
   (refine bA [.tmp 2] ?_;try simp only[go_sem])
 rw[if_neg hl];have Rc:r.is (⟨#[108,101,110]⟩:PL)=false:=by simpa using hl
 by_cases hx:r.is (⟨#[40]⟩:PL)=true
 ·rw[if_pos hx];obtain⟨hi,hr,hb⟩:=RI (Rd.aR hx).2;obtain⟨d1,d2,d3,d4,d5,d6⟩:=bM r (⟨#[40]⟩:PL) (⟨#[41]⟩:PL) h he;have d4l:=d4.od;have d4h:=d4.o3;have d7:(r.down.ap (⟨#[40]⟩:PL)).rem+1<=r.rem:=by
   have XJ:=Rd.bC h he;unfold Rd.rem;rw[if_pos he];have Qe:(r.down.ap (⟨#[40]⟩:PL)).l=r.l:=(Rd.aI d1 _).l.trans XJ.2.2.2.1;rw[Qe];by_cases hq:r.down.is (⟨#[40]⟩:PL)=true
   ·have:r.down.ap (⟨#[40]⟩:PL)=r.down.inc:=by unfold Rd.ap;rw[if_pos hq]
    rw[this];have:r.down.inc.i=r.i+1:=by show r.down.i+1=_;rw[XJ.2.2.1]
    rw[this];split<;>omega
   ·have hm:r.down.ap (⟨#[40]⟩:PL)=r.down.aC 20:=by unfold Rd.ap;rw[if_neg hq]
    rw[hm];have:(r.down.aC 20).e≠0:=by
     unfold Rd.aC;split
     ·show(20:Int)≠0;decide
     ·assumption
    rw[if_neg this];omega
  refine aQ func192 ntmps192 ?_;refine S ?_
  (have W:=jA he (jA RQ (jA Ua (jA Rc (jA R9 (jA Sa (jA RX (hx)))))));repeat' (first|refine ax fun K hK=>?_|refine az ?_|(with_reducible refine gR 2 ?_);refine dE 2 (aK 0 12) mixed ?_|(refine hK _ _ ?_;clear hK K)|(refine aw ?_ ?_<;>intro hc<;>try exact jz)|refine cm (gB r (bq h)) ?_|refine cm (ga r _ (bq h)) ?_|refine cm (sy r (bq h)) ?_|refine cm (ir r.down _ (bq d1)) ?_|refine cm (O' (r.down.ap (⟨#[40]⟩:PL)) d2 jB) ?_|refine cm (ir (dw n 0 (r.down.ap (⟨#[40]⟩:PL))).1 _ (bq d3)) ?_|refine ay ?_|exact jI|(clear hK K)))
  (refine bA [.tmp 2] ?_;try simp only[go_sem])
 rw[if_neg hx];have Qd:r.is (⟨#[40]⟩:PL)=false:=by simpa using hx
 refine aQ func192 ntmps192 ?_;refine S ?_
 (have W:=jA he (jA RQ (jA Ua (jA Rc (jA R9 (jA Sa (jA RX (Qd)))))));repeat' (first|refine ax fun K hK=>?_|refine az ?_|(with_reducible refine gR 2 ?_);refine dE 2 (aK 0 12) mixed ?_|(refine hK _ _ ?_;clear hK K)|(refine aw ?_ ?_<;>intro hc<;>try exact jz)|refine cm (gB r (bq h)) ?_|refine cm (ga r _ (bq h)) ?_|refine cm (td r _ (bq h)) ?_|refine ay ?_|exact jI|(clear hK K)))
 (refine bA [.tmp 2] ?_;try simp only[go_sem])
theorem AZ:∀m n,n<=m->BB n/\xA n/\wW n
 |0,0,_=>⟨fun r h hn=>by omega,fun r h hn=>by omega,fun lv r hl h hn=>by omega⟩
 |m+1,0,_=>⟨fun r h hn=>jB,fun r h hn=>jB,fun lv r hl h hn=>jB⟩
 |m+1,n+1,hm=>by obtain⟨ha,hf,hc⟩:=AZ m n jB;exact⟨Jx n hc,LH n ha hf,OS n hf fun k hk=>(AZ m k jB).2.2⟩
def Lb(n:Nat)(r:Rd)(h:r.Inv)(hn:8*r.rem+8<=n):ai prog 158 [pR] (bZ r) (fun v l=>v=rI (dw n 0 r).2/\l=bZ (dw n 0 r).1):=by
 have:=(AZ n n jl).2.2 0 r jB h jB;refine aQ func158 ntmps158 ?_;refine S ?_
 (repeat' (first|refine ax fun K hK=>?_|refine az ?_|(refine hK _ _ ?_;clear hK K)|(refine aw ?_ ?_<;>intro hc<;>try exact jz)|refine cm (this) ?_|refine ay ?_|exact jI|(clear hK K)))
 (refine bQ [.tmp 2] ?_ ?_<;>(try simp only[go_sem]))
variable{r:Rd}
def pG(h:r.Inv):ai prog 158 [pR] (bZ r) (fun v l=>v=rI (cH r).2/\l=bZ (cH r).1):=Lb _ r h jl
def C4(h:r.Inv):ai prog 174 [pR] (bZ r) (fun v l=>v=rI (l4 r).2/\l=bZ (l4 r).1):=by
 have h1:=(Rd.cS h).inv h;have h2:=(xw h).inv h;have h3:=(Bb h).inv h;have h4:=(Lw h).inv h;have Vi:(oa r).rem<=2000:=by have:=h2.pos;have:=h2.len;unfold Rd.rem;split<;>omega
 have hm:ai prog 86 [pR,rS (⟨#[40]⟩:PL)] (bZ r.name.1) (fun v l=>v=.ba []/\l=bZ (oa r)):=ir r.name.1 _ (bq h1);refine aQ func174 ntmps174 ?_;refine S ?_
 (repeat' (first|refine ax fun K hK=>?_|refine az ?_|(refine hK _ _ ?_;clear hK K)|(refine aw ?_ ?_<;>intro hc<;>try exact jz)|refine cm (gB r (bq h)) ?_|refine cm (tY r (bq h)) ?_|refine cm (hm) ?_|refine cm (ga (oa r) _ (bq h2)) ?_|refine ay ?_|exact jI|(clear hK K)))
 have PY:=hK;clear hK;refine gT (cU.nil 2 5 3 (sz:=1) rfl jC (Or.inr ⟨_,_,_,rfl,rfl⟩)) ?_
 (refine S ?_;try exact jI)
 refine dR (S:=Nat×Bool×Rd×PJ) [(5,1),(7,2),(27,17)] (fun s=>s.2.2.1.Inv/\(s.2.1=true->s.2.2.1.rem+2<=s.1)/\1<=s.1/\s.2.2.2.length+s.1<=5000/\mh s.1 s.2.1 s.2.2.1 s.2.2.2=mL r) (fun s=>[(5,.rs 2 s.2.2.2.length 1 s.2.2.2.length),(7,rB s.2.1)]) (fun s=>⟨[0,1],bZ s.2.2.1++[(2,.aE 3 1 (s.2.2.2.map eI))]⟩) (fun s=>s.1) ((oa r).rem+2,more (oa r),oa r,[]) ⟨h2,fun _=>Nat.le_refl _,jJ,by(try simp only[List.length_nil]);omega,rfl⟩ (dS rfl (by simp only[go_sem,jm,Nat.reduceAdd,AV.raw.injEq,Value.int.injEq,Value.slice.injEq,Value.pointer.injEq,AV.rs.injEq,more,List.length_nil];try omega)) ?_;rintro⟨n,b,q,L⟩ ⟨hq,QK,RY,UK,hA⟩ Kr P3;simp only at hq QK RY UK hA;have WL:=hq.lt;have Wf:=hq.pos;have UA:=hq.len;obtain⟨n,rfl⟩:∃k,n=k+1:=⟨n-1,jB⟩;cases b with
 |false=>
  rw[mh]at hA;have e1:q=(mL r).1:=by rw[<-hA]
  have e2:L=(mL r).2:=by rw[<-hA]
  rw[<-e1]at h4;refine S ?_
  (repeat' (first|refine ax fun K hK=>?_|refine az ?_|(refine hK _ _ ?_;clear hK K)|(refine aw ?_ ?_<;>intro hc<;>try exact jz)|refine ay ?_|exact jI|(clear hK K)))
  refine PY _ _ ?_;refine Gj [2] 5 (aX eI 1 L) Sd Sd j6 ?_;refine S ?_
  (repeat' (first|refine ax fun K hK=>?_|refine az ?_|(refine hK _ _ ?_;clear hK K)|(refine aw ?_ ?_<;>intro hc<;>try exact jz)|refine cm (ir q _ (bq hq)) ?_|refine cm (vD (q.ap (⟨#[41]⟩:PL)) _ _ _ _ L (bq h4)) ?_|refine ay ?_|exact jI|(clear hK K)))
  (refine bQ [.tmp 2] ?_ ?_<;>(try simp only[go_sem]))
  ·unfold l4;rw[<-e1,<-e2]
  ·unfold l4;rw[<-e1,<-e2]
 |true=>
  have s1:=jn hq;have hx:=s1.inv hq;have RZ:=s1.rem;have Yz:=hx.lt;have YA:=hx.pos;have Wu:=hx.len;have QK:=QK rfl;rw[mh]at hA;refine S ?_
  (repeat' (first|refine ax fun K hK=>?_|refine az ?_|(refine hK _ _ ?_;clear hK K)|(refine aw ?_ ?_<;>intro hc<;>try exact jz)|refine cm (pG hq) ?_|refine cm (ga (cH q).1 _ (bq hx)) ?_|refine ay ?_|exact jI|(clear hK K)))
  ·rw[if_pos hc]at hA;have hk:=Rd.aR hc;have SM:=Rd.cI hx hk;refine P3 _ _ (dZ (n,true,(cH q).1.inc,L++[(cH q).2]) ⟨(Rd.bk hx hk.2).1.inv hx,fun _=>jJ,jJ,by(try simp only[List.length_append,List.length_cons,List.length_nil]);omega,hA⟩ jJ (by simp only[go_sem,bZ,gK,List.map_append,List.map_cons,List.map_nil,List.cons_append,List.nil_append];(try rfl)) (by simp only[go_sem,jm,Nat.reduceAdd,AV.raw.injEq,Value.int.injEq,Value.slice.injEq,Value.pointer.injEq,AV.rs.injEq,hc,List.length_append,List.length_cons,List.length_nil];try omega))
  ·rw[if_neg (by rw[hc];decide)]at hA;refine P3 _ _ (dZ (n,false,(cH q).1,L++[(cH q).2]) ⟨hx,(by intro h;cases h),jJ,by(try simp only[List.length_append,List.length_cons,List.length_nil]);omega,?_⟩ jJ (by simp only[go_sem,bZ,gK,List.map_append,List.map_cons,List.map_nil,List.cons_append,List.nil_append];(try rfl)) (by simp only[go_sem,jm,Nat.reduceAdd,AV.raw.injEq,Value.int.injEq,Value.slice.injEq,Value.pointer.injEq,AV.rs.injEq,hc,List.length_append,List.length_cons,List.length_nil];try omega));rw[<-hA];obtain⟨n,rfl⟩:∃k,n=k+1:=⟨n-1,jB⟩;rw[mh]
def vJ(h:r.Inv):ai prog 173 [pR] (bZ r) (fun v l=>v=rB r.calls/\l=bZ r):=HY r (bq h) (fun hk=>Rd.behind h (Rd.di hk jC).2)
def GI(h:r.Inv):ai prog 157 [pR] (bZ r) (fun v l=>v=rI (kY r).2/\l=bZ (kY r).1):=by
 have Wh:=h.lt;have WM:=h.pos;have RE:=h.len;have RI:r.tok.kind≠0->r.inc.Inv:=fun hk=>(Rd.bk h hk).1.inv h
 by_cases hx:r.is (⟨#[105,110,112,117,116]⟩:PL)=true
 ·have hi:=RI (Rd.aR hx).2;rw[kY,if_pos hx];refine aQ func157 ntmps157 ?_;refine S ?_
  (have W:=hx;repeat' (first|refine ax fun K hK=>?_|refine az ?_|(refine hK _ _ ?_;clear hK K)|(refine aw ?_ ?_<;>intro hc<;>try exact jz)|refine cm (gB r (bq h)) ?_|refine cm (ga r _ (bq h)) ?_|refine cm (kf r.inc _ _ _ _ [] _ gj.nil (bq hi)) ?_|refine ay ?_|exact jI|(clear hK K)))
  (refine bQ [.tmp 2] ?_ ?_<;>(try simp only[go_sem]))
 rw[kY,if_neg hx];have Qd:r.is (⟨#[105,110,112,117,116]⟩:PL)=false:=by simpa using hx
 by_cases hy:r.is (⟨#[110,101,119]⟩:PL)=true
 ·have hi:=RI (Rd.aR hy).2;have h1:=(Rd.aI hi (⟨#[40]⟩:PL)).inv hi;have h2:=(jn h1).inv h1;have h3:=(Rd.aI h2 (⟨#[41]⟩:PL)).inv h2;rw[if_pos hy];refine aQ func157 ntmps157 ?_;refine S ?_
  (have W:=jA Qd hy;repeat' (first|refine ax fun K hK=>?_|refine az ?_|(refine hK _ _ ?_;clear hK K)|(refine aw ?_ ?_<;>intro hc<;>try exact jz)|refine cm (gB r (bq h)) ?_|refine cm (ga r _ (bq h)) ?_|refine cm (ir r.inc _ (bq hi)) ?_|refine cm (pG h1) ?_|refine cm (ir (cH (r.inc.ap (⟨#[40]⟩:PL))).1 _ (bq h2)) ?_|refine cm (kf ((cH (r.inc.ap (⟨#[40]⟩:PL))).1.ap (⟨#[41]⟩:PL)) _ _ _ _ [(cH (r.inc.ap (⟨#[40]⟩:PL))).2] _ gj.sl (bq h3)) ?_|refine ay ?_|exact jI|(clear hK K)))
  (refine bQ [.tmp 2] ?_ ?_<;>(try simp only[go_sem]))
 rw[if_neg hy];have Wi:r.is (⟨#[110,101,119]⟩:PL)=false:=by simpa using hy
 by_cases P7:r.calls=true
 ·rw[if_pos P7];refine aQ func157 ntmps157 ?_;refine S ?_
  (have W:=jA Qd (jA Wi (P7));repeat' (first|refine ax fun K hK=>?_|refine az ?_|(refine hK _ _ ?_;clear hK K)|(refine aw ?_ ?_<;>intro hc<;>try exact jz)|refine cm (gB r (bq h)) ?_|refine cm (ga r _ (bq h)) ?_|refine cm (vJ h) ?_|refine cm (C4 h) ?_|refine ay ?_|exact jI|(clear hK K)))
  (refine bQ [.tmp 2] ?_ ?_<;>(try simp only[go_sem]))
 ·rw[if_neg P7];have QQ:r.calls=false:=by simpa using P7
  refine aQ func157 ntmps157 ?_;refine S ?_
  (have W:=jA Qd (jA Wi (QQ));repeat' (first|refine ax fun K hK=>?_|refine az ?_|(refine hK _ _ ?_;clear hK K)|(refine aw ?_ ?_<;>intro hc<;>try exact jz)|refine cm (gB r (bq h)) ?_|refine cm (ga r _ (bq h)) ?_|refine cm (vJ h) ?_|refine cm (pG h) ?_|refine ay ?_|exact jI|(clear hK K)))
  (refine bQ [.tmp 2] ?_ ?_<;>(try simp only[go_sem]))
def Ll(h:r.Inv)(he:r.e=0)(ln:Int):ai prog 159 [pR,rI ln] (bZ r) (fun v l=>v=rI (oE r ln).2/\l=bZ (oE r ln).1):=by
 have Wh:=h.lt;have WM:=h.pos;have RE:=h.len;by_cases P7:r.calls=true
 ·have h1:=(zM h P7).1.inv h;have h2:=(Rd.aI h1 (⟨#[59]⟩:PL)).inv h1;rw[oE,if_pos P7];refine aQ func159 ntmps159 ?_;refine S ?_
  (have W:=P7;repeat' (first|refine ax fun K hK=>?_|refine az ?_|(refine hK _ _ ?_;clear hK K)|(refine aw ?_ ?_<;>intro hc<;>try exact jz)|refine cm (vJ h) ?_|refine cm (C4 h) ?_|refine cm (ir (l4 r).1 _ (bq h1)) ?_|refine cm (kf ((l4 r).1.ap (⟨#[59]⟩:PL)) _ _ _ _ [(l4 r).2] _ gj.sl (bq h2)) ?_|refine ay ?_|exact jI|(clear hK K)))
  (refine bQ [.tmp 4] ?_ ?_<;>(try simp only[go_sem]))
 rw[oE,if_neg P7];have QQ:r.calls=false:=by simpa using P7
 have h0:=(Rd.cS h).inv h;by_cases hx:r.name.1.is (⟨#[91]⟩:PL)=true
 ·rw[if_pos hx];have d0:=(Rd.bC h0 (Rd.aR hx).1).1;have d1:=(Rd.aI d0 (⟨#[91]⟩:PL)).inv d0;have d2:=(jn d1).inv d1;have d3:=(Rd.aI d2 (⟨#[93]⟩:PL)).inv d2;have d4:=(Br h0 hx).2.inv h0;have d5:=(yw h0 hx).1.inv h0;have d6:=(yw h0 hx).2.inv h0;have d7:=(Rd.aI d6 (⟨#[59]⟩:PL)).inv d6;have d3l:=d3.od;have d3h:=d3.o3;unfold uy nX at*;refine aQ func159 ntmps159 ?_;refine S ?_
  (have W:=jA QQ hx;repeat' (first|refine ax fun K hK=>?_|refine az ?_|(refine hK _ _ ?_;clear hK K)|(refine aw ?_ ?_<;>intro hc<;>try exact jz)|refine cm (vJ h) ?_|refine cm (tY r (bq h)) ?_|refine cm (ga r.name.1 _ (bq h0)) ?_|refine cm (sy r.name.1 (bq h0)) ?_|refine cm (ir r.name.1.down _ (bq d0)) ?_|refine cm (pG d1) ?_|refine cm (ir (cH (r.name.1.down.ap (⟨#[91]⟩:PL))).1 _ (bq d2)) ?_|refine cm (ir ((cH (r.name.1.down.ap (⟨#[91]⟩:PL))).1.ap (⟨#[93]⟩:PL)).up _ (bq d4)) ?_|refine cm (pG d5) ?_|refine cm (ir (cH (((cH (r.name.1.down.ap (⟨#[91]⟩:PL))).1.ap (⟨#[93]⟩:PL)).up.ap (⟨#[61]⟩:PL))).1 _ (bq d6)) ?_|refine cm (kf ((cH (((cH (r.name.1.down.ap (⟨#[91]⟩:PL))).1.ap (⟨#[93]⟩:PL)).up.ap (⟨#[61]⟩:PL))).1.ap (⟨#[59]⟩:PL)) _ _ _ _ [(cH (r.name.1.down.ap (⟨#[91]⟩:PL))).2,(cH (((cH (r.name.1.down.ap (⟨#[91]⟩:PL))).1.ap (⟨#[93]⟩:PL)).up.ap (⟨#[61]⟩:PL))).2] _ gj.sl (bq d7)) ?_|refine ay ?_|exact jI|(clear hK K)))
  (refine bQ [.tmp 4] ?_ ?_<;>(try simp only[go_sem]))
 ·rw[if_neg hx];have Qd:r.name.1.is (⟨#[91]⟩:PL)=false:=by simpa using hx
  have d1:=(Rd.aI h0 (⟨#[61]⟩:PL)).inv h0;have d2:=(wY d1).inv d1;have d3:=(Rd.aI d2 (⟨#[59]⟩:PL)).inv d2;refine aQ func159 ntmps159 ?_;refine S ?_
  (have W:=jA QQ (Qd);repeat' (first|refine ax fun K hK=>?_|refine az ?_|(refine hK _ _ ?_;clear hK K)|(refine aw ?_ ?_<;>intro hc<;>try exact jz)|refine cm (vJ h) ?_|refine cm (tY r (bq h)) ?_|refine cm (ga r.name.1 _ (bq h0)) ?_|refine cm (ir r.name.1 _ (bq h0)) ?_|refine cm (GI d1) ?_|refine cm (ir (kY (r.name.1.ap (⟨#[61]⟩:PL))).1 _ (bq d2)) ?_|refine cm (kf ((kY (r.name.1.ap (⟨#[61]⟩:PL))).1.ap (⟨#[59]⟩:PL)) _ _ _ _ [(kY (r.name.1.ap (⟨#[61]⟩:PL))).2] _ gj.sl (bq d3)) ?_|refine ay ?_|exact jI|(clear hK K)))
  (refine bQ [.tmp 4] ?_ ?_<;>(try simp only[go_sem]))
def Mw(w:PL):dO prog 135 [rS w] (rI (rc w)):=by
 refine fg func135 ntmps135 ?_
 (repeat' (first|refine ax fun K hK=>?_|refine az ?_|(refine hK _ _ ?_;clear hK K)|(refine aw ?_ ?_<;>intro hc<;>try exact jz)|refine ay ?_|exact jI|(clear hK K)))
 all_goals(refine bQ [.tmp 2] ?_ ?_<;>(try simp only[go_sem]))
 all_goals unfold rc
 all_goals repeat' split
 all_goals first|rfl|(exfalso;simp_all;done)
def BY(h:r.Inv):ai prog 89 [pR] (bZ r) (fun v l=>v=rI (io r).2/\l=bZ (io r).1):=by
 have Wh:=h.lt;have WM:=h.pos;have RE:=h.len;refine aQ func89 ntmps89 ?_;refine S ?_
 (repeat' (first|refine ax fun K hK=>?_|refine az ?_|(refine hK _ _ ?_;clear hK K)|(refine aw ?_ ?_<;>intro hc<;>try exact jz)|refine cm (qP r (bq h)) ?_|refine cp (Mw r.word) ?_|refine cm (td r _ (bq h)) ?_|refine ay ?_|exact jI|(clear hK K)))
 ·(refine bQ [.tmp 2] ?_ ?_<;>(try simp only[go_sem]))
  ·simp only[io,if_pos hc]
  ·simp only[io,if_pos hc,go_sem]
 ·(refine bQ [.tmp 2] ?_ ?_<;>(try simp only[go_sem]))
  ·simp only[io,if_neg hc]
  ·simp only[io,if_neg hc];rfl
def zB(n:Nat):Prop:=∀r:Rd,r.Inv->4*r.rem+1<=n->ai prog 90 [pR] (bZ r) (fun v l=>v=rI (fM n r).2/\l=bZ (fM n r).1)
def zC(n:Nat):Prop:=∀r:Rd,r.Inv->r.e=0->4*r.rem+2<=n->ai prog 137 [pR] (bZ r) (fun v l=>v=rI (na n r).2/\l=bZ (na n r).1)
def ON(n:Nat)(hs:∀m,m<=n->zC m):zB (n+1):=by
 intro r h hn;by_cases hx:r.is (⟨#[123]⟩:PL)=true
 ·have he:=(Rd.aR hx).1;have hd:=(Rd.bC h he).1;have s1:=Rd.aI hd (⟨#[123]⟩:PL);have h1:=s1.inv hd;have s2:=(rA n).2.1 _ [] h1;have h2:=s2.inv h1;have s3:=Rd.aI h2 (⟨#[125]⟩:PL);have h3:=s3.inv h2;have h4:=(Rd.fk h he ((s1.trans s2).trans s3)).inv h;have YB:=h3.od;have YC:=h3.o3;have hr:=(Rd.gu h hx).1;have Vi:r.rem<=2000:=by
   have:=h.pos;have:=h.len;unfold Rd.rem;split<;>omega
  rw[fM,if_pos hx];refine aQ func90 ntmps90 ?_;refine S ?_
  (have W:=hx;repeat' (first|refine ax fun K hK=>?_|refine az ?_|(refine hK _ _ ?_;clear hK K)|(refine aw ?_ ?_<;>intro hc<;>try exact jz)|refine cm (gB r (bq h)) ?_|refine cm (ga r _ (bq h)) ?_|refine cm (sy r (bq h)) ?_|refine cm (ir r.down _ (bq hd)) ?_|refine ay ?_|exact jI|(clear hK K)))
  have PY:=hK;clear hK;refine gT (cU.nil 2 5 3 (sz:=1) rfl jC (Or.inr ⟨_,_,_,rfl,rfl⟩)) ?_
  (refine S ?_;try exact jI)
  refine dR (S:=Nat×Rd×PJ) [(5,3),(21,14)] (fun s=>s.2.1.Inv/\4*s.2.1.rem+3<=s.1/\s.1<=n/\s.2.2.length+s.2.1.rem<=2000/\lQ s.1 s.2.1 s.2.2=lQ n (r.down.ap (⟨#[123]⟩:PL)) []) (fun s=>[(5,.rs 2 s.2.2.length 1 s.2.2.length)]) (fun s=>⟨[0,1],bZ s.2.1++[(2,.aE 3 1 (s.2.2.map eI))]⟩) (fun s=>s.1) (n,r.down.ap (⟨#[123]⟩:PL),[]) ⟨h1,jJ,Nat.le_refl _,by(try simp only[List.length_nil]);omega,rfl⟩ (dS rfl cc) ?_;rintro⟨m,q,L⟩ ⟨hq,R0,Rq,QS,hA⟩ Kr P3;simp only at hq R0 Rq QS hA;have WL:=hq.lt;have Wf:=hq.pos;have UA:=hq.len;obtain⟨m,rfl⟩:∃k,m=k+1:=⟨m-1,jB⟩;rw[lQ]at hA;by_cases Qk:q.e=0/\q.is (⟨#[125]⟩:PL)=false
  ·rw[if_pos Qk]at hA;obtain⟨R1,Sw⟩:=Qk;obtain⟨t1,t2⟩:=(rA m).2.2 q hq R1 jB;have hj:=t1.inv hq;refine S ?_
   (have W:=jA R1 Sw;repeat' (first|refine ax fun K hK=>?_|refine az ?_|(refine hK _ _ ?_;clear hK K)|(refine aw ?_ ?_<;>intro hc<;>try exact jz)|refine cm (ga q _ (bq hq)) ?_|refine cm (hs m jB q hq R1 jB) ?_|refine ay ?_|exact jI|(clear hK K)))
   refine P3 _ _ (dZ (m,(na m q).1,L++[(na m q).2]) ⟨hj,jJ,jJ,by(try simp only[List.length_append,List.length_cons,List.length_nil]);omega,hA⟩ jJ (by simp only[go_sem,bZ,gK,List.map_append,List.map_cons,List.map_nil,List.cons_append,List.nil_append];(try rfl)) cc)
  ·rw[if_neg Qk]at hA;have e1:q=(lQ n (r.down.ap (⟨#[123]⟩:PL)) []).1:=by rw[<-hA]
   have e2:L=(lQ n (r.down.ap (⟨#[123]⟩:PL)) []).2:=by rw[<-hA]
   rw[<-e1]at h3 h4 YB YC;refine S ?_
   (repeat' (first|refine ax fun K hK=>?_|refine az ?_|(refine hK _ _ ?_;clear hK K)|(refine aw ?_ ?_<;>intro hc<;>try exact jz)|refine cm (ga q _ (bq hq)) ?_|refine ay ?_|exact jI|(clear hK K)))
   all_goals first|(exact absurd ⟨by assumption,by assumption⟩ Qk)|skip
   all_goals refine PY _ _ ?_
   all_goals refine Gj [2] 5 (aX eI 1 L) Sd Sd j6 ?_
   all_goals(
    refine S ?_
    (repeat' (first|refine ax fun K hK=>?_|refine az ?_|(refine hK _ _ ?_;clear hK K)|(refine aw ?_ ?_<;>intro hc<;>try exact jz)|refine cm (ir q _ (bq hq)) ?_|refine cm (vD (q.ap (⟨#[125]⟩:PL)).up _ _ _ _ L (bq h4)) ?_|refine ay ?_|exact jI|(clear hK K)))
    (refine bQ [.tmp 2] ?_ ?_<;>(try simp only[go_sem]))
    all_goals simp only[<-e1,<-e2])
 ·rw[fM,if_neg hx];have Qd:r.is (⟨#[123]⟩:PL)=false:=by simpa using hx
  refine aQ func90 ntmps90 ?_;refine S ?_
  (have W:=Qd;repeat' (first|refine ax fun K hK=>?_|refine az ?_|(refine hK _ _ ?_;clear hK K)|(refine aw ?_ ?_<;>intro hc<;>try exact jz)|refine cm (gB r (bq h)) ?_|refine cm (ga r _ (bq h)) ?_|refine cm (td r _ (bq h)) ?_|refine ay ?_|exact jI|(clear hK K)))
  (refine bQ [.tmp 2] ?_ ?_<;>(try simp only[go_sem]))
def Ps(n:Nat)(hb:zB n):zC (n+1):=by
 intro r h he hn;have Wh:=h.lt;have WM:=h.pos;have RE:=h.len;have word:∀w:PL,w≠⟨#[]⟩->r.word=w->r.inc.Inv/\r.inc.rem+1<=r.rem:=fun w h0 hw=>by have hk:=Rd.di (Rd.gh hw h0) jC;exact⟨(Rd.bk h hk.2).1.inv h,Rd.cI h hk⟩
 rw[na];by_cases w1:r.word=(⟨#[108,101,116]⟩:PL)
 ·rw[if_pos w1];have w1':=eq_true w1;obtain⟨hi,hr⟩:=word _ jC w1;have h1:=(Rd.cS hi).inv hi;have h2:=(Rd.aI h1 (⟨#[61]⟩:PL)).inv h1;have h3:=(wY h2).inv h2;have h4:=(Rd.aI h3 (⟨#[59]⟩:PL)).inv h3;refine aQ func137 ntmps137 ?_;refine S ?_
  (have W:=w1';repeat' (first|refine ax fun K hK=>?_|refine az ?_|(refine hK _ _ ?_;clear hK K)|(refine aw ?_ ?_<;>intro hc<;>try exact jz)|refine cm (gB r (bq h)) ?_|refine cm (qP r (bq h)) ?_|refine cm (tY r.inc (bq hi)) ?_|refine cm (ir r.inc.name.1 _ (bq h1)) ?_|refine cm (GI h2) ?_|refine cm (ir (kY (r.inc.name.1.ap (⟨#[61]⟩:PL))).1 _ (bq h3)) ?_|refine cm (kf ((kY (r.inc.name.1.ap (⟨#[61]⟩:PL))).1.ap (⟨#[59]⟩:PL)) _ _ _ _ [(kY (r.inc.name.1.ap (⟨#[61]⟩:PL))).2] _ gj.sl (bq h4)) ?_|refine ay ?_|exact jI|(clear hK K)))
  (refine bQ [.tmp 2] ?_ ?_<;>(try simp only[go_sem]))
 rw[if_neg w1];by_cases w2:r.word=(⟨#[112,114,105,110,116]⟩:PL)
 ·rw[if_pos w2];have w2':=eq_true w2;obtain⟨hi,hr⟩:=word _ jC w2;have h1:=(jn hi).inv hi;have h2:=(Rd.aI h1 (⟨#[59]⟩:PL)).inv h1;refine aQ func137 ntmps137 ?_;refine S ?_
  (have W:=jA w1 (w2');repeat' (first|refine ax fun K hK=>?_|refine az ?_|(refine hK _ _ ?_;clear hK K)|(refine aw ?_ ?_<;>intro hc<;>try exact jz)|refine cm (gB r (bq h)) ?_|refine cm (qP r (bq h)) ?_|refine cm (pG hi) ?_|refine cm (ir (cH r.inc).1 _ (bq h1)) ?_|refine cm (kf ((cH r.inc).1.ap (⟨#[59]⟩:PL)) _ _ _ _ [(cH r.inc).2] _ gj.sl (bq h2)) ?_|refine ay ?_|exact jI|(clear hK K)))
  (refine bQ [.tmp 2] ?_ ?_<;>(try simp only[go_sem]))
 rw[if_neg w2];by_cases w3:r.word=(⟨#[119,104,105,108,101]⟩:PL)
 ·rw[if_pos w3];have w3':=eq_true w3;obtain⟨hi,hr⟩:=word _ jC w3;have h1:=(jn hi).inv hi;have RZ:=(jn hi).rem;have h2:=((rA n).1 _ h1).inv h1;refine aQ func137 ntmps137 ?_;refine S ?_
  (have W:=jA w1 (jA w2 (w3'));repeat' (first|refine ax fun K hK=>?_|refine az ?_|(refine hK _ _ ?_;clear hK K)|(refine aw ?_ ?_<;>intro hc<;>try exact jz)|refine cm (gB r (bq h)) ?_|refine cm (qP r (bq h)) ?_|refine cm (pG hi) ?_|refine cm (hb _ h1 jB) ?_|refine cm (kf (fM n (cH r.inc).1).1 _ _ _ _ [(cH r.inc).2,(fM n (cH r.inc).1).2] _ gj.sl (bq h2)) ?_|refine ay ?_|exact jI|(clear hK K)))
  (refine bQ [.tmp 2] ?_ ?_<;>(try simp only[go_sem]))
 rw[if_neg w3];by_cases w4:r.word=(⟨#[105,102]⟩:PL)
 ·rw[if_pos w4];have w4':=eq_true w4;obtain⟨hi,hr⟩:=word _ jC w4;have h1:=(jn hi).inv hi;have RZ:=(jn hi).rem;have s2:=(rA n).1 _ h1;have h2:=s2.inv h1;have SM:=s2.rem;have h2i:=h2.lt;have h2p:=h2.pos;have h2l:=h2.len;by_cases hx:(fM n (cH r.inc).1).1.is (⟨#[101,108,115,101]⟩:PL)=true
  ·rw[if_pos hx];have hk:=Rd.aR hx;have h3:=(Rd.bk h2 hk.2).1.inv h2;have hr3:=Rd.cI h2 hk;have h4:=((rA n).1 _ h3).inv h3;refine aQ func137 ntmps137 ?_;refine S ?_
   (have W:=jA w1 (jA w2 (jA w3 (jA w4' (hx))));repeat' (first|refine C7 (id:=31) [2] [(13,135)] [(12,aX eI 1 [(cH r.inc).2,(fM n (cH r.inc).1).2,(fM n (fM n (cH r.inc).1).1.inc).2])] ?_|refine ax fun K hK=>?_|refine az ?_|(refine hK _ _ ?_;clear hK K)|(refine aw ?_ ?_<;>intro hc<;>try exact jz)|refine cm (gB r (bq h)) ?_|refine cm (qP r (bq h)) ?_|refine cm (pG hi) ?_|refine cm (hb _ h1 jB) ?_|refine cm (ga (fM n (cH r.inc).1).1 _ (bq h2)) ?_|refine cm (hb _ h3 jB) ?_|refine cm (vD (fM n (fM n (cH r.inc).1).1.inc).1 _ _ _ _ [(cH r.inc).2,(fM n (cH r.inc).1).2,(fM n (fM n (cH r.inc).1).1.inc).2] (bq h4)) ?_|refine ay ?_|exact jI|(clear hK K)))
   (refine bQ [.tmp 2] ?_ ?_<;>(try simp only[go_sem]))
  ·rw[if_neg hx];have Qd:(fM n (cH r.inc).1).1.is (⟨#[101,108,115,101]⟩:PL)=false:=by simpa using hx
   refine aQ func137 ntmps137 ?_;refine S ?_
   (have W:=jA w1 (jA w2 (jA w3 (jA w4' (Qd))));repeat' (first|refine ax fun K hK=>?_|refine az ?_|(refine hK _ _ ?_;clear hK K)|(refine aw ?_ ?_<;>intro hc<;>try exact jz)|refine cm (gB r (bq h)) ?_|refine cm (qP r (bq h)) ?_|refine cm (pG hi) ?_|refine cm (hb _ h1 jB) ?_|refine cm (ga (fM n (cH r.inc).1).1 _ (bq h2)) ?_|refine cm (kf (fM n (cH r.inc).1).1 _ _ _ _ [(cH r.inc).2,(fM n (cH r.inc).1).2] _ gj.sl (bq h2)) ?_|refine ay ?_|exact jI|(clear hK K)))
   (refine bQ [.tmp 2] ?_ ?_<;>(try simp only[go_sem]))
 rw[if_neg w4];by_cases w5:r.word=(⟨#[114,101,116,117,114,110]⟩:PL)
 ·rw[if_pos w5];have w5':=eq_true w5;obtain⟨hi,hr⟩:=word _ jC w5;by_cases hx:r.inc.is (⟨#[59]⟩:PL)=true
  ·rw[if_pos hx];have h1:=(Rd.aI hi (⟨#[59]⟩:PL)).inv hi;refine aQ func137 ntmps137 ?_;refine S ?_
   (have W:=jA w1 (jA w2 (jA w3 (jA w4 (jA w5' (hx)))));repeat' (first|refine ax fun K hK=>?_|refine az ?_|(refine hK _ _ ?_;clear hK K)|(refine aw ?_ ?_<;>intro hc<;>try exact jz)|refine cm (gB r (bq h)) ?_|refine cm (qP r (bq h)) ?_|refine cm (ga r.inc _ (bq hi)) ?_|refine cm (ir r.inc _ (bq hi)) ?_|refine cm (kf (r.inc.ap (⟨#[59]⟩:PL)) _ _ _ _ [] _ gj.sl (bq h1)) ?_|refine ay ?_|exact jI|(clear hK K)))
   (refine bQ [.tmp 2] ?_ ?_<;>(try simp only[go_sem]))
  ·rw[if_neg hx];have Qd:r.inc.is (⟨#[59]⟩:PL)=false:=by simpa using hx
   have h1:=(jn hi).inv hi;have h2:=(Rd.aI h1 (⟨#[59]⟩:PL)).inv h1;refine aQ func137 ntmps137 ?_;refine S ?_
   (have W:=jA w1 (jA w2 (jA w3 (jA w4 (jA w5' (Qd)))));repeat' (first|refine C7 (id:=40) [2] [(16,132)] [(15,aX eI 1 [(cH r.inc).2])] ?_|refine ax fun K hK=>?_|refine az ?_|(refine hK _ _ ?_;clear hK K)|(refine aw ?_ ?_<;>intro hc<;>try exact jz)|refine cm (gB r (bq h)) ?_|refine cm (qP r (bq h)) ?_|refine cm (ga r.inc _ (bq hi)) ?_|refine cm (pG hi) ?_|refine cm (ir (cH r.inc).1 _ (bq h1)) ?_|refine cm (vD ((cH r.inc).1.ap (⟨#[59]⟩:PL)) _ _ _ _ [(cH r.inc).2] (bq h2)) ?_|refine ay ?_|exact jI|(clear hK K)))
   (refine bQ [.tmp 2] ?_ ?_<;>(try simp only[go_sem]))
 rw[if_neg w5];refine aQ func137 ntmps137 ?_;refine S ?_
 (have W:=jA w1 (jA w2 (jA w3 (jA w4 (w5))));repeat' (first|refine ax fun K hK=>?_|refine az ?_|(refine hK _ _ ?_;clear hK K)|(refine aw ?_ ?_<;>intro hc<;>try exact jz)|refine cm (gB r (bq h)) ?_|refine cm (qP r (bq h)) ?_|refine cm (Ll h he r.cu) ?_|refine ay ?_|exact jI|(clear hK K)))
 (refine bQ [.tmp 2] ?_ ?_<;>(try simp only[go_sem]))
theorem B4:∀m n,n<=m->zB n/\zC n
 |0,0,_=>⟨fun r h hn=>by omega,fun r h he hn=>by omega⟩
 |m+1,0,_=>⟨fun r h hn=>jB,fun r h he hn=>jB⟩
 |m+1,n+1,hm=>by
  have ih:=fun k (hk:k<=n)=>B4 m k jB
  exact⟨ON n fun k hk=>(ih k hk).2,Ps n (ih n jl).1⟩
def CE(h:r.Inv):ai prog 90 [pR] (bZ r) (fun v l=>v=rI (nE r).2/\l=bZ (nE r).1):=(B4 _ _ jl).1 r h jB
def NV(h:r.Inv):ai prog 54 [pR] (bZ r) (fun v l=>v=.agg (fZ (lS r).2)/\l=bZ (lS r).1):=by
 have h1:=(pw h).1.inv h;have h2:=(pw h).2.1.inv h;have h3:=(pw h).2.2.1.inv h;have h4:=(y5 h).inv h1;have h5:=(xB h).inv h1;have h6:=(xH h).inv h1;have h7:=(AB h6).inv h6;have Vi:(my r).rem<=2000:=by have:=h3.pos;have:=h3.len;unfold Rd.rem;split<;>omega
 have hm:ai prog 86 [pR,rS (⟨#[40]⟩:PL)] (bZ (r.ap (⟨#[102,110]⟩:PL)).name.1) (fun v l=>v=.ba []/\l=bZ (my r)):=ir (r.ap (⟨#[102,110]⟩:PL)).name.1 _ (bq h2);refine aQ func54 ntmps54 ?_;refine S ?_
 (repeat' (first|refine ax fun K hK=>?_|refine az ?_|(refine hK _ _ ?_;clear hK K)|(refine aw ?_ ?_<;>intro hc<;>try exact jz)|refine cm (gB r (bq h)) ?_|refine cm (hm) ?_|refine cm (ir r _ (bq h)) ?_|refine cm (tY (r.ap (⟨#[102,110]⟩:PL)) (bq h1)) ?_|refine cm (ga (my r) _ (bq h3)) ?_|refine ay ?_|exact jI|(clear hK K)))
 have PY:=hK;clear hK;refine gT (cU.fl 4 3 2 175 2 rfl jC rfl rfl) ?_
 (refine S ?_;try exact jI)
 refine dR (S:=Nat×Bool×Rd×List ce) [(5,3),(30,23)] (fun s=>s.2.2.1.Inv/\(s.2.1=true->s.2.2.1.rem+2<=s.1)/\1<=s.1/\s.2.2.2.length+s.1<=5000/\lP s.1 s.2.1 s.2.2.1 s.2.2.2=rM r) (fun s=>[(5,rB s.2.1)]) (fun s=>⟨[0,1],bZ s.2.2.1++[(2,.var 132 [rS ⟨#[]⟩,rI 0,.raw (.slice none 0 0),rI 0,rI 0]),(3,.var 132 [rS (r.ap (⟨#[102,110]⟩:PL)).name.2,rI r.cu,.rs 4 s.2.2.2.length 2 s.2.2.2.length,rI 0,rI 0]),(4,.aE 175 2 (s.2.2.2.map nz))]⟩) (fun s=>s.1) ((my r).rem+2,more (my r),my r,[]) ⟨h3,fun _=>Nat.le_refl _,jJ,by(try simp only[List.length_nil]);omega,rfl⟩ (dS rfl (by simp only[go_sem,jm,Nat.reduceAdd,AV.raw.injEq,Value.int.injEq,Value.slice.injEq,Value.pointer.injEq,AV.rs.injEq,more,List.length_nil];try omega)) ?_;rintro⟨n,b,q,L⟩ ⟨hq,QK,RY,UK,hA⟩ Kr P3;simp only at hq QK RY UK hA;have WL:=hq.lt;have Wf:=hq.pos;have UA:=hq.len;obtain⟨n,rfl⟩:∃k,n=k+1:=⟨n-1,jB⟩;cases b with
 |false=>
  rw[lP]at hA;have e1:q=(rM r).1:=by rw[<-hA]
  have e2:L=(rM r).2:=by rw[<-hA]
  have XK:ai prog 86 [pR,rS (⟨#[41]⟩:PL)] (bZ q) (fun v l=>v=.ba []/\l=bZ (kU r)):=by rw[e1];exact ir (rM r).1 _ (bq h4)
  by_cases hx:(kU r).is (⟨#[123]⟩:PL)=true
  ·have ed:lp r=(kU r,0):=by unfold lp;rw[if_pos hx]
   have ef:lS r=((nE (kU r)).1,⟨(r.ap (⟨#[102,110]⟩:PL)).name.2,r.cu,L,0,(nE (kU r)).2⟩):=by unfold lS;rw[ed,<-e2]
   rw[ef]at PY;refine S ?_
   (have W:=hx;repeat' (first|refine ax fun K hK=>?_|refine az ?_|(refine hK _ _ ?_;clear hK K)|(refine aw ?_ ?_<;>intro hc<;>try exact jz)|refine PY _ _ ?_|refine cm (XK) ?_|refine cm (ga (kU r) _ (bq h5)) ?_|refine cm (CE h5) ?_|refine ay ?_|exact jI|(clear hK K)))
   refine lE [.cell 2 132] ?_;refine bT.agg (ds:=[rS _,rI _,aX nz 2 L,rI _,rI _]) ?_;exact jA (.same _ rfl) (jA (.same _ rfl) (jA (dz.row (enc:=nz) L rfl rfl jE) (jA (.same _ rfl) (jA (.same _ rfl) trivial))))
  ·have Qd:(kU r).is (⟨#[123]⟩:PL)=false:=by simpa using hx
   have ed:lp r=io (kU r):=by unfold lp;rw[if_neg hx]
   rw[ed]at h6;have ef:lS r=((nE (io (kU r)).1).1,⟨(r.ap (⟨#[102,110]⟩:PL)).name.2,r.cu,L,(io (kU r)).2,(nE (io (kU r)).1).2⟩):=by unfold lS;rw[ed,<-e2]
   rw[ef]at PY;refine S ?_
   (have W:=Qd;repeat' (first|refine ax fun K hK=>?_|refine az ?_|(refine hK _ _ ?_;clear hK K)|(refine aw ?_ ?_<;>intro hc<;>try exact jz)|refine PY _ _ ?_|refine cm (XK) ?_|refine cm (ga (kU r) _ (bq h5)) ?_|refine cm (BY h5) ?_|refine cm (CE h6) ?_|refine ay ?_|exact jI|(clear hK K)))
   refine lE [.cell 2 132] ?_;refine bT.agg (ds:=[rS _,rI _,aX nz 2 L,rI _,rI _]) ?_;exact jA (.same _ rfl) (jA (.same _ rfl) (jA (dz.row (enc:=nz) L rfl rfl jE) (jA (.same _ rfl) (jA (.same _ rfl) trivial))))
 |true=>
  have s1:=EL hq;have hx:=s1.inv hq;have RZ:=s1.rem;have Yz:=hx.lt;have YA:=hx.pos;have Wu:=hx.len;have QK:=QK rfl;have Wj:=(Rd.cS hq).inv hq;have Sj:ai prog 89 [pR] (bZ q.name.1) (fun v l=>v=rI (io q.name.1).2/\l=bZ (oF q)):=BY Wj;rw[lP]at hA;refine S ?_
  (repeat' (first|refine ax fun K hK=>?_|refine az ?_|(refine hK _ _ ?_;clear hK K)|(refine aw ?_ ?_<;>intro hc<;>try exact jz)|refine cm (tY q (bq hq)) ?_|refine cm (Sj) ?_|refine cm (ga (oF q) _ (bq hx)) ?_|refine ay ?_|exact jI|(clear hK K)))
  ·rw[if_pos hc]at hA;have hk:=Rd.aR hc;have SM:=Rd.cI hx hk;refine P3 _ _ (dZ (n,true,(oF q).inc,L++[⟨q.name.2,(io q.name.1).2⟩]) ⟨(Rd.bk hx hk.2).1.inv hx,fun _=>jJ,jJ,by(try simp only[List.length_append,List.length_cons,List.length_nil]);omega,hA⟩ jJ (by simp only[go_sem,bZ,gK,List.map_append,List.map_cons,List.map_nil,List.cons_append,List.nil_append,List.length_append,List.length_cons,List.length_nil,Nat.reduceAdd];(try rfl)) (by simp only[go_sem,jm,Nat.reduceAdd,AV.raw.injEq,Value.int.injEq,Value.slice.injEq,Value.pointer.injEq,AV.rs.injEq,hc,List.length_append,List.length_cons,List.length_nil];try omega))
  ·rw[if_neg (by rw[hc];decide)]at hA;refine P3 _ _ (dZ (n,false,oF q,L++[⟨q.name.2,(io q.name.1).2⟩]) ⟨hx,(by intro h;cases h),jJ,by(try simp only[List.length_append,List.length_cons,List.length_nil]);omega,?_⟩ jJ (by simp only[go_sem,bZ,gK,List.map_append,List.map_cons,List.map_nil,List.cons_append,List.nil_append,List.length_append,List.length_cons,List.length_nil,Nat.reduceAdd];(try rfl)) (by simp only[go_sem,jm,Nat.reduceAdd,AV.raw.injEq,Value.int.injEq,Value.slice.injEq,Value.pointer.injEq,AV.rs.injEq,hc,List.length_append,List.length_cons,List.length_nil];try omega));rw[<-hA];obtain⟨n,rfl⟩:∃k,n=k+1:=⟨n-1,jB⟩;rw[lP]
variable{k:Nat}
def Kn{α:Type}[Inhabited α](p:α->Bool)(l:List α)(h:k<l.length):(l.take (k+1)).any p=((l.take k).any p || p (nth l k)):=by rw[List.take_succ_eq_append_getElem h,List.any_append,dT h];simp
def qR(t:List bg)(L:List aU)(k:Nat):Bool:=decide (300<(t.length:Int)) || decide (6<(L.length:Int)) || (L.take k).any fun f=>decide (3<(f.params.length:Int))
def Pf(t:List bg)(L:List aU)(h:k<L.length):qR t L (k+1)=(qR t L k || decide (3<((nth L k).params.length:Int))):=by unfold qR;rw[Kn _ _ h];simp only[Bool.or_assoc]
def MF(t:List bg)(L:List aU)(h:L.length<=k):qR t L k=sQ t L:=by
 unfold qR sQ;rw[List.take_of_length_le h];have e1:∀n:Nat,decide (300<(n:Int))=decide (300<n):=fun n=>decide_eq_decide.2 jB
 have e2:∀n:Nat,decide (6<(n:Int))=decide (6<n):=fun n=>decide_eq_decide.2 jB
 have e3:∀n:Nat,decide (3<(n:Int))=decide (3<n):=fun n=>decide_eq_decide.2 jB
 simp only[e1,e2,e3]
def MQ(s:PL)(hs:s.size<=1000000):dO prog 29 [rS s] (.ba [.agg (kM (gz s).1),rI (gz s).2.1,rI (gz s).2.2]):=by
 by_cases he:(j5 s).2.2=0
 ·have hi:=CJ he;have Vi:(nJ s).rem<=2000:=by
   have:=hi.pos;have:=hi.len;unfold Rd.rem;split<;>omega
  refine fg func29 ntmps29 ?_
  (have W:=he;repeat' (first|refine ax fun K hK=>?_|refine az ?_|(with_reducible refine gR 12 ?_);refine dA 12 [10] (aK 0 12) mixed ?_|(refine hK _ _ ?_;clear hK K)|(refine aw ?_ ?_<;>intro hc<;>try exact jz)|refine cp (CX s hs) ?_|(refine wP (t:=27) 10 (by simp only[go_sem];rfl) rfl ?_;refine S ?_)|(refine x9 0 jD rfl ?_;refine S ?_)|refine ay ?_|exact jI|(clear hK K)))
  have PY:=hK;clear hK;refine gT (cU.fl 1 0 3 78 5 rfl jC rfl rfl) ?_
  (refine S ?_;try exact jI)
  refine gT (cU.fl 12 11 1 132 5 rfl jC rfl rfl) ?_
  (refine S ?_;try exact jI)
  refine dR (S:=Nat×Rd×List aU) [(10,2),(30,16)] (fun p=>p.2.1.Inv/\p.2.1.rem+1<=p.1/\p.2.2.length+p.1<=5000/\pI p.1 p.2.1 p.2.2=mF s) (fun _=>[]) (fun p=>⟨[],[(10,.var 27 [.raw (.slice none 0 0),.raw (.slice none 0 0)]),(0,.var 128 (gK p.2.1)),(11,.var 27 [.raw (.slice none 0 0),.rs 12 p.2.2.length 5 p.2.2.length]),(1,.aE 78 5 (p.2.1.nodes.map eG)),(12,.aE 132 5 (p.2.2.map fZ))]⟩) (fun p=>p.1) ((nJ s).rem+1,nJ s,[]) ⟨hi,Nat.le_refl _,by(try simp only[List.length_nil]);omega,rfl⟩ (dS rfl cc) ?_;rintro⟨n,q,L⟩ ⟨hq,QK,RY,hA⟩ Kr P3;simp only at hq QK RY hA;have WL:=hq.lt;have Wf:=hq.pos;have UA:=hq.len;obtain⟨n,rfl⟩:∃k,n=k+1:=⟨n-1,jB⟩;rw[pI]at hA;by_cases Qk:q.e=0/\q.kind 0=false
  ·rw[if_pos Qk]at hA;obtain⟨R1,Sw⟩:=Qk;obtain⟨t1,t2⟩:=EG hq;have t2:=t2 R1;have hj:=t1.inv hq;refine S ?_
   (have W:=jA R1 Sw;repeat' (first|refine ax fun K hK=>?_|refine az ?_|(with_reducible refine gR 12 ?_);refine dA 12 [10] (aK 0 12) mixed ?_|(refine hK _ _ ?_;clear hK K)|(refine aw ?_ ?_<;>intro hc<;>try exact jz)|refine cm (wy q _ (bq hq)) ?_|refine cm (NV hq) ?_|refine ay ?_|exact jI|(clear hK K)))
   refine P3 _ _ (yo [13] (n,(lS q).1,L++[(lS q).2]) ⟨hj,jJ,by(try simp only[List.length_append,List.length_cons,List.length_nil]);omega,hA⟩ jJ rfl Sd (by simp only[go_sem,gK,List.map_append,List.map_cons,List.map_nil,List.length_append,List.length_cons,List.length_nil,Nat.reduceAdd];(try rfl)) j6)
  ·rw[if_neg Qk]at hA;have e1:q=(mF s).1:=by rw[<-hA]
   have e2:L=(mF s).2:=by rw[<-hA]
   refine S ?_
   (repeat' (first|refine ax fun K hK=>?_|refine az ?_|(with_reducible refine gR 12 ?_);refine dA 12 [10] (aK 0 12) mixed ?_|(refine hK _ _ ?_;clear hK K)|(refine aw ?_ ?_<;>intro hc<;>try exact jz)|refine cm (wy q _ (bq hq)) ?_|refine ay ?_|exact jI|(clear hK K)))
   all_goals first|(exact absurd ⟨by assumption,by assumption⟩ Qk)|skip
   ·have R1:q.e=0:=by assumption
    have We:¬(mF s).1.e≠0:=by rw[<-e1];simp[R1]
    refine PY _ _ ?_;clear PY
    (have W:=R1;repeat' (first|refine ax fun K hK=>?_|refine az ?_|(with_reducible refine gR 12 ?_);refine dA 12 [10] (aK 0 12) mixed ?_|(refine hK _ _ ?_;clear hK K)|(refine aw ?_ ?_<;>intro hc<;>try exact jz)|refine ay ?_|exact jI|(clear hK K)))
    have PY:=hK;clear hK;refine dR (S:=Nat) [(12,2),(75,18)] (fun k=>k<=L.length) (fun k=>[(12,rB (qR q.nodes L k)),(13,rI k)]) (fun _=>⟨[],[(10,.var 27 [.raw (.slice none 0 0),.raw (.slice none 0 0)]),(0,.var 128 (gK q)),(11,.var 27 [.rs 1 q.nodes.length 5 q.nodes.length,.rs 12 L.length 5 L.length]),(1,.aE 78 5 (q.nodes.map eG)),(12,.aE 132 5 (L.map fZ))]⟩) (fun k=>L.length-k) 0 (Nat.zero_le _) (dS (by simp only[gK,R1]) (by simp only[go_sem,jm,Nat.reduceAdd,AV.raw.injEq,Value.int.injEq,Value.slice.injEq,Value.pointer.injEq,AV.rs.injEq,qR,List.take_zero,List.any_nil,Bool.or_false];try omega)) ?_;intro k hk Kr P3;refine S ?_
    (repeat' (first|refine ax fun K hK=>?_|refine az ?_|(with_reducible refine gR 12 ?_);refine dA 12 [10] (aK 0 12) mixed ?_|(refine hK _ _ ?_;clear hK K)|(refine aw ?_ ?_<;>intro hc<;>try exact jz)|refine ay ?_|exact jI|(clear hK K)))
    ·have RU:k<L.length:=jB;refine P3 _ _ (dZ (k+1) jJ jJ (by simp only[gK,R1]) (by simp only[go_sem,jm,Nat.reduceAdd,AV.raw.injEq,Value.int.injEq,Value.slice.injEq,Value.pointer.injEq,AV.rs.injEq,Pf _ _ RU];try omega))
    ·have XL:qR q.nodes L k=sQ q.nodes L:=MF _ _ jB;by_cases Rf:sQ q.nodes L=true
     ·have ep:gz s=(⟨[],[]⟩,0,4):=by unfold gz;rw[if_neg (by simp[he]),if_neg We,<-e1,<-e2,if_pos Rf]
      rw[ep]at PY;refine PY _ _ ?_
      (have W:=jA XL Rf;repeat' (first|refine ax fun K hK=>?_|refine az ?_|(with_reducible refine gR 12 ?_);refine dA 12 [10] (aK 0 12) mixed ?_|(refine hK _ _ ?_;clear hK K)|(refine aw ?_ ?_<;>intro hc<;>try exact jz)|refine ay ?_|exact jI|(clear hK K)))
      refine lE [.cell 2 27,.tmp 3,.tmp 4] ?_;refine bT.ba (ds:=[.agg (kM ⟨[],[]⟩),rI _,rI _]) ?_;exact jA (bT.agg (ds:=[aX eG 5 [],aX fZ 5 []]) (jA (dz.nil _ _) (jA (dz.nil _ _) trivial))) (jA (.same _ rfl) (jA (.same _ rfl) trivial))
     ·have YD:sQ q.nodes L=false:=by simpa using Rf
      have ep:gz s=(⟨q.nodes,L⟩,0,0):=by unfold gz;rw[if_neg (by simp[he]),if_neg We,<-e1,<-e2,if_neg Rf]
      rw[ep]at PY;refine PY _ _ ?_
      (have W:=jA XL YD;repeat' (first|refine ax fun K hK=>?_|refine az ?_|(with_reducible refine gR 12 ?_);refine dA 12 [10] (aK 0 12) mixed ?_|(refine hK _ _ ?_;clear hK K)|(refine aw ?_ ?_<;>intro hc<;>try exact jz)|refine ay ?_|exact jI|(clear hK K)))
      refine lE [.cell 2 27,.tmp 3,.tmp 4] ?_;refine bT.ba (ds:=[.agg (kM ⟨q.nodes,L⟩),rI _,rI _]) ?_;exact jA (bT.agg (ds:=[aX eG 5 q.nodes,aX fZ 5 L]) (jA (dz.row (enc:=eG) q.nodes rfl rfl jE) (jA (dz.row (enc:=fZ) L rfl rfl jE) trivial))) (jA (.same _ rfl) (jA (.same _ rfl) trivial))
   ·have R1:¬q.e=0:=by assumption
    have ep:gz s=(⟨[],[]⟩,q.at_,q.e):=by unfold gz;rw[if_neg (by simp[he]),<-e1,if_pos R1]
    rw[ep]at PY;refine PY _ _ ?_
    (have W:=R1;repeat' (first|refine ax fun K hK=>?_|refine az ?_|(with_reducible refine gR 12 ?_);refine dA 12 [10] (aK 0 12) mixed ?_|(refine hK _ _ ?_;clear hK K)|(refine aw ?_ ?_<;>intro hc<;>try exact jz)|refine ay ?_|exact jI|(clear hK K)))
    refine lE [.cell 2 27,.tmp 3,.tmp 4] ?_;refine bT.ba (ds:=[.agg (kM ⟨[],[]⟩),rI _,rI _]) ?_;exact jA (bT.agg (ds:=[aX eG 5 [],aX fZ 5 []]) (jA (dz.nil _ _) (jA (dz.nil _ _) trivial))) (jA (.same _ rfl) (jA (.same _ rfl) trivial))
 ·have ep:gz s=(⟨[],[]⟩,(j5 s).2.1,(j5 s).2.2):=by unfold gz;rw[if_pos he]
  rw[ep];refine fg func29 ntmps29 ?_
  (have W:=he;repeat' (first|refine ax fun K hK=>?_|refine az ?_|(with_reducible refine gR 12 ?_);refine dA 12 [10] (aK 0 12) mixed ?_|(refine hK _ _ ?_;clear hK K)|(refine aw ?_ ?_<;>intro hc<;>try exact jz)|refine cp (CX s hs) ?_|refine ay ?_|exact jI|(clear hK K)))
  refine lE [.cell 2 27,.tmp 3,.tmp 4] ?_;refine bT.ba (ds:=[.agg (kM ⟨[],[]⟩),rI _,rI _]) ?_;exact jA (bT.agg (ds:=[aX eG 5 [],aX fZ 5 []]) (jA (dz.nil _ _) (jA (dz.nil _ _) trivial))) (jA (.same _ rfl) (jA (.same _ rfl) trivial))
def uQ(c:Ck):PH:=[aX eG 5 c.aa.nodes,aX fZ 5 c.aa.au,.rs 1 c.types.length 1 c.types.length,.rs 2 c.slots.length 1 c.slots.length,.rs 3 c.au.length 1 c.au.length,.rs 4 c.aL.length 1 c.aL.length,rI c.fn,.rs 5 (c.vars.length+c.more.length) 3 c.vars.length,rI c.size,rI c.e,rI c.at_]
def fx(c:Ck):PG:=[(0,.var 137 (uQ c)),(1,.aE 3 1 (c.types.map eI)),(2,.aE 3 1 (c.slots.map eI)),(3,.aE 3 1 (c.au.map eI)),(4,.aE 3 1 (c.aL.map eI)),(5,.aE 179 3 ((c.vars++c.more).map q9))]
attribute [go_sem] fx uQ Ck.slot Ck.note Ck.ah
structure bv(c:Ck):Prop where
 aa:aO c.aa
 types:c.types.length=c.aa.nodes.length
 slots:c.slots.length=c.aa.nodes.length
 au:c.au.length=c.aa.nodes.length
 aL:c.aL.length<=6
 uY:0<=c.fn
 tV:c.fn<c.aa.au.length
 vars:(c.vars.length:Int)<=c.size
 size:c.size<=25
 room:c.e=0->c.size<=24
theorem xi{α:Type}(f:α->PL)(nm:PL):∀(l:List α) (i:Int),0<=i->(iw f nm l i=-1/\∀v∈l,f v≠nm)\/(i<=iw f nm l i/\iw f nm l i<i+l.length)
 |[],i,_=>.inl ⟨rfl,fun v hv=>by simp at hv⟩
 |v::l,i,hi=>by
  unfold iw;by_cases h:f v=nm
  ·rw[if_pos h];exact .inr jF
  ·rw[if_neg h];rcases xi f nm l (i+1) jB with⟨h1,h2⟩|h1
   ·exact .inl ⟨h1,fun u hu=>by
     rcases List.mem_cons.1 hu with rfl|hu
     ·exact h
     ·exact h2 u hu⟩
   ·exact .inr jF
def lg{α:Type}[Inhabited α]{l:List α}{i:Nat}(h:i<l.length):l.drop i=nth l i::l.drop (i+1):=by rw[dT h];exact List.drop_eq_getElem_cons h
def rG(c:Ck)(e a:Int):ai prog 91 [pR,rI e,rI a] (fx c) (fun v l=>v=.ba []/\l=fx (c.aC e a)):=by
 refine aQ func91 ntmps91 ?_;refine S ?_
 (repeat' (first|refine ax fun K hK=>?_|refine az ?_|(refine hK _ _ ?_;clear hK K)|(refine aw ?_ ?_<;>intro hc<;>try exact jz)|refine ay ?_|exact jI|(clear hK K)))
 ·(refine bQ [] ?_ ?_<;>(try simp only[go_sem]))
  simp only[Ck.aC,if_pos hc,fx,uQ]
 ·(refine bQ [] ?_ ?_<;>(try simp only[go_sem]))
  simp only[Ck.aC,if_neg hc,fx,uQ]
def zu(c:Ck)(nm:PL)(h:bv c):ai prog 92 [pR,rS nm] (fx c) (fun v l=>v=rI (c.find nm)/\l=fx c):=by
 have h1:=h.vars;have h2:=h.size;refine aQ func92 ntmps92 ?_;refine S ?_
 (repeat' (first|refine ax fun K hK=>?_|refine az ?_|(refine hK _ _ ?_;clear hK K)|(refine aw ?_ ?_<;>intro hc<;>try exact jz)|refine ay ?_|exact jI|(clear hK K)))
 have PY:=hK;clear hK;refine dR (S:=Nat) [(4,22)] (fun k=>k<=c.vars.length/\iw fq.name nm (c.vars.drop k) k=c.find nm) (fun k=>[(5,rI k)]) (fun _=>⟨[0,1,2,3,4,5],fx c⟩) (fun k=>c.vars.length-k) 0 ⟨jB,rfl⟩ (dS jD cc) ?_;rintro k ⟨Qg,P1⟩ Kr P3
 (refine S ?_;try exact jI)
 by_cases hk:k<c.vars.length
 ·rw[lg hk]at P1;unfold iw at P1;have Ub:nth (c.vars++c.more) k=nth c.vars k:=oz hk
  (have W:=Ub;repeat' (first|refine ax fun K hK=>?_|refine az ?_|(refine hK _ _ ?_;clear hK K)|(refine aw ?_ ?_<;>intro hc<;>try exact jz)|refine PY _ _ ?_|refine ay ?_|exact jI|(clear hK K)))
  ·(refine bQ [.tmp 4] ?_ ?_<;>(try simp only[go_sem]))
   rw[if_pos hc]at P1;rw[<-P1]
  ·rw[if_neg hc]at P1;refine P3 _ _ (dZ (k+1) ⟨jB,by rw[<-P1];rfl⟩ jJ jD cc)
 ·rw[List.drop_eq_nil_of_le jB]at P1
  (repeat' (first|refine ax fun K hK=>?_|refine az ?_|(refine hK _ _ ?_;clear hK K)|(refine aw ?_ ?_<;>intro hc<;>try exact jz)|refine PY _ _ ?_|refine ay ?_|exact jI|(clear hK K)))
  (refine bQ [.tmp 4] ?_ ?_<;>(try simp only[go_sem]))
  rw[<-P1];rfl
def nr(c:Ck)(b:Bool)(a:Int):ai prog 163 [pR,rB b,rI a] (fx c) (fun v l=>v=.ba []/\l=fx (c.ap b a)):=by
 refine aQ func163 ntmps163 ?_;refine S ?_
 (repeat' (first|refine ax fun K hK=>?_|refine az ?_|(refine hK _ _ ?_;clear hK K)|(refine aw ?_ ?_<;>intro hc<;>try exact jz)|refine cm (rG c 42 a) ?_|refine ay ?_|exact jI|(clear hK K)))
 ·(refine bQ [] ?_ ?_<;>(try simp only[go_sem]))
  simp only[Ck.ap,hc,Bool.false_eq_true,if_false,fx,uQ]
 ·(refine bQ [] ?_ ?_<;>(try simp only[go_sem]))
  simp only[Ck.ap,hc,if_true,fx,uQ]
variable{a:Int}
def uz{c:Ck}(h:bv c)(h0:0<=a)(h1:a<c.aa.nodes.length):Shape c.aa.nodes (c.node a)/\∀x∈(c.node a).l,0<=x/\x.toNat<a.toNat:=by have:=h.aa.shape a.toNat jB;exact⟨this.1,this.2.1⟩
def xT{c:Ck}(h:bv c)(h0:0<=a)(h1:a<c.aa.nodes.length):(c.node a).l.length<=300:=by obtain⟨_,_,lo,hc⟩:=h.aa.shape a.toNat jB;have:=hc.len;have:=h.aa.many;show(nth c.aa.nodes a.toNat).l.length<=300;omega
def DK(c:Ck)(a:Int)(h:bv c)(h0:0<=a)(h1:a<c.aa.nodes.length):ai prog 161 [pR,rI a] (fx c) (fun v l=>v=rI (c.named a).2/\l=fx (c.named a).1):=by
 have hv:=h.vars;have hz:=h.size;have Q0:=h.slots;have Wk:=xi fq.name (c.node a).name c.vars 0 jB;have SP:=zu c (c.node a).name h;have Tm:=rG c 40 a;have Ub:0<=c.find (c.node a).name->nth (c.vars++c.more) (c.find (c.node a).name).toNat=nth c.vars (c.find (c.node a).name).toNat:=fun h=>oz (by have Wk:(c.find (c.node a).name=-1/\_)\/(0<=c.find (c.node a).name/\c.find (c.node a).name<0+c.vars.length):=Wk;omega)
 have Wk:(c.find (c.node a).name=-1/\_)\/(0<=c.find (c.node a).name/\c.find (c.node a).name<0+c.vars.length):=Wk;unfold Ck.named;by_cases hf:c.find (c.node a).name<0
 ·rw[if_pos hf];refine aQ func161 ntmps161 ?_;refine S ?_
  (repeat' (first|refine ax fun K hK=>?_|refine az ?_|(with_reducible refine gR 5 ?_);refine dE 5 (aK 0 16) mixed ?_|(refine hK _ _ ?_;clear hK K)|(refine aw ?_ ?_<;>intro hc<;>try exact jz)|refine cm (SP) ?_|refine cm (Tm) ?_|refine ay ?_|exact jI|(clear hK K)))
  (refine bQ [.tmp 4] ?_ ?_<;>(try simp only[go_sem]))
 ·rw[if_neg hf];have Ub:=Ub jB;refine aQ func161 ntmps161 ?_;refine S ?_
  (have W:=Ub;repeat' (first|refine ax fun K hK=>?_|refine az ?_|(with_reducible refine gR 5 ?_);refine dE 5 (aK 0 16) mixed ?_|(refine hK _ _ ?_;clear hK K)|(refine aw ?_ ?_<;>intro hc<;>try exact jz)|refine cm (SP) ?_|refine ay ?_|exact jI|(clear hK K)))
  (refine bQ [.tmp 4] ?_ ?_<;>(try simp only[go_sem]))
structure Ev(c c':Ck):Prop where
 aa:c'.aa=c.aa
 fn:c'.fn=c.fn
 vars:c'.vars=c.vars
 more:c'.more=c.more
 size:c'.size=c.size
 aL:c'.aL=c.aL
 types:c'.types.length=c.types.length
 slots:c'.slots.length=c.slots.length
 au:c'.au.length=c.au.length
 err:c.e≠0->c'.e≠0
def Ev.refl(c:Ck):Ev c c:=⟨rfl,rfl,rfl,rfl,rfl,rfl,rfl,rfl,rfl,id⟩
theorem Ev.trans{a b c:Ck}(h:Ev a b)(k:Ev b c):Ev a c:=⟨k.aa.trans h.aa,k.fn.trans h.fn,k.vars.trans h.vars,k.more.trans h.more,k.size.trans h.size,k.aL.trans h.aL,k.types.trans h.types,k.slots.trans h.slots,k.au.trans h.au,fun e=>k.err (h.err e)⟩
def bv.ev{c c':Ck}(h:bv c)(s:Ev c c'):bv c' where
 aa:=by rw[s.aa];exact h.aa
 types:=by rw[s.types,s.aa];exact h.types
 slots:=by rw[s.slots,s.aa];exact h.slots
 au:=by rw[s.au,s.aa];exact h.au
 aL:=by rw[s.aL];exact h.aL
 uY:=by rw[s.fn];exact h.uY
 tV:=by rw[s.fn,s.aa];exact h.tV
 vars:=by rw[s.vars,s.size];exact h.vars
 size:=by rw[s.size];exact h.size
 room:=fun e=>by rw[s.size];exact h.room (Classical.byContradiction fun h=>s.err h e)
theorem Ev.node{c c':Ck}(s:Ev c c')(a:Int):c'.node a=c.node a:=by unfold Ck.node;rw[s.aa]
theorem Ev.aA{c c':Ck}(s:Ev c c')(a:Int)(i:Nat):c'.aA a i=c.aA a i:=by unfold Ck.aA;rw[s.node]
def mW(c:Ck){e:Int}(he:e≠0)(a:Int):Ev c (c.aC e a):=by
 unfold Ck.aC;split
 ·exact⟨rfl,rfl,rfl,rfl,rfl,rfl,rfl,rfl,rfl,fun _=>he⟩
 ·exact .refl c
def jO(c:Ck)(b:Bool)(a:Int):Ev c (c.ap b a):=by
 unfold Ck.ap;split
 ·exact .refl c
 ·exact mW c jC a
def Nf(c:Ck)(a s:Int):Ev c (c.slot a s):=⟨rfl,rfl,rfl,rfl,rfl,rfl,rfl,by simp[Ck.slot],rfl,id⟩
def Kl(c:Ck)(a t:Int):Ev c (c.note a t):=⟨rfl,rfl,rfl,rfl,rfl,rfl,by simp[Ck.note],rfl,by simp[Ck.note],id⟩
def qk(c:Ck)(a:Int):Ev c (c.ah a):=⟨rfl,rfl,rfl,rfl,rfl,rfl,rfl,rfl,by simp[Ck.ah],id⟩
def mQ(c:Ck)(a:Int):Ev c (c.named a).1:=by
 unfold Ck.named;split
 ·exact mW c jC a
 ·exact Nf c a _
theorem sH{ex:Ck->Int->Ck×Int}(hex:∀c a,Ev c (ex c a).1):∀(l:PJ) (c:Ck) (ts:PJ),Ev c (gy ex c l ts).1
 |[],c,ts=>by unfold gy;exact .refl c
 |a::l,c,ts=>by
  unfold gy;split
  ·exact(hex c a).trans (sH hex l _ _)
  ·exact .refl c
theorem yg(a:Int):∀(ts:PJ) (ps:List ce) (c:Ck),Ev c (hZ a c ts ps)
 |[],_,c=>by unfold hZ;exact .refl c
 |_::_,[],c=>by unfold hZ;exact .refl c
 |t::ts,p::ps,c=>by
  unfold hZ;split
  ·exact(jO c _ a).trans (yg a ts ps _)
  ·exact .refl c
variable{ex:Ck->Int->Ck×Int}
def IC(hex:∀c a,Ev c (ex c a).1)(c:Ck)(a:Int):Ev c (iL ex c a).1:=by
 unfold iL;split
 ·exact mW c jC a
 ·refine Ev.trans ?_ (yg _ _ _ _);split
  ·exact(sH hex _ _ _).trans (mW _ jC a)
  ·exact sH hex _ _ _
def Aa(hex:∀c a,Ev c (ex c a).1)(c:Ck)(a:Int):Ev c (bX ex c a).1:=by
 unfold bX;simp only;repeat' split
 all_goals first
  |exact .refl c
  |exact mQ c a
  |exact IC hex c a
  |exact((mQ c a).trans (hex _ _)).trans (jO _ _ _)
  |exact((hex c _).trans (hex _ _)).trans (jO _ _ _)
  |exact(hex c _).trans (jO _ _ _)
theorem eP:∀(n:Nat) (c:Ck) (a:Int),Ev c (av n c a).1
 |0,c,a=>by unfold av;exact .refl c
 |n+1,c,a=>by
  unfold av;split
  ·exact .refl c
  ·exact(Aa (eP n) c a).trans (Kl _ _ _)
def sK(n:Nat):Prop:=∀(c:Ck) (a:Int),bv c->0<=a->a<c.aa.nodes.length->a.toNat<n->ff (c.node a).kind->ai prog 162 [pR,rI a] (fx c) (fun v l=>v=rI (av n c a).2/\l=fx (av n c a).1)
def Ch(n:Nat):Prop:=∀(c:Ck) (a:Int),bv c->c.e=0->0<=a->a<c.aa.nodes.length->a.toNat<=n->ff (c.node a).kind->ai prog 176 [pR,rI a] (fx c) (fun v l=>v=rI (bX (av n) c a).2/\l=fx (bX (av n) c a).1)
def EH(n:Nat):Prop:=∀(c:Ck) (a:Int),bv c->0<=a->a<c.aa.nodes.length->a.toNat<=n->(c.node a).kind=21->ai prog 185 [pR,rI a] (fx c) (fun v l=>v=rI (iL (av n) c a).2/\l=fx (iL (av n) c a).1)
def M6(s:PL)(a b:Int):dO prog 186 [rS s,rI a,rI b] (rI (iu s a b)):=by
 refine fg func186 ntmps186 ?_
 (repeat' (first|refine ax fun K hK=>?_|refine az ?_|(refine hK _ _ ?_;clear hK K)|(refine aw ?_ ?_<;>intro hc<;>try exact jz)|refine ay ?_|exact jI|(clear hK K)))
 all_goals(refine bQ [.tmp 6] ?_ ?_<;>(try simp only[go_sem]))
 all_goals simp_all [iu]
 all_goals omega
def Ht(n:Nat)(ht:Ch n):sK (n+1):=by
 intro c a h h0 h1 hn hk;have hz:=h.size;have hv:=h.vars;by_cases he:c.e=0
 ·have YE:=ht c a h he h0 h1 jB hk;have s:=Aa (eP n) c a;have h2:=h.ev s;have l1:=h2.types;have l2:=h2.au;rw[s.aa]at l1 l2;rw[av,jN];refine aQ func162 ntmps162 ?_;refine S ?_
  (repeat' (first|refine ax fun K hK=>?_|refine az ?_|(with_reducible refine gR 5 ?_);refine dE 5 (aK 0 12) mixed ?_|(refine hK _ _ ?_;clear hK K)|(refine aw ?_ ?_<;>intro hc<;>try exact jz)|refine cm (YE) ?_|refine ay ?_|exact jI|(clear hK K)))
  (refine bQ [.tmp 4] ?_ ?_<;>(try simp only[go_sem]))
 ·rw[av,if_pos he];refine aQ func162 ntmps162 ?_;refine S ?_
  (repeat' (first|refine ax fun K hK=>?_|refine az ?_|(with_reducible refine gR 5 ?_);refine dE 5 (aK 0 12) mixed ?_|(refine hK _ _ ?_;clear hK K)|(refine aw ?_ ?_<;>intro hc<;>try exact jz)|refine ay ?_|exact jI|(clear hK K)))
  (refine bQ [.tmp 4] ?_ ?_<;>(try simp only[go_sem]))
def OU(n:Nat)(hx:sK n)(Qn:EH n):Ch n:=by
 intro c a h he h0 h1 hn hk;have hz:=h.size;have hv:=h.vars;obtain⟨sh,Rh⟩:=uz h h0 h1;have Qw:∀i,i<(c.node a).l.length->(c.aA a i).toNat<n/\0<=c.aA a i/\c.aA a i<c.aa.nodes.length:=fun i hi=>by have hm:c.aA a i∈(c.node a).l:=fu hi;have:=Rh _ hm;omega
 have ev0:=mQ c a;have T':=h.ev ev0;have Qi:=DK c a h h0 h1;unfold ff bW at hk;have e19:(c.node a).kind=1\/(c.node a).kind=19\/(c.node a).kind=2\/(c.node a).kind=3\/(c.node a).kind=4\/(c.node a).kind=21\/(c.node a).kind=5\/(c.node a).kind=9\/(c.node a).kind=6\/(c.node a).kind=7\/(c.node a).kind=8\/(c.node a).kind=20:=jB;rcases e19 with k|k|k|k|k|k|k|k|k|k|k|k
 ·have P8:(nth c.aa.nodes a.toNat).kind=1:=k;rw[show bX (av n) c a=(c,1) from by unfold bX;rw[k];rfl];refine aQ func176 ntmps176 ?_;refine S ?_
  (have W:=P8;repeat' (first|refine ax fun K hK=>?_|refine az ?_|(refine hK _ _ ?_;clear hK K)|(refine aw ?_ ?_<;>intro hc<;>try exact jz)|refine ay ?_|exact jI|(clear hK K)))
  (refine bA [.tmp 4] ?_;try simp only[go_sem])
 ·have P8:(nth c.aa.nodes a.toNat).kind=19:=k;rw[show bX (av n) c a=(c,1) from by unfold bX;rw[k];rfl];refine aQ func176 ntmps176 ?_;refine S ?_
  (have W:=P8;repeat' (first|refine ax fun K hK=>?_|refine az ?_|(refine hK _ _ ?_;clear hK K)|(refine aw ?_ ?_<;>intro hc<;>try exact jz)|refine ay ?_|exact jI|(clear hK K)))
  (refine bA [.tmp 4] ?_;try simp only[go_sem])
 ·have P8:(nth c.aa.nodes a.toNat).kind=2:=k;rw[show bX (av n) c a=(c,2) from by unfold bX;rw[k];rfl];refine aQ func176 ntmps176 ?_;refine S ?_
  (have W:=P8;repeat' (first|refine ax fun K hK=>?_|refine az ?_|(refine hK _ _ ?_;clear hK K)|(refine aw ?_ ?_<;>intro hc<;>try exact jz)|refine ay ?_|exact jI|(clear hK K)))
  (refine bA [.tmp 4] ?_;try simp only[go_sem])
 ·have P8:(nth c.aa.nodes a.toNat).kind=3:=k;rw[show bX (av n) c a=(c,3) from by unfold bX;rw[k];rfl];refine aQ func176 ntmps176 ?_;refine S ?_
  (have W:=P8;repeat' (first|refine ax fun K hK=>?_|refine az ?_|(refine hK _ _ ?_;clear hK K)|(refine aw ?_ ?_<;>intro hc<;>try exact jz)|refine ay ?_|exact jI|(clear hK K)))
  (refine bA [.tmp 4] ?_;try simp only[go_sem])
 ·have P8:(nth c.aa.nodes a.toNat).kind=4:=k;rw[show bX (av n) c a=c.named a from by unfold bX;rw[k];rfl];refine aQ func176 ntmps176 ?_;refine S ?_
  (have W:=P8;repeat' (first|refine ax fun K hK=>?_|refine az ?_|(refine hK _ _ ?_;clear hK K)|(refine aw ?_ ?_<;>intro hc<;>try exact jz)|refine cm (Qi) ?_|refine ay ?_|exact jI|(clear hK K)))
  (refine bA [.tmp 4] ?_;try simp only[go_sem])
 ·have P8:(nth c.aa.nodes a.toNat).kind=21:=k;rw[show bX (av n) c a=iL (av n) c a from by unfold bX;rw[k];rfl];have P7:=Qn c a h h0 h1 hn k;refine aQ func176 ntmps176 ?_;refine S ?_
  (have W:=P8;repeat' (first|refine ax fun K hK=>?_|refine az ?_|(refine hK _ _ ?_;clear hK K)|(refine aw ?_ ?_<;>intro hc<;>try exact jz)|refine cm (P7) ?_|refine ay ?_|exact jI|(clear hK K)))
  (refine bA [.tmp 4] ?_;try simp only[go_sem])
 ·have P8:(nth c.aa.nodes a.toNat).kind=5:=k;obtain⟨x,hl,Qc⟩:=sh.one jB;have Rn:(c.node a).l.length=1:=by rw[hl];rfl
  have Rc:(nth c.aa.nodes a.toNat).l.length=1:=Rn;obtain⟨g1,g2,g3⟩:=Qw 0 jB;have Sy:ff (c.node (c.aA a 0)).kind:=by
   have:c.aA a 0=x:=by unfold Ck.aA;rw[hl];rfl
   rw[this];exact .inl Qc
  have hex:=hx (c.named a).1 (c.aA a 0) T' g2 (by rw[ev0.aa];exact g3) g1 (by rw[ev0.node];exact Sy);have hm:=nr (av n (c.named a).1 (c.aA a 0)).1 (decide ((c.named a).2=4) && decide ((av n (c.named a).1 (c.aA a 0)).2=1)) a;rw[show bX (av n) c a=((av n (c.named a).1 (c.aA a 0)).1.ap (decide ((c.named a).2=4) && decide ((av n (c.named a).1 (c.aA a 0)).2=1)) a,1) from by unfold bX;rw[k];rfl];refine aQ func176 ntmps176 ?_;refine S ?_
  (have W:=P8;repeat' (first|refine ax fun K hK=>?_|refine az ?_|(refine hK _ _ ?_;clear hK K)|(refine aw ?_ ?_<;>intro hc<;>try exact jz)|refine cm (Qi) ?_|refine cm (hex) ?_|refine cm (hm) ?_|refine ay ?_|exact jI|(clear hK K)))
  (refine bA [.tmp 4] ?_;try simp only[go_sem])
 ·have P8:(nth c.aa.nodes a.toNat).kind=9:=k;obtain⟨x,y,hl,Qc,SQ⟩:=sh.two jB;have Rn:(c.node a).l.length=2:=by rw[hl];rfl
  have Rc:(nth c.aa.nodes a.toNat).l.length=2:=Rn;obtain⟨g1,g2,g3⟩:=Qw 0 jB;obtain⟨g4,g5,g6⟩:=Qw 1 jB;have Sy:ff (c.node (c.aA a 0)).kind:=by
   have:c.aA a 0=x:=by unfold Ck.aA;rw[hl];rfl
   rw[this];exact .inl Qc
  have YF:ff (c.node (c.aA a 1)).kind:=by
   have:c.aA a 1=y:=by unfold Ck.aA;rw[hl];rfl
   rw[this];exact .inl SQ
  have ev1:=eP n c (c.aA a 0);have hex:=hx c (c.aA a 0) h g2 g3 g1 Sy;have WN:=hx (av n c (c.aA a 0)).1 (c.aA a 1) (h.ev ev1) g5 (by rw[ev1.aa];exact g6) g4 (by rw[ev1.node];exact YF);have hb:=M6 (c.node a).name (av n c (c.aA a 0)).2 (av n (av n c (c.aA a 0)).1 (c.aA a 1)).2;have hm:=nr (av n (av n c (c.aA a 0)).1 (c.aA a 1)).1 (!decide (iu (c.node a).name (av n c (c.aA a 0)).2 (av n (av n c (c.aA a 0)).1 (c.aA a 1)).2=0)) a;rw[show bX (av n) c a=((av n (av n c (c.aA a 0)).1 (c.aA a 1)).1.ap (!decide (iu (c.node a).name (av n c (c.aA a 0)).2 (av n (av n c (c.aA a 0)).1 (c.aA a 1)).2=0)) a,iu (c.node a).name (av n c (c.aA a 0)).2 (av n (av n c (c.aA a 0)).1 (c.aA a 1)).2) from by unfold bX;rw[k];rfl];refine aQ func176 ntmps176 ?_;refine S ?_
  (have W:=P8;repeat' (first|refine ax fun K hK=>?_|refine az ?_|(refine hK _ _ ?_;clear hK K)|(refine aw ?_ ?_<;>intro hc<;>try exact jz)|refine cm (hex) ?_|refine cm (WN) ?_|refine cp (hb) ?_|refine cm (hm) ?_|refine ay ?_|exact jI|(clear hK K)))
  (refine bA [.tmp 4] ?_;try simp only[go_sem])
 ·have P8:(nth c.aa.nodes a.toNat).kind=6:=k;obtain⟨x,hl,Qc⟩:=sh.one jB;have Rn:(c.node a).l.length=1:=by rw[hl];rfl
  have Rc:(nth c.aa.nodes a.toNat).l.length=1:=Rn;obtain⟨g1,g2,g3⟩:=Qw 0 jB;have Sy:ff (c.node (c.aA a 0)).kind:=by
   have:c.aA a 0=x:=by unfold Ck.aA;rw[hl];rfl
   rw[this];exact .inl Qc
  have hex:=hx c (c.aA a 0) h g2 g3 g1 Sy;have hm:=nr (av n c (c.aA a 0)).1 (decide ((av n c (c.aA a 0)).2=3) || decide ((av n c (c.aA a 0)).2=4)) a;rw[show bX (av n) c a=((av n c (c.aA a 0)).1.ap (decide ((av n c (c.aA a 0)).2=3) || decide ((av n c (c.aA a 0)).2=4)) a,1) from by unfold bX;rw[k];rfl];refine aQ func176 ntmps176 ?_;refine S ?_
  (have W:=P8;repeat' (first|refine ax fun K hK=>?_|refine az ?_|(refine hK _ _ ?_;clear hK K)|(refine aw ?_ ?_<;>intro hc<;>try exact jz)|refine cm (hex) ?_|refine cm (hm) ?_|refine ay ?_|exact jI|(clear hK K)))
  (refine bA [.tmp 4] ?_;try simp only[go_sem])
 ·have P8:(nth c.aa.nodes a.toNat).kind=7:=k;obtain⟨x,hl,Qc⟩:=sh.one jB;have Rn:(c.node a).l.length=1:=by rw[hl];rfl
  have Rc:(nth c.aa.nodes a.toNat).l.length=1:=Rn;obtain⟨g1,g2,g3⟩:=Qw 0 jB;have Sy:ff (c.node (c.aA a 0)).kind:=by
   have:c.aA a 0=x:=by unfold Ck.aA;rw[hl];rfl
   rw[this];exact .inl Qc
  have hex:=hx c (c.aA a 0) h g2 g3 g1 Sy;have hm:=nr (av n c (c.aA a 0)).1 (decide ((av n c (c.aA a 0)).2=1)) a;rw[show bX (av n) c a=((av n c (c.aA a 0)).1.ap (decide ((av n c (c.aA a 0)).2=1)) a,1) from by unfold bX;rw[k];rfl];refine aQ func176 ntmps176 ?_;refine S ?_
  (have W:=P8;repeat' (first|refine ax fun K hK=>?_|refine az ?_|(refine hK _ _ ?_;clear hK K)|(refine aw ?_ ?_<;>intro hc<;>try exact jz)|refine cm (hex) ?_|refine cm (hm) ?_|refine ay ?_|exact jI|(clear hK K)))
  (refine bA [.tmp 4] ?_;try simp only[go_sem])
 ·have P8:(nth c.aa.nodes a.toNat).kind=8:=k;obtain⟨x,hl,Qc⟩:=sh.one jB;have Rn:(c.node a).l.length=1:=by rw[hl];rfl
  have Rc:(nth c.aa.nodes a.toNat).l.length=1:=Rn;obtain⟨g1,g2,g3⟩:=Qw 0 jB;have Sy:ff (c.node (c.aA a 0)).kind:=by
   have:c.aA a 0=x:=by unfold Ck.aA;rw[hl];rfl
   rw[this];exact .inl Qc
  have hex:=hx c (c.aA a 0) h g2 g3 g1 Sy;have hm:=nr (av n c (c.aA a 0)).1 (decide ((av n c (c.aA a 0)).2=2)) a;rw[show bX (av n) c a=((av n c (c.aA a 0)).1.ap (decide ((av n c (c.aA a 0)).2=2)) a,2) from by unfold bX;rw[k];rfl];refine aQ func176 ntmps176 ?_;refine S ?_
  (have W:=P8;repeat' (first|refine ax fun K hK=>?_|refine az ?_|(refine hK _ _ ?_;clear hK K)|(refine aw ?_ ?_<;>intro hc<;>try exact jz)|refine cm (hex) ?_|refine cm (hm) ?_|refine ay ?_|exact jI|(clear hK K)))
  (refine bA [.tmp 4] ?_;try simp only[go_sem])
 ·have P8:(nth c.aa.nodes a.toNat).kind=20:=k;obtain⟨x,hl,Qc⟩:=sh.one jB;have Rn:(c.node a).l.length=1:=by rw[hl];rfl
  have Rc:(nth c.aa.nodes a.toNat).l.length=1:=Rn;obtain⟨g1,g2,g3⟩:=Qw 0 jB;have Sy:ff (c.node (c.aA a 0)).kind:=by
   have:c.aA a 0=x:=by unfold Ck.aA;rw[hl];rfl
   rw[this];exact .inl Qc
  have hex:=hx c (c.aA a 0) h g2 g3 g1 Sy;have hm:=nr (av n c (c.aA a 0)).1 (decide ((av n c (c.aA a 0)).2=1)) a;rw[show bX (av n) c a=((av n c (c.aA a 0)).1.ap (decide ((av n c (c.aA a 0)).2=1)) a,4) from by unfold bX;rw[k];rfl];refine aQ func176 ntmps176 ?_;refine S ?_
  (have W:=P8;repeat' (first|refine ax fun K hK=>?_|refine az ?_|(refine hK _ _ ?_;clear hK K)|(refine aw ?_ ?_<;>intro hc<;>try exact jz)|refine cm (hex) ?_|refine cm (hm) ?_|refine ay ?_|exact jI|(clear hK K)))
  (refine bA [.tmp 4] ?_;try simp only[go_sem])
def uN(a:Int)(c:Ck)(ps:List ce):hZ a c [] ps=c:=by cases ps<;>rfl
def uP(a:Int)(c:Ck)(ts:PJ):hZ a c ts []=c:=by cases ts<;>rfl
theorem Db{α:Type}(f:α->PL)(nm:PL):∀(l:List α) (i k:Int),0<=i->(iS f nm l i k=k\/i<=iS f nm l i k)/\(iS f nm l i k=k\/iS f nm l i k<i+l.length)
 |[],i,k,_=>by unfold iS;exact⟨.inl rfl,.inl rfl⟩
 |v::l,i,k,hi=>by
  unfold iS;obtain⟨h1,h2⟩:=Db f nm l (i+1) (if f v=nm then i else k) jB;simp only[List.length_cons];split at h1<;>rename_i hv
  ·rw[if_pos hv]at h2 ⊢;omega
  ·rw[if_neg hv]at h2 ⊢;omega
def NB(n:Nat)(hx:sK n):EH n:=by
 intro c a h h0 h1 hn hk;have hz:=h.size;have hv:=h.vars;have htf:=h.aa.au;have UM:=h.aa.many;obtain⟨sh,Rh⟩:=uz h h0 h1;have hck:=h.aa.chain;have J':(nth c.aa.nodes a.toNat).l.length<=300:=xT h h0 h1;have S1:∀i,i<(c.node a).l.length->ff (c.node (nth (c.node a).l i)).kind/\(nth (c.node a).l i).toNat<n/\0<=nth (c.node a).l i/\nth (c.node a).l i<c.aa.nodes.length:=fun i hi=>by have hm:nth (c.node a).l i∈(c.node a).l:=fu hi;have:=Rh _ hm;exact⟨.inl (sh.call hk _ hm),jB,this.1,jB⟩
 obtain⟨lg1,lg2⟩:=Db aU.name (c.node a).name c.aa.au 0 (-1) jB;have lg1:fz c a=-1\/0<=fz c a:=lg1;have lg2:fz c a=-1\/fz c a<0+c.aa.au.length:=lg2;refine aQ func185 ntmps185 ?_;refine S ?_
 (repeat' (first|refine ax fun K hK=>?_|refine az ?_|(with_reducible refine gR 6 ?_);refine dE 6 (aK 0 13) mixed ?_|(with_reducible refine gR 23 ?_);refine dE 23 (aK 0 14) mixed ?_|(refine hK _ _ ?_;clear hK K)|(refine aw ?_ ?_<;>intro hc<;>try exact jz)|refine ay ?_|exact jI|(clear hK K)))
 have PY:=hK;clear hK;refine dR (S:=Nat×Int) [(6,2),(22,25)] (fun s=>s.1<=c.aa.au.length/\iS aU.name (c.node a).name (c.aa.au.drop s.1) s.1 s.2=fz c a) (fun s=>[(7,rI s.1),(6,rI s.2)]) (fun _=>⟨[0,1,2,3,4,5],fx c++[(6,.var 78 (eG (c.node a)))]⟩) (fun s=>c.aa.au.length-s.1) (0,-1) ⟨jJ,rfl⟩ (dS iQ cc) ?_;rintro⟨k,j⟩ ⟨Qg,P1⟩ Kr P3;simp only at Qg P1
 (refine S ?_;try exact jI)
 by_cases PW:k<c.aa.au.length
 ·rw[lg PW]at P1;unfold iS at P1
  (repeat' (first|refine ax fun K hK=>?_|refine az ?_|(with_reducible refine gR 6 ?_);refine dE 6 (aK 0 13) mixed ?_|(with_reducible refine gR 23 ?_);refine dE 23 (aK 0 14) mixed ?_|(refine hK _ _ ?_;clear hK K)|(refine aw ?_ ?_<;>intro hc<;>try exact jz)|refine PY _ _ ?_|refine ay ?_|exact jI|(clear hK K)))
  ·rw[if_pos hc]at P1;refine P3 _ _ (dZ (k+1,(k:Int)) ⟨jJ,by rw[<-P1];rfl⟩ jJ iQ cc)
  ·rw[if_neg hc]at P1;refine P3 _ _ (dZ (k+1,j) ⟨jJ,by rw[<-P1];rfl⟩ jJ iQ cc)
 ·rw[List.drop_eq_nil_of_le jB]at P1;have P1:j=fz c a:=P1;subst P1;by_cases VD:fz c a<0
  ·rw[iL,if_pos VD]at*
   (repeat' (first|refine ax fun K hK=>?_|refine az ?_|(with_reducible refine gR 6 ?_);refine dE 6 (aK 0 13) mixed ?_|(with_reducible refine gR 23 ?_);refine dE 23 (aK 0 14) mixed ?_|(refine hK _ _ ?_;clear hK K)|(refine aw ?_ ?_<;>intro hc<;>try exact jz)|refine PY _ _ ?_|refine cm (rG c 40 a) ?_|refine ay ?_|exact jI|(clear hK K)))
   (refine bA [.tmp 4] ?_;try simp only[go_sem])
  ·have Wd:0<=fz c a:=jB;have Uz:(fz c a).toNat<c.aa.au.length:=jB;have hfp:=(h.aa.fn _ (fu Uz)).2;have e0:iL (av n) c a=(hZ a (if(c.node a).l.length≠(nth c.aa.au (fz c a).toNat).params.length then(gy (av n) c (c.node a).l []).1.aC 43 a else(gy (av n) c (c.node a).l []).1) (gy (av n) c (c.node a).l []).2 (nth c.aa.au (fz c a).toNat).params,(nth c.aa.au (fz c a).toNat).ret):=by
    rw[iL,if_neg VD]
   (repeat' (first|refine ax fun K hK=>?_|refine az ?_|(with_reducible refine gR 6 ?_);refine dE 6 (aK 0 13) mixed ?_|(with_reducible refine gR 23 ?_);refine dE 23 (aK 0 14) mixed ?_|(refine hK _ _ ?_;clear hK K)|(refine aw ?_ ?_<;>intro hc<;>try exact jz)|refine PY _ _ ?_|refine ay ?_|exact jI|(clear hK K)))
   have Sz:=hK;clear hK;refine gT (cU.nil 8 9 3 (sz:=1) rfl jC (Or.inr ⟨_,_,_,rfl,rfl⟩)) ?_
   (refine S ?_;try exact jI)
   refine dR (S:=Nat×Ck×PJ) [(9,3),(62,25)] (fun s=>s.1<=(c.node a).l.length/\Ev c s.2.1/\s.2.2.length=s.1/\gy (av n) s.2.1 ((c.node a).l.drop s.1) s.2.2=gy (av n) c (c.node a).l []) (fun s=>[(10,rI s.1),(9,.rs 8 s.2.2.length 1 s.2.2.length)]) (fun s=>⟨[0,1,2,3,4,5],fx s.2.1++[(6,.var 78 (eG (c.node a))),(7,.var 132 (fZ (nth c.aa.au (fz c a).toNat))),(8,.aE 3 1 (s.2.2.map eI))]⟩) (fun s=>(c.node a).l.length-s.1) (0,c,[]) ⟨jJ,.refl c,rfl,rfl⟩ (dS iQ cc) ?_;rintro⟨i,q,ts⟩ ⟨Sh,ev,V',hA⟩ Kr2 UN;simp only at Sh ev V' hA;have hq:=h.ev ev;have lt1:=hq.types;have lt2:=hq.slots;have lt3:=hq.au;have lt4:=hq.vars;have lt5:=hq.size;have hlq:(c.node a).l.length<=300:=J'
   (refine S ?_;try exact jI)
   by_cases Q1:i<(c.node a).l.length/\q.e=0
   ·obtain⟨QG,Re⟩:=Q1;rw[lg QG,gy,if_pos Re]at hA;obtain⟨g1,g2,g3,g4⟩:=S1 i QG;have YG:=hx q (nth (c.node a).l i) hq g3 (by rw[ev.aa];exact g4) g2 (by rw[ev.node];exact g1)
    (have W:=Re;repeat' (first|refine ax fun K hK=>?_|refine az ?_|(with_reducible refine gR 6 ?_);refine dE 6 (aK 0 13) mixed ?_|(with_reducible refine gR 23 ?_);refine dE 23 (aK 0 14) mixed ?_|(refine hK _ _ ?_;clear hK K)|(refine aw ?_ ?_<;>intro hc<;>try exact jz)|(refine Sz _ _ ?_)|refine cm (YG) ?_|refine ay ?_|exact jI|(clear hK K)))
    refine UN _ _ (dZ (i+1,(av n q (nth (c.node a).l i)).1,ts++[(av n q (nth (c.node a).l i)).2]) ⟨jJ,ev.trans (eP _ _ _),by simp[V'],hA⟩ jJ iQ cc)
   have XM:gy (av n) c (c.node a).l []=(q,ts):=by
    rw[<-hA];by_cases QG:i<(c.node a).l.length
    ·rw[lg QG,gy,if_neg fun e=>Q1 ⟨QG,e⟩]
    ·rw[List.drop_eq_nil_of_le jB,gy]
   have Wj:q=(gy (av n) c (c.node a).l []).1:=by rw[XM]
   have SA:ts=(gy (av n) c (c.node a).l []).2:=by rw[XM]
   by_cases QW:(c.node a).l.length≠(nth c.aa.au (fz c a).toNat).params.length
   ·have UO:(((c.node a).l.length:Int)=((nth c.aa.au (fz c a).toNat).params.length:Int))=False:=eq_false jB;have SR:(q.aC 43 a).e≠0:=by unfold Ck.aC;split;(exact fun h=>by cases h);assumption
    have evx:Ev c (q.aC 43 a):=ev.trans (mW q jC a);have hb:((q.aC 43 a)).e=0->ts.length<=(nth c.aa.au (fz c a).toNat).params.length:=fun h=>(SR h).elim
    (have W:=UO;repeat' (first|refine ax fun K hK=>?_|refine az ?_|(with_reducible refine gR 6 ?_);refine dE 6 (aK 0 13) mixed ?_|(with_reducible refine gR 23 ?_);refine dE 23 (aK 0 14) mixed ?_|(refine hK _ _ ?_;clear hK K)|(refine aw ?_ ?_<;>intro hc<;>try exact jz)|(refine Sz _ _ ?_)|refine cm (rG q 43 a) ?_|refine ay ?_|exact jI|(clear hK K)))
    have TR:=hK;clear hK;refine dR (S:=Nat×Ck) [(12,1),(97,27)] (fun s=>s.1<=ts.length/\Ev (q.aC 43 a) s.2/\hZ a s.2 (ts.drop s.1) ((nth c.aa.au (fz c a).toNat).params.drop s.1)=hZ a (q.aC 43 a) ts (nth c.aa.au (fz c a).toNat).params) (fun s=>[(12,rI s.1)]) (fun s=>⟨[0,1,2,3,4,5],fx s.2++[(6,.var 78 (eG (c.node a))),(7,.var 132 (fZ (nth c.aa.au (fz c a).toNat))),(8,.aE 3 1 (ts.map eI))]⟩) (fun s=>ts.length-s.1) (0,(q.aC 43 a)) ⟨jJ,.refl _,rfl⟩ (dS iQ cc) ?_;rintro⟨m,z⟩ ⟨R0,Rq,QS⟩ Kr3 VE;simp only at R0 Rq QS
    (refine S ?_;try exact jI)
    by_cases Q1:m<ts.length/\z.e=0
    ·obtain⟨QG,Re⟩:=Q1;have SG:((q.aC 43 a)).e=0:=Classical.byContradiction fun h=>Rq.err h Re
     exact(SR SG).elim
    ·have hz:z=hZ a (q.aC 43 a) ts (nth c.aa.au (fz c a).toNat).params:=by
      by_cases QG:m<ts.length
      ·have Re:z.e≠0:=fun e=>Q1 ⟨QG,e⟩
       rw[lg QG]at QS;cases hp:(nth c.aa.au (fz c a).toNat).params.drop m with
       |nil=>rw[hp,uP]at QS;exact QS
       |cons x y=>rw[hp,hZ,if_neg Re]at QS;exact QS
      ·rw[List.drop_eq_nil_of_le jB,uN]at QS;exact QS
     (repeat' (first|refine ax fun K hK=>?_|refine az ?_|(with_reducible refine gR 6 ?_);refine dE 6 (aK 0 13) mixed ?_|(with_reducible refine gR 23 ?_);refine dE 23 (aK 0 14) mixed ?_|(refine hK _ _ ?_;clear hK K)|(refine aw ?_ ?_<;>intro hc<;>try exact jz)|(refine TR _ _ ?_)|refine ay ?_|exact jI|(clear hK K)))
     all_goals first|(exact absurd ⟨jB,by assumption⟩ Q1)|skip
     have e1:iL (av n) c a=(z,(nth c.aa.au (fz c a).toNat).ret):=by rw[e0,if_pos QW,<-Wj,<-SA,hz]
     all_goals(
      rw[e1]
      (refine bA [.tmp 4] ?_;try simp only[go_sem]))
   ·have UO:((c.node a).l.length:Int)=((nth c.aa.au (fz c a).toNat).params.length:Int):=jB;have SR:True:=trivial;have evx:Ev c q:=ev;have hb:(q).e=0->ts.length<=(nth c.aa.au (fz c a).toNat).params.length:=fun _=>jB
    (have W:=UO;repeat' (first|refine ax fun K hK=>?_|refine az ?_|(with_reducible refine gR 6 ?_);refine dE 6 (aK 0 13) mixed ?_|(with_reducible refine gR 23 ?_);refine dE 23 (aK 0 14) mixed ?_|(refine hK _ _ ?_;clear hK K)|(refine aw ?_ ?_<;>intro hc<;>try exact jz)|(refine Sz _ _ ?_)|refine ay ?_|exact jI|(clear hK K)))
    have TR:=hK;clear hK;refine dR (S:=Nat×Ck) [(12,1),(97,27)] (fun s=>s.1<=ts.length/\Ev q s.2/\hZ a s.2 (ts.drop s.1) ((nth c.aa.au (fz c a).toNat).params.drop s.1)=hZ a q ts (nth c.aa.au (fz c a).toNat).params) (fun s=>[(12,rI s.1)]) (fun s=>⟨[0,1,2,3,4,5],fx s.2++[(6,.var 78 (eG (c.node a))),(7,.var 132 (fZ (nth c.aa.au (fz c a).toNat))),(8,.aE 3 1 (ts.map eI))]⟩) (fun s=>ts.length-s.1) (0,q) ⟨jJ,.refl _,rfl⟩ (dS iQ cc) ?_;rintro⟨m,z⟩ ⟨R0,Rq,QS⟩ Kr3 VE;simp only at R0 Rq QS
    (refine S ?_;try exact jI)
    by_cases Q1:m<ts.length/\z.e=0
    ·obtain⟨QG,Re⟩:=Q1;have SG:(q).e=0:=Classical.byContradiction fun h=>Rq.err h Re
     have YH:m<(nth c.aa.au (fz c a).toNat).params.length:=by have:=hb SG;omega
     rw[lg QG,lg YH,hZ,if_pos Re]at QS
     (have W:=Re;repeat' (first|refine ax fun K hK=>?_|refine az ?_|(with_reducible refine gR 6 ?_);refine dE 6 (aK 0 13) mixed ?_|(with_reducible refine gR 23 ?_);refine dE 23 (aK 0 14) mixed ?_|(refine hK _ _ ?_;clear hK K)|(refine aw ?_ ?_<;>intro hc<;>try exact jz)|(refine TR _ _ ?_)|refine cm (nr z (decide (nth ts m=(nth (nth c.aa.au (fz c a).toNat).params m).ty)) a) ?_|refine ay ?_|exact jI|(clear hK K)))
     refine VE _ _ (dZ (m+1,z.ap (decide (nth ts m=(nth (nth c.aa.au (fz c a).toNat).params m).ty)) a) ⟨jJ,Rq.trans (jO _ _ _),QS⟩ jJ iQ cc)
    ·have hz:z=hZ a q ts (nth c.aa.au (fz c a).toNat).params:=by
      by_cases QG:m<ts.length
      ·have Re:z.e≠0:=fun e=>Q1 ⟨QG,e⟩
       rw[lg QG]at QS;cases hp:(nth c.aa.au (fz c a).toNat).params.drop m with
       |nil=>rw[hp,uP]at QS;exact QS
       |cons x y=>rw[hp,hZ,if_neg Re]at QS;exact QS
      ·rw[List.drop_eq_nil_of_le jB,uN]at QS;exact QS
     (repeat' (first|refine ax fun K hK=>?_|refine az ?_|(with_reducible refine gR 6 ?_);refine dE 6 (aK 0 13) mixed ?_|(with_reducible refine gR 23 ?_);refine dE 23 (aK 0 14) mixed ?_|(refine hK _ _ ?_;clear hK K)|(refine aw ?_ ?_<;>intro hc<;>try exact jz)|(refine TR _ _ ?_)|refine ay ?_|exact jI|(clear hK K)))
     all_goals first|(exact absurd ⟨jB,by assumption⟩ Q1)|skip
     have e1:iL (av n) c a=(z,(nth c.aa.au (fz c a).toNat).ret):=by rw[e0,if_neg QW,<-Wj,<-SA,hz]
     all_goals(
      rw[e1]
      (refine bA [.tmp 4] ?_;try simp only[go_sem]))
structure Sv(c c':Ck):Prop where
 aa:c'.aa=c.aa
 fn:c'.fn=c.fn
 aL:c'.aL=c.aL
 err:c.e≠0->c'.e≠0
 inv:bv c'
 pre:∃u,c'.vars=c.vars++u
def Sv.refl{c:Ck}(h:bv c):Sv c c:=⟨rfl,rfl,rfl,id,h,[],jE⟩
def Sv.gP{c c':Ck}(h:bv c)(s:Ev c c'):Sv c c':=⟨s.aa,s.fn,s.aL,s.err,h.ev s,[],by rw[s.vars];simp⟩
theorem Sv.trans{a b c:Ck}(h:Sv a b)(k:Sv b c):Sv a c:=⟨k.aa.trans h.aa,k.fn.trans h.fn,k.aL.trans h.aL,fun e=>k.err (h.err e),k.inv,by obtain⟨u,hu⟩:=h.pre;obtain⟨v,hv⟩:=k.pre;exact⟨u++v,by rw[hv,hu,List.append_assoc]⟩⟩
def iy(ex:Ck->Int->Ck×Int)(c:Ck)(a:Int):Ck:=(ex c (c.aA a 0)).1.ap (!decide ((ex c (c.aA a 0)).2=0)) a
def jy(ex:Ck->Int->Ck×Int)(c:Ck)(a:Int):Ck:=if 0<=(iy ex c a).find (c.node a).name then(iy ex c a).aC 41 a else iy ex c a
def ee(ex:Ck->Int->Ck×Int)(c:Ck)(a:Int):Ck:=if 24<=(jy ex c a).size then(jy ex c a).aC 4 a else jy ex c a
def AJ(c:Ck)(a:Int)(v:fq):Ck:={ (c.slot a c.size)with vars:=c.vars++[v],more:=c.more.drop 1,size:=c.size+1 }
def ut(ex:Ck->Int->Ck×Int)(c:Ck)(a:Int):o6 ex c a=AJ (ee ex c a) a ⟨(c.node a).name,(ex c (c.aA a 0)).2,(ee ex c a).size⟩:=rfl
def AY(hex:∀c a,Ev c (ex c a).1)(c:Ck)(a:Int):Ev c (iy ex c a):=(hex c _).trans (jO _ _ _)
def zI(hex:∀c a,Ev c (ex c a).1)(c:Ck)(a:Int):Ev c (jy ex c a):=by
 unfold jy;split
 ·exact(AY hex c a).trans (mW _ jC a)
 ·exact AY hex c a
def wN(hex:∀c a,Ev c (ex c a).1)(c:Ck)(a:Int):Ev c (ee ex c a):=by
 unfold ee;split
 ·exact(zI hex c a).trans (mW _ jC a)
 ·exact zI hex c a
def HT{c:Ck}(h:(ee ex c a).e=0):(ee ex c a).size<24:=by
 unfold ee at h ⊢;split
 ·rename_i hs;rw[if_pos hs]at h;exfalso;unfold Ck.aC at h;split at h
  ·cases h
  ·contradiction
 ·omega
def KV{c:Ck}(h:bv c)(a:Int)(v:fq)(h24:c.size<=24)(hr:c.e=0->c.size<24):Sv c (AJ c a v):=by refine⟨rfl,rfl,rfl,id,⟨h.aa,h.types,by show(c.slots.set _ _).length=_;rw[List.length_set];exact h.slots,h.au,h.aL,h.uY,h.tV,?_,by show c.size+1<=25;omega,fun e=>by show c.size+1<=24;have:=hr e;omega⟩,[v],rfl⟩;show((c.vars++[v]).length:Int)<=c.size+1;have:=h.vars;simp;omega
def J3(hex:∀c a,Ev c (ex c a).1){c:Ck}(h:bv c)(he:c.e=0)(a:Int):Sv c (o6 ex c a):=by rw[ut];have s:=wN hex c a;refine(Sv.gP h s).trans (KV (h.ev s) a _ ?_ HT);rw[s.size];exact h.room he
def Mx(hex:∀c a,Ev c (ex c a).1){c:Ck}(h:bv c)(a:Int):Sv c (kg ex c a):=by
 refine Sv.gP h ?_;unfold kg;simp only;split
 ·exact mW c jC a
 split
 ·exact(hex c _).trans (jO _ _ _)
 ·exact .refl c
theorem qv{st:Ck->Int->Ck}(P0:∀c a,bv c->c.e=0->Sv c (st c a)):∀(l:PJ) (c:Ck),bv c->Sv c (dF st c l)
 |[],c,h=>by unfold dF;exact .refl h
 |a::l,c,h=>by
  unfold dF;split
  ·rename_i he;have s:=P0 c a h he;exact s.trans (qv P0 l _ s.inv)
  ·exact .refl h
def pm{st:Ck->Int->Ck}(P0:∀c a,bv c->c.e=0->Sv c (st c a)){c:Ck}(h:bv c)(a:Int):Sv c (fe st c a)/\(fe st c a).vars=c.vars:=by
 have s:=(Sv.gP h (qk c a)).trans (qv P0 (c.node a).l _ (h.ev (qk c a)));obtain⟨u,hu⟩:=s.pre;have hv:(dF st (c.ah a) (c.node a).l).vars.take (min c.vars.length (dF st (c.ah a) (c.node a).l).vars.length)=c.vars:=by rw[hu,Nat.min_eq_left jE,List.take_left'];rfl
 have hi:=s.inv;refine⟨⟨s.aa,s.fn,s.aL,s.err,⟨hi.aa,hi.types,hi.slots,hi.au,hi.aL,hi.uY,hi.tV,?_,hi.size,hi.room⟩,[],by rw[List.append_nil];exact hv⟩,hv⟩;have:=hi.vars;show(((dF st (c.ah a) (c.node a).l).vars.take _).length:Int)<=_;rw[List.length_take];show _<=(dF st (c.ah a) (c.node a).l).size;omega
theorem nF:∀(n:Nat) (c:Ck) (a:Int),bv c->c.e=0->Sv c (bJ n c a)
 |0,c,a,h,he=>by unfold bJ;exact .refl h
 |n+1,c,a,h,he=>by
  have e0:=qk c a;have h0:=h.ev e0;have s0:=Sv.gP h e0;have hx:=eP n;unfold bJ;simp only;repeat' split
  ·exact s0.trans (J3 hx h0 he a)
  ·exact s0.trans (Sv.gP h0 (((mQ _ a).trans (hx _ _)).trans (jO _ _ _)))
  ·exact s0.trans (Sv.gP h0 ((((mQ _ a).trans (hx _ _)).trans (hx _ _)).trans (jO _ _ _)))
  ·exact s0.trans (Sv.gP h0 (hx _ _))
  ·exact s0.trans (Sv.gP h0 ((hx _ _).trans (jO _ _ _)))
  ·exact s0.trans (Mx hx h0 a)
  ·have s1:=s0.trans (Sv.gP h0 ((hx (c.ah a) ((c.ah a).aA a 0)).trans (jO _ (decide ((av n (c.ah a) ((c.ah a).aA a 0)).2=2)) a)));exact s1.trans (qv (fun q b hq _=>(pm (nF n) hq b).1) _ _ s1.inv)
def Bi(n:Nat):Prop:=∀(c:Ck) (a:Int),bv c->c.e=0->0<=a->a<c.aa.nodes.length->a.toNat<n->eR (c.node a).kind->ai prog 139 [pR,rI a] (fx c) (fun v l=>v=.ba []/\l=fx (bJ n c a))
def F7(n:Nat):Prop:=∀(c:Ck) (a:Int),bv c->0<=a->a<c.aa.nodes.length->a.toNat<=n->(c.node a).kind=18->ai prog 93 [pR,rI a] (fx c) (fun v l=>v=.ba []/\l=fx (fe (bJ n) c a))
attribute [go_sem] AJ List.length_drop
def OT(n:Nat)(hx:sK n)(c:Ck)(a:Int)(h:bv c)(he:c.e=0)(h0:0<=a)(h1:a<c.aa.nodes.length)(hn:a.toNat<=n)(hk:(c.node a).kind=10):ai prog 160 [pR,rI a] (fx c) (fun v l=>v=.ba []/\l=fx (o6 (av n) c a)):=by
 obtain⟨sh,Rh⟩:=uz h h0 h1;obtain⟨x,hl,Qc⟩:=sh.right jB;have Rc:(nth c.aa.nodes a.toNat).l.length=1:=by
  have:(c.node a).l.length=1:=by rw[hl];rfl
  exact this
 have Sy:c.aA a 0=x:=by unfold Ck.aA;rw[hl];rfl
 have hm:=Rh x (by rw[hl];simp);have hex:=hx c (c.aA a 0) h jB jB jB (by rw[Sy];exact Qc);have Qy:ai prog 163 _ _ (fun v l=>v=.ba []/\l=fx (iy (av n) c a)):=nr (av n c (c.aA a 0)).1 (!decide ((av n c (c.aA a 0)).2=0)) a;have eA:=AY (eP n) c a;have eB:=zI (eP n) c a;have eC:=wN (eP n) c a;have hA:=h.ev eA;have hC:=h.ev eC;have QM:=zu (iy (av n) c a) (c.node a).name hA;have Tm:=rG (iy (av n) c a) 41 a;have VF:=rG (jy (av n) c a) 4 a;have Q0:=hC.slots;have XN:=hC.size;have Sm:=hC.vars;have Th:=eC.size;have hc24:=h.room he;rw[eC.aa]at Q0;rw[ut];refine aQ func160 ntmps160 ?_
 (refine S ?_;try exact jI)
 by_cases c1:0<=(iy (av n) c a).find (c.node a).name
 ·have e1:jy (av n) c a=(iy (av n) c a).aC 41 a:=if_pos c1;rw[<-e1]at Tm;by_cases c2:24<=(jy (av n) c a).size
  ·have e2:ee (av n) c a=(jy (av n) c a).aC 4 a:=if_pos c2;rw[<-e2]at VF
   (repeat' (first|refine ax fun K hK=>?_|refine az ?_|(with_reducible refine gR 7 ?_);refine dE 7 (aK 0 12) mixed ?_|(with_reducible refine gR 8 ?_);refine dE 8 (aK 0 18) mixed ?_|(refine hK _ _ ?_;clear hK K)|(refine aw ?_ ?_<;>intro hc<;>try exact jz)|refine cm (hex) ?_|refine cm (Qy) ?_|refine cm (QM) ?_|refine cm (Tm) ?_|refine cm (VF) ?_|refine ou (ee (av n) c a).vars (ee (av n) c a).more [⟨(c.node a).name,(av n c (c.aA a 0)).2,(ee (av n) c a).size⟩] ?_|refine ay ?_|exact jI|(clear hK K)))
   (refine bA [] ?_;try simp only[go_sem])
  ·have e2:ee (av n) c a=jy (av n) c a:=if_neg c2;rw[e2]at Q0 XN Sm Th;rw[e2]
   (repeat' (first|refine ax fun K hK=>?_|refine az ?_|(with_reducible refine gR 7 ?_);refine dE 7 (aK 0 12) mixed ?_|(with_reducible refine gR 8 ?_);refine dE 8 (aK 0 18) mixed ?_|(refine hK _ _ ?_;clear hK K)|(refine aw ?_ ?_<;>intro hc<;>try exact jz)|refine cm (hex) ?_|refine cm (Qy) ?_|refine cm (QM) ?_|refine cm (Tm) ?_|refine ou (jy (av n) c a).vars (jy (av n) c a).more [⟨(c.node a).name,(av n c (c.aA a 0)).2,(jy (av n) c a).size⟩] ?_|refine ay ?_|exact jI|(clear hK K)))
   (refine bA [] ?_;try simp only[go_sem])
 ·have e1:jy (av n) c a=iy (av n) c a:=if_neg c1;rw[e1]at VF;by_cases c2:24<=(iy (av n) c a).size
  ·have e2:ee (av n) c a=(iy (av n) c a).aC 4 a:=by unfold ee;rw[e1];exact if_pos c2
   rw[<-e2]at VF
   (repeat' (first|refine ax fun K hK=>?_|refine az ?_|(with_reducible refine gR 7 ?_);refine dE 7 (aK 0 12) mixed ?_|(with_reducible refine gR 8 ?_);refine dE 8 (aK 0 18) mixed ?_|(refine hK _ _ ?_;clear hK K)|(refine aw ?_ ?_<;>intro hc<;>try exact jz)|refine cm (hex) ?_|refine cm (Qy) ?_|refine cm (QM) ?_|refine cm (VF) ?_|refine ou (ee (av n) c a).vars (ee (av n) c a).more [⟨(c.node a).name,(av n c (c.aA a 0)).2,(ee (av n) c a).size⟩] ?_|refine ay ?_|exact jI|(clear hK K)))
   (refine bA [] ?_;try simp only[go_sem])
  ·have e2:ee (av n) c a=iy (av n) c a:=by unfold ee;rw[e1];exact if_neg c2
   rw[e2]at Q0 XN Sm Th;rw[e2]
   (repeat' (first|refine ax fun K hK=>?_|refine az ?_|(with_reducible refine gR 7 ?_);refine dE 7 (aK 0 12) mixed ?_|(with_reducible refine gR 8 ?_);refine dE 8 (aK 0 18) mixed ?_|(refine hK _ _ ?_;clear hK K)|(refine aw ?_ ?_<;>intro hc<;>try exact jz)|refine cm (hex) ?_|refine cm (Qy) ?_|refine cm (QM) ?_|refine ou (iy (av n) c a).vars (iy (av n) c a).more [⟨(c.node a).name,(av n c (c.aA a 0)).2,(iy (av n) c a).size⟩] ?_|refine ay ?_|exact jI|(clear hK K)))
   (refine bA [] ?_;try simp only[go_sem])
def En(n:Nat)(hs:Bi n):F7 n:=by
 intro c a h h0 h1 hn hk;obtain⟨sh,Rh⟩:=uz h h0 h1;have J':(nth c.aa.nodes a.toNat).l.length<=300:=xT h h0 h1;have e0:=qk c a;have YI:=h.ev e0;have QT:=h.au;have YJ:=h.vars;have P5:=h.size;refine aQ func93 ntmps93 ?_;refine S ?_
 (repeat' (first|refine ax fun K hK=>?_|refine az ?_|(with_reducible refine gR 0 ?_);refine dE 0 (aK 0 12) mixed ?_|(with_reducible refine gR 7 ?_);refine dE 7 (aK 0 16) mixed ?_|(refine hK _ _ ?_;clear hK K)|(refine aw ?_ ?_<;>intro hc<;>try exact jz)|refine ay ?_|exact jI|(clear hK K)))
 have PY:=hK;clear hK;refine dR (S:=Nat×Ck) [(6,1),(33,19)] (fun s=>s.1<=(c.node a).l.length/\Sv (c.ah a) s.2/\dF (bJ n) s.2 ((c.node a).l.drop s.1)=dF (bJ n) (c.ah a) (c.node a).l) (fun s=>[(6,rI s.1)]) (fun s=>⟨[0,1,2,3,4,5],fx s.2⟩) (fun s=>(c.node a).l.length-s.1) (0,c.ah a) ⟨jJ,.refl YI,rfl⟩ (dS iQ cc) ?_;rintro⟨i,q⟩ ⟨hi,hq,hA⟩ Kr P3;simp only at hi hq hA
 (refine S ?_;try exact jI)
 have lt1:=hq.inv.types;have lt3:=hq.inv.au;have lt4:=hq.inv.vars;have lt5:=hq.inv.size;by_cases Q1:i<(c.node a).l.length/\q.e=0
 ·obtain⟨QG,Re⟩:=Q1;have VG:i<(nth c.aa.nodes a.toNat).l.length:=QG;rw[lg QG,dF,if_pos Re]at hA;have hm:nth (c.node a).l i∈(c.node a).l:=fu QG;have hb:=Rh _ hm;have P0:=hs q (nth (c.node a).l i) hq.inv Re hb.1 (by rw[hq.aa];show _<(c.aa.nodes.length:Int);omega) jB (by
   have:q.node (nth (c.node a).l i)=c.node (nth (c.node a).l i):=by unfold Ck.node;rw[hq.aa];rfl
   rw[this];exact sh.block hk _ hm)
  (have W:=Re;repeat' (first|refine ax fun K hK=>?_|refine az ?_|(with_reducible refine gR 0 ?_);refine dE 0 (aK 0 12) mixed ?_|(with_reducible refine gR 7 ?_);refine dE 7 (aK 0 16) mixed ?_|(refine hK _ _ ?_;clear hK K)|(refine aw ?_ ?_<;>intro hc<;>try exact jz)|refine PY _ _ ?_|refine cm (P0) ?_|refine ay ?_|exact jI|(clear hK K)))
  refine P3 _ _ (dZ (i+1,bJ n q (nth (c.node a).l i)) ⟨jJ,hq.trans (nF n q _ hq.inv Re),hA⟩ jJ iQ cc)
 ·have hz:q=dF (bJ n) (c.ah a) (c.node a).l:=by
   by_cases QG:i<(c.node a).l.length
   ·rw[lg QG,dF,if_neg fun e=>Q1 ⟨QG,e⟩]at hA;exact hA
   ·rw[List.drop_eq_nil_of_le jB,dF]at hA;exact hA
  have e1:fe (bJ n) c a={ q with vars:=q.vars.take (min c.vars.length q.vars.length),more:=q.vars.drop (min c.vars.length q.vars.length)++q.more }:=by unfold fe;rw[<-hz]
  obtain⟨u,hu⟩:=hq.pre;have hu:q.vars=c.vars++u:=hu;have WO:min c.vars.length q.vars.length=c.vars.length:=by rw[hu];simp
  have Tn:¬(i<(nth c.aa.nodes a.toNat).l.length/\q.e=0):=Q1
  (repeat' (first|refine ax fun K hK=>?_|refine az ?_|(with_reducible refine gR 0 ?_);refine dE 0 (aK 0 12) mixed ?_|(with_reducible refine gR 7 ?_);refine dE 7 (aK 0 16) mixed ?_|(refine hK _ _ ?_;clear hK K)|(refine aw ?_ ?_<;>intro hc<;>try exact jz)|refine PY _ _ ?_|refine ay ?_|exact jI|(clear hK K)))
  all_goals first|(exact absurd ⟨by have:=hc.1;omega,hc.2⟩ Tn)|skip
  have ht:q.vars.take c.vars.length=c.vars:=by rw[hu,List.take_left' rfl]
  have hd:q.vars.drop c.vars.length=u:=by rw[hu,List.drop_left' rfl]
  rw[e1,WO,ht,hd]
  (refine bQ [] ?_ ?_<;>(try simp only[go_sem]))
  simp only[hu,List.map_append,List.append_assoc,List.length_append,Nat.add_assoc];rw[jN,Int.toNat_natCast]
def Ph(n:Nat)(hx:sK n)(c:Ck)(a:Int)(h:bv c)(h0:0<=a)(h1:a<c.aa.nodes.length)(hn:a.toNat<=n)(hk:(c.node a).kind=17):ai prog 164 [pR,rI a] (fx c) (fun v l=>v=.ba []/\l=fx (kg (av n) c a)):=by
 obtain⟨sh,Rh⟩:=uz h h0 h1;have SF:=h.uY;have hfh:=h.tV;have J':(nth c.aa.nodes a.toNat).l.length<=300:=xT h h0 h1;have VH:=rG c 43 a;have Uc:decide (((c.node a).l.length:Int)=1)=decide ((c.node a).l.length=1):=by rw[decide_eq_decide];omega
 by_cases b:decide ((c.node a).l.length=1)≠(!decide ((nth c.aa.au c.fn.toNat).ret=0))
 ·have e1:kg (av n) c a=c.aC 43 a:=if_pos b;have hb:(decide (((nth c.aa.nodes a.toNat).l.length:Int)=1) == !decide ((nth c.aa.au c.fn.toNat).ret=0))=false:=by
   rw[show((nth c.aa.nodes a.toNat).l.length)=(c.node a).l.length from rfl,Uc];simpa using b
  rw[e1];refine aQ func164 ntmps164 ?_;refine S ?_
  (have W:=hb;repeat' (first|refine ax fun K hK=>?_|refine az ?_|(with_reducible refine gR 1 ?_);refine dE 1 (aK 0 14) mixed ?_|(refine hK _ _ ?_;clear hK K)|(refine aw ?_ ?_<;>intro hc<;>try exact jz)|refine cm (VH) ?_|refine ay ?_|exact jI|(clear hK K)))
  (refine bA [] ?_;try simp only[go_sem])
 ·have hb:(decide (((nth c.aa.nodes a.toNat).l.length:Int)=1) == !decide ((nth c.aa.au c.fn.toNat).ret=0))=true:=by
   rw[show((nth c.aa.nodes a.toNat).l.length)=(c.node a).l.length from rfl,Uc];rw[Classical.not_not.1 b];exact beq_self_eq_true _
  by_cases hl:(c.node a).l.length=1
  ·have Rc:(nth c.aa.nodes a.toNat).l.length=1:=hl;have e1:kg (av n) c a=(av n c (c.aA a 0)).1.ap (decide ((av n c (c.aA a 0)).2=(nth c.aa.au c.fn.toNat).ret)) a:=by unfold kg;simp only;rw[if_neg b,if_pos hl]
   rcases sh.ret hk with h2|⟨x,h2,h3⟩
   ·rw[h2]at hl;cases hl
   have Sy:c.aA a 0=x:=by unfold Ck.aA;rw[h2];rfl
   have hm:=Rh x (by rw[h2];simp);have hex:=hx c (c.aA a 0) h jB jB jB (by rw[Sy];exact .inl h3);have Qy:=nr (av n c (c.aA a 0)).1 (decide ((av n c (c.aA a 0)).2=(nth c.aa.au c.fn.toNat).ret)) a;rw[e1];refine aQ func164 ntmps164 ?_;refine S ?_
   (have W:=hb;repeat' (first|refine ax fun K hK=>?_|refine az ?_|(with_reducible refine gR 1 ?_);refine dE 1 (aK 0 14) mixed ?_|(refine hK _ _ ?_;clear hK K)|(refine aw ?_ ?_<;>intro hc<;>try exact jz)|refine cm (hex) ?_|refine cm (Qy) ?_|refine ay ?_|exact jI|(clear hK K)))
   (refine bA [] ?_;try simp only[go_sem])
  ·have Rc:¬(nth c.aa.nodes a.toNat).l.length=1:=hl;have e1:kg (av n) c a=c:=by unfold kg;simp only;rw[if_neg b,if_neg hl]
   rw[e1];refine aQ func164 ntmps164 ?_;refine S ?_
   (have W:=hb;repeat' (first|refine ax fun K hK=>?_|refine az ?_|(with_reducible refine gR 1 ?_);refine dE 1 (aK 0 14) mixed ?_|(refine hK _ _ ?_;clear hK K)|(refine aw ?_ ?_<;>intro hc<;>try exact jz)|refine ay ?_|exact jI|(clear hK K)))
   (refine bA [] ?_;try simp only[go_sem])
def J7(n:Nat):Prop:=∀(c:Ck) (a:Int),bv c->c.e=0->0<=a->a<c.aa.nodes.length->a.toNat<=n->(c.node a).kind=10->ai prog 160 [pR,rI a] (fx c) (fun v l=>v=.ba []/\l=fx (o6 (av n) c a))
def OW(n:Nat):Prop:=∀(c:Ck) (a:Int),bv c->0<=a->a<c.aa.nodes.length->a.toNat<=n->(c.node a).kind=17->ai prog 164 [pR,rI a] (fx c) (fun v l=>v=.ba []/\l=fx (kg (av n) c a))
def KO(n:Nat)(hx:sK n)(hl:J7 n)(hr:OW n)(UP:F7 n):Bi (n+1):=by
 intro c a h he h0 h1 hn hk;have ev:=qk c a;have hq:=h.ev ev;obtain⟨sh,Rh⟩:=uz h h0 h1;have J':(nth c.aa.nodes a.toNat).l.length<=300:=xT h h0 h1;have QT:=h.au;have YJ:=h.vars;have P5:=h.size;have Qw:∀i,i<(c.node a).l.length->(c.aA a i).toNat<n/\0<=c.aA a i/\c.aA a i<c.aa.nodes.length:=fun i hi=>by have hm:c.aA a i∈(c.node a).l:=fu hi;have:=Rh _ hm;omega
 have en:=mQ (c.ah a) a;have Wg:=hq.ev en;have Qi:=DK (c.ah a) a hq h0 h1;have e17:(c.node a).kind=10\/(c.node a).kind=11\/(c.node a).kind=12\/(c.node a).kind=13\/(c.node a).kind=14\/(c.node a).kind=17\/((c.node a).kind=15\/(c.node a).kind=16):=by unfold eR at hk;omega
 rcases e17 with k|k|k|k|k|k|k
 ·have P8:(nth c.aa.nodes a.toNat).kind=10:=k;have k0:((c.ah a).node a).kind=10:=k;have Wa:=hl (c.ah a) a hq he h0 h1 jB k0;rw[show bJ (n+1) c a=o6 (av n) (c.ah a) a from by unfold bJ;simp only;rw[k0];rfl];refine aQ func139 ntmps139 ?_;refine S ?_
  (have W:=P8;repeat' (first|refine ax fun K hK=>?_|refine az ?_|(with_reducible refine gR 1 ?_);refine dE 1 (aK 0 12) mixed ?_|(refine hK _ _ ?_;clear hK K)|(refine aw ?_ ?_<;>intro hc<;>try exact jz)|refine cm (Wa) ?_|refine ay ?_|exact jI|(clear hK K)))
  (refine bA [] ?_;try simp only[go_sem])
 ·have P8:(nth c.aa.nodes a.toNat).kind=11:=k;have k0:((c.ah a).node a).kind=11:=k;obtain⟨x,Q3,QP⟩:=sh.right jB;have Rn:(c.node a).l.length=1:=by rw[Q3];rfl
  have Rc:(nth c.aa.nodes a.toNat).l.length=1:=Rn;obtain⟨g0a,g0b,g0c⟩:=Qw 0 jB;have PX:c.aA a 0=x:=by unfold Ck.aA;rw[Q3];rfl
  have hex:=hx ((c.ah a).named a).1 (c.aA a 0) Wg g0b (by rw[en.aa];exact g0c) g0a (by rw[en.node];show ff (c.node (c.aA a 0)).kind;rw[PX];exact QP);have Qy:=nr (av n ((c.ah a).named a).1 (c.aA a 0)).1 (decide (((c.ah a).named a).2=(av n ((c.ah a).named a).1 (c.aA a 0)).2)) a;rw[show bJ (n+1) c a=(av n ((c.ah a).named a).1 (c.aA a 0)).1.ap (decide (((c.ah a).named a).2=(av n ((c.ah a).named a).1 (c.aA a 0)).2)) a from by unfold bJ;simp only;rw[k0];rfl];refine aQ func139 ntmps139 ?_;refine S ?_
  (have W:=P8;repeat' (first|refine ax fun K hK=>?_|refine az ?_|(with_reducible refine gR 1 ?_);refine dE 1 (aK 0 12) mixed ?_|(refine hK _ _ ?_;clear hK K)|(refine aw ?_ ?_<;>intro hc<;>try exact jz)|refine cm (Qi) ?_|refine cm (hex) ?_|refine cm (Qy) ?_|refine ay ?_|exact jI|(clear hK K)))
  (refine bA [] ?_;try simp only[go_sem])
 ·have P8:(nth c.aa.nodes a.toNat).kind=12:=k;have k0:((c.ah a).node a).kind=12:=k;obtain⟨x,y,Q3,QP,RB⟩:=sh.two jB;have Rn:(c.node a).l.length=2:=by rw[Q3];rfl
  have Rc:(nth c.aa.nodes a.toNat).l.length=2:=Rn;obtain⟨g0a,g0b,g0c⟩:=Qw 0 jB;have PX:c.aA a 0=x:=by unfold Ck.aA;rw[Q3];rfl
  obtain⟨g1a,g1b,g1c⟩:=Qw 1 jB;have Qg:c.aA a 1=y:=by unfold Ck.aA;rw[Q3];rfl
  have ex1:=eP n ((c.ah a).named a).1 (c.aA a 0);have hex:=hx ((c.ah a).named a).1 (c.aA a 0) Wg g0b (by rw[en.aa];exact g0c) g0a (by rw[en.node];show ff (c.node (c.aA a 0)).kind;rw[PX];exact .inl QP);have WN:=hx (av n ((c.ah a).named a).1 (c.aA a 0)).1 (c.aA a 1) (Wg.ev ex1) g1b (by rw[ex1.aa,en.aa];exact g1c) g1a (by rw[ex1.node,en.node];show ff (c.node (c.aA a 1)).kind;rw[Qg];exact .inl RB);have Qy:=nr (av n (av n ((c.ah a).named a).1 (c.aA a 0)).1 (c.aA a 1)).1 (decide (((c.ah a).named a).2=4) && decide ((av n ((c.ah a).named a).1 (c.aA a 0)).2=1) && decide ((av n (av n ((c.ah a).named a).1 (c.aA a 0)).1 (c.aA a 1)).2=1)) a;rw[show bJ (n+1) c a=(av n (av n ((c.ah a).named a).1 (c.aA a 0)).1 (c.aA a 1)).1.ap (decide (((c.ah a).named a).2=4) && decide ((av n ((c.ah a).named a).1 (c.aA a 0)).2=1) && decide ((av n (av n ((c.ah a).named a).1 (c.aA a 0)).1 (c.aA a 1)).2=1)) a from by unfold bJ;simp only;rw[k0];rfl];refine aQ func139 ntmps139 ?_;refine S ?_
  (have W:=P8;repeat' (first|refine ax fun K hK=>?_|refine az ?_|(with_reducible refine gR 1 ?_);refine dE 1 (aK 0 12) mixed ?_|(refine hK _ _ ?_;clear hK K)|(refine aw ?_ ?_<;>intro hc<;>try exact jz)|refine cm (Qi) ?_|refine cm (hex) ?_|refine cm (WN) ?_|refine cm (Qy) ?_|refine ay ?_|exact jI|(clear hK K)))
  (refine bA [] ?_;try simp only[go_sem])
 ·have P8:(nth c.aa.nodes a.toNat).kind=13:=k;have k0:((c.ah a).node a).kind=13:=k;obtain⟨x,Q3,QP⟩:=sh.pB jB;have Rn:(c.node a).l.length=1:=by rw[Q3];rfl
  have Rc:(nth c.aa.nodes a.toNat).l.length=1:=Rn;obtain⟨g0a,g0b,g0c⟩:=Qw 0 jB;have PX:c.aA a 0=x:=by unfold Ck.aA;rw[Q3];rfl
  have hex:=hx (c.ah a) (c.aA a 0) hq g0b g0c g0a (by show ff (c.node (c.aA a 0)).kind;rw[PX];exact .inr (.inr (.inr QP)));rw[show bJ (n+1) c a=(av n (c.ah a) (c.aA a 0)).1 from by unfold bJ;simp only;rw[k0];rfl];refine aQ func139 ntmps139 ?_;refine S ?_
  (have W:=P8;repeat' (first|refine ax fun K hK=>?_|refine az ?_|(with_reducible refine gR 1 ?_);refine dE 1 (aK 0 12) mixed ?_|(refine hK _ _ ?_;clear hK K)|(refine aw ?_ ?_<;>intro hc<;>try exact jz)|refine cm (hex) ?_|refine ay ?_|exact jI|(clear hK K)))
  (refine bA [] ?_;try simp only[go_sem])
 ·have P8:(nth c.aa.nodes a.toNat).kind=14:=k;have k0:((c.ah a).node a).kind=14:=k;obtain⟨x,Q3,QP⟩:=sh.one jB;have Rn:(c.node a).l.length=1:=by rw[Q3];rfl
  have Rc:(nth c.aa.nodes a.toNat).l.length=1:=Rn;obtain⟨g0a,g0b,g0c⟩:=Qw 0 jB;have PX:c.aA a 0=x:=by unfold Ck.aA;rw[Q3];rfl
  have hex:=hx (c.ah a) (c.aA a 0) hq g0b g0c g0a (by show ff (c.node (c.aA a 0)).kind;rw[PX];exact .inl QP);have Qy:=nr (av n (c.ah a) (c.aA a 0)).1 (!decide ((av n (c.ah a) (c.aA a 0)).2=4)) a;rw[show bJ (n+1) c a=(av n (c.ah a) (c.aA a 0)).1.ap (!decide ((av n (c.ah a) (c.aA a 0)).2=4)) a from by unfold bJ;simp only;rw[k0];rfl];refine aQ func139 ntmps139 ?_;refine S ?_
  (have W:=P8;repeat' (first|refine ax fun K hK=>?_|refine az ?_|(with_reducible refine gR 1 ?_);refine dE 1 (aK 0 12) mixed ?_|(refine hK _ _ ?_;clear hK K)|(refine aw ?_ ?_<;>intro hc<;>try exact jz)|refine cm (hex) ?_|refine cm (Qy) ?_|refine ay ?_|exact jI|(clear hK K)))
  (refine bA [] ?_;try simp only[go_sem])
 ·have P8:(nth c.aa.nodes a.toNat).kind=17:=k;have k0:((c.ah a).node a).kind=17:=k;have YK:=hr (c.ah a) a hq h0 h1 jB k0;rw[show bJ (n+1) c a=kg (av n) (c.ah a) a from by unfold bJ;simp only;rw[k0];rfl];refine aQ func139 ntmps139 ?_;refine S ?_
  (have W:=P8;repeat' (first|refine ax fun K hK=>?_|refine az ?_|(with_reducible refine gR 1 ?_);refine dE 1 (aK 0 12) mixed ?_|(refine hK _ _ ?_;clear hK K)|(refine aw ?_ ?_<;>intro hc<;>try exact jz)|refine cm (YK) ?_|refine ay ?_|exact jI|(clear hK K)))
  (refine bA [] ?_;try simp only[go_sem])
 ·have Qm:1<=(c.node a).l.length/\bW (c.node (c.aA a 0)).kind/\∀i,i<(c.node a).l.length->1<=i->(c.node (nth (c.node a).l i)).kind=18:=by
   have fin:∀{x y:Int},(c.node a).l=[x,y]->bW (bE c.aa.nodes x)->bE c.aa.nodes y=18->1<=(c.node a).l.length/\bW (c.node (c.aA a 0)).kind/\∀i,i<(c.node a).l.length->1<=i->(c.node (nth (c.node a).l i)).kind=18:=fun{x y} e hx hy=>by
    refine⟨by rw[e];simp,by have:c.aA a 0=x:=(by unfold Ck.aA;rw[e];rfl);rw[this];exact hx,fun i hi h1=>?_⟩;rw[e]at hi ⊢;obtain rfl:i=1:=by simp at hi;omega
    exact hy
   rcases k with k|k
   ·obtain⟨x,y,Qc,SQ,Q3⟩:=sh.lN k;rcases Q3 with Q3|⟨d,Q3,hd⟩
    ·exact fin Q3 Qc SQ
    ·refine⟨by rw[Q3];simp,by have:c.aA a 0=x:=(by unfold Ck.aA;rw[Q3];rfl);rw[this];exact Qc,fun i hi h1=>?_⟩;rw[Q3]at hi ⊢;rcases(show i=1\/i=2 by simp at hi;omega)with rfl|rfl
     ·exact SQ
     ·exact hd
   ·obtain⟨x,y,Q3,Qc,SQ⟩:=sh.fm k;exact fin Q3 Qc SQ
  obtain⟨Rn,Qc,S2⟩:=Qm;have Rc:1<=(nth c.aa.nodes a.toNat).l.length:=Rn;obtain⟨g0a,g0b,g0c⟩:=Qw 0 jB;have hex:=hx (c.ah a) (c.aA a 0) hq g0b g0c g0a (.inl Qc);have eM:Ev c ((av n (c.ah a) (c.aA a 0)).1.ap (decide ((av n (c.ah a) (c.aA a 0)).2=2)) a):=(ev.trans (eP n _ _)).trans (jO _ _ _);have hM:=h.ev eM;have Qy:=nr (av n (c.ah a) (c.aA a 0)).1 (decide ((av n (c.ah a) (c.aA a 0)).2=2)) a;rcases k with k|k
  ·have P8:(nth c.aa.nodes a.toNat).kind=15:=k;have k0:((c.ah a).node a).kind=15:=k;rw[show bJ (n+1) c a=dF (fe (bJ n)) ((av n (c.ah a) (c.aA a 0)).1.ap (decide ((av n (c.ah a) (c.aA a 0)).2=2)) a) ((c.node a).l.drop 1) from by unfold bJ;simp only;rw[k0];rfl];generalize hY:dF (fe (bJ n)) ((av n (c.ah a) (c.aA a 0)).1.ap (decide ((av n (c.ah a) (c.aA a 0)).2=2)) a) ((c.node a).l.drop 1)=Y;refine aQ func139 ntmps139 ?_;refine S ?_
   (have W:=P8;repeat' (first|refine ax fun K hK=>?_|refine az ?_|(with_reducible refine gR 1 ?_);refine dE 1 (aK 0 12) mixed ?_|(refine hK _ _ ?_;clear hK K)|(refine aw ?_ ?_<;>intro hc<;>try exact jz)|refine cm (hex) ?_|refine cm (Qy) ?_|refine ay ?_|exact jI|(clear hK K)))
   refine dR (S:=Nat×Ck) [(12,1),(46,21)] (fun s=>s.1<=(c.node a).l.length/\1<=s.1/\bv s.2/\s.2.aa=c.aa/\dF (fe (bJ n)) s.2 ((c.node a).l.drop s.1)=Y) (fun s=>[(12,rI s.1)]) (fun s=>⟨[0,1,2,3,4,5],fx s.2++[(6,.var 78 (eG (c.node a)))]⟩) (fun s=>(c.node a).l.length-s.1) (1,(av n (c.ah a) (c.aA a 0)).1.ap (decide ((av n (c.ah a) (c.aA a 0)).2=2)) a) ⟨jJ,Nat.le_refl _,hM,eM.aa,hY⟩ (dS iQ cc) ?_;rintro⟨i,z⟩ ⟨hi,Sh,hz,TS,hA⟩ Kr P3;simp only at hi Sh hz TS hA;have Rx:i<=(nth c.aa.nodes a.toNat).l.length:=hi
   (refine S ?_;try exact jI)
   by_cases Q1:i<(c.node a).l.length/\z.e=0
   ·obtain⟨QG,Re⟩:=Q1;have VG:i<(nth c.aa.nodes a.toNat).l.length:=QG;rw[lg QG,dF,if_pos Re]at hA;have hm:nth (c.node a).l i∈(c.node a).l:=fu QG;have hb:=Rh _ hm;have VI:=UP z (nth (c.node a).l i) hz hb.1 (by rw[TS];omega) jB (by
     have:z.node (nth (c.node a).l i)=c.node (nth (c.node a).l i):=by unfold Ck.node;rw[TS]
     rw[this];exact S2 i QG Sh)
    have sz:=(pm (fun q b hq he=>nF n q b hq he) hz (nth (c.node a).l i)).1
    (have W:=Re;repeat' (first|refine ax fun K hK=>?_|refine az ?_|(with_reducible refine gR 1 ?_);refine dE 1 (aK 0 12) mixed ?_|(refine hK _ _ ?_;clear hK K)|(refine aw ?_ ?_<;>intro hc<;>try exact jz)|refine cm (VI) ?_|refine ay ?_|exact jI|(clear hK K)))
    refine P3 _ _ (dZ (i+1,fe (bJ n) z (nth (c.node a).l i)) ⟨jJ,jJ,sz.inv,sz.aa.trans TS,hA⟩ jJ iQ cc)
   ·have Uv:z=Y:=by
     by_cases QG:i<(c.node a).l.length
     ·rw[lg QG,dF,if_neg fun e=>Q1 ⟨QG,e⟩]at hA;exact hA
     ·rw[List.drop_eq_nil_of_le jB,dF]at hA;exact hA
    have Tn:¬(i<(nth c.aa.nodes a.toNat).l.length/\z.e=0):=Q1
    (repeat' (first|refine ax fun K hK=>?_|refine az ?_|(with_reducible refine gR 1 ?_);refine dE 1 (aK 0 12) mixed ?_|(refine hK _ _ ?_;clear hK K)|(refine aw ?_ ?_<;>intro hc<;>try exact jz)|refine ay ?_|exact jI|(clear hK K)))
    all_goals first|(exact absurd ⟨by have:=hc.1;omega,hc.2⟩ Tn)|skip
    rw[<-Uv]
    (refine bA [] ?_;try simp only[go_sem])
  ·have P8:(nth c.aa.nodes a.toNat).kind=16:=k;have k0:((c.ah a).node a).kind=16:=k;rw[show bJ (n+1) c a=dF (fe (bJ n)) ((av n (c.ah a) (c.aA a 0)).1.ap (decide ((av n (c.ah a) (c.aA a 0)).2=2)) a) ((c.node a).l.drop 1) from by unfold bJ;simp only;rw[k0];rfl];generalize hY:dF (fe (bJ n)) ((av n (c.ah a) (c.aA a 0)).1.ap (decide ((av n (c.ah a) (c.aA a 0)).2=2)) a) ((c.node a).l.drop 1)=Y;refine aQ func139 ntmps139 ?_;refine S ?_
   (have W:=P8;repeat' (first|refine ax fun K hK=>?_|refine az ?_|(with_reducible refine gR 1 ?_);refine dE 1 (aK 0 12) mixed ?_|(refine hK _ _ ?_;clear hK K)|(refine aw ?_ ?_<;>intro hc<;>try exact jz)|refine cm (hex) ?_|refine cm (Qy) ?_|refine ay ?_|exact jI|(clear hK K)))
   refine dR (S:=Nat×Ck) [(12,1),(46,21)] (fun s=>s.1<=(c.node a).l.length/\1<=s.1/\bv s.2/\s.2.aa=c.aa/\dF (fe (bJ n)) s.2 ((c.node a).l.drop s.1)=Y) (fun s=>[(12,rI s.1)]) (fun s=>⟨[0,1,2,3,4,5],fx s.2++[(6,.var 78 (eG (c.node a)))]⟩) (fun s=>(c.node a).l.length-s.1) (1,(av n (c.ah a) (c.aA a 0)).1.ap (decide ((av n (c.ah a) (c.aA a 0)).2=2)) a) ⟨jJ,Nat.le_refl _,hM,eM.aa,hY⟩ (dS iQ cc) ?_;rintro⟨i,z⟩ ⟨hi,Sh,hz,TS,hA⟩ Kr P3;simp only at hi Sh hz TS hA;have Rx:i<=(nth c.aa.nodes a.toNat).l.length:=hi
   (refine S ?_;try exact jI)
   by_cases Q1:i<(c.node a).l.length/\z.e=0
   ·obtain⟨QG,Re⟩:=Q1;have VG:i<(nth c.aa.nodes a.toNat).l.length:=QG;rw[lg QG,dF,if_pos Re]at hA;have hm:nth (c.node a).l i∈(c.node a).l:=fu QG;have hb:=Rh _ hm;have VI:=UP z (nth (c.node a).l i) hz hb.1 (by rw[TS];omega) jB (by
     have:z.node (nth (c.node a).l i)=c.node (nth (c.node a).l i):=by unfold Ck.node;rw[TS]
     rw[this];exact S2 i QG Sh)
    have sz:=(pm (fun q b hq he=>nF n q b hq he) hz (nth (c.node a).l i)).1
    (have W:=Re;repeat' (first|refine ax fun K hK=>?_|refine az ?_|(with_reducible refine gR 1 ?_);refine dE 1 (aK 0 12) mixed ?_|(refine hK _ _ ?_;clear hK K)|(refine aw ?_ ?_<;>intro hc<;>try exact jz)|refine cm (VI) ?_|refine ay ?_|exact jI|(clear hK K)))
    refine P3 _ _ (dZ (i+1,fe (bJ n) z (nth (c.node a).l i)) ⟨jJ,jJ,sz.inv,sz.aa.trans TS,hA⟩ jJ iQ cc)
   ·have Uv:z=Y:=by
     by_cases QG:i<(c.node a).l.length
     ·rw[lg QG,dF,if_neg fun e=>Q1 ⟨QG,e⟩]at hA;exact hA
     ·rw[List.drop_eq_nil_of_le jB,dF]at hA;exact hA
    have Tn:¬(i<(nth c.aa.nodes a.toNat).l.length/\z.e=0):=Q1
    (repeat' (first|refine ax fun K hK=>?_|refine az ?_|(with_reducible refine gR 1 ?_);refine dE 1 (aK 0 12) mixed ?_|(refine hK _ _ ?_;clear hK K)|(refine aw ?_ ?_<;>intro hc<;>try exact jz)|refine ay ?_|exact jI|(clear hK K)))
    all_goals first|(exact absurd ⟨by have:=hc.1;omega,hc.2⟩ Tn)|skip
    rw[<-Uv]
    (refine bA [] ?_;try simp only[go_sem])
theorem u5:∀n,sK n
 |0=>fun c a h h0 h1 hn=>by omega
 |n+1=>Ht n (OU n (u5 n) (NB n (u5 n)))
theorem Dx:∀n,Bi n
 |0=>fun c a h he h0 h1 hn=>by omega
 |n+1=>KO n (u5 n) (fun c a h he h0 h1 hn hk=>OT n (u5 n) c a h he h0 h1 hn hk) (fun c a h h0 h1 hn hk=>Ph n (u5 n) c a h h0 h1 hn hk) (En n (Dx n))
def xN(c:Ck):PH:=[aX eG 5 c.aa.nodes,aX fZ 5 c.aa.au,.rs 1 c.types.length 1 c.types.length,.rs 2 c.slots.length 1 c.slots.length,.rs 3 c.au.length 1 c.au.length,.rs 4 c.aL.length 1 c.aL.length,rI c.fn,.any,rI c.size,rI c.e,rI c.at_]
def mT(c:Ck):PG:=[(0,.var 137 (xN c)),(1,.aE 3 1 (c.types.map eI)),(2,.aE 3 1 (c.slots.map eI)),(3,.aE 3 1 (c.au.map eI)),(4,.aE 3 1 (c.aL.map eI))]
attribute [go_sem] mT xN
structure gf(c:Ck):Prop where
 aa:aO c.aa
 types:c.types.length=c.aa.nodes.length
 slots:c.slots.length=c.aa.nodes.length
 au:c.au.length=c.aa.nodes.length
def lU(c:Ck)(v:fq):Ck:={ c with vars:=c.vars++[v],more:=c.more.drop 1,size:=c.size+1 }
attribute [go_sem] lU
def zJ{c:Ck}(h:bv c)(v:fq)(hs:c.size<=20):bv (lU c v):=⟨h.aa,h.types,h.slots,h.au,h.aL,h.uY,h.tV,by have:=h.vars;show((c.vars++[v]).length:Int)<=c.size+1;simp;omega,by show c.size+1<=25;omega,fun _=>by show c.size+1<=24;omega⟩
def Lm(c:Ck)(k:Nat)(h:gf c)(hk:k<c.aa.au.length)(P5:c.aL.length<6):ai prog 56 [pR,rI k] (mT c) (fun v l=>v=.ba []/\l=mT (gD c k)):=by
 have WK:=h.aa.au;have SF:=h.aa.fn _ (fu hk);have TD:=SF.2;have S3:=h.aa.body _ (fu hk);have WQ:=h.aa.chain.mem (nth c.aa.au k).body (List.mem_map.2 ⟨_,fu hk,rfl⟩);refine aQ func56 ntmps56 ?_;refine S ?_
 (repeat' (first|refine ax fun K hK=>?_|refine az ?_|(with_reducible refine gR 9 ?_);refine dE 9 (aK 0 24) mixed ?_|(with_reducible refine gR 13 ?_);refine dE 13 (aK 0 16) mixed ?_|(refine hK _ _ ?_;clear hK K)|(refine aw ?_ ?_<;>intro hc<;>try exact jz)|refine al 6 ?_|refine ay ?_|exact jI|(clear hK K)))
 have PY:=hK;clear hK;refine gT (cU.fl 5 0 7 179 3 rfl jC rfl rfl) ?_
 (refine S ?_;try exact jI)
 generalize TM:({ c with fn:=(k:Int),vars:=[],more:=[],size:=0 }:Ck)=c0;have Su:bv c0:=by subst TM;exact⟨h.aa,h.types,h.slots,h.au,by show c.aL.length<=6;omega,by show(0:Int)<=k;omega,by show(k:Int)<(c.aa.au.length:Int);omega,by show((0:Nat):Int)<=0;omega,by show(0:Int)<=25;omega,fun _=>by show(0:Int)<=24;omega⟩
 have Qk:gD c k=(fun c2:Ck=>{ c2 with aL:=c2.aL++[c2.size],vars:=[],more:=[] }) (if(fC (nth c.aa.au k).body c0 (nth c.aa.au k).params 0).e=0 then fe (bJ c.aa.nodes.length) (fC (nth c.aa.au k).body c0 (nth c.aa.au k).params 0) (nth c.aa.au k).body else fC (nth c.aa.au k).body c0 (nth c.aa.au k).params 0):=by subst TM;rfl
 refine gT (cU.perm (fx c0++[(6,.var 132 (fZ (nth c.aa.au k)))]) (fun i=>by subst TM;simp only[go_sem,ak];(repeat' split)<;>first|rfl|omega)) ?_;refine dR (S:=Nat×Ck) [(5,1),(25,50)] (fun s=>s.1<=(nth c.aa.au k).params.length/\bv s.2/\s.2.size=s.1/\s.2.vars.length=s.1/\s.2.aa=c.aa/\s.2.aL=c.aL/\fC (nth c.aa.au k).body s.2 ((nth c.aa.au k).params.drop s.1) s.1=fC (nth c.aa.au k).body c0 (nth c.aa.au k).params 0) (fun s=>[(5,rI s.1)]) (fun s=>⟨[0,1,2,3,4],fx s.2++[(6,.var 132 (fZ (nth c.aa.au k)))]⟩) (fun s=>(nth c.aa.au k).params.length-s.1) (0,c0) ⟨jJ,Su,by subst TM;rfl,by subst TM;rfl,by subst TM;rfl,by subst TM;rfl,rfl⟩ (dS rfl cc) ?_;rintro⟨i,q⟩ ⟨hi,hq,YL,UB,Td,UQ,hA⟩ Kr P3;simp only at hi hq YL UB Td UQ hA
 (refine S ?_;try exact jI)
 by_cases PW:i<(nth c.aa.au k).params.length
 ·rw[lg PW,fC]at hA;have QM:=zu q (nth (nth c.aa.au k).params i).name hq;have Tm:=rG q 41 (nth c.aa.au k).body;by_cases hf:0<=q.find (nth (nth c.aa.au k).params i).name
  ·rw[if_pos hf]at hA;have ef:=mW q (e:=41) jC (nth c.aa.au k).body;have R2:=ef.vars;have T5:=ef.size;have Sh:=hq.ev ef;have Ur:(q.aC 41 (nth c.aa.au k).body).vars.length=i:=by rw[R2,UB]
   (repeat' (first|refine ax fun K hK=>?_|refine az ?_|(with_reducible refine gR 9 ?_);refine dE 9 (aK 0 24) mixed ?_|(with_reducible refine gR 13 ?_);refine dE 13 (aK 0 16) mixed ?_|(refine hK _ _ ?_;clear hK K)|(refine aw ?_ ?_<;>intro hc<;>try exact jz)|refine PY _ _ ?_|refine cm (QM) ?_|refine cm (Tm) ?_|refine ou (q.aC 41 (nth c.aa.au k).body).vars (q.aC 41 (nth c.aa.au k).body).more [⟨(nth (nth c.aa.au k).params i).name,(nth (nth c.aa.au k).params i).ty,(i:Int)⟩] ?_|refine ay ?_|exact jI|(clear hK K)))
   refine P3 _ _ (dZ (i+1,lU (q.aC 41 (nth c.aa.au k).body) ⟨(nth (nth c.aa.au k).params i).name,(nth (nth c.aa.au k).params i).ty,(i:Int)⟩) ⟨jJ,zJ Sh _ jB,by show(q.aC 41 (nth c.aa.au k).body).size+1=_;omega,by show((q.aC 41 (nth c.aa.au k).body).vars++[_]).length=i+1;rw[List.length_append,Ur];rfl,ef.aa.trans Td,ef.aL.trans UQ,hA⟩ jJ iQ cc)
  ·rw[if_neg hf]at hA
   (repeat' (first|refine ax fun K hK=>?_|refine az ?_|(with_reducible refine gR 9 ?_);refine dE 9 (aK 0 24) mixed ?_|(with_reducible refine gR 13 ?_);refine dE 13 (aK 0 16) mixed ?_|(refine hK _ _ ?_;clear hK K)|(refine aw ?_ ?_<;>intro hc<;>try exact jz)|refine PY _ _ ?_|refine cm (QM) ?_|refine ou q.vars q.more [⟨(nth (nth c.aa.au k).params i).name,(nth (nth c.aa.au k).params i).ty,(i:Int)⟩] ?_|refine ay ?_|exact jI|(clear hK K)))
   refine P3 _ _ (dZ (i+1,lU q ⟨(nth (nth c.aa.au k).params i).name,(nth (nth c.aa.au k).params i).ty,(i:Int)⟩) ⟨jJ,zJ hq _ jB,by show q.size+1=_;omega,by show(q.vars++[_]).length=i+1;rw[List.length_append,UB];rfl,Td,UQ,hA⟩ jJ iQ cc)
 ·have hz:q=fC (nth c.aa.au k).body c0 (nth c.aa.au k).params 0:=by
   rw[List.drop_eq_nil_of_le jB]at hA;exact hA
  rw[<-hz]at Qk;by_cases he:q.e=0
  ·rw[if_pos he]at Qk;have sb:=(pm (fun q b hq he=>nF c.aa.nodes.length q b hq he) hq (nth c.aa.au k).body).1;have VI:=En c.aa.nodes.length (Dx _) q (nth c.aa.au k).body hq WQ.1 (by rw[Td];omega) jB (by unfold Ck.node;rw[Td];exact S3);have SD:(fe (bJ c.aa.nodes.length) q (nth c.aa.au k).body).aL.length<6:=by rw[sb.aL,UQ];exact P5
   (have W:=he;repeat' (first|refine F5 (id:=13) 0 7 ?_|refine ax fun K hK=>?_|refine az ?_|(with_reducible refine gR 9 ?_);refine dE 9 (aK 0 24) mixed ?_|(with_reducible refine gR 13 ?_);refine dE 13 (aK 0 16) mixed ?_|(refine hK _ _ ?_;clear hK K)|(refine aw ?_ ?_<;>intro hc<;>try exact jz)|refine PY _ _ ?_|refine cm (VI) ?_|refine ay ?_|exact jI|(clear hK K)))
   rw[Qk]
   (refine bA [] ?_;try simp only[go_sem])
  ·rw[if_neg he]at Qk;have SD:q.aL.length<6:=by rw[UQ];exact P5
   (have W:=he;repeat' (first|refine F5 (id:=13) 0 7 ?_|refine ax fun K hK=>?_|refine az ?_|(with_reducible refine gR 9 ?_);refine dE 9 (aK 0 24) mixed ?_|(with_reducible refine gR 13 ?_);refine dE 13 (aK 0 16) mixed ?_|(refine hK _ _ ?_;clear hK K)|(refine aw ?_ ?_<;>intro hc<;>try exact jz)|refine PY _ _ ?_|refine ay ?_|exact jI|(clear hK K)))
   rw[Qk]
   (refine bA [] ?_;try simp only[go_sem])
def G0(c:Ck)(e a:Int):ai prog 91 [pR,rI e,rI a] (mT c) (fun v l=>v=.ba []/\l=mT (c.aC e a)):=by
 refine aQ func91 ntmps91 ?_;refine S ?_
 (repeat' (first|refine ax fun K hK=>?_|refine az ?_|(refine hK _ _ ?_;clear hK K)|(refine aw ?_ ?_<;>intro hc<;>try exact jz)|refine ay ?_|exact jI|(clear hK K)))
 ·(refine bQ [] ?_ ?_<;>(try simp only[go_sem]))
  simp only[Ck.aC,if_pos hc,mT,xN]
 ·(refine bQ [] ?_ ?_<;>(try simp only[go_sem]))
  simp only[Ck.aC,if_neg hc,mT,xN]
theorem za(x:aU):∀(l:List aU) (c:Ck),Ev c (lb x c l)
 |[],c=>by unfold lb;exact .refl c
 |f::l,c=>by
  unfold lb;refine Ev.trans ?_ (za x l _);split
  ·exact mW c jC _
  ·exact .refl c
theorem A6(au:List aU):∀(n:Nat) (c:Ck) (m:Bool) (i:Nat),Ev c (kG au c m i n).1
 |0,c,m,i=>by unfold kG;exact .refl c
 |n+1,c,m,i=>by unfold kG;exact(za _ _ _).trans (A6 au n _ _ _)
def Gb(c:Ck):Ev c (iY c):=by
 unfold iY;simp only;split
 ·exact A6 _ _ _ _ _
 ·exact(A6 _ _ _ _ _).trans (mW _ jC _)
def Ni(c:Ck)(h:c.aa.au.length<=6):ai prog 55 [pR] (mT c) (fun v l=>v=.ba []/\l=mT (iY c)):=by
 refine aQ func55 ntmps55 ?_;refine S ?_
 (repeat' (first|refine ax fun K hK=>?_|refine az ?_|(with_reducible refine gR 8 ?_);refine dE 8 (aK 0 11) mixed ?_|(refine hK _ _ ?_;clear hK K)|(refine aw ?_ ?_<;>intro hc<;>try exact jz)|refine ay ?_|exact jI|(clear hK K)))
 have PY:=hK;clear hK;refine dR (S:=Nat×Ck×Bool) [(3,3),(12,55)] (fun s=>s.1<=c.aa.au.length/\kG c.aa.au s.2.1 s.2.2 s.1 (c.aa.au.length-s.1)=kG c.aa.au c false 0 c.aa.au.length/\s.2.1.aa=c.aa) (fun s=>[(4,rI s.1),(3,rB s.2.2)]) (fun s=>⟨[0,1,2,3,4],mT s.2.1⟩) (fun s=>c.aa.au.length-s.1) (0,c,false) ⟨jJ,rfl,rfl⟩ (dS iQ cc) ?_;rintro⟨i,q,m⟩ ⟨hi,hA,Td⟩ Kr P3;simp only at hi hA Td
 (refine S ?_;try exact jI)
 by_cases PW:i<c.aa.au.length
 ·rw[show c.aa.au.length-i=(c.aa.au.length-(i+1))+1 from jB,kG]at hA
  (repeat' (first|refine ax fun K hK=>?_|refine az ?_|(with_reducible refine gR 8 ?_);refine dE 8 (aK 0 11) mixed ?_|(refine hK _ _ ?_;clear hK K)|(refine aw ?_ ?_<;>intro hc<;>try exact jz)|refine PY _ _ ?_|refine ay ?_|exact jI|(clear hK K)))
  have TC:=hK;clear hK;have Ud:=hK;clear hK;refine dR (S:=Nat×Ck) [(5,1),(18,23)] (fun s=>s.1<=i/\lb (nth c.aa.au i) s.2 ((c.aa.au.take i).drop s.1)=lb (nth c.aa.au i) q (c.aa.au.take i)) (fun s=>[(5,rI s.1)]) (fun s=>⟨[0,1,2,3,4],mT s.2⟩) (fun s=>i-s.1) (0,q) ⟨jJ,rfl⟩ (dS iQ cc) ?_;rintro⟨k,z⟩ ⟨hk,hB⟩ Kj U9;simp only at hk hB
  (refine S ?_;try exact jI)
  by_cases RU:k<i
  ·have YM:k<(c.aa.au.take i).length:=by rw[List.length_take];omega
   have VC:nth (c.aa.au.take i) k=nth c.aa.au k:=by simp[nth,List.getD_eq_getElem?_getD,List.getElem?_take,RU]
   rw[lg YM,VC,lb]at hB;have Tm:=G0 z 41 (nth c.aa.au i).body
   (repeat' (first|refine ax fun K hK=>?_|refine az ?_|(with_reducible refine gR 8 ?_);refine dE 8 (aK 0 11) mixed ?_|(refine hK _ _ ?_;clear hK K)|(refine aw ?_ ?_<;>intro hc<;>try exact jz)|refine TC _ _ ?_|refine cm (Tm) ?_|refine ay ?_|exact jI|(clear hK K)))
   ·rw[if_pos hc]at hB;refine U9 _ _ (dZ (k+1,z.aC 41 (nth c.aa.au i).body) ⟨jJ,hB⟩ jJ iQ cc)
   ·rw[if_neg hc]at hB;refine U9 _ _ (dZ (k+1,z) ⟨jJ,hB⟩ jJ iQ cc)
  ·rw[List.drop_eq_nil_of_le (by rw[List.length_take];omega),lb]at hB
   (repeat' (first|refine ax fun K hK=>?_|refine az ?_|(with_reducible refine gR 8 ?_);refine dE 8 (aK 0 11) mixed ?_|(refine hK _ _ ?_;clear hK K)|(refine aw ?_ ?_<;>intro hc<;>try exact jz)|refine TC _ _ ?_|refine Ud _ _ ?_|refine ay ?_|exact jI|(clear hK K)))
   refine P3 _ _ (dZ (i+1,z,m || uu (nth c.aa.au i)) ⟨jJ,by rw[<-hB]at hA;exact hA,by rw[hB];exact(za _ _ _).aa.trans Td⟩ jJ iQ (by simp only[go_sem,jm,Nat.reduceAdd,AV.raw.injEq,Value.int.injEq,Value.slice.injEq,Value.pointer.injEq,AV.rs.injEq,uu];try omega))
 ·rw[show c.aa.au.length-i=0 from jB,kG]at hA;have hz:iY c=if m=true then q else q.aC 44 0:=by unfold iY;rw[<-hA]
  have Tm:=G0 q 44 0;cases m
  ·rw[if_neg jC]at hz
   (repeat' (first|refine ax fun K hK=>?_|refine az ?_|(with_reducible refine gR 8 ?_);refine dE 8 (aK 0 11) mixed ?_|(refine hK _ _ ?_;clear hK K)|(refine aw ?_ ?_<;>intro hc<;>try exact jz)|refine PY _ _ ?_|refine cm (Tm) ?_|refine ay ?_|exact jI|(clear hK K)))
   rw[hz]
   (refine bQ [] ?_ ?_<;>(try simp only[go_sem]))
  ·rw[if_pos rfl]at hz
   (repeat' (first|refine ax fun K hK=>?_|refine az ?_|(with_reducible refine gR 8 ?_);refine dE 8 (aK 0 11) mixed ?_|(refine hK _ _ ?_;clear hK K)|(refine aw ?_ ?_<;>intro hc<;>try exact jz)|refine PY _ _ ?_|refine ay ?_|exact jI|(clear hK K)))
   rw[hz]
   (refine bQ [] ?_ ?_<;>(try simp only[go_sem]))
theorem yv(body:Int):∀(ps:List ce) (c:Ck) (i:Int),bv c->c.size+ps.length<=20->bv (fC body c ps i)/\(fC body c ps i).aa=c.aa/\(fC body c ps i).aL=c.aL
 |[],c,i,h,hs=>by unfold fC;exact⟨h,rfl,rfl⟩
 |p::ps,c,i,h,hs=>by
  unfold fC;simp only[List.length_cons]at hs;have fin:∀c1:Ck,Ev c c1->bv (fC body (lU c1 ⟨p.name,p.ty,i⟩) ps (i+1))/\(fC body (lU c1 ⟨p.name,p.ty,i⟩) ps (i+1)).aa=c.aa/\(fC body (lU c1 ⟨p.name,p.ty,i⟩) ps (i+1)).aL=c.aL:=fun c1 s=>by have h1:=h.ev s;have hz:=s.size;obtain⟨a,b,d⟩:=yv body ps (lU c1 ⟨p.name,p.ty,i⟩) (i+1) (zJ h1 _ jB) (by show c1.size+1+_<=20;omega);exact⟨a,b.trans s.aa,d.trans s.aL⟩
  simp only;split
  ·exact fin _ (mW c jC body)
  ·exact fin _ (.refl c)
def zS{c:Ck}(h:gf c)(hk:k<c.aa.au.length)(P5:c.aL.length<6):gf (gD c k)/\(gD c k).aa=c.aa/\(gD c k).aL.length=c.aL.length+1:=by
 have TD:=(h.aa.fn _ (fu hk)).2;have Su:bv { c with fn:=(k:Int),vars:=[],more:=[],size:=0 }:=⟨h.aa,h.types,h.slots,h.au,by show c.aL.length<=6;omega,by show(0:Int)<=k;omega,by show(k:Int)<(c.aa.au.length:Int);omega,by show((0:Nat):Int)<=0;omega,by show(0:Int)<=25;omega,fun _=>by show(0:Int)<=24;omega⟩;obtain⟨a,b,d⟩:=yv (nth c.aa.au k).body (nth c.aa.au k).params _ 0 Su (by show(0:Int)+_<=20;omega);unfold gD;simp only;split
 ·have s:=(pm (fun q b hq he=>nF c.aa.nodes.length q b hq he) a (nth c.aa.au k).body).1;have hi:=s.inv;refine⟨⟨hi.aa,hi.types,hi.slots,hi.au⟩,s.aa.trans b,?_⟩;show((fe (bJ c.aa.nodes.length) _ _).aL++[_]).length=_;rw[List.length_append,s.aL,d];rfl
 ·refine⟨⟨a.aa,a.types,a.slots,a.au⟩,b,?_⟩;show((fC _ _ _ _).aL++[_]).length=_;rw[List.length_append,d];rfl
def mg(t:aF)(n:Nat):Ck:=⟨t,(t.nodes.take n).map fun _=>0,(t.nodes.take n).map fun _=>-1,(t.nodes.take n).map fun _=>0,[],0,[],[],0,0,0⟩
variable{n:Nat}
def Ol(t:aF)(h:t.nodes.length<=n):mg t n=jU t:=by simp[mg,jU,List.take_of_length_le h]
def Iz(t:aF)(h:n<t.nodes.length):mg t (n+1)={ mg t n with types:=(mg t n).types++[0],slots:=(mg t n).slots++[-1],au:=(mg t n).au++[0] }:=by simp[mg,H8 h]
def K2(t:aF)(h:n<=t.nodes.length):(mg t n).types.length=n/\(mg t n).slots.length=n/\(mg t n).au.length=n:=by simp[mg];omega
@[go_sem] def jyu(t:aF)(l:PH):kM t++l=aX eG 5 t.nodes::aX fZ 5 t.au::l:=rfl
def Jg(t:aF)(h:aO t):dO prog 30 [.agg (kM t)] (.ba [.agg (fD (gZ t).1),rI (gZ t).2.1,rI (gZ t).2.2]):=by
 have hf:=h.au;have hm:=h.many;refine fg func30 ntmps30 ?_
 (repeat' (first|refine ax fun K hK=>?_|refine az ?_|(with_reducible refine gR 14 ?_);refine dA 14 [11] (aK 0 12) mixed ?_|(refine hK _ _ ?_;clear hK K)|(refine aw ?_ ?_<;>intro hc<;>try exact jz)|refine bx 10 ?_|refine al 11 ?_|refine bx 0 ?_|refine ay ?_|exact jI|(clear hK K)))
 have PY:=hK;clear hK;refine gT (cU.fl 1 0 2 3 1 rfl jC rfl rfl) ?_
 (refine S ?_;try exact jI)
 refine gT (cU.fl 2 0 3 3 1 rfl jC rfl rfl) ?_
 (refine S ?_;try exact jI)
 refine gT (cU.fl 3 0 4 3 1 rfl jC rfl rfl) ?_
 (refine S ?_;try exact jI)
 refine gT (cU.fl 4 0 5 3 1 rfl jC rfl rfl) ?_
 (refine S ?_;try exact jI)
 refine gT (cU.ra 0 7 rfl) ?_
 (refine S ?_;try exact jI)
 refine gT (cU.perm (mT (mg t 0)++[(10,.var 27 (kM t)),(11,.var 29 [.raw (.slice none 0 0),.raw (.slice none 0 0),.raw (.slice none 0 0),.raw (.slice none 0 0),.raw (.slice none 0 0),.raw (.slice none 0 0)])]) (fun i=>by simp only[go_sem,ak,mg];(repeat' split)<;>first|rfl|omega)) ?_;refine dR (S:=Nat) [(6,1),(12,40)] (fun k=>k<=t.nodes.length) (fun k=>[(6,rI k)]) (fun k=>⟨[],mT (mg t k)++[(10,.var 27 (kM t)),(11,.var 29 [.raw (.slice none 0 0),.raw (.slice none 0 0),.raw (.slice none 0 0),.raw (.slice none 0 0),.raw (.slice none 0 0),.raw (.slice none 0 0)])]⟩) (fun k=>t.nodes.length-k) 0 (Nat.zero_le _) (dS rfl cc) ?_;rintro k hk Kr P3;obtain⟨l1,l2,l3⟩:=K2 t hk
 (refine S ?_;try exact jI)
 by_cases PW:k<t.nodes.length
 ·(repeat' (first|refine ax fun K hK=>?_|refine az ?_|(with_reducible refine gR 14 ?_);refine dA 14 [11] (aK 0 12) mixed ?_|(refine hK _ _ ?_;clear hK K)|(refine aw ?_ ?_<;>intro hc<;>try exact jz)|refine PY _ _ ?_|refine ay ?_|exact jI|(clear hK K)))
  refine P3 _ _ (dZ (k+1) jB jB (by rw[Iz t PW];exact iQ) cc)
 ·have Qm:=Ol t (n:=k) jB;rw[Qm]at*;have hh:=Ni (jU t) hf
  (repeat' (first|refine ax fun K hK=>?_|refine az ?_|(with_reducible refine gR 14 ?_);refine dA 14 [11] (aK 0 12) mixed ?_|(refine hK _ _ ?_;clear hK K)|(refine aw ?_ ?_<;>intro hc<;>try exact jz)|refine PY _ _ ?_|refine cm (hh) ?_|refine ay ?_|exact jI|(clear hK K)))
  have Sz:=hK;clear hK;have eh:=Gb (jU t);have Su:gf (iY (jU t)):=⟨by rw[eh.aa];exact h,by rw[eh.types,eh.aa];simp[jU],by rw[eh.slots,eh.aa];simp[jU],by rw[eh.au,eh.aa];simp[jU]⟩;refine dR (S:=Nat×Ck) [(7,1),(54,17)] (fun s=>s.1<=t.au.length/\gf s.2/\s.2.aa=t/\s.2.aL.length=s.1/\gG s.2 s.1 (t.au.length-s.1)=ix t) (fun s=>[(7,rI s.1)]) (fun s=>⟨[],mT s.2++[(10,.var 27 (kM t)),(11,.var 29 [.raw (.slice none 0 0),.raw (.slice none 0 0),.raw (.slice none 0 0),.raw (.slice none 0 0),.raw (.slice none 0 0),.raw (.slice none 0 0)])]⟩) (fun s=>t.au.length-s.1) (0,iY (jU t)) ⟨Nat.zero_le _,Su,eh.aa,by rw[eh.aL];rfl,rfl⟩ (dS iQ cc) ?_;rintro⟨i,q⟩ ⟨hi,hq,Td,UQ,hA⟩ Kr2 UN;simp only at hi hq Td UQ hA
  (refine S ?_;try exact jI)
  by_cases Q1:i<t.au.length/\q.e=0
  ·obtain⟨QG,Re⟩:=Q1;rw[show t.au.length-i=(t.au.length-(i+1))+1 from jB,gG,if_pos Re]at hA;have XO:i<q.aa.au.length:=by rw[Td];exact QG
   have SP:=Lm q i hq XO jB;obtain⟨f1,f2,f3⟩:=zS hq XO jB
   (have W:=Re;repeat' (first|refine ax fun K hK=>?_|refine az ?_|(with_reducible refine gR 14 ?_);refine dA 14 [11] (aK 0 12) mixed ?_|(refine hK _ _ ?_;clear hK K)|(refine aw ?_ ?_<;>intro hc<;>try exact jz)|(refine Sz _ _ ?_)|refine cm (SP) ?_|refine ay ?_|exact jI|(clear hK K)))
   refine UN _ _ (dZ (i+1,gD q i) ⟨jJ,f1,f2.trans Td,jJ,hA⟩ jJ iQ cc)
  ·have hz:q=ix t:=by
    rw[<-hA];by_cases QG:i<t.au.length
    ·rw[show t.au.length-i=(t.au.length-(i+1))+1 from jB,gG,if_neg fun e=>Q1 ⟨QG,e⟩]
    ·rw[show t.au.length-i=0 from jB,gG]
   by_cases he:q.e=0
   ·have hr:gZ t=(q.prog,0,0):=by unfold gZ;rw[<-hz,if_neg (fun h=>h he)]
    have J':¬i<t.au.length:=fun h=>Q1 ⟨h,he⟩
    (have W:=he;repeat' (first|refine ax fun K hK=>?_|refine az ?_|(with_reducible refine gR 14 ?_);refine dA 14 [11] (aK 0 12) mixed ?_|(refine hK _ _ ?_;clear hK K)|(refine aw ?_ ?_<;>intro hc<;>try exact jz)|(refine Sz _ _ ?_)|refine ay ?_|exact jI|(clear hK K)))
    rw[hr];refine lE [.cell 2 29,.tmp 3,.tmp 4] ?_;refine bT.ba (ds:=[.agg (fD q.prog),rI 0,rI 0]) ?_;refine jA (bT.agg (ds:=fD q.prog) ?_) (jA (.same _ rfl) (jA (.same _ rfl) trivial));simp only[fD,Ck.prog];exact j6
   ·have hr:gZ t=(ko,q.at_,q.e):=by unfold gZ;rw[<-hz,if_pos he]
    (have W:=he;repeat' (first|refine ax fun K hK=>?_|refine az ?_|(with_reducible refine gR 14 ?_);refine dA 14 [11] (aK 0 12) mixed ?_|(refine hK _ _ ?_;clear hK K)|(refine aw ?_ ?_<;>intro hc<;>try exact jz)|(refine Sz _ _ ?_)|refine ay ?_|exact jI|(clear hK K)))
    rw[hr];refine lE [.cell 2 29,.tmp 3,.tmp 4] ?_;refine bT.ba (ds:=[.agg (fD ko),rI _,rI _]) ?_;refine jA (bT.agg (ds:=fD ko) ?_) (jA (.same _ rfl) (jA (.same _ rfl) trivial));simp only[fD,ko];exact j6
end Go.Proofs.YtghoellpinmenaaGreatDoor
/- Lemmas. No conditions. -/
import Derived.Test.YtjpcgmjaipfgdaaGreatDoorP2
import Derived.Test.YtjpcgmjaipfgdaaGreatDoorShelf
set_option linter.all false
set_option maxHeartbeats 8000000
set_option maxRecDepth 10000
namespace Go.Gd
open Go
def Jv{P:U6}{f:FuncId}{args:UU}{r:AV}(cO:U4)(v:Value)(ha:args=cO.map .raw)(hr:∀w:NW,ay w r v)(h:∀w:World,Calls P f cO.toArray w fun e w'=>e=.returned v/\RowKit.Below w.heap.size w w'):aD P f args r:=by
 intro w vs h1 h2;have WI:vs=cO.toArray:=by
  apply Array.ext';apply List.ext_getElem?;intro i;obtain⟨hl,hv⟩:=h2;subst ha;by_cases hi:i<cO.length
  ·have V4:i<vs.size:=by rw[<-hl];simpa using hi
   have:=di (hv i (.raw cO[i]) vs[i] (by simp[hi]) (by simp[V4]));simp[hi,V4,this]
  ·have V4:¬i<vs.size:=by rw[<-hl];simpa using hi
   rw[List.getElem?_eq_none (by simpa using V4),List.getElem?_eq_none (by simpa using hi)]
 subst WI;refine(h w.toWorld).mono ?_;rintro e W ⟨rfl,hb⟩;have ex:Ext w (entry []) (w.to W) (entry []):={ size:=hb.size,free:=fun b VJ hO=>⟨hb.block b VJ,hO⟩,names:=fun _ _ _ _ h=>h,os:=hb.os,tape:=hb.tape,output:=hb.output,rest:=fun b VJ hO Vj=>⟨hb.block b VJ,hO,Vj⟩,base:=rfl };refine⟨v,r,entry [],w.to W,rfl,rfl,⟨rfl,rfl⟩,{ rows:=fun i row hi=>(by cases hi),dn:=h1.dn,inj:=h1.inj,own:=h1.own,bS:=h1.bS.aW ex.toKeep,fin:=fun b VJ=>Nat.lt_of_lt_of_le (h1.fin b VJ) hb.size },hr _,ex.pS⟩
variable{H:Hp}{t:U1}{cs:UU}
def B7{w:NW}(r:aL w H){j:Nat}{cs':UU}(hj:H.get j=some (.var t cs))(hl:cs'.length=cs.length)(h:∀(k:Nat) a a' v,cs[k]?=some a->cs'[k]?=some a'->ay w a v->ay w a' v):aL w (H.put j (.var t cs'))/\Ext w H w (H.put j (.var t cs')):=by
 have ex:Ext w H w (H.put j (.var t cs')):={ ExtQ.refl _ w with base:=rfl };refine⟨{ rows:=fun i s hi=>?_,dn:=fun i m z hz=>?_,inj:=r.inj,own:=r.own,fin:=r.fin,bS:=r.bS.aW ex.toKeep },ex⟩
 ·rw[Hp.bn]at hi;split at hi
  ·rename_i e;subst e;cases hi;obtain⟨h1,z,h2,h3⟩:=r.rows _ _ hj;refine⟨trivial,z,h2,?_⟩;cases z with
   |nil=>obtain⟨e,sz,h4⟩:=h3;cases h4
   |«at» b u s=>
    obtain⟨g1,cur,g2,⟨g3,g4⟩,g5⟩:=h3;refine⟨g1,cur,g2,⟨g3,by show cs'.length<=u;rw[hl];exact g4⟩,fun k a v ha hv=>?_⟩;have ha:cs'[k]?=some a:=ha;have hk:k<cs.length:=by rw[<-hl];exact(List.getElem?_eq_some_iff.1 ha).1
    exact h k cs[k] a v (List.getElem?_eq_getElem hk) ha (g5 k cs[k] v (List.getElem?_eq_getElem hk) hv)
  ·exact r.rows i s hi
 ·obtain⟨s,h1,h2⟩:=r.dn i m z hz;rw[Hp.bn];split
  ·rename_i e;subst e;rw[hj]at h1;cases h1;exact⟨_,rfl,h2⟩
  ·exact⟨s,h1,h2⟩
variable{F:UU}
def dI.fS(i j k:Nat)(e:U1)(sz:Nat)(hi:H.get i=none)(h0:0<sz)(hj:H.get j=some (.var t cs))(hk:cs[k]?=some (.raw (.slice none 0 0))):dI F H F ((H.put i (.aJ e sz [])).put j (.var t (cs.set k (.rs i 0 sz 0)))):=fun w tm h1 h2=>by
 obtain⟨a,b⟩:=yh h1 hi e h0;have hij:j≠i:=fun e=>by subst e;rw[hi]at hj;cases hj
 obtain⟨a',b'⟩:=B7 (cs':=cs.set k (.rs i 0 sz 0)) a (j:=j) (t:=t) (cs:=cs) (by rw[Hp.bn,if_neg hij];exact hj) jE fun n x x' v hx Vx hv=>by
  rw[List.getElem?_set]at Vx;by_cases hn:k=n
  ·subst hn;rw[if_pos rfl]at Vx;split at Vx
   ·cases Vx;rw[hk]at hx;cases hx;cases hv;exact .iO _ _ _ _ (NW.cA _ _ _ _)
   ·cases Vx
  ·rw[if_neg hn,hx]at Vx;cases Vx;exact hv
 exact⟨w.name i 0 .nil,rfl,a',h2.ext b,(b.trans b').pS⟩
def dI.tV(j k:Nat)(hj:H.get j=some (.var t cs)):dI F H F (H.put j (.var t (cs.set k .any))):=fun w tm h1 h2=>by
 obtain⟨a',b'⟩:=B7 (cs':=cs.set k .any) h1 (j:=j) (t:=t) (cs:=cs) hj jE fun n x x' v hx Vx hv=>by
  rw[List.getElem?_set]at Vx;by_cases hn:k=n
  ·subst hn;rw[if_pos rfl]at Vx;split at Vx
   ·cases Vx;exact .any _
   ·cases Vx
  ·rw[if_neg hn]at Vx;rw[hx]at Vx;cases Vx;exact hv
 exact⟨w,rfl,a',h2,b'.pS⟩
def Hd{P:U6}{id:Nat}{l:List Oper}{b:Bool}{Q:Exit->UQ}{q:Prop}(j k:Nat){i m sz n:Nat}(h:q)(hj:H.get j=some (.var t cs):=by rfl)(hc:cs[k]?=some (.rs i m sz n):=by rfl)(e:dL P (.region id l.toArray b) Q F (H.put j (.var t (cs.set k .any)))=q:=by first|(simp only[go_sem];rfl)|rfl):dL P (.region id l.toArray b) Q F H:=iW (dI.tV j k hj) (e ▸ h)
end Go.Gd
namespace Go.Proofs.YtjpcgmjaipfgdaaGreatDoor
open Go Go.Gd Tryz
def CG(s:U0)(k:Nat):eZ s k=((s.data.toList.getD k 0).toNat:Int):=by unfold eZ;simp
def kV:List UInt8->Nat->Nat
 |[],a=>a
 |c::l,a=>kV l (a*10+(c.toNat-48))
theorem Jl:∀(l:List UInt8) (a:Nat),a<=kV l a
 |[],a=>Nat.le_refl _
 |c::l,a=>Nat.le_trans jB (Jl l _)
theorem ET:∀(l:List UInt8) (a:Nat),(∀c∈l,48<=c.toNat/\c.toNat<=57)->kV l a<=9223372036854775807->Lib.parseUint10 a l=.ok (kV l a)
 |[],a,_,_=>rfl
 |c::l,a,h,hm=>by have hc:=h c jE;have h1:=Jl l (a*10+(c.toNat-48));simp only[kV]at hm ⊢;unfold Lib.parseUint10;rw[if_pos hc,jN,jN];exact ET l _ (fun x hx=>h x (by simp[hx])) hm
theorem Ed:∀(l:List UInt8) (c:UInt8) (a:Nat),kV (l++[c]) a=kV l a*10+(c.toNat-48)
 |[],_,_=>rfl
 |_::l,c,_=>Ed l c _
theorem AR:∀(l:List UInt8) (a:Nat),(∀c∈l,48<=c.toNat/\c.toNat<=57)->kV l a+1<=(a+1)*10 ^ l.length
 |[],a,_=>by simp[kV]
 |c::l,a,h=>by have hc:=h c jE;have ih:=AR l (a*10+(c.toNat-48)) (fun x hx=>h x (by simp[hx]));simp only[kV,List.length_cons,Nat.pow_succ];refine Nat.le_trans ih ?_;rw[Nat.mul_comm (10 ^ l.length) 10,<-Nat.mul_assoc];exact Nat.mul_le_mul_right _ jB
theorem Ko:∀(l:List UInt8) (a:Nat),a*10 ^ l.length<=kV l a
 |[],a=>by simp[kV]
 |c::l,a=>by have ih:=Ko l (a*10+(c.toNat-48));simp only[kV,List.length_cons,Nat.pow_succ];refine Nat.le_trans ?_ ih;rw[Nat.mul_comm (10 ^ l.length) 10,<-Nat.mul_assoc];exact Nat.mul_le_mul_right _ jB
theorem D2:∀(l m:List UInt8) (a:Nat),l.length=m.length->(∀c∈l,48<=c.toNat/\c.toNat<=57)->(∀c∈m,48<=c.toNat/\c.toNat<=57)->Op.bytesLess l m=true->kV l a<kV m a
 |[],[],_,_,_,_,h=>by simp[Op.bytesLess]at h
 |[],_::_,_,hl,_,_,_=>by simp at hl
 |_::_,[],_,hl,_,_,_=>by simp at hl
 |x::l,y::m,a,hl,h1,h2,h=>by
  have hx:=h1 x jE;have hy:=h2 y jE;simp only[Op.bytesLess,Bool.or_eq_true,decide_eq_true_eq,Bool.and_eq_true,beq_iff_eq]at h;simp only[kV];rcases h with h|⟨rfl,h⟩
  ·have h:x.toNat<y.toNat:=h;have e1:=AR l (a*10+(x.toNat-48)) (fun c hc=>h1 c (by simp[hc]));have e2:=Ko m (a*10+(y.toNat-48));have e3:(a*10+(x.toNat-48)+1)*10 ^ l.length<=(a*10+(y.toNat-48))*10 ^ m.length:=by
    rw[show l.length=m.length by simpa using hl];exact Nat.mul_le_mul_right _ jB
   omega
  ·exact D2 l m _ (by simpa using hl) (fun c hc=>h1 c (by simp[hc])) (fun c hc=>h2 c (by simp[hc])) h
theorem B0(s:U0)(hd:∀j,j<s.size->km (eZ s j)=true):∀k,k<=s.size->wS s k=(kV (s.data.toList.take k) 0:Nat)
 |0,_=>by simp[wS,kV]
 |k+1,hk=>by
  have Vv:k<s.data.toList.length:=by simp;omega
  have h1:=hd k jB;simp only[km,Bool.and_eq_true,decide_eq_true_eq]at h1;rw[CG]at h1;rw[wS,B0 s hd k jB,List.take_succ_eq_append_getElem Vv,Ed,CG];have:s.data.toList.getD k 0=s.data.toList[k]:=by rw[List.getD_eq_getElem?_getD,List.getElem?_eq_getElem Vv];rfl
  rw[this]at h1 ⊢;omega
variable{s:U0}
def GL(h:rj s):∀c∈s.data.toList,48<=c.toNat/\c.toNat<=57:=fun c hc=>by obtain⟨k,hk,rfl⟩:=List.getElem_of_mem hc;have:=h.2.2 k (by simpa using hk);simp only[km,Bool.and_eq_true,decide_eq_true_eq]at this;rw[CG,List.getD_eq_getElem?_getD,List.getElem?_eq_getElem hk]at this;simp only[Option.getD_some]at this;omega
def IU(h:rj s):kV s.data.toList 0<=9223372036854775807:=by
 have hd:=GL h;have hn:=h.2.1;have hl:=AR s.data.toList 0 hd;have O':s.data.toList.length=s.size:=jE;unfold xc at hn;simp only[Bool.or_eq_true,decide_eq_true_eq,Bool.and_eq_true]at hn;rcases hn with hn|⟨hn,h2|h2⟩
 ·have:10 ^ s.data.toList.length<=10 ^ 18:=Nat.pow_le_pow_right jB (by rw[O'];omega);simp only[Nat.zero_add,Nat.one_mul]at hl;omega
 ·have e:s.toList=s.data.toList:=ByteArray.toList_eq s;have:=D2 s.data.toList [57,50,50,51,51,55,50,48,51,54,56,53,52,55,55,53,56,48,55] 0 (by rw[O'];simp;omega) hd jC (by rw[<-e,show[57,50,50,51,51,55,50,48,51,54,56,53,52,55,55,53,56,48,55]=(⟨#[57,50,50,51,51,55,50,48,51,54,56,53,52,55,55,53,56,48,55]⟩:U0).toList by rw[ByteArray.toList_eq]];exact h2);have e2:kV [57,50,50,51,51,55,50,48,51,54,56,53,52,55,55,53,56,48,55] 0=9223372036854775807:=jC;omega
 ·subst h2;decide
def NO(h:rj s):Lib.atoiAll s.data.toList=.ok (pX s):=by
 have hd:=GL h;have Vd:=IU h;have ZJ:pX s=(kV s.data.toList 0:Nat):=by unfold pX;rw[B0 s h.2.2 _ jl,List.take_of_length_le jE]
 have hp:=ET s.data.toList 0 hd Vd;have VV:=h.1;cases hs:s.data.toList with
 |nil=> have:s.data.toList.length=s.size:=jE;rw[hs]at this;simp at this;omega
 |cons c l=> rw[hs]at hd hp ZJ Vd;have hc:=hd c jE;simp only[Lib.atoiAll];rw[jN];simp only[Lib.parseMag,List.cons_ne_nil,if_false,hp,reduceCtorEq];rw[jN,jN,jN,ZJ]
def QR(s:U0)(h:rj s):aD prog 280 [rS s] (.ba [rI (pX s),.raw .nilIface]):=by
 have hs:s.size<=9223372036854775806:=by have hn:=h.2.1;unfold xc at hn;simp only[Bool.or_eq_true,decide_eq_true_eq,Bool.and_eq_true]at hn;omega
 refine Jv [.string s] (.tuple #[.int .i64 (pX s),.nilIface]) rfl (fun w=>?_) fun w=>?_
 ·exact .ba _ _ rfl fun i a v ha hv=>by
   match i with
   |0=>simp at ha hv;subst ha hv;exact .raw _
   |1=>simp at ha hv;subst ha hv;exact .raw _
   |i+2=>simp at ha
 ·refine(Tryz.strconv_Atoi_ok s hs (pX s) (NO h) w).mono ?_;rintro e W ⟨rfl,hW⟩;refine⟨rfl,?_⟩;rcases hW with rfl|⟨t,rfl⟩
  ·exact RowKit.Below.refl _ _
  ·exact Lib.bytesWorld_below _ _ _
def SW(n:Nat)(hc:z7 n):Db (n+1):=by
 intro r h hn;have Wz:=h.lt;have hip:=h.pos;have VO:=h.len;have hin':(r.l.length:Int)<=2000:=jB;have U':∀q:Rd,q.Inv->8*q.rem+8<=n->af prog 232 [pR] (cH q) (fun v l=>v=rI (dZ n 0 q).2/\l=cH (dZ n 0 q).1):=fun q hq hm=>by
  have:=hc 0 q jB hq jB;refine aQ func232 ntmps232 ?_;refine S ?_
  (repeat' (first|refine ar fun K hK=>?_|refine av ?_|(refine hK _ _ ?_;clear hK K)|(refine au ?_ ?_<;>intro hc<;>try exact jz)|refine cm (this) ?_|refine aq ?_|exact jI|(clear hK K)))
  (refine cd [.tmp 2] ?_ ?_<;>(try simp only[go_sem]))
 have deeper:∀(q:Rd) (t u:U0),q.Inv->q.e=0->q.down.Inv/\(q.down.ap t).Inv/\(dZ n 0 (q.down.ap t)).1.Inv/\((dZ n 0 (q.down.ap t)).1.ap u).Inv/\((dZ n 0 (q.down.ap t)).1.ap u).up.Inv/\(q.down.ap t).rem<=q.rem:=fun q t u hq he=>by have h1:=(Rd.bK hq he).1;have s1:=Rd.aO h1 t;have h2:=s1.inv h1;have s2:=(sG n).2.2.1 0 _ h2;have h3:=s2.inv h2;have s3:=Rd.aO h3 u;refine⟨h1,h2,h3,s3.inv h3,(Rd.fD hq he ((s1.trans s2).trans s3)).inv hq,Nat.le_trans s1.rem ?_⟩;have hd:=Rd.bK hq he;unfold Rd.rem;rw[if_pos he,hd.2.2.1,hd.2.2.2.1];split<;>omega
 rw[qV];by_cases he:r.e≠0
 ·rw[if_pos he];refine aQ func276 ntmps276 ?_;refine S ?_
  (repeat' (first|refine ar fun K hK=>?_|refine av ?_|(with_reducible refine gR 2 ?_);refine dE 2 (bf 0 12) mixed ?_|(refine hK _ _ ?_;clear hK K)|(refine au ?_ ?_<;>intro hc<;>try exact jz)|refine cm (ix r (bC h)) ?_|refine aq ?_|exact jI|(clear hK K)))
  (refine bq [.tmp 2] ?_;try simp only[go_sem])
 rw[if_neg he];have he:r.e=0:=jB;have Xj:r.tok.kind≠0->r.inc.Inv/\r.inc.rem+1<=r.rem/\r.i+1<r.l.length:=fun hk=>⟨(Rd.bt h hk).1.inv h,Rd.dr h ⟨he,hk⟩,Rd.behind h hk⟩
 by_cases VA:r.tok.kind=1
 ·rw[if_pos VA];obtain⟨hi,_,hb⟩:=Xj jB;have hnt:=h.num r.i.toNat jB VA;have W5:(nth r.l r.i.toNat).kind=1:=VA;refine aQ func276 ntmps276 ?_;refine S ?_
  (have W:=jA he (W5);repeat' (first|refine ar fun K hK=>?_|refine av ?_|(with_reducible refine gR 2 ?_);refine dE 2 (bf 0 12) mixed ?_|(refine hK _ _ ?_;clear hK K)|(refine au ?_ ?_<;>intro hc<;>try exact jz)|refine cm (ix r (bC h)) ?_|refine cp (QR _ hnt) ?_|refine cm (lj r.inc _ _ _ _ [] _ gS.nil (bC hi)) ?_|refine aq ?_|exact jI|(clear hK K)))
  (refine bq [.tmp 2] ?_;try simp only[go_sem])
  all_goals rfl
 rw[if_neg VA];have W5:¬(nth r.l r.i.toNat).kind=1:=VA;by_cases Vk:r.tok.kind=2
 ·rw[if_pos Vk];obtain⟨hi,_,hb⟩:=Xj jB;have XJ:(nth r.l r.i.toNat).kind=2:=Vk;refine aQ func276 ntmps276 ?_;refine S ?_
  (have W:=jA he (XJ);repeat' (first|refine ar fun K hK=>?_|refine av ?_|(with_reducible refine gR 2 ?_);refine dE 2 (bf 0 12) mixed ?_|(refine hK _ _ ?_;clear hK K)|(refine au ?_ ?_<;>intro hc<;>try exact jz)|refine cm (ix r (bC h)) ?_|refine cm (lj r.inc _ _ _ _ [] _ gS.nil (bC hi)) ?_|refine aq ?_|exact jI|(clear hK K)))
  (refine bq [.tmp 2] ?_;try simp only[go_sem])
  all_goals rfl
 rw[if_neg Vk];have XJ:¬(nth r.l r.i.toNat).kind=2:=Vk;by_cases Yh:r.tok.kind=3
 ·rw[if_pos Yh];obtain⟨hi,hr,hb⟩:=Xj jB;have Xv:(nth r.l r.i.toNat).kind=3:=Yh;by_cases hx:r.inc.is (⟨#[91]⟩:U0)=true
  ·rw[if_pos hx];obtain⟨d1,d2,d3,d4,d5,d6⟩:=deeper r.inc (⟨#[91]⟩:U0) (⟨#[93]⟩:U0) hi he;have d4l:=d4.px;have d4h:=d4.qm;refine aQ func276 ntmps276 ?_;refine S ?_
   (have W:=jA he (jA Xv (hx));repeat' (first|refine ar fun K hK=>?_|refine av ?_|(with_reducible refine gR 2 ?_);refine dE 2 (bf 0 12) mixed ?_|(refine hK _ _ ?_;clear hK K)|(refine au ?_ ?_<;>intro hc<;>try exact jz)|refine cm (ix r (bC h)) ?_|refine cm (gA r.inc _ (bC hi)) ?_|refine cm (uF r.inc (bC hi)) ?_|refine cm (ja r.inc.down _ (bC d1)) ?_|refine cm (U' (r.inc.down.ap (⟨#[91]⟩:U0)) d2 jB) ?_|refine cm (ja (dZ n 0 (r.inc.down.ap (⟨#[91]⟩:U0))).1 _ (bC d3)) ?_|refine cm (lj ((dZ n 0 (r.inc.down.ap (⟨#[91]⟩:U0))).1.ap (⟨#[93]⟩:U0)).up _ _ _ _ [(dZ n 0 (r.inc.down.ap (⟨#[91]⟩:U0))).2] _ gS.sl (bC d5)) ?_|refine aq ?_|exact jI|(clear hK K)))
   (refine bq [.tmp 2] ?_;try simp only[go_sem])
   all_goals rfl
  ·rw[if_neg hx];have Vx:r.inc.is (⟨#[91]⟩:U0)=false:=by simpa using hx
   refine aQ func276 ntmps276 ?_;refine S ?_
   (have W:=jA he (jA Xv (Vx));repeat' (first|refine ar fun K hK=>?_|refine av ?_|(with_reducible refine gR 2 ?_);refine dE 2 (bf 0 12) mixed ?_|(refine hK _ _ ?_;clear hK K)|(refine au ?_ ?_<;>intro hc<;>try exact jz)|refine cm (ix r (bC h)) ?_|refine cm (gA r.inc _ (bC hi)) ?_|refine cm (lj r.inc _ _ _ _ [] _ gS.nil (bC hi)) ?_|refine aq ?_|exact jI|(clear hK K)))
   (refine bq [.tmp 2] ?_;try simp only[go_sem])
   all_goals rfl
 rw[if_neg Yh];have Xv:¬(nth r.l r.i.toNat).kind=3:=Yh;by_cases ht:r.is (⟨#[116,114,117,101]⟩:U0)=true
 ·rw[if_pos ht];obtain⟨hi,hr,hb⟩:=Xj (Rd.bc ht).2;refine aQ func276 ntmps276 ?_;refine S ?_
  (have W:=jA he (jA ht (jA W5 (jA XJ (Xv))));repeat' (first|refine ar fun K hK=>?_|refine av ?_|(with_reducible refine gR 2 ?_);refine dE 2 (bf 0 12) mixed ?_|(refine hK _ _ ?_;clear hK K)|(refine au ?_ ?_<;>intro hc<;>try exact jz)|refine cm (ix r (bC h)) ?_|refine cm (gA r _ (bC h)) ?_|refine cm (lj r.inc _ _ _ _ [] _ gS.nil (bC hi)) ?_|refine aq ?_|exact jI|(clear hK K)))
  (refine bq [.tmp 2] ?_;try simp only[go_sem])
 rw[if_neg ht];have Yt:r.is (⟨#[116,114,117,101]⟩:U0)=false:=by simpa using ht
 by_cases hf:r.is (⟨#[102,97,108,115,101]⟩:U0)=true
 ·rw[if_pos hf];obtain⟨hi,hr,hb⟩:=Xj (Rd.bc hf).2;refine aQ func276 ntmps276 ?_;refine S ?_
  (have W:=jA he (jA Yt (jA hf (jA W5 (jA XJ (Xv)))));repeat' (first|refine ar fun K hK=>?_|refine av ?_|(with_reducible refine gR 2 ?_);refine dE 2 (bf 0 12) mixed ?_|(refine hK _ _ ?_;clear hK K)|(refine au ?_ ?_<;>intro hc<;>try exact jz)|refine cm (ix r (bC h)) ?_|refine cm (gA r _ (bC h)) ?_|refine cm (lj r.inc _ _ _ _ [] _ gS.nil (bC hi)) ?_|refine aq ?_|exact jI|(clear hK K)))
  (refine bq [.tmp 2] ?_;try simp only[go_sem])
 rw[if_neg hf];have Z2:r.is (⟨#[102,97,108,115,101]⟩:U0)=false:=by simpa using hf
 by_cases hl:r.is (⟨#[108,101,110]⟩:U0)=true
 ·rw[if_pos hl];obtain⟨hi,hr,hb⟩:=Xj (Rd.bc hl).2;by_cases hx:r.inc.is (⟨#[40]⟩:U0)=true
  ·rw[if_pos hx];obtain⟨d1,d2,d3,d4,d5,d6⟩:=deeper r.inc (⟨#[40]⟩:U0) (⟨#[41]⟩:U0) hi he;have d4l:=d4.px;have d4h:=d4.qm;refine aQ func276 ntmps276 ?_;refine S ?_
   (have W:=jA he (jA Yt (jA Z2 (jA hl (jA W5 (jA XJ (jA Xv (hx)))))));repeat' (first|refine ar fun K hK=>?_|refine av ?_|(with_reducible refine gR 2 ?_);refine dE 2 (bf 0 12) mixed ?_|(refine hK _ _ ?_;clear hK K)|(refine au ?_ ?_<;>intro hc<;>try exact jz)|refine cm (ix r (bC h)) ?_|refine cm (gA r _ (bC h)) ?_|refine cm (gA r.inc _ (bC hi)) ?_|refine cm (uF r.inc (bC hi)) ?_|refine cm (ja r.inc.down _ (bC d1)) ?_|refine cm (U' (r.inc.down.ap (⟨#[40]⟩:U0)) d2 jB) ?_|refine cm (ja (dZ n 0 (r.inc.down.ap (⟨#[40]⟩:U0))).1 _ (bC d3)) ?_|refine cm (lj ((dZ n 0 (r.inc.down.ap (⟨#[40]⟩:U0))).1.ap (⟨#[41]⟩:U0)).up _ _ _ _ [(dZ n 0 (r.inc.down.ap (⟨#[40]⟩:U0))).2] _ gS.sl (bC d5)) ?_|refine aq ?_|exact jI|(clear hK K)))
   (refine bq [.tmp 2] ?_;try simp only[go_sem])
  ·rw[if_neg hx];have Vx:r.inc.is (⟨#[40]⟩:U0)=false:=by simpa using hx
   refine aQ func276 ntmps276 ?_;refine S ?_
   (have W:=jA he (jA Yt (jA Z2 (jA hl (jA W5 (jA XJ (jA Xv (Vx)))))));repeat' (first|refine ar fun K hK=>?_|refine av ?_|(with_reducible refine gR 2 ?_);refine dE 2 (bf 0 12) mixed ?_|(refine hK _ _ ?_;clear hK K)|(refine au ?_ ?_<;>intro hc<;>try exact jz)|refine cm (ix r (bC h)) ?_|refine cm (gA r _ (bC h)) ?_|refine cm (gA r.inc _ (bC hi)) ?_|refine cm (ue r.inc _ (bC hi)) ?_|refine aq ?_|exact jI|(clear hK K)))
   (refine bq [.tmp 2] ?_;try simp only[go_sem])
 rw[if_neg hl];have Wt:r.is (⟨#[108,101,110]⟩:U0)=false:=by simpa using hl
 by_cases hx:r.is (⟨#[40]⟩:U0)=true
 ·rw[if_pos hx];obtain⟨hi,hr,hb⟩:=Xj (Rd.bc hx).2;obtain⟨d1,d2,d3,d4,d5,d6⟩:=deeper r (⟨#[40]⟩:U0) (⟨#[41]⟩:U0) h he;have d4l:=d4.px;have d4h:=d4.qm;have d7:(r.down.ap (⟨#[40]⟩:U0)).rem+1<=r.rem:=by
   have hdn:=Rd.bK h he;unfold Rd.rem;rw[if_pos he];have Vn:(r.down.ap (⟨#[40]⟩:U0)).l=r.l:=(Rd.aO d1 _).l.trans hdn.2.2.2.1;rw[Vn];by_cases hq:r.down.is (⟨#[40]⟩:U0)=true
   ·have:r.down.ap (⟨#[40]⟩:U0)=r.down.inc:=by unfold Rd.ap;rw[if_pos hq]
    rw[this];have:r.down.inc.i=r.i+1:=by show r.down.i+1=_;rw[hdn.2.2.1]
    rw[this];split<;>omega
   ·have hm:r.down.ap (⟨#[40]⟩:U0)=r.down.aG 20:=by unfold Rd.ap;rw[if_neg hq]
    rw[hm];have:(r.down.aG 20).e≠0:=by
     unfold Rd.aG;split
     ·show(20:Int)≠0;decide
     ·assumption
    rw[if_neg this];omega
  refine aQ func276 ntmps276 ?_;refine S ?_
  (have W:=jA he (jA Yt (jA Z2 (jA Wt (jA W5 (jA XJ (jA Xv (hx)))))));repeat' (first|refine ar fun K hK=>?_|refine av ?_|(with_reducible refine gR 2 ?_);refine dE 2 (bf 0 12) mixed ?_|(refine hK _ _ ?_;clear hK K)|(refine au ?_ ?_<;>intro hc<;>try exact jz)|refine cm (ix r (bC h)) ?_|refine cm (gA r _ (bC h)) ?_|refine cm (uF r (bC h)) ?_|refine cm (ja r.down _ (bC d1)) ?_|refine cm (U' (r.down.ap (⟨#[40]⟩:U0)) d2 jB) ?_|refine cm (ja (dZ n 0 (r.down.ap (⟨#[40]⟩:U0))).1 _ (bC d3)) ?_|refine aq ?_|exact jI|(clear hK K)))
  (refine bq [.tmp 2] ?_;try simp only[go_sem])
 rw[if_neg hx];have Vx:r.is (⟨#[40]⟩:U0)=false:=by simpa using hx
 refine aQ func276 ntmps276 ?_;refine S ?_
 (have W:=jA he (jA Yt (jA Z2 (jA Wt (jA W5 (jA XJ (jA Xv (Vx)))))));repeat' (first|refine ar fun K hK=>?_|refine av ?_|(with_reducible refine gR 2 ?_);refine dE 2 (bf 0 12) mixed ?_|(refine hK _ _ ?_;clear hK K)|(refine au ?_ ?_<;>intro hc<;>try exact jz)|refine cm (ix r (bC h)) ?_|refine cm (gA r _ (bC h)) ?_|refine cm (ue r _ (bC h)) ?_|refine aq ?_|exact jI|(clear hK K)))
 (refine bq [.tmp 2] ?_;try simp only[go_sem])
theorem BG:∀m n,n<=m->Db n/\z8 n/\z7 n
 |0,0,_=>⟨fun r h hn=>by omega,fun r h hn=>by omega,fun lv r hl h hn=>by omega⟩
 |m+1,0,_=>⟨fun r h hn=>jB,fun r h hn=>jB,fun lv r hl h hn=>jB⟩
 |m+1,n+1,hm=>by obtain⟨ha,hf,hc⟩:=BG m n jB;exact⟨SW n hc,TX n ha hf,Nj n hf fun k hk=>(BG m k jB).2.2⟩
def R9(n:Nat)(r:Rd)(h:r.Inv)(hn:8*r.rem+8<=n):af prog 232 [pR] (cH r) (fun v l=>v=rI (dZ n 0 r).2/\l=cH (dZ n 0 r).1):=by
 have:=(BG n n jl).2.2 0 r jB h jB;refine aQ func232 ntmps232 ?_;refine S ?_
 (repeat' (first|refine ar fun K hK=>?_|refine av ?_|(refine hK _ _ ?_;clear hK K)|(refine au ?_ ?_<;>intro hc<;>try exact jz)|refine cm (this) ?_|refine aq ?_|exact jI|(clear hK K)))
 (refine cd [.tmp 2] ?_ ?_<;>(try simp only[go_sem]))
variable{r:Rd}
def qR(h:r.Inv):af prog 232 [pR] (cH r) (fun v l=>v=rI (dq r).2/\l=cH (dq r).1):=R9 _ r h jl
def EF(h:r.Inv):af prog 255 [pR] (cH r) (fun v l=>v=rI (nn r).2/\l=cH (nn r).1):=by
 have h1:=(Rd.dz h).inv h;have h2:=(Ak h).inv h;have h3:=(CS h).inv h;have h4:=(PW h).inv h;have hr0:(pG r).rem<=2000:=by have:=h2.pos;have:=h2.len;unfold Rd.rem;split<;>omega
 have hm:af prog 145 [pR,rS (⟨#[40]⟩:U0)] (cH r.name.1) (fun v l=>v=.ba []/\l=cH (pG r)):=ja r.name.1 _ (bC h1);refine aQ func255 ntmps255 ?_;refine S ?_
 (repeat' (first|refine ar fun K hK=>?_|refine av ?_|(refine hK _ _ ?_;clear hK K)|(refine au ?_ ?_<;>intro hc<;>try exact jz)|refine cm (ix r (bC h)) ?_|refine cm (vK r (bC h)) ?_|refine cm (hm) ?_|refine cm (gA (pG r) _ (bC h2)) ?_|refine aq ?_|exact jI|(clear hK K)))
 have Vc:=hK;clear hK;refine iW (dI.nil 2 5 3 (sz:=1) rfl jC (Or.inr ⟨_,_,_,rfl,rfl⟩)) ?_
 (refine S ?_;try exact jI)
 refine dJ (S:=Nat×Bool×Rd×UY) [(5,1),(7,2),(27,17)] (fun s=>s.2.2.1.Inv/\(s.2.1=true->s.2.2.1.rem+2<=s.1)/\1<=s.1/\s.2.2.2.length+s.1<=5000/\nQ s.1 s.2.1 s.2.2.1 s.2.2.2=ob r) (fun s=>[(5,.rs 2 s.2.2.2.length 1 s.2.2.2.length),(7,rB s.2.1)]) (fun s=>⟨[0,1],cH s.2.2.1++[(2,.aJ 3 1 (s.2.2.2.map eI))]⟩) (fun s=>s.1) ((pG r).rem+2,more (pG r),pG r,[]) ⟨h2,fun _=>Nat.le_refl _,jJ,by(try simp only[List.length_nil]);omega,rfl⟩ (dK rfl (by simp only[go_sem,lr,Nat.reduceAdd,AV.raw.injEq,Value.int.injEq,Value.slice.injEq,Value.pointer.injEq,AV.rs.injEq,more,List.length_nil];try omega)) ?_;rintro⟨n,b,q,L⟩ ⟨hq,V9,Xb,X5,hA⟩ Kr Vb;simp only at hq V9 Xb X5 hA;have hqi:=hq.lt;have hqp:=hq.pos;have Zt:=hq.len;obtain⟨n,rfl⟩:∃k,n=k+1:=⟨n-1,jB⟩;cases b with
 |false=>
  rw[nQ]at hA;have e1:q=(ob r).1:=by rw[<-hA]
  have e2:L=(ob r).2:=by rw[<-hA]
  rw[<-e1]at h4;refine S ?_
  (repeat' (first|refine ar fun K hK=>?_|refine av ?_|(refine hK _ _ ?_;clear hK K)|(refine au ?_ ?_<;>intro hc<;>try exact jz)|refine aq ?_|exact jI|(clear hK K)))
  refine Vc _ _ ?_;refine KQ [2] 5 (aM eI 1 L) Sd Sd iQ ?_;refine S ?_
  (repeat' (first|refine ar fun K hK=>?_|refine av ?_|(refine hK _ _ ?_;clear hK K)|(refine au ?_ ?_<;>intro hc<;>try exact jz)|refine cm (ja q _ (bC hq)) ?_|refine cm (xO (q.ap (⟨#[41]⟩:U0)) _ _ _ _ L (bC h4)) ?_|refine aq ?_|exact jI|(clear hK K)))
  (refine cd [.tmp 2] ?_ ?_<;>(try simp only[go_sem]))
  ·unfold nn;rw[<-e1,<-e2]
  ·unfold nn;rw[<-e1,<-e2]
 |true=>
  have s1:=kv hq;have hx:=s1.inv hq;have WU:=s1.rem;have hxi:=hx.lt;have hxp:=hx.pos;have Yv:=hx.len;have V9:=V9 rfl;rw[nQ]at hA;refine S ?_
  (repeat' (first|refine ar fun K hK=>?_|refine av ?_|(refine hK _ _ ?_;clear hK K)|(refine au ?_ ?_<;>intro hc<;>try exact jz)|refine cm (qR hq) ?_|refine cm (gA (dq q).1 _ (bC hx)) ?_|refine aq ?_|exact jI|(clear hK K)))
  ·rw[if_pos hc]at hA;have hk:=Rd.bc hc;have Xu:=Rd.dr hx hk;refine Vb _ _ (dT (n,true,(dq q).1.inc,L++[(dq q).2]) ⟨(Rd.bt hx hk.2).1.inv hx,fun _=>jJ,jJ,by(try simp only[List.length_append,List.length_cons,List.length_nil]);omega,hA⟩ jJ (by simp only[go_sem,cH,iC,List.map_append,List.map_cons,List.map_nil,List.cons_append,List.nil_append];(try rfl)) (by simp only[go_sem,lr,Nat.reduceAdd,AV.raw.injEq,Value.int.injEq,Value.slice.injEq,Value.pointer.injEq,AV.rs.injEq,hc,List.length_append,List.length_cons,List.length_nil];try omega))
  ·rw[if_neg (by rw[hc];decide)]at hA;refine Vb _ _ (dT (n,false,(dq q).1,L++[(dq q).2]) ⟨hx,(by intro h;cases h),jJ,by(try simp only[List.length_append,List.length_cons,List.length_nil]);omega,?_⟩ jJ (by simp only[go_sem,cH,iC,List.map_append,List.map_cons,List.map_nil,List.cons_append,List.nil_append];(try rfl)) (by simp only[go_sem,lr,Nat.reduceAdd,AV.raw.injEq,Value.int.injEq,Value.slice.injEq,Value.pointer.injEq,AV.rs.injEq,hc,List.length_append,List.length_cons,List.length_nil];try omega));rw[<-hA];obtain⟨n,rfl⟩:∃k,n=k+1:=⟨n-1,jB⟩;rw[nQ]
def ya(h:r.Inv):af prog 254 [pR] (cH r) (fun v l=>v=rB r.calls/\l=cH r):=Oi r (bC h) (fun hk=>Rd.behind h (Rd.dR hk jC).2)
def Kb(h:r.Inv):af prog 231 [pR] (cH r) (fun v l=>v=rI (lN r).2/\l=cH (lN r).1):=by
 have hri:=h.lt;have hrp:=h.pos;have WV:=h.len;have Xj:r.tok.kind≠0->r.inc.Inv:=fun hk=>(Rd.bt h hk).1.inv h
 by_cases hx:r.is (⟨#[105,110,112,117,116]⟩:U0)=true
 ·have hi:=Xj (Rd.bc hx).2;rw[lN,if_pos hx];refine aQ func231 ntmps231 ?_;refine S ?_
  (have W:=hx;repeat' (first|refine ar fun K hK=>?_|refine av ?_|(refine hK _ _ ?_;clear hK K)|(refine au ?_ ?_<;>intro hc<;>try exact jz)|refine cm (ix r (bC h)) ?_|refine cm (gA r _ (bC h)) ?_|refine cm (lj r.inc _ _ _ _ [] _ gS.nil (bC hi)) ?_|refine aq ?_|exact jI|(clear hK K)))
  (refine cd [.tmp 2] ?_ ?_<;>(try simp only[go_sem]))
 rw[lN,if_neg hx];have Vx:r.is (⟨#[105,110,112,117,116]⟩:U0)=false:=by simpa using hx
 by_cases hy:r.is (⟨#[110,101,119]⟩:U0)=true
 ·have hi:=Xj (Rd.bc hy).2;have h1:=(Rd.aO hi (⟨#[40]⟩:U0)).inv hi;have h2:=(kv h1).inv h1;have h3:=(Rd.aO h2 (⟨#[41]⟩:U0)).inv h2;rw[if_pos hy];refine aQ func231 ntmps231 ?_;refine S ?_
  (have W:=jA Vx hy;repeat' (first|refine ar fun K hK=>?_|refine av ?_|(refine hK _ _ ?_;clear hK K)|(refine au ?_ ?_<;>intro hc<;>try exact jz)|refine cm (ix r (bC h)) ?_|refine cm (gA r _ (bC h)) ?_|refine cm (ja r.inc _ (bC hi)) ?_|refine cm (qR h1) ?_|refine cm (ja (dq (r.inc.ap (⟨#[40]⟩:U0))).1 _ (bC h2)) ?_|refine cm (lj ((dq (r.inc.ap (⟨#[40]⟩:U0))).1.ap (⟨#[41]⟩:U0)) _ _ _ _ [(dq (r.inc.ap (⟨#[40]⟩:U0))).2] _ gS.sl (bC h3)) ?_|refine aq ?_|exact jI|(clear hK K)))
  (refine cd [.tmp 2] ?_ ?_<;>(try simp only[go_sem]))
 rw[if_neg hy];have YQ:r.is (⟨#[110,101,119]⟩:U0)=false:=by simpa using hy
 by_cases Vf:r.calls=true
 ·rw[if_pos Vf];refine aQ func231 ntmps231 ?_;refine S ?_
  (have W:=jA Vx (jA YQ (Vf));repeat' (first|refine ar fun K hK=>?_|refine av ?_|(refine hK _ _ ?_;clear hK K)|(refine au ?_ ?_<;>intro hc<;>try exact jz)|refine cm (ix r (bC h)) ?_|refine cm (gA r _ (bC h)) ?_|refine cm (ya h) ?_|refine cm (EF h) ?_|refine aq ?_|exact jI|(clear hK K)))
  (refine cd [.tmp 2] ?_ ?_<;>(try simp only[go_sem]))
 ·rw[if_neg Vf];have Wk:r.calls=false:=by simpa using Vf
  refine aQ func231 ntmps231 ?_;refine S ?_
  (have W:=jA Vx (jA YQ (Wk));repeat' (first|refine ar fun K hK=>?_|refine av ?_|(refine hK _ _ ?_;clear hK K)|(refine au ?_ ?_<;>intro hc<;>try exact jz)|refine cm (ix r (bC h)) ?_|refine cm (gA r _ (bC h)) ?_|refine cm (ya h) ?_|refine cm (qR h) ?_|refine aq ?_|exact jI|(clear hK K)))
  (refine cd [.tmp 2] ?_ ?_<;>(try simp only[go_sem]))
def PQ(h:r.Inv)(he:r.e=0)(ln:Int):af prog 233 [pR,rI ln] (cH r) (fun v l=>v=rI (pO r ln).2/\l=cH (pO r ln).1):=by
 have hri:=h.lt;have hrp:=h.pos;have WV:=h.len;by_cases Vf:r.calls=true
 ·have h1:=(B8 h Vf).1.inv h;have h2:=(Rd.aO h1 (⟨#[59]⟩:U0)).inv h1;rw[pO,if_pos Vf];refine aQ func233 ntmps233 ?_;refine S ?_
  (have W:=Vf;repeat' (first|refine ar fun K hK=>?_|refine av ?_|(refine hK _ _ ?_;clear hK K)|(refine au ?_ ?_<;>intro hc<;>try exact jz)|refine cm (ya h) ?_|refine cm (EF h) ?_|refine cm (ja (nn r).1 _ (bC h1)) ?_|refine cm (lj ((nn r).1.ap (⟨#[59]⟩:U0)) _ _ _ _ [(nn r).2] _ gS.sl (bC h2)) ?_|refine aq ?_|exact jI|(clear hK K)))
  (refine cd [.tmp 4] ?_ ?_<;>(try simp only[go_sem]))
 rw[pO,if_neg Vf];have Wk:r.calls=false:=by simpa using Vf
 have h0:=(Rd.dz h).inv h;by_cases hx:r.name.1.is (⟨#[91]⟩:U0)=true
 ·rw[if_pos hx];have d0:=(Rd.bK h0 (Rd.bc hx).1).1;have d1:=(Rd.aO d0 (⟨#[91]⟩:U0)).inv d0;have d2:=(kv d1).inv d1;have d3:=(Rd.aO d2 (⟨#[93]⟩:U0)).inv d2;have d4:=(DX h0 hx).2.inv h0;have d5:=(yG h0 hx).1.inv h0;have d6:=(yG h0 hx).2.inv h0;have d7:=(Rd.aO d6 (⟨#[59]⟩:U0)).inv d6;have d3l:=d3.px;have d3h:=d3.qm;unfold vf pC at*;refine aQ func233 ntmps233 ?_;refine S ?_
  (have W:=jA Wk hx;repeat' (first|refine ar fun K hK=>?_|refine av ?_|(refine hK _ _ ?_;clear hK K)|(refine au ?_ ?_<;>intro hc<;>try exact jz)|refine cm (ya h) ?_|refine cm (vK r (bC h)) ?_|refine cm (gA r.name.1 _ (bC h0)) ?_|refine cm (uF r.name.1 (bC h0)) ?_|refine cm (ja r.name.1.down _ (bC d0)) ?_|refine cm (qR d1) ?_|refine cm (ja (dq (r.name.1.down.ap (⟨#[91]⟩:U0))).1 _ (bC d2)) ?_|refine cm (ja ((dq (r.name.1.down.ap (⟨#[91]⟩:U0))).1.ap (⟨#[93]⟩:U0)).up _ (bC d4)) ?_|refine cm (qR d5) ?_|refine cm (ja (dq (((dq (r.name.1.down.ap (⟨#[91]⟩:U0))).1.ap (⟨#[93]⟩:U0)).up.ap (⟨#[61]⟩:U0))).1 _ (bC d6)) ?_|refine cm (lj ((dq (((dq (r.name.1.down.ap (⟨#[91]⟩:U0))).1.ap (⟨#[93]⟩:U0)).up.ap (⟨#[61]⟩:U0))).1.ap (⟨#[59]⟩:U0)) _ _ _ _ [(dq (r.name.1.down.ap (⟨#[91]⟩:U0))).2,(dq (((dq (r.name.1.down.ap (⟨#[91]⟩:U0))).1.ap (⟨#[93]⟩:U0)).up.ap (⟨#[61]⟩:U0))).2] _ gS.sl (bC d7)) ?_|refine aq ?_|exact jI|(clear hK K)))
  (refine cd [.tmp 4] ?_ ?_<;>(try simp only[go_sem]))
 ·rw[if_neg hx];have Vx:r.name.1.is (⟨#[91]⟩:U0)=false:=by simpa using hx
  have d1:=(Rd.aO h0 (⟨#[61]⟩:U0)).inv h0;have d2:=(AE d1).inv d1;have d3:=(Rd.aO d2 (⟨#[59]⟩:U0)).inv d2;refine aQ func233 ntmps233 ?_;refine S ?_
  (have W:=jA Wk (Vx);repeat' (first|refine ar fun K hK=>?_|refine av ?_|(refine hK _ _ ?_;clear hK K)|(refine au ?_ ?_<;>intro hc<;>try exact jz)|refine cm (ya h) ?_|refine cm (vK r (bC h)) ?_|refine cm (gA r.name.1 _ (bC h0)) ?_|refine cm (ja r.name.1 _ (bC h0)) ?_|refine cm (Kb d1) ?_|refine cm (ja (lN (r.name.1.ap (⟨#[61]⟩:U0))).1 _ (bC d2)) ?_|refine cm (lj ((lN (r.name.1.ap (⟨#[61]⟩:U0))).1.ap (⟨#[59]⟩:U0)) _ _ _ _ [(lN (r.name.1.ap (⟨#[61]⟩:U0))).2] _ gS.sl (bC d3)) ?_|refine aq ?_|exact jI|(clear hK K)))
  (refine cd [.tmp 4] ?_ ?_<;>(try simp only[go_sem]))
def S8(w:U0):aD prog 193 [rS w] (rI (tA w)):=by
 refine cB func193 ntmps193 ?_
 (repeat' (first|refine ar fun K hK=>?_|refine av ?_|(refine hK _ _ ?_;clear hK K)|(refine au ?_ ?_<;>intro hc<;>try exact jz)|refine aq ?_|exact jI|(clear hK K)))
 all_goals(refine cd [.tmp 2] ?_ ?_<;>(try simp only[go_sem]))
 all_goals unfold tA
 all_goals repeat' split
 all_goals first|rfl|(exfalso;simp_all;done)
def Fu(h:r.Inv):af prog 148 [pR] (cH r) (fun v l=>v=rI (jc r).2/\l=cH (jc r).1):=by
 have hri:=h.lt;have hrp:=h.pos;have WV:=h.len;refine aQ func148 ntmps148 ?_;refine S ?_
 (repeat' (first|refine ar fun K hK=>?_|refine av ?_|(refine hK _ _ ?_;clear hK K)|(refine au ?_ ?_<;>intro hc<;>try exact jz)|refine cm (ru r (bC h)) ?_|refine cp (S8 r.word) ?_|refine cm (ue r _ (bC h)) ?_|refine aq ?_|exact jI|(clear hK K)))
 ·(refine cd [.tmp 2] ?_ ?_<;>(try simp only[go_sem]))
  ·simp only[jc,if_pos hc]
  ·simp only[jc,if_pos hc,go_sem]
 ·(refine cd [.tmp 2] ?_ ?_<;>(try simp only[go_sem]))
  ·simp only[jc,if_neg hc]
  ·simp only[jc,if_neg hc];rfl
def Dv(n:Nat):Prop:=∀r:Rd,r.Inv->4*r.rem+1<=n->af prog 149 [pR] (cH r) (fun v l=>v=rI (gm n r).2/\l=cH (gm n r).1)
def DU(n:Nat):Prop:=∀r:Rd,r.Inv->r.e=0->4*r.rem+2<=n->af prog 195 [pR] (cH r) (fun v l=>v=rI (oq n r).2/\l=cH (oq n r).1)
def SV(n:Nat)(hs:∀m,m<=n->DU m):Dv (n+1):=by
 intro r h hn;by_cases hx:r.is (⟨#[123]⟩:U0)=true
 ·have he:=(Rd.bc hx).1;have hd:=(Rd.bK h he).1;have s1:=Rd.aO hd (⟨#[123]⟩:U0);have h1:=s1.inv hd;have s2:=(tx n).2.1 _ [] h1;have h2:=s2.inv h1;have s3:=Rd.aO h2 (⟨#[125]⟩:U0);have h3:=s3.inv h2;have h4:=(Rd.fD h he ((s1.trans s2).trans s3)).inv h;have h3l:=h3.px;have h3h:=h3.qm;have hr:=(Rd.gW h hx).1;have hr0:r.rem<=2000:=by
   have:=h.pos;have:=h.len;unfold Rd.rem;split<;>omega
  rw[gm,if_pos hx];refine aQ func149 ntmps149 ?_;refine S ?_
  (have W:=hx;repeat' (first|refine ar fun K hK=>?_|refine av ?_|(refine hK _ _ ?_;clear hK K)|(refine au ?_ ?_<;>intro hc<;>try exact jz)|refine cm (ix r (bC h)) ?_|refine cm (gA r _ (bC h)) ?_|refine cm (uF r (bC h)) ?_|refine cm (ja r.down _ (bC hd)) ?_|refine aq ?_|exact jI|(clear hK K)))
  have Vc:=hK;clear hK;refine iW (dI.nil 2 5 3 (sz:=1) rfl jC (Or.inr ⟨_,_,_,rfl,rfl⟩)) ?_
  (refine S ?_;try exact jI)
  refine dJ (S:=Nat×Rd×UY) [(5,3),(21,14)] (fun s=>s.2.1.Inv/\4*s.2.1.rem+3<=s.1/\s.1<=n/\s.2.2.length+s.2.1.rem<=2000/\ng s.1 s.2.1 s.2.2=ng n (r.down.ap (⟨#[123]⟩:U0)) []) (fun s=>[(5,.rs 2 s.2.2.length 1 s.2.2.length)]) (fun s=>⟨[0,1],cH s.2.1++[(2,.aJ 3 1 (s.2.2.map eI))]⟩) (fun s=>s.1) (n,r.down.ap (⟨#[123]⟩:U0),[]) ⟨h1,jJ,Nat.le_refl _,by(try simp only[List.length_nil]);omega,rfl⟩ (dK rfl bU) ?_;rintro⟨m,q,L⟩ ⟨hq,XA,WX,Wm,hA⟩ Kr Vb;simp only at hq XA WX Wm hA;have hqi:=hq.lt;have hqp:=hq.pos;have Zt:=hq.len;obtain⟨m,rfl⟩:∃k,m=k+1:=⟨m-1,jB⟩;rw[ng]at hA;by_cases VM:q.e=0/\q.is (⟨#[125]⟩:U0)=false
  ·rw[if_pos VM]at hA;obtain⟨XB,X2⟩:=VM;obtain⟨t1,t2⟩:=(tx m).2.2 q hq XB jB;have hj:=t1.inv hq;refine S ?_
   (have W:=jA XB X2;repeat' (first|refine ar fun K hK=>?_|refine av ?_|(refine hK _ _ ?_;clear hK K)|(refine au ?_ ?_<;>intro hc<;>try exact jz)|refine cm (gA q _ (bC hq)) ?_|refine cm (hs m jB q hq XB jB) ?_|refine aq ?_|exact jI|(clear hK K)))
   refine Vb _ _ (dT (m,(oq m q).1,L++[(oq m q).2]) ⟨hj,jJ,jJ,by(try simp only[List.length_append,List.length_cons,List.length_nil]);omega,hA⟩ jJ (by simp only[go_sem,cH,iC,List.map_append,List.map_cons,List.map_nil,List.cons_append,List.nil_append];(try rfl)) bU)
  ·rw[if_neg VM]at hA;have e1:q=(ng n (r.down.ap (⟨#[123]⟩:U0)) []).1:=by rw[<-hA]
   have e2:L=(ng n (r.down.ap (⟨#[123]⟩:U0)) []).2:=by rw[<-hA]
   rw[<-e1]at h3 h4 h3l h3h;refine S ?_
   (repeat' (first|refine ar fun K hK=>?_|refine av ?_|(refine hK _ _ ?_;clear hK K)|(refine au ?_ ?_<;>intro hc<;>try exact jz)|refine cm (gA q _ (bC hq)) ?_|refine aq ?_|exact jI|(clear hK K)))
   all_goals first|(exact absurd ⟨by assumption,by assumption⟩ VM)|skip
   all_goals refine Vc _ _ ?_
   all_goals refine KQ [2] 5 (aM eI 1 L) Sd Sd iQ ?_
   all_goals(
    refine S ?_
    (repeat' (first|refine ar fun K hK=>?_|refine av ?_|(refine hK _ _ ?_;clear hK K)|(refine au ?_ ?_<;>intro hc<;>try exact jz)|refine cm (ja q _ (bC hq)) ?_|refine cm (xO (q.ap (⟨#[125]⟩:U0)).up _ _ _ _ L (bC h4)) ?_|refine aq ?_|exact jI|(clear hK K)))
    (refine cd [.tmp 2] ?_ ?_<;>(try simp only[go_sem]))
    all_goals simp only[<-e1,<-e2])
 ·rw[gm,if_neg hx];have Vx:r.is (⟨#[123]⟩:U0)=false:=by simpa using hx
  refine aQ func149 ntmps149 ?_;refine S ?_
  (have W:=Vx;repeat' (first|refine ar fun K hK=>?_|refine av ?_|(refine hK _ _ ?_;clear hK K)|(refine au ?_ ?_<;>intro hc<;>try exact jz)|refine cm (ix r (bC h)) ?_|refine cm (gA r _ (bC h)) ?_|refine cm (ue r _ (bC h)) ?_|refine aq ?_|exact jI|(clear hK K)))
  (refine cd [.tmp 2] ?_ ?_<;>(try simp only[go_sem]))
def Ps(n:Nat)(hb:Dv n):DU (n+1):=by
 intro r h he hn;have hri:=h.lt;have hrp:=h.pos;have WV:=h.len;have word:∀w:U0,w≠⟨#[]⟩->r.word=w->r.inc.Inv/\r.inc.rem+1<=r.rem:=fun w h0 hw=>by have hk:=Rd.dR (Rd.gV hw h0) jC;exact⟨(Rd.bt h hk.2).1.inv h,Rd.dr h hk⟩
 rw[oq];by_cases w1:r.word=(⟨#[108,101,116]⟩:U0)
 ·rw[if_pos w1];have w1':=eq_true w1;obtain⟨hi,hr⟩:=word _ jC w1;have h1:=(Rd.dz hi).inv hi;have h2:=(Rd.aO h1 (⟨#[61]⟩:U0)).inv h1;have h3:=(AE h2).inv h2;have h4:=(Rd.aO h3 (⟨#[59]⟩:U0)).inv h3;refine aQ func195 ntmps195 ?_;refine S ?_
  (have W:=w1';repeat' (first|refine ar fun K hK=>?_|refine av ?_|(refine hK _ _ ?_;clear hK K)|(refine au ?_ ?_<;>intro hc<;>try exact jz)|refine cm (ix r (bC h)) ?_|refine cm (ru r (bC h)) ?_|refine cm (vK r.inc (bC hi)) ?_|refine cm (ja r.inc.name.1 _ (bC h1)) ?_|refine cm (Kb h2) ?_|refine cm (ja (lN (r.inc.name.1.ap (⟨#[61]⟩:U0))).1 _ (bC h3)) ?_|refine cm (lj ((lN (r.inc.name.1.ap (⟨#[61]⟩:U0))).1.ap (⟨#[59]⟩:U0)) _ _ _ _ [(lN (r.inc.name.1.ap (⟨#[61]⟩:U0))).2] _ gS.sl (bC h4)) ?_|refine aq ?_|exact jI|(clear hK K)))
  (refine cd [.tmp 2] ?_ ?_<;>(try simp only[go_sem]))
 rw[if_neg w1];by_cases w2:r.word=(⟨#[112,114,105,110,116]⟩:U0)
 ·rw[if_pos w2];have w2':=eq_true w2;obtain⟨hi,hr⟩:=word _ jC w2;have h1:=(kv hi).inv hi;have h2:=(Rd.aO h1 (⟨#[59]⟩:U0)).inv h1;refine aQ func195 ntmps195 ?_;refine S ?_
  (have W:=jA w1 (w2');repeat' (first|refine ar fun K hK=>?_|refine av ?_|(refine hK _ _ ?_;clear hK K)|(refine au ?_ ?_<;>intro hc<;>try exact jz)|refine cm (ix r (bC h)) ?_|refine cm (ru r (bC h)) ?_|refine cm (qR hi) ?_|refine cm (ja (dq r.inc).1 _ (bC h1)) ?_|refine cm (lj ((dq r.inc).1.ap (⟨#[59]⟩:U0)) _ _ _ _ [(dq r.inc).2] _ gS.sl (bC h2)) ?_|refine aq ?_|exact jI|(clear hK K)))
  (refine cd [.tmp 2] ?_ ?_<;>(try simp only[go_sem]))
 rw[if_neg w2];by_cases w3:r.word=(⟨#[119,104,105,108,101]⟩:U0)
 ·rw[if_pos w3];have w3':=eq_true w3;obtain⟨hi,hr⟩:=word _ jC w3;have h1:=(kv hi).inv hi;have WU:=(kv hi).rem;have h2:=((tx n).1 _ h1).inv h1;refine aQ func195 ntmps195 ?_;refine S ?_
  (have W:=jA w1 (jA w2 (w3'));repeat' (first|refine ar fun K hK=>?_|refine av ?_|(refine hK _ _ ?_;clear hK K)|(refine au ?_ ?_<;>intro hc<;>try exact jz)|refine cm (ix r (bC h)) ?_|refine cm (ru r (bC h)) ?_|refine cm (qR hi) ?_|refine cm (hb _ h1 jB) ?_|refine cm (lj (gm n (dq r.inc).1).1 _ _ _ _ [(dq r.inc).2,(gm n (dq r.inc).1).2] _ gS.sl (bC h2)) ?_|refine aq ?_|exact jI|(clear hK K)))
  (refine cd [.tmp 2] ?_ ?_<;>(try simp only[go_sem]))
 rw[if_neg w3];by_cases w4:r.word=(⟨#[105,102]⟩:U0)
 ·rw[if_pos w4];have w4':=eq_true w4;obtain⟨hi,hr⟩:=word _ jC w4;have h1:=(kv hi).inv hi;have WU:=(kv hi).rem;have s2:=(tx n).1 _ h1;have h2:=s2.inv h1;have Xu:=s2.rem;have h2i:=h2.lt;have h2p:=h2.pos;have h2l:=h2.len;by_cases hx:(gm n (dq r.inc).1).1.is (⟨#[101,108,115,101]⟩:U0)=true
  ·rw[if_pos hx];have hk:=Rd.bc hx;have h3:=(Rd.bt h2 hk.2).1.inv h2;have hr3:=Rd.dr h2 hk;have h4:=((tx n).1 _ h3).inv h3;refine aQ func195 ntmps195 ?_;refine S ?_
   (have W:=jA w1 (jA w2 (jA w3 (jA w4' (hx))));repeat' (first|refine IG (id:=31) [2] [(13,135)] [(12,aM eI 1 [(dq r.inc).2,(gm n (dq r.inc).1).2,(gm n (gm n (dq r.inc).1).1.inc).2])] ?_|refine ar fun K hK=>?_|refine av ?_|(refine hK _ _ ?_;clear hK K)|(refine au ?_ ?_<;>intro hc<;>try exact jz)|refine cm (ix r (bC h)) ?_|refine cm (ru r (bC h)) ?_|refine cm (qR hi) ?_|refine cm (hb _ h1 jB) ?_|refine cm (gA (gm n (dq r.inc).1).1 _ (bC h2)) ?_|refine cm (hb _ h3 jB) ?_|refine cm (xO (gm n (gm n (dq r.inc).1).1.inc).1 _ _ _ _ [(dq r.inc).2,(gm n (dq r.inc).1).2,(gm n (gm n (dq r.inc).1).1.inc).2] (bC h4)) ?_|refine aq ?_|exact jI|(clear hK K)))
   (refine cd [.tmp 2] ?_ ?_<;>(try simp only[go_sem]))
  ·rw[if_neg hx];have Vx:(gm n (dq r.inc).1).1.is (⟨#[101,108,115,101]⟩:U0)=false:=by simpa using hx
   refine aQ func195 ntmps195 ?_;refine S ?_
   (have W:=jA w1 (jA w2 (jA w3 (jA w4' (Vx))));repeat' (first|refine ar fun K hK=>?_|refine av ?_|(refine hK _ _ ?_;clear hK K)|(refine au ?_ ?_<;>intro hc<;>try exact jz)|refine cm (ix r (bC h)) ?_|refine cm (ru r (bC h)) ?_|refine cm (qR hi) ?_|refine cm (hb _ h1 jB) ?_|refine cm (gA (gm n (dq r.inc).1).1 _ (bC h2)) ?_|refine cm (lj (gm n (dq r.inc).1).1 _ _ _ _ [(dq r.inc).2,(gm n (dq r.inc).1).2] _ gS.sl (bC h2)) ?_|refine aq ?_|exact jI|(clear hK K)))
   (refine cd [.tmp 2] ?_ ?_<;>(try simp only[go_sem]))
 rw[if_neg w4];by_cases w5:r.word=(⟨#[114,101,116,117,114,110]⟩:U0)
 ·rw[if_pos w5];have w5':=eq_true w5;obtain⟨hi,hr⟩:=word _ jC w5;by_cases hx:r.inc.is (⟨#[59]⟩:U0)=true
  ·rw[if_pos hx];have h1:=(Rd.aO hi (⟨#[59]⟩:U0)).inv hi;refine aQ func195 ntmps195 ?_;refine S ?_
   (have W:=jA w1 (jA w2 (jA w3 (jA w4 (jA w5' (hx)))));repeat' (first|refine ar fun K hK=>?_|refine av ?_|(refine hK _ _ ?_;clear hK K)|(refine au ?_ ?_<;>intro hc<;>try exact jz)|refine cm (ix r (bC h)) ?_|refine cm (ru r (bC h)) ?_|refine cm (gA r.inc _ (bC hi)) ?_|refine cm (ja r.inc _ (bC hi)) ?_|refine cm (lj (r.inc.ap (⟨#[59]⟩:U0)) _ _ _ _ [] _ gS.sl (bC h1)) ?_|refine aq ?_|exact jI|(clear hK K)))
   (refine cd [.tmp 2] ?_ ?_<;>(try simp only[go_sem]))
  ·rw[if_neg hx];have Vx:r.inc.is (⟨#[59]⟩:U0)=false:=by simpa using hx
   have h1:=(kv hi).inv hi;have h2:=(Rd.aO h1 (⟨#[59]⟩:U0)).inv h1;refine aQ func195 ntmps195 ?_;refine S ?_
   (have W:=jA w1 (jA w2 (jA w3 (jA w4 (jA w5' (Vx)))));repeat' (first|refine IG (id:=40) [2] [(16,132)] [(15,aM eI 1 [(dq r.inc).2])] ?_|refine ar fun K hK=>?_|refine av ?_|(refine hK _ _ ?_;clear hK K)|(refine au ?_ ?_<;>intro hc<;>try exact jz)|refine cm (ix r (bC h)) ?_|refine cm (ru r (bC h)) ?_|refine cm (gA r.inc _ (bC hi)) ?_|refine cm (qR hi) ?_|refine cm (ja (dq r.inc).1 _ (bC h1)) ?_|refine cm (xO ((dq r.inc).1.ap (⟨#[59]⟩:U0)) _ _ _ _ [(dq r.inc).2] (bC h2)) ?_|refine aq ?_|exact jI|(clear hK K)))
   (refine cd [.tmp 2] ?_ ?_<;>(try simp only[go_sem]))
 rw[if_neg w5];refine aQ func195 ntmps195 ?_;refine S ?_
 (have W:=jA w1 (jA w2 (jA w3 (jA w4 (w5))));repeat' (first|refine ar fun K hK=>?_|refine av ?_|(refine hK _ _ ?_;clear hK K)|(refine au ?_ ?_<;>intro hc<;>try exact jz)|refine cm (ix r (bC h)) ?_|refine cm (ru r (bC h)) ?_|refine cm (PQ h he r.ci) ?_|refine aq ?_|exact jI|(clear hK K)))
 (refine cd [.tmp 2] ?_ ?_<;>(try simp only[go_sem]))
theorem H6:∀m n,n<=m->Dv n/\DU n
 |0,0,_=>⟨fun r h hn=>by omega,fun r h he hn=>by omega⟩
 |m+1,0,_=>⟨fun r h hn=>jB,fun r h he hn=>jB⟩
 |m+1,n+1,hm=>by
  have ih:=fun k (hk:k<=n)=>H6 m k jB
  exact⟨SV n fun k hk=>(ih k hk).2,Ps n (ih n jl).1⟩
def Hl(h:r.Inv):af prog 149 [pR] (cH r) (fun v l=>v=rI (oO r).2/\l=cH (oO r).1):=(H6 _ _ jl).1 r h jB
def Lx(h:r.Inv):af prog 103 [pR] (cH r) (fun v l=>v=.agg (gg (mW r).2)/\l=cH (mW r).1):=by
 have h1:=(qH h).1.inv h;have h2:=(qH h).2.1.inv h;have h3:=(qH h).2.2.1.inv h;have h4:=(Bh h).inv h1;have h5:=(yT h).inv h1;have h6:=(Af h).inv h1;have h7:=(Ct h6).inv h6;have hr0:(nK r).rem<=2000:=by have:=h3.pos;have:=h3.len;unfold Rd.rem;split<;>omega
 have hm:af prog 145 [pR,rS (⟨#[40]⟩:U0)] (cH (r.ap (⟨#[102,110]⟩:U0)).name.1) (fun v l=>v=.ba []/\l=cH (nK r)):=ja (r.ap (⟨#[102,110]⟩:U0)).name.1 _ (bC h2);refine aQ func103 ntmps103 ?_;refine S ?_
 (repeat' (first|refine ar fun K hK=>?_|refine av ?_|(refine hK _ _ ?_;clear hK K)|(refine au ?_ ?_<;>intro hc<;>try exact jz)|refine cm (ix r (bC h)) ?_|refine cm (hm) ?_|refine cm (ja r _ (bC h)) ?_|refine cm (vK (r.ap (⟨#[102,110]⟩:U0)) (bC h1)) ?_|refine cm (gA (nK r) _ (bC h3)) ?_|refine aq ?_|exact jI|(clear hK K)))
 have Vc:=hK;clear hK;refine iW (dI.fS 4 3 2 254 2 rfl jC rfl rfl) ?_
 (refine S ?_;try exact jI)
 refine dJ (S:=Nat×Bool×Rd×List bI) [(5,3),(30,23)] (fun s=>s.2.2.1.Inv/\(s.2.1=true->s.2.2.1.rem+2<=s.1)/\1<=s.1/\s.2.2.2.length+s.1<=5000/\mU s.1 s.2.1 s.2.2.1 s.2.2.2=tp r) (fun s=>[(5,rB s.2.1)]) (fun s=>⟨[0,1],cH s.2.2.1++[(2,.var 181 [rS ⟨#[]⟩,rI 0,.raw (.slice none 0 0),rI 0,rI 0]),(3,.var 181 [rS (r.ap (⟨#[102,110]⟩:U0)).name.2,rI r.ci,.rs 4 s.2.2.2.length 2 s.2.2.2.length,rI 0,rI 0]),(4,.aJ 254 2 (s.2.2.2.map nb))]⟩) (fun s=>s.1) ((nK r).rem+2,more (nK r),nK r,[]) ⟨h3,fun _=>Nat.le_refl _,jJ,by(try simp only[List.length_nil]);omega,rfl⟩ (dK rfl (by simp only[go_sem,lr,Nat.reduceAdd,AV.raw.injEq,Value.int.injEq,Value.slice.injEq,Value.pointer.injEq,AV.rs.injEq,more,List.length_nil];try omega)) ?_;rintro⟨n,b,q,L⟩ ⟨hq,V9,Xb,X5,hA⟩ Kr Vb;simp only at hq V9 Xb X5 hA;have hqi:=hq.lt;have hqp:=hq.pos;have Zt:=hq.len;obtain⟨n,rfl⟩:∃k,n=k+1:=⟨n-1,jB⟩;cases b with
 |false=>
  rw[mU]at hA;have e1:q=(tp r).1:=by rw[<-hA]
  have e2:L=(tp r).2:=by rw[<-hA]
  have hmm:af prog 145 [pR,rS (⟨#[41]⟩:U0)] (cH q) (fun v l=>v=.ba []/\l=cH (lK r)):=by rw[e1];exact ja (tp r).1 _ (bC h4)
  by_cases hx:(lK r).is (⟨#[123]⟩:U0)=true
  ·have ed:mN r=(lK r,0):=by unfold mN;rw[if_pos hx]
   have ef:mW r=((oO (lK r)).1,⟨(r.ap (⟨#[102,110]⟩:U0)).name.2,r.ci,L,0,(oO (lK r)).2⟩):=by unfold mW;rw[ed,<-e2]
   rw[ef]at Vc;refine S ?_
   (have W:=hx;repeat' (first|refine ar fun K hK=>?_|refine av ?_|(refine hK _ _ ?_;clear hK K)|(refine au ?_ ?_<;>intro hc<;>try exact jz)|refine Vc _ _ ?_|refine cm (hmm) ?_|refine cm (gA (lK r) _ (bC h5)) ?_|refine cm (Hl h5) ?_|refine aq ?_|exact jI|(clear hK K)))
   refine fy [.cell 2 181] ?_;refine bD.agg (ds:=[rS _,rI _,aM nb 2 L,rI _,rI _]) ?_;exact jA (.same _ rfl) (jA (.same _ rfl) (jA (db.row (enc:=nb) L rfl rfl jE) (jA (.same _ rfl) (jA (.same _ rfl) trivial))))
  ·have Vx:(lK r).is (⟨#[123]⟩:U0)=false:=by simpa using hx
   have ed:mN r=jc (lK r):=by unfold mN;rw[if_neg hx]
   rw[ed]at h6;have ef:mW r=((oO (jc (lK r)).1).1,⟨(r.ap (⟨#[102,110]⟩:U0)).name.2,r.ci,L,(jc (lK r)).2,(oO (jc (lK r)).1).2⟩):=by unfold mW;rw[ed,<-e2]
   rw[ef]at Vc;refine S ?_
   (have W:=Vx;repeat' (first|refine ar fun K hK=>?_|refine av ?_|(refine hK _ _ ?_;clear hK K)|(refine au ?_ ?_<;>intro hc<;>try exact jz)|refine Vc _ _ ?_|refine cm (hmm) ?_|refine cm (gA (lK r) _ (bC h5)) ?_|refine cm (Fu h5) ?_|refine cm (Hl h6) ?_|refine aq ?_|exact jI|(clear hK K)))
   refine fy [.cell 2 181] ?_;refine bD.agg (ds:=[rS _,rI _,aM nb 2 L,rI _,rI _]) ?_;exact jA (.same _ rfl) (jA (.same _ rfl) (jA (db.row (enc:=nb) L rfl rfl jE) (jA (.same _ rfl) (jA (.same _ rfl) trivial))))
 |true=>
  have s1:=Ho hq;have hx:=s1.inv hq;have WU:=s1.rem;have hxi:=hx.lt;have hxp:=hx.pos;have Yv:=hx.len;have V9:=V9 rfl;have X6:=(Rd.dz hq).inv hq;have XK:af prog 148 [pR] (cH q.name.1) (fun v l=>v=rI (jc q.name.1).2/\l=cH (p9 q)):=Fu X6;rw[mU]at hA;refine S ?_
  (repeat' (first|refine ar fun K hK=>?_|refine av ?_|(refine hK _ _ ?_;clear hK K)|(refine au ?_ ?_<;>intro hc<;>try exact jz)|refine cm (vK q (bC hq)) ?_|refine cm (XK) ?_|refine cm (gA (p9 q) _ (bC hx)) ?_|refine aq ?_|exact jI|(clear hK K)))
  ·rw[if_pos hc]at hA;have hk:=Rd.bc hc;have Xu:=Rd.dr hx hk;refine Vb _ _ (dT (n,true,(p9 q).inc,L++[⟨q.name.2,(jc q.name.1).2⟩]) ⟨(Rd.bt hx hk.2).1.inv hx,fun _=>jJ,jJ,by(try simp only[List.length_append,List.length_cons,List.length_nil]);omega,hA⟩ jJ (by simp only[go_sem,cH,iC,List.map_append,List.map_cons,List.map_nil,List.cons_append,List.nil_append,List.length_append,List.length_cons,List.length_nil,Nat.reduceAdd];(try rfl)) (by simp only[go_sem,lr,Nat.reduceAdd,AV.raw.injEq,Value.int.injEq,Value.slice.injEq,Value.pointer.injEq,AV.rs.injEq,hc,List.length_append,List.length_cons,List.length_nil];try omega))
  ·rw[if_neg (by rw[hc];decide)]at hA;refine Vb _ _ (dT (n,false,p9 q,L++[⟨q.name.2,(jc q.name.1).2⟩]) ⟨hx,(by intro h;cases h),jJ,by(try simp only[List.length_append,List.length_cons,List.length_nil]);omega,?_⟩ jJ (by simp only[go_sem,cH,iC,List.map_append,List.map_cons,List.map_nil,List.cons_append,List.nil_append,List.length_append,List.length_cons,List.length_nil,Nat.reduceAdd];(try rfl)) (by simp only[go_sem,lr,Nat.reduceAdd,AV.raw.injEq,Value.int.injEq,Value.slice.injEq,Value.pointer.injEq,AV.rs.injEq,hc,List.length_append,List.length_cons,List.length_nil];try omega));rw[<-hA];obtain⟨n,rfl⟩:∃k,n=k+1:=⟨n-1,jB⟩;rw[mU]
variable{k:Nat}
def KV{α:Type}[Inhabited α](p:α->Bool)(l:List α)(h:k<l.length):(l.take (k+1)).any p=((l.take k).any p || p (nth l k)):=by rw[List.take_succ_eq_append_getElem h,List.any_append,fA h];simp
def tU(t:List bw)(L:List bk)(k:Nat):Bool:=decide (300<(t.length:Int)) || decide (6<(L.length:Int)) || (L.take k).any fun f=>decide (3<(f.params.length:Int))
def OM(t:List bw)(L:List bk)(h:k<L.length):tU t L (k+1)=(tU t L k || decide (3<((nth L k).params.length:Int))):=by unfold tU;rw[KV _ _ h];simp only[Bool.or_assoc]
def OP(t:List bw)(L:List bk)(h:L.length<=k):tU t L k=ut t L:=by
 unfold tU ut;rw[List.take_of_length_le h];have e1:∀n:Nat,decide (300<(n:Int))=decide (300<n):=fun n=>decide_eq_decide.2 jB
 have e2:∀n:Nat,decide (6<(n:Int))=decide (6<n):=fun n=>decide_eq_decide.2 jB
 have e3:∀n:Nat,decide (3<(n:Int))=decide (3<n):=fun n=>decide_eq_decide.2 jB
 simp only[e1,e2,e3]
def P2(s:U0)(hs:s.size<=1000000):aD prog 52 [rS s] (.ba [.agg (lW (ik s).1),rI (ik s).2.1,rI (ik s).2.2]):=by
 by_cases he:(kY s).2.2=0
 ·have hi:=GP he;have hr0:(oz s).rem<=2000:=by
   have:=hi.pos;have:=hi.len;unfold Rd.rem;split<;>omega
  refine cB func52 ntmps52 ?_
  (have W:=he;repeat' (first|refine ar fun K hK=>?_|refine av ?_|(refine hK _ _ ?_;clear hK K)|(refine au ?_ ?_<;>intro hc<;>try exact jz)|refine cp (Kt s hs) ?_|(refine At (t:=30) 10 (by simp only[go_sem];rfl) rfl ?_;refine S ?_)|(refine AD 0 jD rfl ?_;refine S ?_)|refine aq ?_|exact jI|(clear hK K)))
  have Vc:=hK;clear hK;refine iW (dI.fS 1 0 3 116 5 rfl jC rfl rfl) ?_
  (refine S ?_;try exact jI)
  refine iW (dI.fS 12 11 1 181 5 rfl jC rfl rfl) ?_
  (refine S ?_;try exact jI)
  refine dJ (S:=Nat×Rd×List bk) [(10,2),(30,16)] (fun p=>p.2.1.Inv/\p.2.1.rem+1<=p.1/\p.2.2.length+p.1<=5000/\qu p.1 p.2.1 p.2.2=nZ s) (fun _=>[]) (fun p=>⟨[],[(10,.var 30 [.raw (.slice none 0 0),.raw (.slice none 0 0)]),(0,.var 177 (iC p.2.1)),(11,.var 30 [.raw (.slice none 0 0),.rs 12 p.2.2.length 5 p.2.2.length]),(1,.aJ 116 5 (p.2.1.nodes.map eT)),(12,.aJ 181 5 (p.2.2.map gg))]⟩) (fun p=>p.1) ((oz s).rem+1,oz s,[]) ⟨hi,Nat.le_refl _,by(try simp only[List.length_nil]);omega,rfl⟩ (dK rfl bU) ?_;rintro⟨n,q,L⟩ ⟨hq,V9,Xb,hA⟩ Kr Vb;simp only at hq V9 Xb hA;have hqi:=hq.lt;have hqp:=hq.pos;have Zt:=hq.len;obtain⟨n,rfl⟩:∃k,n=k+1:=⟨n-1,jB⟩;rw[qu]at hA;by_cases VM:q.e=0/\q.kind 0=false
  ·rw[if_pos VM]at hA;obtain⟨XB,X2⟩:=VM;obtain⟨t1,t2⟩:=Ej hq;have t2:=t2 XB;have hj:=t1.inv hq;refine S ?_
   (have W:=jA XB X2;repeat' (first|refine ar fun K hK=>?_|refine av ?_|(refine hK _ _ ?_;clear hK K)|(refine au ?_ ?_<;>intro hc<;>try exact jz)|refine cm (xl q _ (bC hq)) ?_|refine cm (Lx hq) ?_|refine aq ?_|exact jI|(clear hK K)))
   refine Vb _ _ (nz [13] (n,(mW q).1,L++[(mW q).2]) ⟨hj,jJ,by(try simp only[List.length_append,List.length_cons,List.length_nil]);omega,hA⟩ jJ rfl Sd (by simp only[go_sem,iC,List.map_append,List.map_cons,List.map_nil,List.length_append,List.length_cons,List.length_nil,Nat.reduceAdd];(try rfl)) iQ)
  ·rw[if_neg VM]at hA;have e1:q=(nZ s).1:=by rw[<-hA]
   have e2:L=(nZ s).2:=by rw[<-hA]
   refine S ?_
   (repeat' (first|refine ar fun K hK=>?_|refine av ?_|(refine hK _ _ ?_;clear hK K)|(refine au ?_ ?_<;>intro hc<;>try exact jz)|refine cm (xl q _ (bC hq)) ?_|refine aq ?_|exact jI|(clear hK K)))
   all_goals first|(exact absurd ⟨by assumption,by assumption⟩ VM)|skip
   ·have XB:q.e=0:=by assumption
    have hee:¬(nZ s).1.e≠0:=by rw[<-e1];simp[XB]
    refine Vc _ _ ?_;clear Vc
    (have W:=XB;repeat' (first|refine ar fun K hK=>?_|refine av ?_|(refine hK _ _ ?_;clear hK K)|(refine au ?_ ?_<;>intro hc<;>try exact jz)|refine aq ?_|exact jI|(clear hK K)))
    have Vc:=hK;clear hK;refine dJ (S:=Nat) [(12,2),(75,18)] (fun k=>k<=L.length) (fun k=>[(12,rB (tU q.nodes L k)),(13,rI k)]) (fun _=>⟨[],[(10,.var 30 [.raw (.slice none 0 0),.raw (.slice none 0 0)]),(0,.var 177 (iC q)),(11,.var 30 [.rs 1 q.nodes.length 5 q.nodes.length,.rs 12 L.length 5 L.length]),(1,.aJ 116 5 (q.nodes.map eT)),(12,.aJ 181 5 (L.map gg))]⟩) (fun k=>L.length-k) 0 (Nat.zero_le _) (dK (by simp only[iC,XB]) (by simp only[go_sem,lr,Nat.reduceAdd,AV.raw.injEq,Value.int.injEq,Value.slice.injEq,Value.pointer.injEq,AV.rs.injEq,tU,List.take_zero,List.any_nil,Bool.or_false];try omega)) ?_;intro k hk Kr Vb;refine S ?_
    (repeat' (first|refine ar fun K hK=>?_|refine av ?_|(refine hK _ _ ?_;clear hK K)|(refine au ?_ ?_<;>intro hc<;>try exact jz)|refine aq ?_|exact jI|(clear hK K)))
    ·have We:k<L.length:=jB;refine Vb _ _ (dT (k+1) jJ jJ (by simp only[iC,XB]) (by simp only[go_sem,lr,Nat.reduceAdd,AV.raw.injEq,Value.int.injEq,Value.slice.injEq,Value.pointer.injEq,AV.rs.injEq,OM _ _ We];try omega))
    ·have hbu:tU q.nodes L k=ut q.nodes L:=OP _ _ jB;by_cases WN:ut q.nodes L=true
     ·have ep:ik s=(⟨[],[]⟩,0,4):=by unfold ik;rw[if_neg (by simp[he]),if_neg hee,<-e1,<-e2,if_pos WN]
      rw[ep]at Vc;refine Vc _ _ ?_
      (have W:=jA hbu WN;repeat' (first|refine ar fun K hK=>?_|refine av ?_|(refine hK _ _ ?_;clear hK K)|(refine au ?_ ?_<;>intro hc<;>try exact jz)|refine aq ?_|exact jI|(clear hK K)))
      refine fy [.cell 2 30,.tmp 3,.tmp 4] ?_;refine bD.ba (ds:=[.agg (lW ⟨[],[]⟩),rI _,rI _]) ?_;exact jA (bD.agg (ds:=[aM eT 5 [],aM gg 5 []]) (jA (db.nil _ _) (jA (db.nil _ _) trivial))) (jA (.same _ rfl) (jA (.same _ rfl) trivial))
     ·have hbf:ut q.nodes L=false:=by simpa using WN
      have ep:ik s=(⟨q.nodes,L⟩,0,0):=by unfold ik;rw[if_neg (by simp[he]),if_neg hee,<-e1,<-e2,if_neg WN]
      rw[ep]at Vc;refine Vc _ _ ?_
      (have W:=jA hbu hbf;repeat' (first|refine ar fun K hK=>?_|refine av ?_|(refine hK _ _ ?_;clear hK K)|(refine au ?_ ?_<;>intro hc<;>try exact jz)|refine aq ?_|exact jI|(clear hK K)))
      refine fy [.cell 2 30,.tmp 3,.tmp 4] ?_;refine bD.ba (ds:=[.agg (lW ⟨q.nodes,L⟩),rI _,rI _]) ?_;exact jA (bD.agg (ds:=[aM eT 5 q.nodes,aM gg 5 L]) (jA (db.row (enc:=eT) q.nodes rfl rfl jE) (jA (db.row (enc:=gg) L rfl rfl jE) trivial))) (jA (.same _ rfl) (jA (.same _ rfl) trivial))
   ·have XB:¬q.e=0:=by assumption
    have ep:ik s=(⟨[],[]⟩,q.at_,q.e):=by unfold ik;rw[if_neg (by simp[he]),<-e1,if_pos XB]
    rw[ep]at Vc;refine Vc _ _ ?_
    (have W:=XB;repeat' (first|refine ar fun K hK=>?_|refine av ?_|(with_reducible refine gR 12 ?_);refine dA 12 [10] (bf 0 12) mixed ?_|(refine hK _ _ ?_;clear hK K)|(refine au ?_ ?_<;>intro hc<;>try exact jz)|refine aq ?_|exact jI|(clear hK K)))
    refine fy [.cell 2 30,.tmp 3,.tmp 4] ?_;refine bD.ba (ds:=[.agg (lW ⟨[],[]⟩),rI _,rI _]) ?_;exact jA (bD.agg (ds:=[aM eT 5 [],aM gg 5 []]) (jA (db.nil _ _) (jA (db.nil _ _) trivial))) (jA (.same _ rfl) (jA (.same _ rfl) trivial))
 ·have ep:ik s=(⟨[],[]⟩,(kY s).2.1,(kY s).2.2):=by unfold ik;rw[if_pos he]
  rw[ep];refine cB func52 ntmps52 ?_
  (have W:=he;repeat' (first|refine ar fun K hK=>?_|refine av ?_|(refine hK _ _ ?_;clear hK K)|(refine au ?_ ?_<;>intro hc<;>try exact jz)|refine cp (Kt s hs) ?_|refine aq ?_|exact jI|(clear hK K)))
  refine fy [.cell 2 30,.tmp 3,.tmp 4] ?_;refine bD.ba (ds:=[.agg (lW ⟨[],[]⟩),rI _,rI _]) ?_;exact jA (bD.agg (ds:=[aM eT 5 [],aM gg 5 []]) (jA (db.nil _ _) (jA (db.nil _ _) trivial))) (jA (.same _ rfl) (jA (.same _ rfl) trivial))
def wE(c:Ck):UU:=[aM eT 5 c.aa.nodes,aM gg 5 c.aa.ao,.rs 1 c.types.length 1 c.types.length,.rs 2 c.slots.length 1 c.slots.length,.rs 3 c.ao.length 1 c.ao.length,.rs 4 c.aR.length 1 c.aR.length,rI c.fn,.rs 5 (c.vars.length+c.more.length) 3 c.vars.length,rI c.size,rI c.e,rI c.at_]
def fN(c:Ck):UT:=[(0,.var 186 (wE c)),(1,.aJ 3 1 (c.types.map eI)),(2,.aJ 3 1 (c.slots.map eI)),(3,.aJ 3 1 (c.ao.map eI)),(4,.aJ 3 1 (c.aR.map eI)),(5,.aJ 258 3 ((c.vars++c.more).map k7))]
attribute [go_sem] fN wE Ck.slot Ck.note Ck.ai
structure bH(c:Ck):Prop where
 aa:aS c.aa
 types:c.types.length=c.aa.nodes.length
 slots:c.slots.length=c.aa.nodes.length
 ao:c.ao.length=c.aa.nodes.length
 aR:c.aR.length<=6
 ww:0<=c.fn
 wh:c.fn<c.aa.ao.length
 vars:(c.vars.length:Int)<=c.size
 size:c.size<=25
 room:c.e=0->c.size<=24
theorem z6{α:Type}(f:α->U0)(nm:U0):∀(l:List α) (i:Int),0<=i->(jR f nm l i=-1/\∀v∈l,f v≠nm)\/(i<=jR f nm l i/\jR f nm l i<i+l.length)
 |[],i,_=>.inl ⟨rfl,fun v hv=>by simp at hv⟩
 |v::l,i,hi=>by
  unfold jR;by_cases h:f v=nm
  ·rw[if_pos h];exact .inr jF
  ·rw[if_neg h];rcases z6 f nm l (i+1) jB with⟨h1,h2⟩|h1
   ·exact .inl ⟨h1,fun u hu=>by
     rcases List.mem_cons.1 hu with rfl|hu
     ·exact h
     ·exact h2 u hu⟩
   ·exact .inr jF
def lb{α:Type}[Inhabited α]{l:List α}{i:Nat}(h:i<l.length):l.drop i=nth l i::l.drop (i+1):=by rw[fA h];exact List.drop_eq_getElem_cons h
def tj(c:Ck)(e a:Int):af prog 150 [pR,rI e,rI a] (fN c) (fun v l=>v=.ba []/\l=fN (c.aG e a)):=by
 refine aQ func150 ntmps150 ?_;refine S ?_
 (repeat' (first|refine ar fun K hK=>?_|refine av ?_|(refine hK _ _ ?_;clear hK K)|(refine au ?_ ?_<;>intro hc<;>try exact jz)|refine aq ?_|exact jI|(clear hK K)))
 ·(refine cd [] ?_ ?_<;>(try simp only[go_sem]))
  simp only[Ck.aG,if_pos hc,fN,wE]
 ·(refine cd [] ?_ ?_<;>(try simp only[go_sem]))
  simp only[Ck.aG,if_neg hc,fN,wE]
def B3(c:Ck)(nm:U0)(h:bH c):af prog 151 [pR,rS nm] (fN c) (fun v l=>v=rI (c.find nm)/\l=fN c):=by
 have h1:=h.vars;have h2:=h.size;refine aQ func151 ntmps151 ?_;refine S ?_
 (repeat' (first|refine ar fun K hK=>?_|refine av ?_|(refine hK _ _ ?_;clear hK K)|(refine au ?_ ?_<;>intro hc<;>try exact jz)|refine aq ?_|exact jI|(clear hK K)))
 have Vc:=hK;clear hK;refine dJ (S:=Nat) [(4,22)] (fun k=>k<=c.vars.length/\jR bB.name nm (c.vars.drop k) k=c.find nm) (fun k=>[(5,rI k)]) (fun _=>⟨[0,1,2,3,4,5],fN c⟩) (fun k=>c.vars.length-k) 0 ⟨jB,rfl⟩ (dK jD bU) ?_;rintro k ⟨VA,Vk⟩ Kr Vb
 (refine S ?_;try exact jI)
 by_cases hk:k<c.vars.length
 ·rw[lb hk]at Vk;unfold jR at Vk;have Yn:nth (c.vars++c.more) k=nth c.vars k:=pZ hk
  (have W:=Yn;repeat' (first|refine ar fun K hK=>?_|refine av ?_|(refine hK _ _ ?_;clear hK K)|(refine au ?_ ?_<;>intro hc<;>try exact jz)|refine aq ?_|exact jI|(clear hK K)))
  ·(refine cd [.tmp 4] ?_ ?_<;>(try simp only[go_sem]))
   rw[if_pos hc]at Vk;rw[<-Vk]
  ·rw[if_neg hc]at Vk;refine Vb _ _ (dT (k+1) ⟨jB,by rw[<-Vk];rfl⟩ jJ jD bU)
 ·rw[List.drop_eq_nil_of_le jB]at Vk
  (repeat' (first|refine ar fun K hK=>?_|refine av ?_|(refine hK _ _ ?_;clear hK K)|(refine au ?_ ?_<;>intro hc<;>try exact jz)|refine Vc _ _ ?_|refine aq ?_|exact jI|(clear hK K)))
  (refine cd [.tmp 4] ?_ ?_<;>(try simp only[go_sem]))
  rw[<-Vk];rfl
def o3(c:Ck)(b:Bool)(a:Int):af prog 237 [pR,rB b,rI a] (fN c) (fun v l=>v=.ba []/\l=fN (c.ap b a)):=by
 refine aQ func237 ntmps237 ?_;refine S ?_
 (repeat' (first|refine ar fun K hK=>?_|refine av ?_|(refine hK _ _ ?_;clear hK K)|(refine au ?_ ?_<;>intro hc<;>try exact jz)|refine cm (tj c 42 a) ?_|refine aq ?_|exact jI|(clear hK K)))
 ·(refine cd [] ?_ ?_<;>(try simp only[go_sem]))
  simp only[Ck.ap,hc,Bool.false_eq_true,if_false,fN,wE]
 ·(refine cd [] ?_ ?_<;>(try simp only[go_sem]))
  simp only[Ck.ap,hc,if_true,fN,wE]
variable{a:Int}
def ve{c:Ck}(h:bH c)(h0:0<=a)(h1:a<c.aa.nodes.length):Shape c.aa.nodes (c.node a)/\∀x∈(c.node a).l,0<=x/\x.toNat<a.toNat:=by have:=h.aa.shape a.toNat jB;exact⟨this.1,this.2.1⟩
def zT{c:Ck}(h:bH c)(h0:0<=a)(h1:a<c.aa.nodes.length):(c.node a).l.length<=300:=by obtain⟨_,_,lo,hc⟩:=h.aa.shape a.toNat jB;have:=hc.len;have:=h.aa.many;show(nth c.aa.nodes a.toNat).l.length<=300;omega
def IZ(c:Ck)(a:Int)(h:bH c)(h0:0<=a)(h1:a<c.aa.nodes.length):af prog 235 [pR,rI a] (fN c) (fun v l=>v=rI (c.named a).2/\l=fN (c.named a).1):=by
 have hv:=h.vars;have hz:=h.size;have V5:=h.slots;have hfd:=z6 bB.name (c.node a).name c.vars 0 jB;have Xw:=B3 c (c.node a).name h;have Zf:=tj c 40 a;have Yn:0<=c.find (c.node a).name->nth (c.vars++c.more) (c.find (c.node a).name).toNat=nth c.vars (c.find (c.node a).name).toNat:=fun h=>pZ (by have hfd:(c.find (c.node a).name=-1/\_)\/(0<=c.find (c.node a).name/\c.find (c.node a).name<0+c.vars.length):=hfd;omega)
 have hfd:(c.find (c.node a).name=-1/\_)\/(0<=c.find (c.node a).name/\c.find (c.node a).name<0+c.vars.length):=hfd;unfold Ck.named;by_cases hf:c.find (c.node a).name<0
 ·rw[if_pos hf];refine aQ func235 ntmps235 ?_;refine S ?_
  (repeat' (first|refine ar fun K hK=>?_|refine av ?_|(refine hK _ _ ?_;clear hK K)|(refine au ?_ ?_<;>intro hc<;>try exact jz)|refine cm (Xw) ?_|refine cm (Zf) ?_|refine aq ?_|exact jI|(clear hK K)))
  (refine cd [.tmp 4] ?_ ?_<;>(try simp only[go_sem]))
 ·rw[if_neg hf];have Yn:=Yn jB;refine aQ func235 ntmps235 ?_;refine S ?_
  (have W:=Yn;repeat' (first|refine ar fun K hK=>?_|refine av ?_|(with_reducible refine gR 5 ?_);refine dE 5 (bf 0 16) mixed ?_|(refine hK _ _ ?_;clear hK K)|(refine au ?_ ?_<;>intro hc<;>try exact jz)|refine cm (Xw) ?_|refine aq ?_|exact jI|(clear hK K)))
  (refine cd [.tmp 4] ?_ ?_<;>(try simp only[go_sem]))
structure Ev(c c':Ck):Prop where
 aa:c'.aa=c.aa
 fn:c'.fn=c.fn
 vars:c'.vars=c.vars
 more:c'.more=c.more
 size:c'.size=c.size
 aR:c'.aR=c.aR
 types:c'.types.length=c.types.length
 slots:c'.slots.length=c.slots.length
 ao:c'.ao.length=c.ao.length
 err:c.e≠0->c'.e≠0
def Ev.refl(c:Ck):Ev c c:=⟨rfl,rfl,rfl,rfl,rfl,rfl,rfl,rfl,rfl,id⟩
theorem Ev.trans{a b c:Ck}(h:Ev a b)(k:Ev b c):Ev a c:=⟨k.aa.trans h.aa,k.fn.trans h.fn,k.vars.trans h.vars,k.more.trans h.more,k.size.trans h.size,k.aR.trans h.aR,k.types.trans h.types,k.slots.trans h.slots,k.ao.trans h.ao,fun e=>k.err (h.err e)⟩
def bH.ev{c c':Ck}(h:bH c)(s:Ev c c'):bH c' where
 aa:=by rw[s.aa];exact h.aa
 types:=by rw[s.types,s.aa];exact h.types
 slots:=by rw[s.slots,s.aa];exact h.slots
 ao:=by rw[s.ao,s.aa];exact h.ao
 aR:=by rw[s.aR];exact h.aR
 ww:=by rw[s.fn];exact h.ww
 wh:=by rw[s.fn,s.aa];exact h.wh
 vars:=by rw[s.vars,s.size];exact h.vars
 size:=by rw[s.size];exact h.size
 room:=fun e=>by rw[s.size];exact h.room (Classical.byContradiction fun h=>s.err h e)
theorem Ev.node{c c':Ck}(s:Ev c c')(a:Int):c'.node a=c.node a:=by unfold Ck.node;rw[s.aa]
def og(c:Ck){e:Int}(he:e≠0)(a:Int):Ev c (c.aG e a):=by
 unfold Ck.aG;split
 ·exact⟨rfl,rfl,rfl,rfl,rfl,rfl,rfl,rfl,rfl,fun _=>he⟩
 ·exact .refl c
def kU(c:Ck)(b:Bool)(a:Int):Ev c (c.ap b a):=by
 unfold Ck.ap;split
 ·exact .refl c
 ·exact og c jC a
def PI(c:Ck)(a s:Int):Ev c (c.slot a s):=⟨rfl,rfl,rfl,rfl,rfl,rfl,rfl,by simp[Ck.slot],rfl,id⟩
def RY(c:Ck)(a t:Int):Ev c (c.note a t):=⟨rfl,rfl,rfl,rfl,rfl,rfl,by simp[Ck.note],rfl,by simp[Ck.note],id⟩
def rf(c:Ck)(a:Int):Ev c (c.ai a):=⟨rfl,rfl,rfl,rfl,rfl,rfl,rfl,rfl,by simp[Ck.ai],id⟩
def oa(c:Ck)(a:Int):Ev c (c.named a).1:=by
 unfold Ck.named;split
 ·exact og c jC a
 ·exact PI c a _
theorem ur{ex:Ck->Int->Ck×Int}(hex:∀c a,Ev c (ex c a).1):∀(l:UY) (c:Ck) (ts:UY),Ev c (gM ex c l ts).1
 |[],c,ts=>by unfold gM;exact .refl c
 |a::l,c,ts=>by
  unfold gM;split
  ·exact(hex c a).trans (ur hex l _ _)
  ·exact .refl c
theorem Ai(a:Int):∀(ts:UY) (ps:List bI) (c:Ck),Ev c (iP a c ts ps)
 |[],_,c=>by unfold iP;exact .refl c
 |_::_,[],c=>by unfold iP;exact .refl c
 |t::ts,p::ps,c=>by
  unfold iP;split
  ·exact(kU c _ a).trans (Ai a ts ps _)
  ·exact .refl c
variable{ex:Ck->Int->Ck×Int}
def NS(hex:∀c a,Ev c (ex c a).1)(c:Ck)(a:Int):Ev c (jq ex c a).1:=by
 unfold jq;split
 ·exact og c jC a
 ·refine Ev.trans ?_ (Ai _ _ _ _);split
  ·exact(ur hex _ _ _).trans (og _ jC a)
  ·exact ur hex _ _ _
def CV(hex:∀c a,Ev c (ex c a).1)(c:Ck)(a:Int):Ev c (cz ex c a).1:=by
 unfold cz;simp only;repeat' split
 all_goals first
  |exact .refl c
  |exact oa c a
  |exact NS hex c a
  |exact((oa c a).trans (hex _ _)).trans (kU _ _ _)
  |exact((hex c _).trans (hex _ _)).trans (kU _ _ _)
  |exact(hex c _).trans (kU _ _ _)
theorem fx:∀(n:Nat) (c:Ck) (a:Int),Ev c (aB n c a).1
 |0,c,a=>by unfold aB;exact .refl c
 |n+1,c,a=>by
  unfold aB;split
  ·exact .refl c
  ·exact(CV (fx n) c a).trans (RY _ _ _)
def uR(n:Nat):Prop:=∀(c:Ck) (a:Int),bH c->0<=a->a<c.aa.nodes.length->a.toNat<n->fz (c.node a).kind->af prog 236 [pR,rI a] (fN c) (fun v l=>v=rI (aB n c a).2/\l=fN (aB n c a).1)
def Hx(n:Nat):Prop:=∀(c:Ck) (a:Int),bH c->c.e=0->0<=a->a<c.aa.nodes.length->a.toNat<=n->fz (c.node a).kind->af prog 257 [pR,rI a] (fN c) (fun v l=>v=rI (cz (aB n) c a).2/\l=fN (cz (aB n) c a).1)
def GM(n:Nat):Prop:=∀(c:Ck) (a:Int),bH c->0<=a->a<c.aa.nodes.length->a.toNat<=n->(c.node a).kind=21->af prog 271 [pR,rI a] (fN c) (fun v l=>v=rI (jq (aB n) c a).2/\l=fN (jq (aB n) c a).1)
def Tq(s:U0)(a b:Int):aD prog 272 [rS s,rI a,rI b] (rI (mf s a b)):=by
 refine cB func272 ntmps272 ?_
 (repeat' (first|refine ar fun K hK=>?_|refine av ?_|(refine hK _ _ ?_;clear hK K)|(refine au ?_ ?_<;>intro hc<;>try exact jz)|refine aq ?_|exact jI|(clear hK K)))
 all_goals(refine cd [.tmp 6] ?_ ?_<;>(try simp only[go_sem]))
 all_goals simp_all [mf]
 all_goals omega
def Qo(n:Nat)(ht:Hx n):uR (n+1):=by
 intro c a h h0 h1 hn hk;have hz:=h.size;have hv:=h.vars;by_cases he:c.e=0
 ·have htc:=ht c a h he h0 h1 jB hk;have s:=CV (fx n) c a;have h2:=h.ev s;have l1:=h2.types;have l2:=h2.ao;rw[s.aa]at l1 l2;rw[aB,jN];refine aQ func236 ntmps236 ?_;refine S ?_
  (repeat' (first|refine ar fun K hK=>?_|refine av ?_|(with_reducible refine gR 5 ?_);refine dE 5 (bf 0 12) mixed ?_|(refine hK _ _ ?_;clear hK K)|(refine au ?_ ?_<;>intro hc<;>try exact jz)|refine cm (htc) ?_|refine aq ?_|exact jI|(clear hK K)))
  (refine cd [.tmp 4] ?_ ?_<;>(try simp only[go_sem]))
 ·rw[aB,if_pos he];refine aQ func236 ntmps236 ?_;refine S ?_
  (repeat' (first|refine ar fun K hK=>?_|refine av ?_|(refine hK _ _ ?_;clear hK K)|(refine au ?_ ?_<;>intro hc<;>try exact jz)|refine aq ?_|exact jI|(clear hK K)))
  (refine cd [.tmp 4] ?_ ?_<;>(try simp only[go_sem]))
def OU(n:Nat)(hx:uR n)(VG:GM n):Hx n:=by
 intro c a h he h0 h1 hn hk;have hz:=h.size;have hv:=h.vars;obtain⟨sh,WA⟩:=ve h h0 h1;have VX:∀i,i<(c.node a).l.length->(c.aH a i).toNat<n/\0<=c.aH a i/\c.aH a i<c.aa.nodes.length:=fun i hi=>by have hm:c.aH a i∈(c.node a).l:=fc hi;have:=WA _ hm;omega
 have ev0:=oa c a;have YO:=h.ev ev0;have Vm:=IZ c a h h0 h1;unfold fz cW at hk;have e19:(c.node a).kind=1\/(c.node a).kind=19\/(c.node a).kind=2\/(c.node a).kind=3\/(c.node a).kind=4\/(c.node a).kind=21\/(c.node a).kind=5\/(c.node a).kind=9\/(c.node a).kind=6\/(c.node a).kind=7\/(c.node a).kind=8\/(c.node a).kind=20:=jB;rcases e19 with k|k|k|k|k|k|k|k|k|k|k|k
 ·have Vv:(nth c.aa.nodes a.toNat).kind=1:=k;rw[show cz (aB n) c a=(c,1) from by unfold cz;rw[k];rfl];refine aQ func257 ntmps257 ?_;refine S ?_
  (have W:=Vv;repeat' (first|refine ar fun K hK=>?_|refine av ?_|(refine hK _ _ ?_;clear hK K)|(refine au ?_ ?_<;>intro hc<;>try exact jz)|refine aq ?_|exact jI|(clear hK K)))
  (refine bq [.tmp 4] ?_;try simp only[go_sem])
 ·have Vv:(nth c.aa.nodes a.toNat).kind=19:=k;rw[show cz (aB n) c a=(c,1) from by unfold cz;rw[k];rfl];refine aQ func257 ntmps257 ?_;refine S ?_
  (have W:=Vv;repeat' (first|refine ar fun K hK=>?_|refine av ?_|(refine hK _ _ ?_;clear hK K)|(refine au ?_ ?_<;>intro hc<;>try exact jz)|refine aq ?_|exact jI|(clear hK K)))
  (refine bq [.tmp 4] ?_;try simp only[go_sem])
 ·have Vv:(nth c.aa.nodes a.toNat).kind=2:=k;rw[show cz (aB n) c a=(c,2) from by unfold cz;rw[k];rfl];refine aQ func257 ntmps257 ?_;refine S ?_
  (have W:=Vv;repeat' (first|refine ar fun K hK=>?_|refine av ?_|(refine hK _ _ ?_;clear hK K)|(refine au ?_ ?_<;>intro hc<;>try exact jz)|refine aq ?_|exact jI|(clear hK K)))
  (refine bq [.tmp 4] ?_;try simp only[go_sem])
 ·have Vv:(nth c.aa.nodes a.toNat).kind=3:=k;rw[show cz (aB n) c a=(c,3) from by unfold cz;rw[k];rfl];refine aQ func257 ntmps257 ?_;refine S ?_
  (have W:=Vv;repeat' (first|refine ar fun K hK=>?_|refine av ?_|(refine hK _ _ ?_;clear hK K)|(refine au ?_ ?_<;>intro hc<;>try exact jz)|refine aq ?_|exact jI|(clear hK K)))
  (refine bq [.tmp 4] ?_;try simp only[go_sem])
 ·have Vv:(nth c.aa.nodes a.toNat).kind=4:=k;rw[show cz (aB n) c a=c.named a from by unfold cz;rw[k];rfl];refine aQ func257 ntmps257 ?_;refine S ?_
  (have W:=Vv;repeat' (first|refine ar fun K hK=>?_|refine av ?_|(refine hK _ _ ?_;clear hK K)|(refine au ?_ ?_<;>intro hc<;>try exact jz)|refine cm (Vm) ?_|refine aq ?_|exact jI|(clear hK K)))
  (refine bq [.tmp 4] ?_;try simp only[go_sem])
 ·have Vv:(nth c.aa.nodes a.toNat).kind=21:=k;rw[show cz (aB n) c a=jq (aB n) c a from by unfold cz;rw[k];rfl];have Vf:=VG c a h h0 h1 hn k;refine aQ func257 ntmps257 ?_;refine S ?_
  (have W:=Vv;repeat' (first|refine ar fun K hK=>?_|refine av ?_|(refine hK _ _ ?_;clear hK K)|(refine au ?_ ?_<;>intro hc<;>try exact jz)|refine cm (Vf) ?_|refine aq ?_|exact jI|(clear hK K)))
  (refine bq [.tmp 4] ?_;try simp only[go_sem])
 ·have Vv:(nth c.aa.nodes a.toNat).kind=5:=k;obtain⟨x,hl,Vw⟩:=sh.one jB;have WO:(c.node a).l.length=1:=by rw[hl];rfl
  have Wt:(nth c.aa.nodes a.toNat).l.length=1:=WO;obtain⟨g1,g2,g3⟩:=VX 0 jB;have X7:fz (c.node (c.aH a 0)).kind:=by
   have:c.aH a 0=x:=by unfold Ck.aH;rw[hl];rfl
   rw[this];exact .inl Vw
  have hex:=hx (c.named a).1 (c.aH a 0) YO g2 (by rw[ev0.aa];exact g3) g1 (by rw[ev0.node];exact X7);have hm:=o3 (aB n (c.named a).1 (c.aH a 0)).1 (decide ((c.named a).2=4) && decide ((aB n (c.named a).1 (c.aH a 0)).2=1)) a;rw[show cz (aB n) c a=((aB n (c.named a).1 (c.aH a 0)).1.ap (decide ((c.named a).2=4) && decide ((aB n (c.named a).1 (c.aH a 0)).2=1)) a,1) from by unfold cz;rw[k];rfl];refine aQ func257 ntmps257 ?_;refine S ?_
  (have W:=Vv;repeat' (first|refine ar fun K hK=>?_|refine av ?_|(refine hK _ _ ?_;clear hK K)|(refine au ?_ ?_<;>intro hc<;>try exact jz)|refine cm (Vm) ?_|refine cm (hex) ?_|refine cm (hm) ?_|refine aq ?_|exact jI|(clear hK K)))
  (refine bq [.tmp 4] ?_;try simp only[go_sem])
 ·have Vv:(nth c.aa.nodes a.toNat).kind=9:=k;obtain⟨x,y,hl,Vw,Yo⟩:=sh.two jB;have WO:(c.node a).l.length=2:=by rw[hl];rfl
  have Wt:(nth c.aa.nodes a.toNat).l.length=2:=WO;obtain⟨g1,g2,g3⟩:=VX 0 jB;obtain⟨g4,g5,g6⟩:=VX 1 jB;have X7:fz (c.node (c.aH a 0)).kind:=by
   have:c.aH a 0=x:=by unfold Ck.aH;rw[hl];rfl
   rw[this];exact .inl Vw
  have hky:fz (c.node (c.aH a 1)).kind:=by
   have:c.aH a 1=y:=by unfold Ck.aH;rw[hl];rfl
   rw[this];exact .inl Yo
  have ev1:=fx n c (c.aH a 0);have hex:=hx c (c.aH a 0) h g2 g3 g1 X7;have hey:=hx (aB n c (c.aH a 0)).1 (c.aH a 1) (h.ev ev1) g5 (by rw[ev1.aa];exact g6) g4 (by rw[ev1.node];exact hky);have hb:=Tq (c.node a).name (aB n c (c.aH a 0)).2 (aB n (aB n c (c.aH a 0)).1 (c.aH a 1)).2;have hm:=o3 (aB n (aB n c (c.aH a 0)).1 (c.aH a 1)).1 (!decide (mf (c.node a).name (aB n c (c.aH a 0)).2 (aB n (aB n c (c.aH a 0)).1 (c.aH a 1)).2=0)) a;rw[show cz (aB n) c a=((aB n (aB n c (c.aH a 0)).1 (c.aH a 1)).1.ap (!decide (mf (c.node a).name (aB n c (c.aH a 0)).2 (aB n (aB n c (c.aH a 0)).1 (c.aH a 1)).2=0)) a,mf (c.node a).name (aB n c (c.aH a 0)).2 (aB n (aB n c (c.aH a 0)).1 (c.aH a 1)).2) from by unfold cz;rw[k];rfl];refine aQ func257 ntmps257 ?_;refine S ?_
  (have W:=Vv;repeat' (first|refine ar fun K hK=>?_|refine av ?_|(refine hK _ _ ?_;clear hK K)|(refine au ?_ ?_<;>intro hc<;>try exact jz)|refine cm (hex) ?_|refine cm (hey) ?_|refine cp (hb) ?_|refine cm (hm) ?_|refine aq ?_|exact jI|(clear hK K)))
  (refine bq [.tmp 4] ?_;try simp only[go_sem])
 ·have Vv:(nth c.aa.nodes a.toNat).kind=6:=k;obtain⟨x,hl,Vw⟩:=sh.one jB;have WO:(c.node a).l.length=1:=by rw[hl];rfl
  have Wt:(nth c.aa.nodes a.toNat).l.length=1:=WO;obtain⟨g1,g2,g3⟩:=VX 0 jB;have X7:fz (c.node (c.aH a 0)).kind:=by
   have:c.aH a 0=x:=by unfold Ck.aH;rw[hl];rfl
   rw[this];exact .inl Vw
  have hex:=hx c (c.aH a 0) h g2 g3 g1 X7;have hm:=o3 (aB n c (c.aH a 0)).1 (decide ((aB n c (c.aH a 0)).2=3) || decide ((aB n c (c.aH a 0)).2=4)) a;rw[show cz (aB n) c a=((aB n c (c.aH a 0)).1.ap (decide ((aB n c (c.aH a 0)).2=3) || decide ((aB n c (c.aH a 0)).2=4)) a,1) from by unfold cz;rw[k];rfl];refine aQ func257 ntmps257 ?_;refine S ?_
  (have W:=Vv;repeat' (first|refine ar fun K hK=>?_|refine av ?_|(refine hK _ _ ?_;clear hK K)|(refine au ?_ ?_<;>intro hc<;>try exact jz)|refine cm (hex) ?_|refine cm (hm) ?_|refine aq ?_|exact jI|(clear hK K)))
  (refine bq [.tmp 4] ?_;try simp only[go_sem])
 ·have Vv:(nth c.aa.nodes a.toNat).kind=7:=k;obtain⟨x,hl,Vw⟩:=sh.one jB;have WO:(c.node a).l.length=1:=by rw[hl];rfl
  have Wt:(nth c.aa.nodes a.toNat).l.length=1:=WO;obtain⟨g1,g2,g3⟩:=VX 0 jB;have X7:fz (c.node (c.aH a 0)).kind:=by
   have:c.aH a 0=x:=by unfold Ck.aH;rw[hl];rfl
   rw[this];exact .inl Vw
  have hex:=hx c (c.aH a 0) h g2 g3 g1 X7;have hm:=o3 (aB n c (c.aH a 0)).1 (decide ((aB n c (c.aH a 0)).2=1)) a;rw[show cz (aB n) c a=((aB n c (c.aH a 0)).1.ap (decide ((aB n c (c.aH a 0)).2=1)) a,1) from by unfold cz;rw[k];rfl];refine aQ func257 ntmps257 ?_;refine S ?_
  (have W:=Vv;repeat' (first|refine ar fun K hK=>?_|refine av ?_|(refine hK _ _ ?_;clear hK K)|(refine au ?_ ?_<;>intro hc<;>try exact jz)|refine cm (hex) ?_|refine cm (hm) ?_|refine aq ?_|exact jI|(clear hK K)))
  (refine bq [.tmp 4] ?_;try simp only[go_sem])
 ·have Vv:(nth c.aa.nodes a.toNat).kind=8:=k;obtain⟨x,hl,Vw⟩:=sh.one jB;have WO:(c.node a).l.length=1:=by rw[hl];rfl
  have Wt:(nth c.aa.nodes a.toNat).l.length=1:=WO;obtain⟨g1,g2,g3⟩:=VX 0 jB;have X7:fz (c.node (c.aH a 0)).kind:=by
   have:c.aH a 0=x:=by unfold Ck.aH;rw[hl];rfl
   rw[this];exact .inl Vw
  have hex:=hx c (c.aH a 0) h g2 g3 g1 X7;have hm:=o3 (aB n c (c.aH a 0)).1 (decide ((aB n c (c.aH a 0)).2=2)) a;rw[show cz (aB n) c a=((aB n c (c.aH a 0)).1.ap (decide ((aB n c (c.aH a 0)).2=2)) a,2) from by unfold cz;rw[k];rfl];refine aQ func257 ntmps257 ?_;refine S ?_
  (have W:=Vv;repeat' (first|refine ar fun K hK=>?_|refine av ?_|(refine hK _ _ ?_;clear hK K)|(refine au ?_ ?_<;>intro hc<;>try exact jz)|refine cm (hex) ?_|refine cm (hm) ?_|refine aq ?_|exact jI|(clear hK K)))
  (refine bq [.tmp 4] ?_;try simp only[go_sem])
 ·have Vv:(nth c.aa.nodes a.toNat).kind=20:=k;obtain⟨x,hl,Vw⟩:=sh.one jB;have WO:(c.node a).l.length=1:=by rw[hl];rfl
  have Wt:(nth c.aa.nodes a.toNat).l.length=1:=WO;obtain⟨g1,g2,g3⟩:=VX 0 jB;have X7:fz (c.node (c.aH a 0)).kind:=by
   have:c.aH a 0=x:=by unfold Ck.aH;rw[hl];rfl
   rw[this];exact .inl Vw
  have hex:=hx c (c.aH a 0) h g2 g3 g1 X7;have hm:=o3 (aB n c (c.aH a 0)).1 (decide ((aB n c (c.aH a 0)).2=1)) a;rw[show cz (aB n) c a=((aB n c (c.aH a 0)).1.ap (decide ((aB n c (c.aH a 0)).2=1)) a,4) from by unfold cz;rw[k];rfl];refine aQ func257 ntmps257 ?_;refine S ?_
  (have W:=Vv;repeat' (first|refine ar fun K hK=>?_|refine av ?_|(refine hK _ _ ?_;clear hK K)|(refine au ?_ ?_<;>intro hc<;>try exact jz)|refine cm (hex) ?_|refine cm (hm) ?_|refine aq ?_|exact jI|(clear hK K)))
  (refine bq [.tmp 4] ?_;try simp only[go_sem])
def uz(a:Int)(c:Ck)(ps:List bI):iP a c [] ps=c:=by cases ps<;>rfl
def uK(a:Int)(c:Ck)(ts:UY):iP a c ts []=c:=by cases ts<;>rfl
theorem Gy{α:Type}(f:α->U0)(nm:U0):∀(l:List α) (i k:Int),0<=i->(j7 f nm l i k=k\/i<=j7 f nm l i k)/\(j7 f nm l i k=k\/j7 f nm l i k<i+l.length)
 |[],i,k,_=>by unfold j7;exact⟨.inl rfl,.inl rfl⟩
 |v::l,i,k,hi=>by
  unfold j7;obtain⟨h1,h2⟩:=Gy f nm l (i+1) (if f v=nm then i else k) jB;simp only[List.length_cons];split at h1<;>rename_i hv
  ·rw[if_pos hv]at h2 ⊢;omega
  ·rw[if_neg hv]at h2 ⊢;omega
def LM(n:Nat)(hx:uR n):GM n:=by
 intro c a h h0 h1 hn hk;have hz:=h.size;have hv:=h.vars;have htf:=h.aa.ao;have XR:=h.aa.many;obtain⟨sh,WA⟩:=ve h h0 h1;have hck:=h.aa.chain;have O':(nth c.aa.nodes a.toNat).l.length<=300:=zT h h0 h1;have YA:∀i,i<(c.node a).l.length->fz (c.node (nth (c.node a).l i)).kind/\(nth (c.node a).l i).toNat<n/\0<=nth (c.node a).l i/\nth (c.node a).l i<c.aa.nodes.length:=fun i hi=>by have hm:nth (c.node a).l i∈(c.node a).l:=fc hi;have:=WA _ hm;exact⟨.inl (sh.call hk _ hm),jB,this.1,jB⟩
 obtain⟨lg1,lg2⟩:=Gy bk.name (c.node a).name c.aa.ao 0 (-1) jB;have lg1:fV c a=-1\/0<=fV c a:=lg1;have lg2:fV c a=-1\/fV c a<0+c.aa.ao.length:=lg2;refine aQ func271 ntmps271 ?_;refine S ?_
 (repeat' (first|refine ar fun K hK=>?_|refine av ?_|(refine hK _ _ ?_;clear hK K)|(refine au ?_ ?_<;>intro hc<;>try exact jz)|refine aq ?_|exact jI|(clear hK K)))
 have Vc:=hK;clear hK;refine dJ (S:=Nat×Int) [(6,2),(22,25)] (fun s=>s.1<=c.aa.ao.length/\j7 bk.name (c.node a).name (c.aa.ao.drop s.1) s.1 s.2=fV c a) (fun s=>[(7,rI s.1),(6,rI s.2)]) (fun _=>⟨[0,1,2,3,4,5],fN c++[(6,.var 116 (eT (c.node a)))]⟩) (fun s=>c.aa.ao.length-s.1) (0,-1) ⟨jJ,rfl⟩ (dK jW bU) ?_;rintro⟨k,j⟩ ⟨VA,Vk⟩ Kr Vb;simp only at VA Vk
 (refine S ?_;try exact jI)
 by_cases D':k<c.aa.ao.length
 ·rw[lb D']at Vk;unfold j7 at Vk
  (repeat' (first|refine ar fun K hK=>?_|refine av ?_|(with_reducible refine gR 6 ?_);refine dE 6 (bf 0 13) mixed ?_|(refine hK _ _ ?_;clear hK K)|(refine au ?_ ?_<;>intro hc<;>try exact jz)|refine aq ?_|exact jI|(clear hK K)))
  ·rw[if_pos hc]at Vk;refine Vb _ _ (dT (k+1,(k:Int)) ⟨jJ,by rw[<-Vk];rfl⟩ jJ jW bU)
  ·rw[if_neg hc]at Vk;refine Vb _ _ (dT (k+1,j) ⟨jJ,by rw[<-Vk];rfl⟩ jJ jW bU)
 ·rw[List.drop_eq_nil_of_le jB]at Vk;have Vk:j=fV c a:=Vk;subst Vk;by_cases haT:fV c a<0
  ·rw[jq,if_pos haT]at*
   (repeat' (first|refine ar fun K hK=>?_|refine av ?_|(refine hK _ _ ?_;clear hK K)|(refine au ?_ ?_<;>intro hc<;>try exact jz)|refine Vc _ _ ?_|refine cm (tj c 40 a) ?_|refine aq ?_|exact jI|(clear hK K)))
   (refine bq [.tmp 4] ?_;try simp only[go_sem])
  ·have Z4:0<=fV c a:=jB;have hcn:(fV c a).toNat<c.aa.ao.length:=jB;have hfp:=(h.aa.fn _ (fc hcn)).2;have e0:jq (aB n) c a=(iP a (if(c.node a).l.length≠(nth c.aa.ao (fV c a).toNat).params.length then(gM (aB n) c (c.node a).l []).1.aG 43 a else(gM (aB n) c (c.node a).l []).1) (gM (aB n) c (c.node a).l []).2 (nth c.aa.ao (fV c a).toNat).params,(nth c.aa.ao (fV c a).toNat).ret):=by
    rw[jq,if_neg haT]
   (repeat' (first|refine ar fun K hK=>?_|refine av ?_|(refine hK _ _ ?_;clear hK K)|(refine au ?_ ?_<;>intro hc<;>try exact jz)|refine Vc _ _ ?_|refine aq ?_|exact jI|(clear hK K)))
   have Zg:=hK;clear hK;refine iW (dI.nil 8 9 3 (sz:=1) rfl jC (Or.inr ⟨_,_,_,rfl,rfl⟩)) ?_
   (refine S ?_;try exact jI)
   refine dJ (S:=Nat×Ck×UY) [(9,3),(62,25)] (fun s=>s.1<=(c.node a).l.length/\Ev c s.2.1/\s.2.2.length=s.1/\gM (aB n) s.2.1 ((c.node a).l.drop s.1) s.2.2=gM (aB n) c (c.node a).l []) (fun s=>[(10,rI s.1),(9,.rs 8 s.2.2.length 1 s.2.2.length)]) (fun s=>⟨[0,1,2,3,4,5],fN s.2.1++[(6,.var 116 (eT (c.node a))),(7,.var 181 (gg (nth c.aa.ao (fV c a).toNat))),(8,.aJ 3 1 (s.2.2.map eI))]⟩) (fun s=>(c.node a).l.length-s.1) (0,c,[]) ⟨jJ,.refl c,rfl,rfl⟩ (dK jW bU) ?_;rintro⟨i,q,ts⟩ ⟨Xx,ev,hts,hA⟩ Kr2 YB;simp only at Xx ev hts hA;have hq:=h.ev ev;have lt1:=hq.types;have lt2:=hq.slots;have lt3:=hq.ao;have lt4:=hq.vars;have lt5:=hq.size;have hlq:(c.node a).l.length<=300:=O'
   (refine S ?_;try exact jI)
   by_cases Wj:i<(c.node a).l.length/\q.e=0
   ·obtain⟨VN,WB⟩:=Wj;rw[lb VN,gM,if_pos WB]at hA;obtain⟨g1,g2,g3,g4⟩:=YA i VN;have hxc:=hx q (nth (c.node a).l i) hq g3 (by rw[ev.aa];exact g4) g2 (by rw[ev.node];exact g1)
    (have W:=WB;repeat' (first|refine ar fun K hK=>?_|refine av ?_|(refine hK _ _ ?_;clear hK K)|(refine au ?_ ?_<;>intro hc<;>try exact jz)|refine cm (hxc) ?_|refine aq ?_|exact jI|(clear hK K)))
    refine YB _ _ (dT (i+1,(aB n q (nth (c.node a).l i)).1,ts++[(aB n q (nth (c.node a).l i)).2]) ⟨jJ,ev.trans (fx _ _ _),by simp[hts],hA⟩ jJ jW bU)
   have hA2:gM (aB n) c (c.node a).l []=(q,ts):=by
    rw[<-hA];by_cases VN:i<(c.node a).l.length
    ·rw[lb VN,gM,if_neg fun e=>Wj ⟨VN,e⟩]
    ·rw[List.drop_eq_nil_of_le jB,gM]
   have X6:q=(gM (aB n) c (c.node a).l []).1:=by rw[hA2]
   have hq2:ts=(gM (aB n) c (c.node a).l []).2:=by rw[hA2]
   by_cases Wg:(c.node a).l.length≠(nth c.aa.ao (fV c a).toNat).params.length
   ·have hax:(((c.node a).l.length:Int)=((nth c.aa.ao (fV c a).toNat).params.length:Int))=False:=eq_false jB;have Yp:(q.aG 43 a).e≠0:=by unfold Ck.aG;split;(exact fun h=>by cases h);assumption
    have evx:Ev c (q.aG 43 a):=ev.trans (og q jC a);have hb:((q.aG 43 a)).e=0->ts.length<=(nth c.aa.ao (fV c a).toNat).params.length:=fun h=>(Yp h).elim
    (have W:=hax;repeat' (first|refine ar fun K hK=>?_|refine av ?_|(refine hK _ _ ?_;clear hK K)|(refine au ?_ ?_<;>intro hc<;>try exact jz)|(refine Zg _ _ ?_)|refine cm (tj q 43 a) ?_|refine aq ?_|exact jI|(clear hK K)))
    have haz:=hK;clear hK;refine dJ (S:=Nat×Ck) [(12,1),(97,27)] (fun s=>s.1<=ts.length/\Ev (q.aG 43 a) s.2/\iP a s.2 (ts.drop s.1) ((nth c.aa.ao (fV c a).toNat).params.drop s.1)=iP a (q.aG 43 a) ts (nth c.aa.ao (fV c a).toNat).params) (fun s=>[(12,rI s.1)]) (fun s=>⟨[0,1,2,3,4,5],fN s.2++[(6,.var 116 (eT (c.node a))),(7,.var 181 (gg (nth c.aa.ao (fV c a).toNat))),(8,.aJ 3 1 (ts.map eI))]⟩) (fun s=>ts.length-s.1) (0,(q.aG 43 a)) ⟨jJ,.refl _,rfl⟩ (dK jW bU) ?_;rintro⟨m,z⟩ ⟨XA,WX,Wm⟩ Kr3 haU;simp only at XA WX Wm
    (refine S ?_;try exact jI)
    by_cases Wj:m<ts.length/\z.e=0
    ·obtain⟨VN,WB⟩:=Wj;have XG:((q.aG 43 a)).e=0:=Classical.byContradiction fun h=>WX.err h WB
     exact(Yp XG).elim
    ·have hz:z=iP a (q.aG 43 a) ts (nth c.aa.ao (fV c a).toNat).params:=by
      by_cases VN:m<ts.length
      ·have WB:z.e≠0:=fun e=>Wj ⟨VN,e⟩
       rw[lb VN]at Wm;cases hp:(nth c.aa.ao (fV c a).toNat).params.drop m with
       |nil=>rw[hp,uK]at Wm;exact Wm
       |cons x y=>rw[hp,iP,if_neg WB]at Wm;exact Wm
      ·rw[List.drop_eq_nil_of_le jB,uz]at Wm;exact Wm
     (repeat' (first|refine ar fun K hK=>?_|refine av ?_|(refine hK _ _ ?_;clear hK K)|(refine au ?_ ?_<;>intro hc<;>try exact jz)|(refine haz _ _ ?_)|refine aq ?_|exact jI|(clear hK K)))
     all_goals first|(exact absurd ⟨jB,by assumption⟩ Wj)|skip
     have e1:jq (aB n) c a=(z,(nth c.aa.ao (fV c a).toNat).ret):=by rw[e0,if_pos Wg,<-X6,<-hq2,hz]
     all_goals(
      rw[e1]
      (refine bq [.tmp 4] ?_;try simp only[go_sem]))
   ·have hax:((c.node a).l.length:Int)=((nth c.aa.ao (fV c a).toNat).params.length:Int):=jB;have Yp:True:=trivial;have evx:Ev c q:=ev;have hb:(q).e=0->ts.length<=(nth c.aa.ao (fV c a).toNat).params.length:=fun _=>jB
    (have W:=hax;repeat' (first|refine ar fun K hK=>?_|refine av ?_|(refine hK _ _ ?_;clear hK K)|(refine au ?_ ?_<;>intro hc<;>try exact jz)|(refine Zg _ _ ?_)|refine aq ?_|exact jI|(clear hK K)))
    have haz:=hK;clear hK;refine dJ (S:=Nat×Ck) [(12,1),(97,27)] (fun s=>s.1<=ts.length/\Ev q s.2/\iP a s.2 (ts.drop s.1) ((nth c.aa.ao (fV c a).toNat).params.drop s.1)=iP a q ts (nth c.aa.ao (fV c a).toNat).params) (fun s=>[(12,rI s.1)]) (fun s=>⟨[0,1,2,3,4,5],fN s.2++[(6,.var 116 (eT (c.node a))),(7,.var 181 (gg (nth c.aa.ao (fV c a).toNat))),(8,.aJ 3 1 (ts.map eI))]⟩) (fun s=>ts.length-s.1) (0,q) ⟨jJ,.refl _,rfl⟩ (dK jW bU) ?_;rintro⟨m,z⟩ ⟨XA,WX,Wm⟩ Kr3 haU;simp only at XA WX Wm
    (refine S ?_;try exact jI)
    by_cases Wj:m<ts.length/\z.e=0
    ·obtain⟨VN,WB⟩:=Wj;have XG:(q).e=0:=Classical.byContradiction fun h=>WX.err h WB
     have hmp:m<(nth c.aa.ao (fV c a).toNat).params.length:=by have:=hb XG;omega
     rw[lb VN,lb hmp,iP,if_pos WB]at Wm
     (have W:=WB;repeat' (first|refine ar fun K hK=>?_|refine av ?_|(with_reducible refine gR 23 ?_);refine dE 23 (bf 0 14) mixed ?_|(refine hK _ _ ?_;clear hK K)|(refine au ?_ ?_<;>intro hc<;>try exact jz)|refine cm (o3 z (decide (nth ts m=(nth (nth c.aa.ao (fV c a).toNat).params m).ty)) a) ?_|refine aq ?_|exact jI|(clear hK K)))
     refine haU _ _ (dT (m+1,z.ap (decide (nth ts m=(nth (nth c.aa.ao (fV c a).toNat).params m).ty)) a) ⟨jJ,WX.trans (kU _ _ _),Wm⟩ jJ jW bU)
    ·have hz:z=iP a q ts (nth c.aa.ao (fV c a).toNat).params:=by
      by_cases VN:m<ts.length
      ·have WB:z.e≠0:=fun e=>Wj ⟨VN,e⟩
       rw[lb VN]at Wm;cases hp:(nth c.aa.ao (fV c a).toNat).params.drop m with
       |nil=>rw[hp,uK]at Wm;exact Wm
       |cons x y=>rw[hp,iP,if_neg WB]at Wm;exact Wm
      ·rw[List.drop_eq_nil_of_le jB,uz]at Wm;exact Wm
     (repeat' (first|refine ar fun K hK=>?_|refine av ?_|(refine hK _ _ ?_;clear hK K)|(refine au ?_ ?_<;>intro hc<;>try exact jz)|(refine haz _ _ ?_)|refine aq ?_|exact jI|(clear hK K)))
     all_goals first|(exact absurd ⟨jB,by assumption⟩ Wj)|skip
     have e1:jq (aB n) c a=(z,(nth c.aa.ao (fV c a).toNat).ret):=by rw[e0,if_neg Wg,<-X6,<-hq2,hz]
     all_goals(
      rw[e1]
      (refine bq [.tmp 4] ?_;try simp only[go_sem]))
structure Sv(c c':Ck):Prop where
 aa:c'.aa=c.aa
 fn:c'.fn=c.fn
 aR:c'.aR=c.aR
 err:c.e≠0->c'.e≠0
 inv:bH c'
 pre:∃u,c'.vars=c.vars++u
def Sv.refl{c:Ck}(h:bH c):Sv c c:=⟨rfl,rfl,rfl,id,h,[],jE⟩
def Sv.iK{c c':Ck}(h:bH c)(s:Ev c c'):Sv c c':=⟨s.aa,s.fn,s.aR,s.err,h.ev s,[],by rw[s.vars];simp⟩
theorem Sv.trans{a b c:Ck}(h:Sv a b)(k:Sv b c):Sv a c:=⟨k.aa.trans h.aa,k.fn.trans h.fn,k.aR.trans h.aR,fun e=>k.err (h.err e),k.inv,by obtain⟨u,hu⟩:=h.pre;obtain⟨v,hv⟩:=k.pre;exact⟨u++v,by rw[hv,hu,List.append_assoc]⟩⟩
def iX(ex:Ck->Int->Ck×Int)(c:Ck)(a:Int):Ck:=(ex c (c.aH a 0)).1.ap (!decide ((ex c (c.aH a 0)).2=0)) a
def jX(ex:Ck->Int->Ck×Int)(c:Ck)(a:Int):Ck:=if 0<=(iX ex c a).find (c.node a).name then(iX ex c a).aG 41 a else iX ex c a
def fa(ex:Ck->Int->Ck×Int)(c:Ck)(a:Int):Ck:=if 24<=(jX ex c a).size then(jX ex c a).aG 4 a else jX ex c a
def Co(c:Ck)(a:Int)(v:bB):Ck:={ (c.slot a c.size)with vars:=c.vars++[v],more:=c.more.drop 1,size:=c.size+1 }
def uE(ex:Ck->Int->Ck×Int)(c:Ck)(a:Int):pm ex c a=Co (fa ex c a) a ⟨(c.node a).name,(ex c (c.aH a 0)).2,(fa ex c a).size⟩:=rfl
def CD(hex:∀c a,Ev c (ex c a).1)(c:Ck)(a:Int):Ev c (iX ex c a):=(hex c _).trans (kU _ _ _)
def DO(hex:∀c a,Ev c (ex c a).1)(c:Ck)(a:Int):Ev c (jX ex c a):=by
 unfold jX;split
 ·exact(CD hex c a).trans (og _ jC a)
 ·exact CD hex c a
def zL(hex:∀c a,Ev c (ex c a).1)(c:Ck)(a:Int):Ev c (fa ex c a):=by
 unfold fa;split
 ·exact(DO hex c a).trans (og _ jC a)
 ·exact DO hex c a
def Mo{c:Ck}(h:(fa ex c a).e=0):(fa ex c a).size<24:=by
 unfold fa at h ⊢;split
 ·rename_i hs;rw[if_pos hs]at h;exfalso;unfold Ck.aG at h;split at h
  ·cases h
  ·contradiction
 ·omega
def TW{c:Ck}(h:bH c)(a:Int)(v:bB)(h24:c.size<=24)(hr:c.e=0->c.size<24):Sv c (Co c a v):=by refine⟨rfl,rfl,rfl,id,⟨h.aa,h.types,by show(c.slots.set _ _).length=_;rw[List.length_set];exact h.slots,h.ao,h.aR,h.ww,h.wh,?_,by show c.size+1<=25;omega,fun e=>by show c.size+1<=24;have:=hr e;omega⟩,[v],rfl⟩;show((c.vars++[v]).length:Int)<=c.size+1;have:=h.vars;simp;omega
def SS(hex:∀c a,Ev c (ex c a).1){c:Ck}(h:bH c)(he:c.e=0)(a:Int):Sv c (pm ex c a):=by rw[uE];have s:=zL hex c a;refine(Sv.iK h s).trans (TW (h.ev s) a _ ?_ Mo);rw[s.size];exact h.room he
def Re(hex:∀c a,Ev c (ex c a).1){c:Ck}(h:bH c)(a:Int):Sv c (kP ex c a):=by
 refine Sv.iK h ?_;unfold kP;simp only;split
 ·exact og c jC a
 split
 ·exact(hex c _).trans (kU _ _ _)
 ·exact .refl c
theorem rh{st:Ck->Int->Ck}(P':∀c a,bH c->c.e=0->Sv c (st c a)):∀(l:UY) (c:Ck),bH c->Sv c (dW st c l)
 |[],c,h=>by unfold dW;exact .refl h
 |a::l,c,h=>by
  unfold dW;split
  ·rename_i he;have s:=P' c a h he;exact s.trans (rh P' l _ s.inv)
  ·exact .refl h
def qY{st:Ck->Int->Ck}(P':∀c a,bH c->c.e=0->Sv c (st c a)){c:Ck}(h:bH c)(a:Int):Sv c (fw st c a)/\(fw st c a).vars=c.vars:=by
 have s:=(Sv.iK h (rf c a)).trans (rh P' (c.node a).l _ (h.ev (rf c a)));obtain⟨u,hu⟩:=s.pre;have hv:(dW st (c.ai a) (c.node a).l).vars.take (min c.vars.length (dW st (c.ai a) (c.node a).l).vars.length)=c.vars:=by rw[hu,Nat.min_eq_left jE,List.take_left'];rfl
 have hi:=s.inv;refine⟨⟨s.aa,s.fn,s.aR,s.err,⟨hi.aa,hi.types,hi.slots,hi.ao,hi.aR,hi.ww,hi.wh,?_,hi.size,hi.room⟩,[],by rw[List.append_nil];exact hv⟩,hv⟩;have:=hi.vars;show(((dW st (c.ai a) (c.node a).l).vars.take _).length:Int)<=_;rw[List.length_take];show _<=(dW st (c.ai a) (c.node a).l).size;omega
theorem pi:∀(n:Nat) (c:Ck) (a:Int),bH c->c.e=0->Sv c (bT n c a)
 |0,c,a,h,he=>by unfold bT;exact .refl h
 |n+1,c,a,h,he=>by
  have e0:=rf c a;have h0:=h.ev e0;have s0:=Sv.iK h e0;have hx:=fx n;unfold bT;simp only;repeat' split
  ·exact s0.trans (SS hx h0 he a)
  ·exact s0.trans (Sv.iK h0 (((oa _ a).trans (hx _ _)).trans (kU _ _ _)))
  ·exact s0.trans (Sv.iK h0 ((((oa _ a).trans (hx _ _)).trans (hx _ _)).trans (kU _ _ _)))
  ·exact s0.trans (Sv.iK h0 (hx _ _))
  ·exact s0.trans (Sv.iK h0 ((hx _ _).trans (kU _ _ _)))
  ·exact s0.trans (Re hx h0 a)
  ·have s1:=s0.trans (Sv.iK h0 ((hx (c.ai a) ((c.ai a).aH a 0)).trans (kU _ (decide ((aB n (c.ai a) ((c.ai a).aH a 0)).2=2)) a)));exact s1.trans (rh (fun q b hq _=>(qY (pi n) hq b).1) _ _ s1.inv)
def A1(n:Nat):Prop:=∀(c:Ck) (a:Int),bH c->c.e=0->0<=a->a<c.aa.nodes.length->a.toNat<n->fF (c.node a).kind->af prog 197 [pR,rI a] (fN c) (fun v l=>v=.ba []/\l=fN (bT n c a))
def FI(n:Nat):Prop:=∀(c:Ck) (a:Int),bH c->0<=a->a<c.aa.nodes.length->a.toNat<=n->(c.node a).kind=18->af prog 152 [pR,rI a] (fN c) (fun v l=>v=.ba []/\l=fN (fw (bT n) c a))
attribute [go_sem] Co List.length_drop
def QF(n:Nat)(hx:uR n)(c:Ck)(a:Int)(h:bH c)(he:c.e=0)(h0:0<=a)(h1:a<c.aa.nodes.length)(hn:a.toNat<=n)(hk:(c.node a).kind=10):af prog 234 [pR,rI a] (fN c) (fun v l=>v=.ba []/\l=fN (pm (aB n) c a)):=by
 obtain⟨sh,WA⟩:=ve h h0 h1;obtain⟨x,hl,Vw⟩:=sh.right jB;have Wt:(nth c.aa.nodes a.toNat).l.length=1:=by
  have:(c.node a).l.length=1:=by rw[hl];rfl
  exact this
 have X7:c.aH a 0=x:=by unfold Ck.aH;rw[hl];rfl
 have hm:=WA x (by rw[hl];simp);have hex:=hx c (c.aH a 0) h jB jB jB (by rw[X7];exact Vw);have VY:af prog 237 _ _ (fun v l=>v=.ba []/\l=fN (iX (aB n) c a)):=o3 (aB n c (c.aH a 0)).1 (!decide ((aB n c (c.aH a 0)).2=0)) a;have eA:=CD (fx n) c a;have eB:=DO (fx n) c a;have eC:=zL (fx n) c a;have hA:=h.ev eA;have hC:=h.ev eC;have Wc:=B3 (iX (aB n) c a) (c.node a).name hA;have Zf:=tj (iX (aB n) c a) 41 a;have hfb:=tj (jX (aB n) c a) 4 a;have V5:=hC.slots;have hcz:=hC.size;have YK:=hC.vars;have Yw:=eC.size;have hc24:=h.room he;rw[eC.aa]at V5;rw[uE];refine aQ func234 ntmps234 ?_
 (refine S ?_;try exact jI)
 by_cases c1:0<=(iX (aB n) c a).find (c.node a).name
 ·have e1:jX (aB n) c a=(iX (aB n) c a).aG 41 a:=if_pos c1;rw[<-e1]at Zf;by_cases c2:24<=(jX (aB n) c a).size
  ·have e2:fa (aB n) c a=(jX (aB n) c a).aG 4 a:=if_pos c2;rw[<-e2]at hfb
   (repeat' (first|refine ar fun K hK=>?_|refine av ?_|(with_reducible refine gR 7 ?_);refine dE 7 (bf 0 12) mixed ?_|(with_reducible refine gR 8 ?_);refine dE 8 (bf 0 18) mixed ?_|(refine hK _ _ ?_;clear hK K)|(refine au ?_ ?_<;>intro hc<;>try exact jz)|refine cm (hex) ?_|refine cm (VY) ?_|refine cm (Wc) ?_|refine cm (Zf) ?_|refine cm (hfb) ?_|refine sr (fa (aB n) c a).vars (fa (aB n) c a).more [⟨(c.node a).name,(aB n c (c.aH a 0)).2,(fa (aB n) c a).size⟩] ?_|refine aq ?_|exact jI|(clear hK K)))
   (refine bq [] ?_;try simp only[go_sem])
  ·have e2:fa (aB n) c a=jX (aB n) c a:=if_neg c2;rw[e2]at V5 hcz YK Yw;rw[e2]
   (repeat' (first|refine ar fun K hK=>?_|refine av ?_|(with_reducible refine gR 7 ?_);refine dE 7 (bf 0 12) mixed ?_|(with_reducible refine gR 8 ?_);refine dE 8 (bf 0 18) mixed ?_|(refine hK _ _ ?_;clear hK K)|(refine au ?_ ?_<;>intro hc<;>try exact jz)|refine cm (hex) ?_|refine cm (VY) ?_|refine cm (Wc) ?_|refine cm (Zf) ?_|refine sr (jX (aB n) c a).vars (jX (aB n) c a).more [⟨(c.node a).name,(aB n c (c.aH a 0)).2,(jX (aB n) c a).size⟩] ?_|refine aq ?_|exact jI|(clear hK K)))
   (refine bq [] ?_;try simp only[go_sem])
 ·have e1:jX (aB n) c a=iX (aB n) c a:=if_neg c1;rw[e1]at hfb;by_cases c2:24<=(iX (aB n) c a).size
  ·have e2:fa (aB n) c a=(iX (aB n) c a).aG 4 a:=by unfold fa;rw[e1];exact if_pos c2
   rw[<-e2]at hfb
   (repeat' (first|refine ar fun K hK=>?_|refine av ?_|(with_reducible refine gR 7 ?_);refine dE 7 (bf 0 12) mixed ?_|(with_reducible refine gR 8 ?_);refine dE 8 (bf 0 18) mixed ?_|(refine hK _ _ ?_;clear hK K)|(refine au ?_ ?_<;>intro hc<;>try exact jz)|refine cm (hex) ?_|refine cm (VY) ?_|refine cm (Wc) ?_|refine cm (hfb) ?_|refine sr (fa (aB n) c a).vars (fa (aB n) c a).more [⟨(c.node a).name,(aB n c (c.aH a 0)).2,(fa (aB n) c a).size⟩] ?_|refine aq ?_|exact jI|(clear hK K)))
   (refine bq [] ?_;try simp only[go_sem])
  ·have e2:fa (aB n) c a=iX (aB n) c a:=by unfold fa;rw[e1];exact if_neg c2
   rw[e2]at V5 hcz YK Yw;rw[e2]
   (repeat' (first|refine ar fun K hK=>?_|refine av ?_|(with_reducible refine gR 7 ?_);refine dE 7 (bf 0 12) mixed ?_|(with_reducible refine gR 8 ?_);refine dE 8 (bf 0 18) mixed ?_|(refine hK _ _ ?_;clear hK K)|(refine au ?_ ?_<;>intro hc<;>try exact jz)|refine cm (hex) ?_|refine cm (VY) ?_|refine cm (Wc) ?_|refine sr (iX (aB n) c a).vars (iX (aB n) c a).more [⟨(c.node a).name,(aB n c (c.aH a 0)).2,(iX (aB n) c a).size⟩] ?_|refine aq ?_|exact jI|(clear hK K)))
   (refine bq [] ?_;try simp only[go_sem])
def JW(n:Nat)(hs:A1 n):FI n:=by
 intro c a h h0 h1 hn hk;obtain⟨sh,WA⟩:=ve h h0 h1;have O':(nth c.aa.nodes a.toNat).l.length<=300:=zT h h0 h1;have e0:=rf c a;have hq0:=h.ev e0;have Wp:=h.ao;have hvz:=h.vars;have Vi:=h.size;refine aQ func152 ntmps152 ?_;refine S ?_
 (repeat' (first|refine ar fun K hK=>?_|refine av ?_|(with_reducible refine gR 0 ?_);refine dE 0 (bf 0 12) mixed ?_|(refine hK _ _ ?_;clear hK K)|(refine au ?_ ?_<;>intro hc<;>try exact jz)|refine aq ?_|exact jI|(clear hK K)))
 have Vc:=hK;clear hK;refine dJ (S:=Nat×Ck) [(6,1),(33,19)] (fun s=>s.1<=(c.node a).l.length/\Sv (c.ai a) s.2/\dW (bT n) s.2 ((c.node a).l.drop s.1)=dW (bT n) (c.ai a) (c.node a).l) (fun s=>[(6,rI s.1)]) (fun s=>⟨[0,1,2,3,4,5],fN s.2⟩) (fun s=>(c.node a).l.length-s.1) (0,c.ai a) ⟨jJ,.refl hq0,rfl⟩ (dK jW bU) ?_;rintro⟨i,q⟩ ⟨hi,hq,hA⟩ Kr Vb;simp only at hi hq hA
 (refine S ?_;try exact jI)
 have lt1:=hq.inv.types;have lt3:=hq.inv.ao;have lt4:=hq.inv.vars;have lt5:=hq.inv.size;by_cases Wj:i<(c.node a).l.length/\q.e=0
 ·obtain⟨VN,WB⟩:=Wj;have haV:i<(nth c.aa.nodes a.toNat).l.length:=VN;rw[lb VN,dW,if_pos WB]at hA;have hm:nth (c.node a).l i∈(c.node a).l:=fc VN;have hb:=WA _ hm;have P':=hs q (nth (c.node a).l i) hq.inv WB hb.1 (by rw[hq.aa];show _<(c.aa.nodes.length:Int);omega) jB (by
   have:q.node (nth (c.node a).l i)=c.node (nth (c.node a).l i):=by unfold Ck.node;rw[hq.aa];rfl
   rw[this];exact sh.block hk _ hm)
  (have W:=WB;repeat' (first|refine ar fun K hK=>?_|refine av ?_|(refine hK _ _ ?_;clear hK K)|(refine au ?_ ?_<;>intro hc<;>try exact jz)|refine cm (P') ?_|refine aq ?_|exact jI|(clear hK K)))
  refine Vb _ _ (dT (i+1,bT n q (nth (c.node a).l i)) ⟨jJ,hq.trans (pi n q _ hq.inv WB),hA⟩ jJ jW bU)
 ·have hz:q=dW (bT n) (c.ai a) (c.node a).l:=by
   by_cases VN:i<(c.node a).l.length
   ·rw[lb VN,dW,if_neg fun e=>Wj ⟨VN,e⟩]at hA;exact hA
   ·rw[List.drop_eq_nil_of_le jB,dW]at hA;exact hA
  have e1:fw (bT n) c a={ q with vars:=q.vars.take (min c.vars.length q.vars.length),more:=q.vars.drop (min c.vars.length q.vars.length)++q.more }:=by unfold fw;rw[<-hz]
  obtain⟨u,hu⟩:=hq.pre;have hu:q.vars=c.vars++u:=hu;have Zc:min c.vars.length q.vars.length=c.vars.length:=by rw[hu];simp
  have Zh:¬(i<(nth c.aa.nodes a.toNat).l.length/\q.e=0):=Wj
  (repeat' (first|refine ar fun K hK=>?_|refine av ?_|(with_reducible refine gR 7 ?_);refine dE 7 (bf 0 16) mixed ?_|(refine hK _ _ ?_;clear hK K)|(refine au ?_ ?_<;>intro hc<;>try exact jz)|refine Vc _ _ ?_|refine aq ?_|exact jI|(clear hK K)))
  all_goals first|(exact absurd ⟨by have:=hc.1;omega,hc.2⟩ Zh)|skip
  have ht:q.vars.take c.vars.length=c.vars:=by rw[hu,List.take_left' rfl]
  have hd:q.vars.drop c.vars.length=u:=by rw[hu,List.drop_left' rfl]
  rw[e1,Zc,ht,hd]
  (refine cd [] ?_ ?_<;>(try simp only[go_sem]))
  simp only[hu,List.map_append,List.append_assoc,List.length_append,Nat.add_assoc];rw[jN,Int.toNat_natCast]
def Qs(n:Nat)(hx:uR n)(c:Ck)(a:Int)(h:bH c)(h0:0<=a)(h1:a<c.aa.nodes.length)(hn:a.toNat<=n)(hk:(c.node a).kind=17):af prog 238 [pR,rI a] (fN c) (fun v l=>v=.ba []/\l=fN (kP (aB n) c a)):=by
 obtain⟨sh,WA⟩:=ve h h0 h1;have VD:=h.ww;have hfh:=h.wh;have O':(nth c.aa.nodes a.toNat).l.length<=300:=zT h h0 h1;have haW:=tj c 43 a;have Zi:decide (((c.node a).l.length:Int)=1)=decide ((c.node a).l.length=1):=by rw[decide_eq_decide];omega
 by_cases b:decide ((c.node a).l.length=1)≠(!decide ((nth c.aa.ao c.fn.toNat).ret=0))
 ·have e1:kP (aB n) c a=c.aG 43 a:=if_pos b;have hb:(decide (((nth c.aa.nodes a.toNat).l.length:Int)=1) == !decide ((nth c.aa.ao c.fn.toNat).ret=0))=false:=by
   rw[show((nth c.aa.nodes a.toNat).l.length)=(c.node a).l.length from rfl,Zi];simpa using b
  rw[e1];refine aQ func238 ntmps238 ?_;refine S ?_
  (have W:=hb;repeat' (first|refine ar fun K hK=>?_|refine av ?_|(with_reducible refine gR 1 ?_);refine dE 1 (bf 0 14) mixed ?_|(refine hK _ _ ?_;clear hK K)|(refine au ?_ ?_<;>intro hc<;>try exact jz)|refine cm (haW) ?_|refine aq ?_|exact jI|(clear hK K)))
  (refine bq [] ?_;try simp only[go_sem])
 ·have hb:(decide (((nth c.aa.nodes a.toNat).l.length:Int)=1) == !decide ((nth c.aa.ao c.fn.toNat).ret=0))=true:=by
   rw[show((nth c.aa.nodes a.toNat).l.length)=(c.node a).l.length from rfl,Zi];rw[Classical.not_not.1 b];exact beq_self_eq_true _
  by_cases hl:(c.node a).l.length=1
  ·have Wt:(nth c.aa.nodes a.toNat).l.length=1:=hl;have e1:kP (aB n) c a=(aB n c (c.aH a 0)).1.ap (decide ((aB n c (c.aH a 0)).2=(nth c.aa.ao c.fn.toNat).ret)) a:=by unfold kP;simp only;rw[if_neg b,if_pos hl]
   rcases sh.ret hk with h2|⟨x,h2,h3⟩
   ·rw[h2]at hl;cases hl
   have X7:c.aH a 0=x:=by unfold Ck.aH;rw[h2];rfl
   have hm:=WA x (by rw[h2];simp);have hex:=hx c (c.aH a 0) h jB jB jB (by rw[X7];exact .inl h3);have VY:=o3 (aB n c (c.aH a 0)).1 (decide ((aB n c (c.aH a 0)).2=(nth c.aa.ao c.fn.toNat).ret)) a;rw[e1];refine aQ func238 ntmps238 ?_;refine S ?_
   (have W:=hb;repeat' (first|refine ar fun K hK=>?_|refine av ?_|(with_reducible refine gR 1 ?_);refine dE 1 (bf 0 14) mixed ?_|(refine hK _ _ ?_;clear hK K)|(refine au ?_ ?_<;>intro hc<;>try exact jz)|refine cm (hex) ?_|refine cm (VY) ?_|refine aq ?_|exact jI|(clear hK K)))
   (refine bq [] ?_;try simp only[go_sem])
  ·have Wt:¬(nth c.aa.nodes a.toNat).l.length=1:=hl;have e1:kP (aB n) c a=c:=by unfold kP;simp only;rw[if_neg b,if_neg hl]
   rw[e1];refine aQ func238 ntmps238 ?_;refine S ?_
   (have W:=hb;repeat' (first|refine ar fun K hK=>?_|refine av ?_|(with_reducible refine gR 1 ?_);refine dE 1 (bf 0 14) mixed ?_|(refine hK _ _ ?_;clear hK K)|(refine au ?_ ?_<;>intro hc<;>try exact jz)|refine aq ?_|exact jI|(clear hK K)))
   (refine bq [] ?_;try simp only[go_sem])
def Pz(n:Nat):Prop:=∀(c:Ck) (a:Int),bH c->c.e=0->0<=a->a<c.aa.nodes.length->a.toNat<=n->(c.node a).kind=10->af prog 234 [pR,rI a] (fN c) (fun v l=>v=.ba []/\l=fN (pm (aB n) c a))
def LS(n:Nat):Prop:=∀(c:Ck) (a:Int),bH c->0<=a->a<c.aa.nodes.length->a.toNat<=n->(c.node a).kind=17->af prog 238 [pR,rI a] (fN c) (fun v l=>v=.ba []/\l=fN (kP (aB n) c a))
def S7(n:Nat)(hx:uR n)(hl:Pz n)(hr:LS n)(hbl:FI n):A1 (n+1):=by
 intro c a h he h0 h1 hn hk;have ev:=rf c a;have hq:=h.ev ev;obtain⟨sh,WA⟩:=ve h h0 h1;have O':(nth c.aa.nodes a.toNat).l.length<=300:=zT h h0 h1;have Wp:=h.ao;have hvz:=h.vars;have Vi:=h.size;have VX:∀i,i<(c.node a).l.length->(c.aH a i).toNat<n/\0<=c.aH a i/\c.aH a i<c.aa.nodes.length:=fun i hi=>by have hm:c.aH a i∈(c.node a).l:=fc hi;have:=WA _ hm;omega
 have en:=oa (c.ai a) a;have hqn:=hq.ev en;have Vm:=IZ (c.ai a) a hq h0 h1;have e17:(c.node a).kind=10\/(c.node a).kind=11\/(c.node a).kind=12\/(c.node a).kind=13\/(c.node a).kind=14\/(c.node a).kind=17\/((c.node a).kind=15\/(c.node a).kind=16):=by unfold fF at hk;omega
 rcases e17 with k|k|k|k|k|k|k
 ·have Vv:(nth c.aa.nodes a.toNat).kind=10:=k;have k0:((c.ai a).node a).kind=10:=k;have hlc:=hl (c.ai a) a hq he h0 h1 jB k0;rw[show bT (n+1) c a=pm (aB n) (c.ai a) a from by unfold bT;simp only;rw[k0];rfl];refine aQ func197 ntmps197 ?_;refine S ?_
  (have W:=Vv;repeat' (first|refine ar fun K hK=>?_|refine av ?_|(with_reducible refine gR 1 ?_);refine dE 1 (bf 0 12) mixed ?_|(refine hK _ _ ?_;clear hK K)|(refine au ?_ ?_<;>intro hc<;>try exact jz)|refine cm (hlc) ?_|refine aq ?_|exact jI|(clear hK K)))
  (refine bq [] ?_;try simp only[go_sem])
 ·have Vv:(nth c.aa.nodes a.toNat).kind=11:=k;have k0:((c.ai a).node a).kind=11:=k;obtain⟨x,WE,Wh⟩:=sh.right jB;have WO:(c.node a).l.length=1:=by rw[WE];rfl
  have Wt:(nth c.aa.nodes a.toNat).l.length=1:=WO;obtain⟨g0a,g0b,g0c⟩:=VX 0 jB;have Vo:c.aH a 0=x:=by unfold Ck.aH;rw[WE];rfl
  have hex:=hx ((c.ai a).named a).1 (c.aH a 0) hqn g0b (by rw[en.aa];exact g0c) g0a (by rw[en.node];show fz (c.node (c.aH a 0)).kind;rw[Vo];exact Wh);have VY:=o3 (aB n ((c.ai a).named a).1 (c.aH a 0)).1 (decide (((c.ai a).named a).2=(aB n ((c.ai a).named a).1 (c.aH a 0)).2)) a;rw[show bT (n+1) c a=(aB n ((c.ai a).named a).1 (c.aH a 0)).1.ap (decide (((c.ai a).named a).2=(aB n ((c.ai a).named a).1 (c.aH a 0)).2)) a from by unfold bT;simp only;rw[k0];rfl];refine aQ func197 ntmps197 ?_;refine S ?_
  (have W:=Vv;repeat' (first|refine ar fun K hK=>?_|refine av ?_|(with_reducible refine gR 1 ?_);refine dE 1 (bf 0 12) mixed ?_|(refine hK _ _ ?_;clear hK K)|(refine au ?_ ?_<;>intro hc<;>try exact jz)|refine cm (Vm) ?_|refine cm (hex) ?_|refine cm (VY) ?_|refine aq ?_|exact jI|(clear hK K)))
  (refine bq [] ?_;try simp only[go_sem])
 ·have Vv:(nth c.aa.nodes a.toNat).kind=12:=k;have k0:((c.ai a).node a).kind=12:=k;obtain⟨x,y,WE,Wh,Xd⟩:=sh.two jB;have WO:(c.node a).l.length=2:=by rw[WE];rfl
  have Wt:(nth c.aa.nodes a.toNat).l.length=2:=WO;obtain⟨g0a,g0b,g0c⟩:=VX 0 jB;have Vo:c.aH a 0=x:=by unfold Ck.aH;rw[WE];rfl
  obtain⟨g1a,g1b,g1c⟩:=VX 1 jB;have VA:c.aH a 1=y:=by unfold Ck.aH;rw[WE];rfl
  have ex1:=fx n ((c.ai a).named a).1 (c.aH a 0);have hex:=hx ((c.ai a).named a).1 (c.aH a 0) hqn g0b (by rw[en.aa];exact g0c) g0a (by rw[en.node];show fz (c.node (c.aH a 0)).kind;rw[Vo];exact .inl Wh);have hey:=hx (aB n ((c.ai a).named a).1 (c.aH a 0)).1 (c.aH a 1) (hqn.ev ex1) g1b (by rw[ex1.aa,en.aa];exact g1c) g1a (by rw[ex1.node,en.node];show fz (c.node (c.aH a 1)).kind;rw[VA];exact .inl Xd);have VY:=o3 (aB n (aB n ((c.ai a).named a).1 (c.aH a 0)).1 (c.aH a 1)).1 (decide (((c.ai a).named a).2=4) && decide ((aB n ((c.ai a).named a).1 (c.aH a 0)).2=1) && decide ((aB n (aB n ((c.ai a).named a).1 (c.aH a 0)).1 (c.aH a 1)).2=1)) a;rw[show bT (n+1) c a=(aB n (aB n ((c.ai a).named a).1 (c.aH a 0)).1 (c.aH a 1)).1.ap (decide (((c.ai a).named a).2=4) && decide ((aB n ((c.ai a).named a).1 (c.aH a 0)).2=1) && decide ((aB n (aB n ((c.ai a).named a).1 (c.aH a 0)).1 (c.aH a 1)).2=1)) a from by unfold bT;simp only;rw[k0];rfl];refine aQ func197 ntmps197 ?_;refine S ?_
  (have W:=Vv;repeat' (first|refine ar fun K hK=>?_|refine av ?_|(with_reducible refine gR 1 ?_);refine dE 1 (bf 0 12) mixed ?_|(refine hK _ _ ?_;clear hK K)|(refine au ?_ ?_<;>intro hc<;>try exact jz)|refine cm (Vm) ?_|refine cm (hex) ?_|refine cm (hey) ?_|refine cm (VY) ?_|refine aq ?_|exact jI|(clear hK K)))
  (refine bq [] ?_;try simp only[go_sem])
 ·have Vv:(nth c.aa.nodes a.toNat).kind=13:=k;have k0:((c.ai a).node a).kind=13:=k;obtain⟨x,WE,Wh⟩:=sh.sU jB;have WO:(c.node a).l.length=1:=by rw[WE];rfl
  have Wt:(nth c.aa.nodes a.toNat).l.length=1:=WO;obtain⟨g0a,g0b,g0c⟩:=VX 0 jB;have Vo:c.aH a 0=x:=by unfold Ck.aH;rw[WE];rfl
  have hex:=hx (c.ai a) (c.aH a 0) hq g0b g0c g0a (by show fz (c.node (c.aH a 0)).kind;rw[Vo];exact .inr (.inr (.inr Wh)));rw[show bT (n+1) c a=(aB n (c.ai a) (c.aH a 0)).1 from by unfold bT;simp only;rw[k0];rfl];refine aQ func197 ntmps197 ?_;refine S ?_
  (have W:=Vv;repeat' (first|refine ar fun K hK=>?_|refine av ?_|(with_reducible refine gR 1 ?_);refine dE 1 (bf 0 12) mixed ?_|(refine hK _ _ ?_;clear hK K)|(refine au ?_ ?_<;>intro hc<;>try exact jz)|refine cm (hex) ?_|refine aq ?_|exact jI|(clear hK K)))
  (refine bq [] ?_;try simp only[go_sem])
 ·have Vv:(nth c.aa.nodes a.toNat).kind=14:=k;have k0:((c.ai a).node a).kind=14:=k;obtain⟨x,WE,Wh⟩:=sh.one jB;have WO:(c.node a).l.length=1:=by rw[WE];rfl
  have Wt:(nth c.aa.nodes a.toNat).l.length=1:=WO;obtain⟨g0a,g0b,g0c⟩:=VX 0 jB;have Vo:c.aH a 0=x:=by unfold Ck.aH;rw[WE];rfl
  have hex:=hx (c.ai a) (c.aH a 0) hq g0b g0c g0a (by show fz (c.node (c.aH a 0)).kind;rw[Vo];exact .inl Wh);have VY:=o3 (aB n (c.ai a) (c.aH a 0)).1 (!decide ((aB n (c.ai a) (c.aH a 0)).2=4)) a;rw[show bT (n+1) c a=(aB n (c.ai a) (c.aH a 0)).1.ap (!decide ((aB n (c.ai a) (c.aH a 0)).2=4)) a from by unfold bT;simp only;rw[k0];rfl];refine aQ func197 ntmps197 ?_;refine S ?_
  (have W:=Vv;repeat' (first|refine ar fun K hK=>?_|refine av ?_|(with_reducible refine gR 1 ?_);refine dE 1 (bf 0 12) mixed ?_|(refine hK _ _ ?_;clear hK K)|(refine au ?_ ?_<;>intro hc<;>try exact jz)|refine cm (hex) ?_|refine cm (VY) ?_|refine aq ?_|exact jI|(clear hK K)))
  (refine bq [] ?_;try simp only[go_sem])
 ·have Vv:(nth c.aa.nodes a.toNat).kind=17:=k;have k0:((c.ai a).node a).kind=17:=k;have hrc:=hr (c.ai a) a hq h0 h1 jB k0;rw[show bT (n+1) c a=kP (aB n) (c.ai a) a from by unfold bT;simp only;rw[k0];rfl];refine aQ func197 ntmps197 ?_;refine S ?_
  (have W:=Vv;repeat' (first|refine ar fun K hK=>?_|refine av ?_|(with_reducible refine gR 1 ?_);refine dE 1 (bf 0 12) mixed ?_|(refine hK _ _ ?_;clear hK K)|(refine au ?_ ?_<;>intro hc<;>try exact jz)|refine cm (hrc) ?_|refine aq ?_|exact jI|(clear hK K)))
  (refine bq [] ?_;try simp only[go_sem])
 ·have Ve:1<=(c.node a).l.length/\cW (c.node (c.aH a 0)).kind/\∀i,i<(c.node a).l.length->1<=i->(c.node (nth (c.node a).l i)).kind=18:=by
   have fin:∀{x y:Int},(c.node a).l=[x,y]->cW (bX c.aa.nodes x)->bX c.aa.nodes y=18->1<=(c.node a).l.length/\cW (c.node (c.aH a 0)).kind/\∀i,i<(c.node a).l.length->1<=i->(c.node (nth (c.node a).l i)).kind=18:=fun{x y} e hx hy=>by
    refine⟨by rw[e];simp,by have:c.aH a 0=x:=(by unfold Ck.aH;rw[e];rfl);rw[this];exact hx,fun i hi h1=>?_⟩;rw[e]at hi ⊢;obtain rfl:i=1:=by simp at hi;omega
    exact hy
   rcases k with k|k
   ·obtain⟨x,y,Vw,Yo,WE⟩:=sh.lg k;rcases WE with WE|⟨d,WE,hd⟩
    ·exact fin WE Vw Yo
    ·refine⟨by rw[WE];simp,by have:c.aH a 0=x:=(by unfold Ck.aH;rw[WE];rfl);rw[this];exact Vw,fun i hi h1=>?_⟩;rw[WE]at hi ⊢;rcases(show i=1\/i=2 by simp at hi;omega)with rfl|rfl
     ·exact Yo
     ·exact hd
   ·obtain⟨x,y,WE,Vw,Yo⟩:=sh.ee k;exact fin WE Vw Yo
  obtain⟨WO,Vw,ZK⟩:=Ve;have Wt:1<=(nth c.aa.nodes a.toNat).l.length:=WO;obtain⟨g0a,g0b,g0c⟩:=VX 0 jB;have hex:=hx (c.ai a) (c.aH a 0) hq g0b g0c g0a (.inl Vw);have eM:Ev c ((aB n (c.ai a) (c.aH a 0)).1.ap (decide ((aB n (c.ai a) (c.aH a 0)).2=2)) a):=(ev.trans (fx n _ _)).trans (kU _ _ _);have hM:=h.ev eM;have VY:=o3 (aB n (c.ai a) (c.aH a 0)).1 (decide ((aB n (c.ai a) (c.aH a 0)).2=2)) a;rcases k with k|k
  ·have Vv:(nth c.aa.nodes a.toNat).kind=15:=k;have k0:((c.ai a).node a).kind=15:=k;rw[show bT (n+1) c a=dW (fw (bT n)) ((aB n (c.ai a) (c.aH a 0)).1.ap (decide ((aB n (c.ai a) (c.aH a 0)).2=2)) a) ((c.node a).l.drop 1) from by unfold bT;simp only;rw[k0];rfl];generalize hY:dW (fw (bT n)) ((aB n (c.ai a) (c.aH a 0)).1.ap (decide ((aB n (c.ai a) (c.aH a 0)).2=2)) a) ((c.node a).l.drop 1)=Y;refine aQ func197 ntmps197 ?_;refine S ?_
   (have W:=Vv;repeat' (first|refine ar fun K hK=>?_|refine av ?_|(with_reducible refine gR 1 ?_);refine dE 1 (bf 0 12) mixed ?_|(refine hK _ _ ?_;clear hK K)|(refine au ?_ ?_<;>intro hc<;>try exact jz)|refine cm (hex) ?_|refine cm (VY) ?_|refine aq ?_|exact jI|(clear hK K)))
   refine dJ (S:=Nat×Ck) [(12,1),(46,21)] (fun s=>s.1<=(c.node a).l.length/\1<=s.1/\bH s.2/\s.2.aa=c.aa/\dW (fw (bT n)) s.2 ((c.node a).l.drop s.1)=Y) (fun s=>[(12,rI s.1)]) (fun s=>⟨[0,1,2,3,4,5],fN s.2++[(6,.var 116 (eT (c.node a)))]⟩) (fun s=>(c.node a).l.length-s.1) (1,(aB n (c.ai a) (c.aH a 0)).1.ap (decide ((aB n (c.ai a) (c.aH a 0)).2=2)) a) ⟨jJ,Nat.le_refl _,hM,eM.aa,hY⟩ (dK jW bU) ?_;rintro⟨i,z⟩ ⟨hi,Xx,hz,ZL,hA⟩ Kr Vb;simp only at hi Xx hz ZL hA;have V4:i<=(nth c.aa.nodes a.toNat).l.length:=hi
   (refine S ?_;try exact jI)
   by_cases Wj:i<(c.node a).l.length/\z.e=0
   ·obtain⟨VN,WB⟩:=Wj;have haV:i<(nth c.aa.nodes a.toNat).l.length:=VN;rw[lb VN,dW,if_pos WB]at hA;have hm:nth (c.node a).l i∈(c.node a).l:=fc VN;have hb:=WA _ hm;have hbc:=hbl z (nth (c.node a).l i) hz hb.1 (by rw[ZL];omega) jB (by
     have:z.node (nth (c.node a).l i)=c.node (nth (c.node a).l i):=by unfold Ck.node;rw[ZL]
     rw[this];exact ZK i VN Xx)
    have sz:=(qY (fun q b hq he=>pi n q b hq he) hz (nth (c.node a).l i)).1
    (have W:=WB;repeat' (first|refine ar fun K hK=>?_|refine av ?_|(refine hK _ _ ?_;clear hK K)|(refine au ?_ ?_<;>intro hc<;>try exact jz)|refine cm (hbc) ?_|refine aq ?_|exact jI|(clear hK K)))
    refine Vb _ _ (dT (i+1,fw (bT n) z (nth (c.node a).l i)) ⟨jJ,jJ,sz.inv,sz.aa.trans ZL,hA⟩ jJ jW bU)
   ·have Y1:z=Y:=by
     by_cases VN:i<(c.node a).l.length
     ·rw[lb VN,dW,if_neg fun e=>Wj ⟨VN,e⟩]at hA;exact hA
     ·rw[List.drop_eq_nil_of_le jB,dW]at hA;exact hA
    have Zh:¬(i<(nth c.aa.nodes a.toNat).l.length/\z.e=0):=Wj
    (repeat' (first|refine ar fun K hK=>?_|refine av ?_|(refine hK _ _ ?_;clear hK K)|(refine au ?_ ?_<;>intro hc<;>try exact jz)|refine aq ?_|exact jI|(clear hK K)))
    all_goals first|(exact absurd ⟨by have:=hc.1;omega,hc.2⟩ Zh)|skip
    rw[<-Y1]
    (refine bq [] ?_;try simp only[go_sem])
  ·have Vv:(nth c.aa.nodes a.toNat).kind=16:=k;have k0:((c.ai a).node a).kind=16:=k;rw[show bT (n+1) c a=dW (fw (bT n)) ((aB n (c.ai a) (c.aH a 0)).1.ap (decide ((aB n (c.ai a) (c.aH a 0)).2=2)) a) ((c.node a).l.drop 1) from by unfold bT;simp only;rw[k0];rfl];generalize hY:dW (fw (bT n)) ((aB n (c.ai a) (c.aH a 0)).1.ap (decide ((aB n (c.ai a) (c.aH a 0)).2=2)) a) ((c.node a).l.drop 1)=Y;refine aQ func197 ntmps197 ?_;refine S ?_
   (have W:=Vv;repeat' (first|refine ar fun K hK=>?_|refine av ?_|(with_reducible refine gR 1 ?_);refine dE 1 (bf 0 12) mixed ?_|(refine hK _ _ ?_;clear hK K)|(refine au ?_ ?_<;>intro hc<;>try exact jz)|refine cm (hex) ?_|refine cm (VY) ?_|refine aq ?_|exact jI|(clear hK K)))
   refine dJ (S:=Nat×Ck) [(12,1),(46,21)] (fun s=>s.1<=(c.node a).l.length/\1<=s.1/\bH s.2/\s.2.aa=c.aa/\dW (fw (bT n)) s.2 ((c.node a).l.drop s.1)=Y) (fun s=>[(12,rI s.1)]) (fun s=>⟨[0,1,2,3,4,5],fN s.2++[(6,.var 116 (eT (c.node a)))]⟩) (fun s=>(c.node a).l.length-s.1) (1,(aB n (c.ai a) (c.aH a 0)).1.ap (decide ((aB n (c.ai a) (c.aH a 0)).2=2)) a) ⟨jJ,Nat.le_refl _,hM,eM.aa,hY⟩ (dK jW bU) ?_;rintro⟨i,z⟩ ⟨hi,Xx,hz,ZL,hA⟩ Kr Vb;simp only at hi Xx hz ZL hA;have V4:i<=(nth c.aa.nodes a.toNat).l.length:=hi
   (refine S ?_;try exact jI)
   by_cases Wj:i<(c.node a).l.length/\z.e=0
   ·obtain⟨VN,WB⟩:=Wj;have haV:i<(nth c.aa.nodes a.toNat).l.length:=VN;rw[lb VN,dW,if_pos WB]at hA;have hm:nth (c.node a).l i∈(c.node a).l:=fc VN;have hb:=WA _ hm;have hbc:=hbl z (nth (c.node a).l i) hz hb.1 (by rw[ZL];omega) jB (by
     have:z.node (nth (c.node a).l i)=c.node (nth (c.node a).l i):=by unfold Ck.node;rw[ZL]
     rw[this];exact ZK i VN Xx)
    have sz:=(qY (fun q b hq he=>pi n q b hq he) hz (nth (c.node a).l i)).1
    (have W:=WB;repeat' (first|refine ar fun K hK=>?_|refine av ?_|(refine hK _ _ ?_;clear hK K)|(refine au ?_ ?_<;>intro hc<;>try exact jz)|refine cm (hbc) ?_|refine aq ?_|exact jI|(clear hK K)))
    refine Vb _ _ (dT (i+1,fw (bT n) z (nth (c.node a).l i)) ⟨jJ,jJ,sz.inv,sz.aa.trans ZL,hA⟩ jJ jW bU)
   ·have Y1:z=Y:=by
     by_cases VN:i<(c.node a).l.length
     ·rw[lb VN,dW,if_neg fun e=>Wj ⟨VN,e⟩]at hA;exact hA
     ·rw[List.drop_eq_nil_of_le jB,dW]at hA;exact hA
    have Zh:¬(i<(nth c.aa.nodes a.toNat).l.length/\z.e=0):=Wj
    (repeat' (first|refine ar fun K hK=>?_|refine av ?_|(refine hK _ _ ?_;clear hK K)|(refine au ?_ ?_<;>intro hc<;>try exact jz)|refine aq ?_|exact jI|(clear hK K)))
    all_goals first|(exact absurd ⟨by have:=hc.1;omega,hc.2⟩ Zh)|skip
    rw[<-Y1]
    (refine bq [] ?_;try simp only[go_sem])
theorem wV:∀n,uR n
 |0=>fun c a h h0 h1 hn=>by omega
 |n+1=>Qo n (OU n (wV n) (LM n (wV n)))
theorem D8:∀n,A1 n
 |0=>fun c a h he h0 h1 hn=>by omega
 |n+1=>S7 n (wV n) (fun c a h he h0 h1 hn hk=>QF n (wV n) c a h he h0 h1 hn hk) (fun c a h h0 h1 hn hk=>Qs n (wV n) c a h h0 h1 hn hk) (JW n (D8 n))
def zY(c:Ck):UU:=[aM eT 5 c.aa.nodes,aM gg 5 c.aa.ao,.rs 1 c.types.length 1 c.types.length,.rs 2 c.slots.length 1 c.slots.length,.rs 3 c.ao.length 1 c.ao.length,.rs 4 c.aR.length 1 c.aR.length,rI c.fn,.any,rI c.size,rI c.e,rI c.at_]
def nT(c:Ck):UT:=[(0,.var 186 (zY c)),(1,.aJ 3 1 (c.types.map eI)),(2,.aJ 3 1 (c.slots.map eI)),(3,.aJ 3 1 (c.ao.map eI)),(4,.aJ 3 1 (c.aR.map eI))]
attribute [go_sem] nT zY
structure gD(c:Ck):Prop where
 aa:aS c.aa
 types:c.types.length=c.aa.nodes.length
 slots:c.slots.length=c.aa.nodes.length
 ao:c.ao.length=c.aa.nodes.length
def mZ(c:Ck)(v:bB):Ck:={ c with vars:=c.vars++[v],more:=c.more.drop 1,size:=c.size+1 }
attribute [go_sem] mZ
def CH{c:Ck}(h:bH c)(v:bB)(hs:c.size<=20):bH (mZ c v):=⟨h.aa,h.types,h.slots,h.ao,h.aR,h.ww,h.wh,by have:=h.vars;show((c.vars++[v]).length:Int)<=c.size+1;simp;omega,by show c.size+1<=25;omega,fun _=>by show c.size+1<=24;omega⟩
def Mq(c:Ck)(k:Nat)(h:gD c)(hk:k<c.aa.ao.length)(Vi:c.aR.length<6):af prog 105 [pR,rI k] (nT c) (fun v l=>v=.ba []/\l=nT (gT c k)):=by
 have hff:=h.aa.ao;have VD:=h.aa.fn _ (fc hk);have hp3:=VD.2;have X8:=h.aa.body _ (fc hk);have hbm:=h.aa.chain.mem (nth c.aa.ao k).body (List.mem_map.2 ⟨_,fc hk,rfl⟩);refine aQ func105 ntmps105 ?_;refine S ?_
 (repeat' (first|refine ar fun K hK=>?_|refine av ?_|(refine hK _ _ ?_;clear hK K)|(refine au ?_ ?_<;>intro hc<;>try exact jz)|refine al 6 ?_|refine aq ?_|exact jI|(clear hK K)))
 have Vc:=hK;clear hK;refine iW (dI.fS 5 0 7 258 3 rfl jC rfl rfl) ?_
 (refine S ?_;try exact jI)
 generalize ZF:({ c with fn:=(k:Int),vars:=[],more:=[],size:=0 }:Ck)=c0;have XQ:bH c0:=by subst ZF;exact⟨h.aa,h.types,h.slots,h.ao,by show c.aR.length<=6;omega,by show(0:Int)<=k;omega,by show(k:Int)<(c.aa.ao.length:Int);omega,by show((0:Nat):Int)<=0;omega,by show(0:Int)<=25;omega,fun _=>by show(0:Int)<=24;omega⟩
 have VM:gT c k=(fun c2:Ck=>{ c2 with aR:=c2.aR++[c2.size],vars:=[],more:=[] }) (if(fH (nth c.aa.ao k).body c0 (nth c.aa.ao k).params 0).e=0 then fw (bT c.aa.nodes.length) (fH (nth c.aa.ao k).body c0 (nth c.aa.ao k).params 0) (nth c.aa.ao k).body else fH (nth c.aa.ao k).body c0 (nth c.aa.ao k).params 0):=by subst ZF;rfl
 refine iW (dI.perm (fN c0++[(6,.var 181 (gg (nth c.aa.ao k)))]) (fun i=>by subst ZF;simp only[go_sem,aC];(repeat' split)<;>first|rfl|omega)) ?_;refine dJ (S:=Nat×Ck) [(5,1),(25,50)] (fun s=>s.1<=(nth c.aa.ao k).params.length/\bH s.2/\s.2.size=s.1/\s.2.vars.length=s.1/\s.2.aa=c.aa/\s.2.aR=c.aR/\fH (nth c.aa.ao k).body s.2 ((nth c.aa.ao k).params.drop s.1) s.1=fH (nth c.aa.ao k).body c0 (nth c.aa.ao k).params 0) (fun s=>[(5,rI s.1)]) (fun s=>⟨[0,1,2,3,4],fN s.2++[(6,.var 181 (gg (nth c.aa.ao k)))]⟩) (fun s=>(nth c.aa.ao k).params.length-s.1) (0,c0) ⟨jJ,XQ,by subst ZF;rfl,by subst ZF;rfl,by subst ZF;rfl,by subst ZF;rfl,rfl⟩ (dK rfl bU) ?_;rintro⟨i,q⟩ ⟨hi,hq,hqs,hqv,YR,hqz,hA⟩ Kr Vb;simp only at hi hq hqs hqv YR hqz hA
 (refine S ?_;try exact jI)
 by_cases D':i<(nth c.aa.ao k).params.length
 ·rw[lb D',fH]at hA;have Wc:=B3 q (nth (nth c.aa.ao k).params i).name hq;have Zf:=tj q 41 (nth c.aa.ao k).body;by_cases hf:0<=q.find (nth (nth c.aa.ao k).params i).name
  ·rw[if_pos hf]at hA;have ef:=og q (e:=41) jC (nth c.aa.ao k).body;have Zx:=ef.vars;have VT:=ef.size;have Xx:=hq.ev ef;have YL:(q.aG 41 (nth c.aa.ao k).body).vars.length=i:=by rw[Zx,hqv]
   (repeat' (first|refine ar fun K hK=>?_|refine av ?_|(with_reducible refine gR 9 ?_);refine dE 9 (bf 0 24) mixed ?_|(refine hK _ _ ?_;clear hK K)|(refine au ?_ ?_<;>intro hc<;>try exact jz)|refine cm (Wc) ?_|refine cm (Zf) ?_|refine sr (q.aG 41 (nth c.aa.ao k).body).vars (q.aG 41 (nth c.aa.ao k).body).more [⟨(nth (nth c.aa.ao k).params i).name,(nth (nth c.aa.ao k).params i).ty,(i:Int)⟩] ?_|refine aq ?_|exact jI|(clear hK K)))
   refine Vb _ _ (dT (i+1,mZ (q.aG 41 (nth c.aa.ao k).body) ⟨(nth (nth c.aa.ao k).params i).name,(nth (nth c.aa.ao k).params i).ty,(i:Int)⟩) ⟨jJ,CH Xx _ jB,by show(q.aG 41 (nth c.aa.ao k).body).size+1=_;omega,by show((q.aG 41 (nth c.aa.ao k).body).vars++[_]).length=i+1;rw[List.length_append,YL];rfl,ef.aa.trans YR,ef.aR.trans hqz,hA⟩ jJ jW bU)
  ·rw[if_neg hf]at hA
   (repeat' (first|refine ar fun K hK=>?_|refine av ?_|(with_reducible refine gR 9 ?_);refine dE 9 (bf 0 24) mixed ?_|(refine hK _ _ ?_;clear hK K)|(refine au ?_ ?_<;>intro hc<;>try exact jz)|refine cm (Wc) ?_|refine sr q.vars q.more [⟨(nth (nth c.aa.ao k).params i).name,(nth (nth c.aa.ao k).params i).ty,(i:Int)⟩] ?_|refine aq ?_|exact jI|(clear hK K)))
   refine Vb _ _ (dT (i+1,mZ q ⟨(nth (nth c.aa.ao k).params i).name,(nth (nth c.aa.ao k).params i).ty,(i:Int)⟩) ⟨jJ,CH hq _ jB,by show q.size+1=_;omega,by show(q.vars++[_]).length=i+1;rw[List.length_append,hqv];rfl,YR,hqz,hA⟩ jJ jW bU)
 ·have hz:q=fH (nth c.aa.ao k).body c0 (nth c.aa.ao k).params 0:=by
   rw[List.drop_eq_nil_of_le jB]at hA;exact hA
  rw[<-hz]at VM;by_cases he:q.e=0
  ·rw[if_pos he]at VM;have sb:=(qY (fun q b hq he=>pi c.aa.nodes.length q b hq he) hq (nth c.aa.ao k).body).1;have hbc:=JW c.aa.nodes.length (D8 _) q (nth c.aa.ao k).body hq hbm.1 (by rw[YR];omega) jB (by unfold Ck.node;rw[YR];exact X8);have W7:(fw (bT c.aa.nodes.length) q (nth c.aa.ao k).body).aR.length<6:=by rw[sb.aR,hqz];exact Vi
   (have W:=he;repeat' (first|refine Hd (id:=13) 0 7 ?_|refine ar fun K hK=>?_|refine av ?_|(with_reducible refine gR 13 ?_);refine dE 13 (bf 0 16) mixed ?_|(refine hK _ _ ?_;clear hK K)|(refine au ?_ ?_<;>intro hc<;>try exact jz)|refine Vc _ _ ?_|refine cm (hbc) ?_|refine aq ?_|exact jI|(clear hK K)))
   rw[VM]
   (refine bq [] ?_;try simp only[go_sem])
  ·rw[if_neg he]at VM;have W7:q.aR.length<6:=by rw[hqz];exact Vi
   (have W:=he;repeat' (first|refine Hd (id:=13) 0 7 ?_|refine ar fun K hK=>?_|refine av ?_|(with_reducible refine gR 13 ?_);refine dE 13 (bf 0 16) mixed ?_|(refine hK _ _ ?_;clear hK K)|(refine au ?_ ?_<;>intro hc<;>try exact jz)|refine Vc _ _ ?_|refine aq ?_|exact jI|(clear hK K)))
   rw[VM]
   (refine bq [] ?_;try simp only[go_sem])
def Hi(c:Ck)(e a:Int):af prog 150 [pR,rI e,rI a] (nT c) (fun v l=>v=.ba []/\l=nT (c.aG e a)):=by
 refine aQ func150 ntmps150 ?_;refine S ?_
 (repeat' (first|refine ar fun K hK=>?_|refine av ?_|(refine hK _ _ ?_;clear hK K)|(refine au ?_ ?_<;>intro hc<;>try exact jz)|refine aq ?_|exact jI|(clear hK K)))
 ·(refine cd [] ?_ ?_<;>(try simp only[go_sem]))
  simp only[Ck.aG,if_pos hc,nT,zY]
 ·(refine cd [] ?_ ?_<;>(try simp only[go_sem]))
  simp only[Ck.aG,if_neg hc,nT,zY]
theorem A8(x:bk):∀(l:List bk) (c:Ck),Ev c (kZ x c l)
 |[],c=>by unfold kZ;exact .refl c
 |f::l,c=>by
  unfold kZ;refine Ev.trans ?_ (A8 x l _);split
  ·exact og c jC _
  ·exact .refl c
theorem B4(ao:List bk):∀(n:Nat) (c:Ck) (m:Bool) (i:Nat),Ev c (ki ao c m i n).1
 |0,c,m,i=>by unfold ki;exact .refl c
 |n+1,c,m,i=>by unfold ki;exact(A8 _ _ _).trans (B4 ao n _ _ _)
def Jd(c:Ck):Ev c (ji c):=by
 unfold ji;simp only;split
 ·exact B4 _ _ _ _ _
 ·exact(B4 _ _ _ _ _).trans (og _ jC _)
def N6(c:Ck)(h:c.aa.ao.length<=6):af prog 104 [pR] (nT c) (fun v l=>v=.ba []/\l=nT (ji c)):=by
 refine aQ func104 ntmps104 ?_;refine S ?_
 (repeat' (first|refine ar fun K hK=>?_|refine av ?_|(refine hK _ _ ?_;clear hK K)|(refine au ?_ ?_<;>intro hc<;>try exact jz)|refine aq ?_|exact jI|(clear hK K)))
 have Vc:=hK;clear hK;refine dJ (S:=Nat×Ck×Bool) [(3,3),(12,55)] (fun s=>s.1<=c.aa.ao.length/\ki c.aa.ao s.2.1 s.2.2 s.1 (c.aa.ao.length-s.1)=ki c.aa.ao c false 0 c.aa.ao.length/\s.2.1.aa=c.aa) (fun s=>[(4,rI s.1),(3,rB s.2.2)]) (fun s=>⟨[0,1,2,3,4],nT s.2.1⟩) (fun s=>c.aa.ao.length-s.1) (0,c,false) ⟨jJ,rfl,rfl⟩ (dK jW bU) ?_;rintro⟨i,q,m⟩ ⟨hi,hA,YR⟩ Kr Vb;simp only at hi hA YR
 (refine S ?_;try exact jI)
 by_cases D':i<c.aa.ao.length
 ·rw[show c.aa.ao.length-i=(c.aa.ao.length-(i+1))+1 from jB,ki]at hA
  (repeat' (first|refine ar fun K hK=>?_|refine av ?_|(refine hK _ _ ?_;clear hK K)|(refine au ?_ ?_<;>intro hc<;>try exact jz)|refine aq ?_|exact jI|(clear hK K)))
  have hKi:=hK;clear hK;have X9:=hK;clear hK;refine dJ (S:=Nat×Ck) [(5,1),(18,23)] (fun s=>s.1<=i/\kZ (nth c.aa.ao i) s.2 ((c.aa.ao.take i).drop s.1)=kZ (nth c.aa.ao i) q (c.aa.ao.take i)) (fun s=>[(5,rI s.1)]) (fun s=>⟨[0,1,2,3,4],nT s.2⟩) (fun s=>i-s.1) (0,q) ⟨jJ,rfl⟩ (dK jW bU) ?_;rintro⟨k,z⟩ ⟨hk,hB⟩ Kj hKj;simp only at hk hB
  (refine S ?_;try exact jI)
  by_cases We:k<i
  ·have Z7:k<(c.aa.ao.take i).length:=by rw[List.length_take];omega
   have hnt:nth (c.aa.ao.take i) k=nth c.aa.ao k:=by simp[nth,List.getD_eq_getElem?_getD,List.getElem?_take,We]
   rw[lb Z7,hnt,kZ]at hB;have Zf:=Hi z 41 (nth c.aa.ao i).body
   (repeat' (first|refine ar fun K hK=>?_|refine av ?_|(with_reducible refine gR 8 ?_);refine dE 8 (bf 0 11) mixed ?_|(refine hK _ _ ?_;clear hK K)|(refine au ?_ ?_<;>intro hc<;>try exact jz)|refine cm (Zf) ?_|refine aq ?_|exact jI|(clear hK K)))
   ·rw[if_pos hc]at hB;refine hKj _ _ (dT (k+1,z.aG 41 (nth c.aa.ao i).body) ⟨jJ,hB⟩ jJ jW bU)
   ·rw[if_neg hc]at hB;refine hKj _ _ (dT (k+1,z) ⟨jJ,hB⟩ jJ jW bU)
  ·rw[List.drop_eq_nil_of_le (by rw[List.length_take];omega),kZ]at hB
   (repeat' (first|refine ar fun K hK=>?_|refine av ?_|(refine hK _ _ ?_;clear hK K)|(refine au ?_ ?_<;>intro hc<;>try exact jz)|refine hKi _ _ ?_|refine X9 _ _ ?_|refine aq ?_|exact jI|(clear hK K)))
   refine Vb _ _ (dT (i+1,z,m || ws (nth c.aa.ao i)) ⟨jJ,by rw[<-hB]at hA;exact hA,by rw[hB];exact(A8 _ _ _).aa.trans YR⟩ jJ jW (by simp only[go_sem,lr,Nat.reduceAdd,AV.raw.injEq,Value.int.injEq,Value.slice.injEq,Value.pointer.injEq,AV.rs.injEq,ws];try omega))
 ·rw[show c.aa.ao.length-i=0 from jB,ki]at hA;have hz:ji c=if m=true then q else q.aG 44 0:=by unfold ji;rw[<-hA]
  have Zf:=Hi q 44 0;cases m
  ·rw[if_neg jC]at hz
   (repeat' (first|refine ar fun K hK=>?_|refine av ?_|(refine hK _ _ ?_;clear hK K)|(refine au ?_ ?_<;>intro hc<;>try exact jz)|refine Vc _ _ ?_|refine cm (Zf) ?_|refine aq ?_|exact jI|(clear hK K)))
   rw[hz]
   (refine cd [] ?_ ?_<;>(try simp only[go_sem]))
  ·rw[if_pos rfl]at hz
   (repeat' (first|refine ar fun K hK=>?_|refine av ?_|(refine hK _ _ ?_;clear hK K)|(refine au ?_ ?_<;>intro hc<;>try exact jz)|refine Vc _ _ ?_|refine aq ?_|exact jI|(clear hK K)))
   rw[hz]
   (refine cd [] ?_ ?_<;>(try simp only[go_sem]))
theorem zz(body:Int):∀(ps:List bI) (c:Ck) (i:Int),bH c->c.size+ps.length<=20->bH (fH body c ps i)/\(fH body c ps i).aa=c.aa/\(fH body c ps i).aR=c.aR
 |[],c,i,h,hs=>by unfold fH;exact⟨h,rfl,rfl⟩
 |p::ps,c,i,h,hs=>by
  unfold fH;simp only[List.length_cons]at hs;have fin:∀c1:Ck,Ev c c1->bH (fH body (mZ c1 ⟨p.name,p.ty,i⟩) ps (i+1))/\(fH body (mZ c1 ⟨p.name,p.ty,i⟩) ps (i+1)).aa=c.aa/\(fH body (mZ c1 ⟨p.name,p.ty,i⟩) ps (i+1)).aR=c.aR:=fun c1 s=>by have h1:=h.ev s;have hz:=s.size;obtain⟨a,b,d⟩:=zz body ps (mZ c1 ⟨p.name,p.ty,i⟩) (i+1) (CH h1 _ jB) (by show c1.size+1+_<=20;omega);exact⟨a,b.trans s.aa,d.trans s.aR⟩
  simp only;split
  ·exact fin _ (og c jC body)
  ·exact fin _ (.refl c)
def AU{c:Ck}(h:gD c)(hk:k<c.aa.ao.length)(Vi:c.aR.length<6):gD (gT c k)/\(gT c k).aa=c.aa/\(gT c k).aR.length=c.aR.length+1:=by
 have hp3:=(h.aa.fn _ (fc hk)).2;have XQ:bH { c with fn:=(k:Int),vars:=[],more:=[],size:=0 }:=⟨h.aa,h.types,h.slots,h.ao,by show c.aR.length<=6;omega,by show(0:Int)<=k;omega,by show(k:Int)<(c.aa.ao.length:Int);omega,by show((0:Nat):Int)<=0;omega,by show(0:Int)<=25;omega,fun _=>by show(0:Int)<=24;omega⟩;obtain⟨a,b,d⟩:=zz (nth c.aa.ao k).body (nth c.aa.ao k).params _ 0 XQ (by show(0:Int)+_<=20;omega);unfold gT;simp only;split
 ·have s:=(qY (fun q b hq he=>pi c.aa.nodes.length q b hq he) a (nth c.aa.ao k).body).1;have hi:=s.inv;refine⟨⟨hi.aa,hi.types,hi.slots,hi.ao⟩,s.aa.trans b,?_⟩;show((fw (bT c.aa.nodes.length) _ _).aR++[_]).length=_;rw[List.length_append,s.aR,d];rfl
 ·refine⟨⟨a.aa,a.types,a.slots,a.ao⟩,b,?_⟩;show((fH _ _ _ _).aR++[_]).length=_;rw[List.length_append,d];rfl
def ns(t:aK)(n:Nat):Ck:=⟨t,(t.nodes.take n).map fun _=>0,(t.nodes.take n).map fun _=>-1,(t.nodes.take n).map fun _=>0,[],0,[],[],0,0,0⟩
variable{n:Nat}
def Nn(t:aK)(h:t.nodes.length<=n):ns t n=jY t:=by simp[ns,jY,List.take_of_length_le h]
def Pp(t:aK)(h:n<t.nodes.length):ns t (n+1)={ ns t n with types:=(ns t n).types++[0],slots:=(ns t n).slots++[-1],ao:=(ns t n).ao++[0] }:=by simp[ns,pj h]
def M5(t:aK)(h:n<=t.nodes.length):(ns t n).types.length=n/\(ns t n).slots.length=n/\(ns t n).ao.length=n:=by simp[ns];omega
@[go_sem] def j20(t:aK)(l:UU):lW t++l=aM eT 5 t.nodes::aM gg 5 t.ao::l:=rfl
def Ry(t:aK)(h:aS t):aD prog 53 [.agg (lW t)] (.ba [.agg (cY (iE t).1),rI (iE t).2.1,rI (iE t).2.2]):=by
 have hf:=h.ao;have hm:=h.many;refine cB func53 ntmps53 ?_
 (repeat' (first|refine ar fun K hK=>?_|refine av ?_|(refine hK _ _ ?_;clear hK K)|(refine au ?_ ?_<;>intro hc<;>try exact jz)|refine bx 10 ?_|refine al 11 ?_|refine bx 0 ?_|refine aq ?_|exact jI|(clear hK K)))
 have Vc:=hK;clear hK;refine iW (dI.fS 1 0 2 3 1 rfl jC rfl rfl) ?_
 (refine S ?_;try exact jI)
 refine iW (dI.fS 2 0 3 3 1 rfl jC rfl rfl) ?_
 (refine S ?_;try exact jI)
 refine iW (dI.fS 3 0 4 3 1 rfl jC rfl rfl) ?_
 (refine S ?_;try exact jI)
 refine iW (dI.fS 4 0 5 3 1 rfl jC rfl rfl) ?_
 (refine S ?_;try exact jI)
 refine iW (dI.tV 0 7 rfl) ?_
 (refine S ?_;try exact jI)
 refine iW (dI.perm (nT (ns t 0)++[(10,.var 30 (lW t)),(11,.var 32 [.raw (.slice none 0 0),.raw (.slice none 0 0),.raw (.slice none 0 0),.raw (.slice none 0 0),.raw (.slice none 0 0),.raw (.slice none 0 0)])]) (fun i=>by simp only[go_sem,aC,ns];(repeat' split)<;>first|rfl|omega)) ?_;refine dJ (S:=Nat) [(6,1),(12,40)] (fun k=>k<=t.nodes.length) (fun k=>[(6,rI k)]) (fun k=>⟨[],nT (ns t k)++[(10,.var 30 (lW t)),(11,.var 32 [.raw (.slice none 0 0),.raw (.slice none 0 0),.raw (.slice none 0 0),.raw (.slice none 0 0),.raw (.slice none 0 0),.raw (.slice none 0 0)])]⟩) (fun k=>t.nodes.length-k) 0 (Nat.zero_le _) (dK rfl bU) ?_;rintro k hk Kr Vb;obtain⟨l1,l2,l3⟩:=M5 t hk
 (refine S ?_;try exact jI)
 by_cases D':k<t.nodes.length
 ·(repeat' (first|refine ar fun K hK=>?_|refine av ?_|(refine hK _ _ ?_;clear hK K)|(refine au ?_ ?_<;>intro hc<;>try exact jz)|refine aq ?_|exact jI|(clear hK K)))
  refine Vb _ _ (dT (k+1) jB jB (by rw[Pp t D'];exact jW) bU)
 ·have Ve:=Nn t (n:=k) jB;rw[Ve]at*;have hh:=N6 (jY t) hf
  (repeat' (first|refine ar fun K hK=>?_|refine av ?_|(refine hK _ _ ?_;clear hK K)|(refine au ?_ ?_<;>intro hc<;>try exact jz)|refine Vc _ _ ?_|refine cm (hh) ?_|refine aq ?_|exact jI|(clear hK K)))
  have Zg:=hK;clear hK;have eh:=Jd (jY t);have XQ:gD (ji (jY t)):=⟨by rw[eh.aa];exact h,by rw[eh.types,eh.aa];simp[jY],by rw[eh.slots,eh.aa];simp[jY],by rw[eh.ao,eh.aa];simp[jY]⟩;refine dJ (S:=Nat×Ck) [(7,1),(54,17)] (fun s=>s.1<=t.ao.length/\gD s.2/\s.2.aa=t/\s.2.aR.length=s.1/\gN s.2 s.1 (t.ao.length-s.1)=jh t) (fun s=>[(7,rI s.1)]) (fun s=>⟨[],nT s.2++[(10,.var 30 (lW t)),(11,.var 32 [.raw (.slice none 0 0),.raw (.slice none 0 0),.raw (.slice none 0 0),.raw (.slice none 0 0),.raw (.slice none 0 0),.raw (.slice none 0 0)])]⟩) (fun s=>t.ao.length-s.1) (0,ji (jY t)) ⟨Nat.zero_le _,XQ,eh.aa,by rw[eh.aR];rfl,rfl⟩ (dK jW bU) ?_;rintro⟨i,q⟩ ⟨hi,hq,YR,hqz,hA⟩ Kr2 YB;simp only at hi hq YR hqz hA
  (refine S ?_;try exact jI)
  by_cases Wj:i<t.ao.length/\q.e=0
  ·obtain⟨VN,WB⟩:=Wj;rw[show t.ao.length-i=(t.ao.length-(i+1))+1 from jB,gN,if_pos WB]at hA;have hkf:i<q.aa.ao.length:=by rw[YR];exact VN
   have Xw:=Mq q i hq hkf jB;obtain⟨f1,f2,f3⟩:=AU hq hkf jB
   (have W:=WB;repeat' (first|refine ar fun K hK=>?_|refine av ?_|(refine hK _ _ ?_;clear hK K)|(refine au ?_ ?_<;>intro hc<;>try exact jz)|refine cm (Xw) ?_|refine aq ?_|exact jI|(clear hK K)))
   refine YB _ _ (dT (i+1,gT q i) ⟨jJ,f1,f2.trans YR,jJ,hA⟩ jJ jW bU)
  ·have hz:q=jh t:=by
    rw[<-hA];by_cases VN:i<t.ao.length
    ·rw[show t.ao.length-i=(t.ao.length-(i+1))+1 from jB,gN,if_neg fun e=>Wj ⟨VN,e⟩]
    ·rw[show t.ao.length-i=0 from jB,gN]
   by_cases he:q.e=0
   ·have hr:iE t=(q.prog,0,0):=by unfold iE;rw[<-hz,if_neg (fun h=>h he)]
    have O':¬i<t.ao.length:=fun h=>Wj ⟨h,he⟩
    (have W:=he;repeat' (first|refine ar fun K hK=>?_|refine av ?_|(refine hK _ _ ?_;clear hK K)|(refine au ?_ ?_<;>intro hc<;>try exact jz)|(refine Zg _ _ ?_)|refine aq ?_|exact jI|(clear hK K)))
    rw[hr];refine fy [.cell 2 32,.tmp 3,.tmp 4] ?_;refine bD.ba (ds:=[.agg (cY q.prog),rI 0,rI 0]) ?_;refine jA (bD.agg (ds:=cY q.prog) ?_) (jA (.same _ rfl) (jA (.same _ rfl) trivial));simp only[cY,Ck.prog];exact iQ
   ·have hr:iE t=(lA,q.at_,q.e):=by unfold iE;rw[<-hz,if_pos he]
    (have W:=he;repeat' (first|refine ar fun K hK=>?_|refine av ?_|(with_reducible refine gR 14 ?_);refine dA 14 [11] (bf 0 12) mixed ?_|(refine hK _ _ ?_;clear hK K)|(refine au ?_ ?_<;>intro hc<;>try exact jz)|(refine Zg _ _ ?_)|refine aq ?_|exact jI|(clear hK K)))
    rw[hr];refine fy [.cell 2 32,.tmp 3,.tmp 4] ?_;refine bD.ba (ds:=[.agg (cY lA),rI _,rI _]) ?_;refine jA (bD.agg (ds:=cY lA) ?_) (jA (.same _ rfl) (jA (.same _ rfl) trivial));simp only[cY,lA];exact iQ
end Go.Proofs.YtjpcgmjaipfgdaaGreatDoor
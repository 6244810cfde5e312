/- Lemmas. No conditions. -/
import Derived.Test.YtijdhbokcdpklaaGreatDoorP2
import Derived.Test.YtijdhbokcdpklaaGreatDoorShelf
set_option linter.all false
set_option maxHeartbeats 8000000
set_option maxRecDepth 10000
namespace Go.Gd
open Go
def Kt{P:UY}{f:FuncId}{args:UM}{r:AV}(cO:UW)(v:Value)(ha:args=cO.map .raw)(hr:∀w:NW,ax w r v)(h:∀w:World,Calls P f cO.toArray w fun e w'=>e=.returned v/\RowKit.Below w.heap.size w w'):aB P f args r:=by
 intro w vs h1 h2;have Xp:vs=cO.toArray:=by
  apply Array.ext';apply List.ext_getElem?;intro i;obtain⟨hl,hv⟩:=h2;subst ha;by_cases hi:i<cO.length
  ·have VE:i<vs.size:=by rw[<-hl];simpa using hi
   have:=df (hv i (.raw cO[i]) vs[i] (by simp[hi]) (by simp[VE]));simp[hi,VE,this]
  ·have VE:¬i<vs.size:=by rw[<-hl];simpa using hi
   rw[List.getElem?_eq_none (by simpa using VE),List.getElem?_eq_none (by simpa using hi)]
 subst Xp;refine(h w.toWorld).mono ?_;rintro e W ⟨rfl,hb⟩;have ex:Ext w (entry []) (w.to W) (entry []):={ size:=hb.size,free:=fun b VQ hO=>⟨hb.block b VQ,hO⟩,names:=fun _ _ _ _ h=>h,os:=hb.os,tape:=hb.tape,output:=hb.output,rest:=fun b VQ hO U8=>⟨hb.block b VQ,hO,U8⟩,base:=rfl };refine⟨v,r,entry [],w.to W,rfl,rfl,⟨rfl,rfl⟩,{ rows:=fun i row hi=>(by cases hi),di:=h1.di,inj:=h1.inj,own:=h1.own,cd:=h1.cd.aY ex.toKeep,fin:=fun b VQ=>Nat.lt_of_lt_of_le (h1.fin b VQ) hb.size },hr _,ex.pU⟩
variable{H:Hp}{t:US}{cs:UM}
def AN{w:NW}(r:aJ w H){j:Nat}{cs':UM}(hj:H.get j=some (.var t cs))(hl:cs'.length=cs.length)(h:∀(k:Nat) a a' v,cs[k]?=some a->cs'[k]?=some a'->ax w a v->ax w a' v):aJ w (H.put j (.var t cs'))/\Ext w H w (H.put j (.var t cs')):=by
 have ex:Ext w H w (H.put j (.var t cs')):={ ExtQ.refl _ w with base:=rfl };refine⟨{ rows:=fun i s hi=>?_,di:=fun i m z hz=>?_,inj:=r.inj,own:=r.own,fin:=r.fin,cd:=r.cd.aY ex.toKeep },ex⟩
 ·rw[Hp.bk]at hi;split at hi
  ·rename_i e;subst e;cases hi;obtain⟨h1,z,h2,h3⟩:=r.rows _ _ hj;refine⟨trivial,z,h2,?_⟩;cases z with
   |nil=>obtain⟨e,sz,h4⟩:=h3;cases h4
   |«at» b u s=>
    obtain⟨g1,cur,g2,⟨g3,g4⟩,g5⟩:=h3;refine⟨g1,cur,g2,⟨g3,by show cs'.length<=u;rw[hl];exact g4⟩,fun k a v ha hv=>?_⟩;have ha:cs'[k]?=some a:=ha;have hk:k<cs.length:=by rw[<-hl];exact(List.getElem?_eq_some_iff.1 ha).1
    exact h k cs[k] a v (List.getElem?_eq_getElem hk) ha (g5 k cs[k] v (List.getElem?_eq_getElem hk) hv)
  ·exact r.rows i s hi
 ·obtain⟨s,h1,h2⟩:=r.di i m z hz;rw[Hp.bk];split
  ·rename_i e;subst e;rw[hj]at h1;cases h1;exact⟨_,rfl,h2⟩
  ·exact⟨s,h1,h2⟩
variable{F:UM}
def dT.gl(i j k:Nat)(e:US)(sz:Nat)(hi:H.get i=none)(h0:0<sz)(hj:H.get j=some (.var t cs))(hk:cs[k]?=some (.raw (.slice none 0 0))):dT F H F ((H.put i (.aG e sz [])).put j (.var t (cs.set k (.rs i 0 sz 0)))):=fun w tm h1 h2=>by
 obtain⟨a,b⟩:=wP h1 hi e h0;have hij:j≠i:=fun e=>by subst e;rw[hi]at hj;cases hj
 obtain⟨a',b'⟩:=AN (cs':=cs.set k (.rs i 0 sz 0)) a (j:=j) (t:=t) (cs:=cs) (by rw[Hp.bk,if_neg hij];exact hj) jE fun n x x' v hx Vx hv=>by
  rw[List.getElem?_set]at Vx;by_cases hn:k=n
  ·subst hn;rw[if_pos rfl]at Vx;split at Vx
   ·cases Vx;rw[hk]at hx;cases hx;cases hv;exact .iN _ _ _ _ (NW.cA _ _ _ _)
   ·cases Vx
  ·rw[if_neg hn,hx]at Vx;cases Vx;exact hv
 exact⟨w.name i 0 .nil,rfl,a',h2.ext b,(b.trans b').pU⟩
def dT.tL(j k:Nat)(hj:H.get j=some (.var t cs)):dT F H F (H.put j (.var t (cs.set k .any))):=fun w tm h1 h2=>by
 obtain⟨a',b'⟩:=AN (cs':=cs.set k .any) h1 (j:=j) (t:=t) (cs:=cs) hj jE fun n x x' v hx Vx hv=>by
  rw[List.getElem?_set]at Vx;by_cases hn:k=n
  ·subst hn;rw[if_pos rfl]at Vx;split at Vx
   ·cases Vx;exact .any _
   ·cases Vx
  ·rw[if_neg hn]at Vx;rw[hx]at Vx;cases Vx;exact hv
 exact⟨w,rfl,a',h2,b'.pU⟩
def JT{P:UY}{id:Nat}{l:List Oper}{b:Bool}{Q:Exit->UI}{q:Prop}(j k:Nat){i m sz n:Nat}(h:q)(hj:H.get j=some (.var t cs):=by rfl)(hc:cs[k]?=some (.rs i m sz n):=by rfl)(e:dH P (.region id l.toArray b) Q F (H.put j (.var t (cs.set k .any)))=q:=by first|(simp only[go_sem];rfl)|rfl):dH P (.region id l.toArray b) Q F H:=jW (dT.tL j k hj) (e ▸ h)
end Go.Gd
namespace Go.Proofs.YtijdhbokcdpklaaGreatDoor
open Go Go.Gd Tryz
def Bq(s:UR)(k:Nat):eT s k=((s.data.toList.getD k 0).toNat:Int):=by unfold eT;simp
def kF:List UInt8->Nat->Nat
 |[],a=>a
 |c::l,a=>kF l (a*10+(c.toNat-48))
theorem Jn:∀(l:List UInt8) (a:Nat),a<=kF l a
 |[],a=>Nat.le_refl _
 |c::l,a=>Nat.le_trans jB (Jn l _)
theorem Gq:∀(l:List UInt8) (a:Nat),(∀c∈l,48<=c.toNat/\c.toNat<=57)->kF l a<=9223372036854775807->Lib.parseUint10 a l=.ok (kF l a)
 |[],a,_,_=>rfl
 |c::l,a,h,hm=>by have hc:=h c jE;have h1:=Jn l (a*10+(c.toNat-48));simp only[kF]at hm ⊢;unfold Lib.parseUint10;rw[if_pos hc,jN,jN];exact Gq l _ (fun x hx=>h x (by simp[hx])) hm
theorem Hw:∀(l:List UInt8) (c:UInt8) (a:Nat),kF (l++[c]) a=kF l a*10+(c.toNat-48)
 |[],_,_=>rfl
 |_::l,c,_=>Hw l c _
theorem Cg:∀(l:List UInt8) (a:Nat),(∀c∈l,48<=c.toNat/\c.toNat<=57)->kF l a+1<=(a+1)*10 ^ l.length
 |[],a,_=>by simp[kF]
 |c::l,a,h=>by have hc:=h c jE;have ih:=Cg l (a*10+(c.toNat-48)) (fun x hx=>h x (by simp[hx]));simp only[kF,List.length_cons,Nat.pow_succ];refine Nat.le_trans ih ?_;rw[Nat.mul_comm (10 ^ l.length) 10,<-Nat.mul_assoc];exact Nat.mul_le_mul_right _ jB
theorem F2:∀(l:List UInt8) (a:Nat),a*10 ^ l.length<=kF l a
 |[],a=>by simp[kF]
 |c::l,a=>by have ih:=F2 l (a*10+(c.toNat-48));simp only[kF,List.length_cons,Nat.pow_succ];refine Nat.le_trans ?_ ih;rw[Nat.mul_comm (10 ^ l.length) 10,<-Nat.mul_assoc];exact Nat.mul_le_mul_right _ jB
theorem EP:∀(l m:List UInt8) (a:Nat),l.length=m.length->(∀c∈l,48<=c.toNat/\c.toNat<=57)->(∀c∈m,48<=c.toNat/\c.toNat<=57)->Op.bytesLess l m=true->kF l a<kF m a
 |[],[],_,_,_,_,h=>by simp[Op.bytesLess]at h
 |[],_::_,_,hl,_,_,_=>by simp at hl
 |_::_,[],_,hl,_,_,_=>by simp at hl
 |x::l,y::m,a,hl,h1,h2,h=>by
  have hx:=h1 x jE;have hy:=h2 y jE;simp only[Op.bytesLess,Bool.or_eq_true,decide_eq_true_eq,Bool.and_eq_true,beq_iff_eq]at h;simp only[kF];rcases h with h|⟨rfl,h⟩
  ·have h:x.toNat<y.toNat:=h;have e1:=Cg l (a*10+(x.toNat-48)) (fun c hc=>h1 c (by simp[hc]));have e2:=F2 m (a*10+(y.toNat-48));have e3:(a*10+(x.toNat-48)+1)*10 ^ l.length<=(a*10+(y.toNat-48))*10 ^ m.length:=by
    rw[show l.length=m.length by simpa using hl];exact Nat.mul_le_mul_right _ jB
   omega
  ·exact EP l m _ (by simpa using hl) (fun c hc=>h1 c (by simp[hc])) (fun c hc=>h2 c (by simp[hc])) h
theorem AT(s:UR)(hd:∀j,j<s.size->j8 (eT s j)=true):∀k,k<=s.size->xl s k=(kF (s.data.toList.take k) 0:Nat)
 |0,_=>by simp[xl,kF]
 |k+1,hk=>by
  have Vk:k<s.data.toList.length:=by simp;omega
  have h1:=hd k jB;simp only[j8,Bool.and_eq_true,decide_eq_true_eq]at h1;rw[Bq]at h1;rw[xl,AT s hd k jB,List.take_succ_eq_append_getElem Vk,Hw,Bq];have:s.data.toList.getD k 0=s.data.toList[k]:=by rw[List.getD_eq_getElem?_getD,List.getElem?_eq_getElem Vk];rfl
  rw[this]at h1 ⊢;omega
variable{s:UR}
def HW(h:sn s):∀c∈s.data.toList,48<=c.toNat/\c.toNat<=57:=fun c hc=>by obtain⟨k,hk,rfl⟩:=List.getElem_of_mem hc;have:=h.2.2 k (by simpa using hk);simp only[j8,Bool.and_eq_true,decide_eq_true_eq]at this;rw[Bq,List.getD_eq_getElem?_getD,List.getElem?_eq_getElem hk]at this;simp only[Option.getD_some]at this;omega
def HP(h:sn s):kF s.data.toList 0<=9223372036854775807:=by
 have hd:=HW h;have hn:=h.2.1;have hl:=Cg s.data.toList 0 hd;have O':s.data.toList.length=s.size:=jE;unfold xO at hn;simp only[Bool.or_eq_true,decide_eq_true_eq,Bool.and_eq_true]at hn;rcases hn with hn|⟨hn,h2|h2⟩
 ·have:10 ^ s.data.toList.length<=10 ^ 18:=Nat.pow_le_pow_right jB (by rw[O'];omega);simp only[Nat.zero_add,Nat.one_mul]at hl;omega
 ·have e:s.toList=s.data.toList:=ByteArray.toList_eq s;have:=EP s.data.toList [57,50,50,51,51,55,50,48,51,54,56,53,52,55,55,53,56,48,55] 0 (by rw[O'];simp;omega) hd jC (by rw[<-e,show[57,50,50,51,51,55,50,48,51,54,56,53,52,55,55,53,56,48,55]=(⟨#[57,50,50,51,51,55,50,48,51,54,56,53,52,55,55,53,56,48,55]⟩:UR).toList by rw[ByteArray.toList_eq]];exact h2);have e2:kF [57,50,50,51,51,55,50,48,51,54,56,53,52,55,55,53,56,48,55] 0=9223372036854775807:=jC;omega
 ·subst h2;decide
def OX(h:sn s):Lib.atoiAll s.data.toList=.ok (qf s):=by
 have hd:=HW h;have U6:=HP h;have Zt:qf s=(kF s.data.toList 0:Nat):=by unfold qf;rw[AT s h.2.2 _ jl,List.take_of_length_le jE]
 have hp:=Gq s.data.toList 0 hd U6;have Wg:=h.1;cases hs:s.data.toList with
 |nil=> have:s.data.toList.length=s.size:=jE;rw[hs]at this;simp at this;omega
 |cons c l=> rw[hs]at hd hp Zt U6;have hc:=hd c jE;simp only[Lib.atoiAll];rw[jN];simp only[Lib.parseMag,List.cons_ne_nil,if_false,hp,reduceCtorEq];rw[jN,jN,jN,Zt]
def Lm(s:UR)(h:sn s):aB prog 183 [rS s] (.aQ [rI (qf s),.raw .nilIface]):=by
 have hs:s.size<=9223372036854775806:=by have hn:=h.2.1;unfold xO at hn;simp only[Bool.or_eq_true,decide_eq_true_eq,Bool.and_eq_true]at hn;omega
 refine Kt [.string s] (.tuple #[.int .i64 (qf s),.nilIface]) rfl (fun w=>?_) fun w=>?_
 ·exact .aQ _ _ rfl fun i a v ha hv=>by
   match i with
   |0=>simp at ha hv;subst ha hv;exact .raw _
   |1=>simp at ha hv;subst ha hv;exact .raw _
   |i+2=>simp at ha
 ·refine(Tryz.strconv_Atoi_ok s hs (qf s) (OX h) w).mono ?_;rintro e W ⟨rfl,hW⟩;refine⟨rfl,?_⟩;rcases hW with rfl|⟨t,rfl⟩
  ·exact RowKit.Below.refl _ _
  ·exact Lib.bytesWorld_below _ _ _
def Rc(n:Nat)(hc:yD n):DL (n+1):=by
 intro r h hn;have WA:=h.lt;have hip:=h.pos;have V3:=h.len;have hin':(r.l.length:Int)<=2000:=jB;have U3:∀q:Rd,q.Inv->8*q.rem+8<=n->ab prog 116 [pR] (cF q) (fun v l=>v=rI (dV n 0 q).2/\l=cF (dV n 0 q).1):=fun q hq hm=>by
  have:=hc 0 q jB hq jB;refine aO func116 ntmps116 ?_;refine S ?_
  (repeat' (first|refine aq fun K hK=>?_|refine ak ?_|(refine hK _ _ ?_;clear hK K)|(refine ao ?_ ?_<;>intro hc<;>try exact jz)|refine cm (this) ?_|refine ap ?_|exact jI|(clear hK K)))
  (refine bY [.tmp 2] ?_ ?_<;>(try simp only[go_sem]))
 have deeper:∀(q:Rd) (t u:UR),q.Inv->q.e=0->q.down.Inv/\(q.down.av t).Inv/\(dV n 0 (q.down.av t)).1.Inv/\((dV n 0 (q.down.av t)).1.av u).Inv/\((dV n 0 (q.down.av t)).1.av u).up.Inv/\(q.down.av t).rem<=q.rem:=fun q t u hq he=>by have h1:=(Rd.bO hq he).1;have s1:=Rd.aK h1 t;have h2:=s1.inv h1;have s2:=(td n).2.2.1 0 _ h2;have h3:=s2.inv h2;have s3:=Rd.aK h3 u;refine⟨h1,h2,h3,s3.inv h3,(Rd.fC hq he ((s1.trans s2).trans s3)).inv hq,Nat.le_trans s1.rem ?_⟩;have hd:=Rd.bO hq he;unfold Rd.rem;rw[if_pos he,hd.2.2.1,hd.2.2.2.1];split<;>omega
 rw[qK];by_cases he:r.e≠0
 ·rw[if_pos he];refine aO func174 ntmps174 ?_;refine S ?_
  (repeat' (first|refine aq fun K hK=>?_|refine ak ?_|(with_reducible refine gR 2 ?_);refine dE 2 (ba 0 12) mixed ?_|(refine hK _ _ ?_;clear hK K)|(refine ao ?_ ?_<;>intro hc<;>try exact jz)|refine cm (ir r (bz h)) ?_|refine ap ?_|exact jI|(clear hK K)))
  (refine aW [.tmp 2] ?_;try simp only[go_sem])
 rw[if_neg he];have he:r.e=0:=jB;have Xi:r.tok.kind≠0->r.inc.Inv/\r.inc.rem+1<=r.rem/\r.i+1<r.l.length:=fun hk=>⟨(Rd.br h hk).1.inv h,Rd.dc h ⟨he,hk⟩,Rd.behind h hk⟩
 by_cases Vr:r.tok.kind=1
 ·rw[if_pos Vr];obtain⟨hi,_,hb⟩:=Xi jB;have hnt:=h.num r.i.toNat jB Vr;have W5:(nth r.l r.i.toNat).kind=1:=Vr;refine aO func174 ntmps174 ?_;refine S ?_
  (have W:=jA he (W5);repeat' (first|refine aq fun K hK=>?_|refine ak ?_|(with_reducible refine gR 2 ?_);refine dE 2 (ba 0 12) mixed ?_|(refine hK _ _ ?_;clear hK K)|(refine ao ?_ ?_<;>intro hc<;>try exact jz)|refine cm (ir r (bz h)) ?_|refine cp (Lm _ hnt) ?_|refine cm (k8 r.inc _ _ _ _ [] _ gM.nil (bz hi)) ?_|refine ap ?_|exact jI|(clear hK K)))
  (refine aW [.tmp 2] ?_;try simp only[go_sem])
  all_goals rfl
 rw[if_neg Vr];have W5:¬(nth r.l r.i.toNat).kind=1:=Vr;by_cases Vc:r.tok.kind=2
 ·rw[if_pos Vc];obtain⟨hi,_,hb⟩:=Xi jB;have XF:(nth r.l r.i.toNat).kind=2:=Vc;refine aO func174 ntmps174 ?_;refine S ?_
  (have W:=jA he (XF);repeat' (first|refine aq fun K hK=>?_|refine ak ?_|(with_reducible refine gR 2 ?_);refine dE 2 (ba 0 12) mixed ?_|(refine hK _ _ ?_;clear hK K)|(refine ao ?_ ?_<;>intro hc<;>try exact jz)|refine cm (ir r (bz h)) ?_|refine cm (k8 r.inc _ _ _ _ [] _ gM.nil (bz hi)) ?_|refine ap ?_|exact jI|(clear hK K)))
  (refine aW [.tmp 2] ?_;try simp only[go_sem])
  all_goals rfl
 rw[if_neg Vc];have XF:¬(nth r.l r.i.toNat).kind=2:=Vc;by_cases Ya:r.tok.kind=3
 ·rw[if_pos Ya];obtain⟨hi,hr,hb⟩:=Xi jB;have Xu:(nth r.l r.i.toNat).kind=3:=Ya;by_cases hx:r.inc.is (⟨#[91]⟩:UR)=true
  ·rw[if_pos hx];obtain⟨d1,d2,d3,d4,d5,d6⟩:=deeper r.inc (⟨#[91]⟩:UR) (⟨#[93]⟩:UR) hi he;have d4l:=d4.pn;have d4h:=d4.pJ;refine aO func174 ntmps174 ?_;refine S ?_
   (have W:=jA he (jA Xu (hx));repeat' (first|refine aq fun K hK=>?_|refine ak ?_|(with_reducible refine gR 2 ?_);refine dE 2 (ba 0 12) mixed ?_|(refine hK _ _ ?_;clear hK K)|(refine ao ?_ ?_<;>intro hc<;>try exact jz)|refine cm (ir r (bz h)) ?_|refine cm (gC r.inc _ (bz hi)) ?_|refine cm (uN r.inc (bz hi)) ?_|refine cm (iY r.inc.down _ (bz d1)) ?_|refine cm (U3 (r.inc.down.av (⟨#[91]⟩:UR)) d2 jB) ?_|refine cm (iY (dV n 0 (r.inc.down.av (⟨#[91]⟩:UR))).1 _ (bz d3)) ?_|refine cm (k8 ((dV n 0 (r.inc.down.av (⟨#[91]⟩:UR))).1.av (⟨#[93]⟩:UR)).up _ _ _ _ [(dV n 0 (r.inc.down.av (⟨#[91]⟩:UR))).2] _ gM.sl (bz d5)) ?_|refine ap ?_|exact jI|(clear hK K)))
   (refine aW [.tmp 2] ?_;try simp only[go_sem])
   all_goals rfl
  ·rw[if_neg hx];have Vx:r.inc.is (⟨#[91]⟩:UR)=false:=by simpa using hx
   refine aO func174 ntmps174 ?_;refine S ?_
   (have W:=jA he (jA Xu (Vx));repeat' (first|refine aq fun K hK=>?_|refine ak ?_|(with_reducible refine gR 2 ?_);refine dE 2 (ba 0 12) mixed ?_|(refine hK _ _ ?_;clear hK K)|(refine ao ?_ ?_<;>intro hc<;>try exact jz)|refine cm (ir r (bz h)) ?_|refine cm (gC r.inc _ (bz hi)) ?_|refine cm (k8 r.inc _ _ _ _ [] _ gM.nil (bz hi)) ?_|refine ap ?_|exact jI|(clear hK K)))
   (refine aW [.tmp 2] ?_;try simp only[go_sem])
   all_goals rfl
 rw[if_neg Ya];have Xu:¬(nth r.l r.i.toNat).kind=3:=Ya;by_cases ht:r.is (⟨#[116,114,117,101]⟩:UR)=true
 ·rw[if_pos ht];obtain⟨hi,hr,hb⟩:=Xi (Rd.bc ht).2;refine aO func174 ntmps174 ?_;refine S ?_
  (have W:=jA he (jA ht (jA W5 (jA XF (Xu))));repeat' (first|refine aq fun K hK=>?_|refine ak ?_|(with_reducible refine gR 2 ?_);refine dE 2 (ba 0 12) mixed ?_|(refine hK _ _ ?_;clear hK K)|(refine ao ?_ ?_<;>intro hc<;>try exact jz)|refine cm (ir r (bz h)) ?_|refine cm (gC r _ (bz h)) ?_|refine cm (k8 r.inc _ _ _ _ [] _ gM.nil (bz hi)) ?_|refine ap ?_|exact jI|(clear hK K)))
  (refine aW [.tmp 2] ?_;try simp only[go_sem])
 rw[if_neg ht];have Yj:r.is (⟨#[116,114,117,101]⟩:UR)=false:=by simpa using ht
 by_cases hf:r.is (⟨#[102,97,108,115,101]⟩:UR)=true
 ·rw[if_pos hf];obtain⟨hi,hr,hb⟩:=Xi (Rd.bc hf).2;refine aO func174 ntmps174 ?_;refine S ?_
  (have W:=jA he (jA Yj (jA hf (jA W5 (jA XF (Xu)))));repeat' (first|refine aq fun K hK=>?_|refine ak ?_|(with_reducible refine gR 2 ?_);refine dE 2 (ba 0 12) mixed ?_|(refine hK _ _ ?_;clear hK K)|(refine ao ?_ ?_<;>intro hc<;>try exact jz)|refine cm (ir r (bz h)) ?_|refine cm (gC r _ (bz h)) ?_|refine cm (k8 r.inc _ _ _ _ [] _ gM.nil (bz hi)) ?_|refine ap ?_|exact jI|(clear hK K)))
  (refine aW [.tmp 2] ?_;try simp only[go_sem])
 rw[if_neg hf];have ZO:r.is (⟨#[102,97,108,115,101]⟩:UR)=false:=by simpa using hf
 by_cases hl:r.is (⟨#[108,101,110]⟩:UR)=true
 ·rw[if_pos hl];obtain⟨hi,hr,hb⟩:=Xi (Rd.bc hl).2;by_cases hx:r.inc.is (⟨#[40]⟩:UR)=true
  ·rw[if_pos hx];obtain⟨d1,d2,d3,d4,d5,d6⟩:=deeper r.inc (⟨#[40]⟩:UR) (⟨#[41]⟩:UR) hi he;have d4l:=d4.pn;have d4h:=d4.pJ;refine aO func174 ntmps174 ?_;refine S ?_
   (have W:=jA he (jA Yj (jA ZO (jA hl (jA W5 (jA XF (jA Xu (hx)))))));repeat' (first|refine aq fun K hK=>?_|refine ak ?_|(with_reducible refine gR 2 ?_);refine dE 2 (ba 0 12) mixed ?_|(refine hK _ _ ?_;clear hK K)|(refine ao ?_ ?_<;>intro hc<;>try exact jz)|refine cm (ir r (bz h)) ?_|refine cm (gC r _ (bz h)) ?_|refine cm (gC r.inc _ (bz hi)) ?_|refine cm (uN r.inc (bz hi)) ?_|refine cm (iY r.inc.down _ (bz d1)) ?_|refine cm (U3 (r.inc.down.av (⟨#[40]⟩:UR)) d2 jB) ?_|refine cm (iY (dV n 0 (r.inc.down.av (⟨#[40]⟩:UR))).1 _ (bz d3)) ?_|refine cm (k8 ((dV n 0 (r.inc.down.av (⟨#[40]⟩:UR))).1.av (⟨#[41]⟩:UR)).up _ _ _ _ [(dV n 0 (r.inc.down.av (⟨#[40]⟩:UR))).2] _ gM.sl (bz d5)) ?_|refine ap ?_|exact jI|(clear hK K)))
   (refine aW [.tmp 2] ?_;try simp only[go_sem])
  ·rw[if_neg hx];have Vx:r.inc.is (⟨#[40]⟩:UR)=false:=by simpa using hx
   refine aO func174 ntmps174 ?_;refine S ?_
   (have W:=jA he (jA Yj (jA ZO (jA hl (jA W5 (jA XF (jA Xu (Vx)))))));repeat' (first|refine aq fun K hK=>?_|refine ak ?_|(with_reducible refine gR 2 ?_);refine dE 2 (ba 0 12) mixed ?_|(refine hK _ _ ?_;clear hK K)|(refine ao ?_ ?_<;>intro hc<;>try exact jz)|refine cm (ir r (bz h)) ?_|refine cm (gC r _ (bz h)) ?_|refine cm (gC r.inc _ (bz hi)) ?_|refine cm (uL r.inc _ (bz hi)) ?_|refine ap ?_|exact jI|(clear hK K)))
   (refine aW [.tmp 2] ?_;try simp only[go_sem])
 rw[if_neg hl];have Wk:r.is (⟨#[108,101,110]⟩:UR)=false:=by simpa using hl
 by_cases hx:r.is (⟨#[40]⟩:UR)=true
 ·rw[if_pos hx];obtain⟨hi,hr,hb⟩:=Xi (Rd.bc hx).2;obtain⟨d1,d2,d3,d4,d5,d6⟩:=deeper r (⟨#[40]⟩:UR) (⟨#[41]⟩:UR) h he;have d4l:=d4.pn;have d4h:=d4.pJ;have d7:(r.down.av (⟨#[40]⟩:UR)).rem+1<=r.rem:=by
   have hdn:=Rd.bO h he;unfold Rd.rem;rw[if_pos he];have Ve:(r.down.av (⟨#[40]⟩:UR)).l=r.l:=(Rd.aK d1 _).l.trans hdn.2.2.2.1;rw[Ve];by_cases hq:r.down.is (⟨#[40]⟩:UR)=true
   ·have:r.down.av (⟨#[40]⟩:UR)=r.down.inc:=by unfold Rd.av;rw[if_pos hq]
    rw[this];have:r.down.inc.i=r.i+1:=by show r.down.i+1=_;rw[hdn.2.2.1]
    rw[this];split<;>omega
   ·have hm:r.down.av (⟨#[40]⟩:UR)=r.down.aE 20:=by unfold Rd.av;rw[if_neg hq]
    rw[hm];have:(r.down.aE 20).e≠0:=by
     unfold Rd.aE;split
     ·show(20:Int)≠0;decide
     ·assumption
    rw[if_neg this];omega
  refine aO func174 ntmps174 ?_;refine S ?_
  (have W:=jA he (jA Yj (jA ZO (jA Wk (jA W5 (jA XF (jA Xu (hx)))))));repeat' (first|refine aq fun K hK=>?_|refine ak ?_|(with_reducible refine gR 2 ?_);refine dE 2 (ba 0 12) mixed ?_|(refine hK _ _ ?_;clear hK K)|(refine ao ?_ ?_<;>intro hc<;>try exact jz)|refine cm (ir r (bz h)) ?_|refine cm (gC r _ (bz h)) ?_|refine cm (uN r (bz h)) ?_|refine cm (iY r.down _ (bz d1)) ?_|refine cm (U3 (r.down.av (⟨#[40]⟩:UR)) d2 jB) ?_|refine cm (iY (dV n 0 (r.down.av (⟨#[40]⟩:UR))).1 _ (bz d3)) ?_|refine ap ?_|exact jI|(clear hK K)))
  (refine aW [.tmp 2] ?_;try simp only[go_sem])
 rw[if_neg hx];have Vx:r.is (⟨#[40]⟩:UR)=false:=by simpa using hx
 refine aO func174 ntmps174 ?_;refine S ?_
 (have W:=jA he (jA Yj (jA ZO (jA Wk (jA W5 (jA XF (jA Xu (Vx)))))));repeat' (first|refine aq fun K hK=>?_|refine ak ?_|(with_reducible refine gR 2 ?_);refine dE 2 (ba 0 12) mixed ?_|(refine hK _ _ ?_;clear hK K)|(refine ao ?_ ?_<;>intro hc<;>try exact jz)|refine cm (ir r (bz h)) ?_|refine cm (gC r _ (bz h)) ?_|refine cm (uL r _ (bz h)) ?_|refine ap ?_|exact jI|(clear hK K)))
 (refine aW [.tmp 2] ?_;try simp only[go_sem])
theorem Dv:∀m n,n<=m->DL n/\zi n/\yD n
 |0,0,_=>⟨fun r h hn=>by omega,fun r h hn=>by omega,fun lv r hl h hn=>by omega⟩
 |m+1,0,_=>⟨fun r h hn=>jB,fun r h hn=>jB,fun lv r hl h hn=>jB⟩
 |m+1,n+1,hm=>by obtain⟨ha,hf,hc⟩:=Dv m n jB;exact⟨Rc n hc,OS n ha hf,Oy n hf fun k hk=>(Dv m k jB).2.2⟩
def OG(n:Nat)(r:Rd)(h:r.Inv)(hn:8*r.rem+8<=n):ab prog 116 [pR] (cF r) (fun v l=>v=rI (dV n 0 r).2/\l=cF (dV n 0 r).1):=by
 have:=(Dv n n jl).2.2 0 r jB h jB;refine aO func116 ntmps116 ?_;refine S ?_
 (repeat' (first|refine aq fun K hK=>?_|refine ak ?_|(refine hK _ _ ?_;clear hK K)|(refine ao ?_ ?_<;>intro hc<;>try exact jz)|refine cm (this) ?_|refine ap ?_|exact jI|(clear hK K)))
 (refine bY [.tmp 2] ?_ ?_<;>(try simp only[go_sem]))
variable{r:Rd}
def qN(h:r.Inv):ab prog 116 [pR] (cF r) (fun v l=>v=rI (de r).2/\l=cF (de r).1):=OG _ r h jl
def GV(h:r.Inv):ab prog 137 [pR] (cF r) (fun v l=>v=rI (mW r).2/\l=cF (mW r).1):=by
 have h1:=(Rd.dv h).inv h;have h2:=(Ax h).inv h;have h3:=(Dz h).inv h;have h4:=(Ux h).inv h;have Z4:(pv r).rem<=2000:=by have:=h2.pos;have:=h2.len;unfold Rd.rem;split<;>omega
 have hm:ab prog 68 [pR,rS (⟨#[40]⟩:UR)] (cF r.name.1) (fun v l=>v=.aQ []/\l=cF (pv r)):=iY r.name.1 _ (bz h1);refine aO func137 ntmps137 ?_;refine S ?_
 (repeat' (first|refine aq fun K hK=>?_|refine ak ?_|(refine hK _ _ ?_;clear hK K)|(refine ao ?_ ?_<;>intro hc<;>try exact jz)|refine cm (ir r (bz h)) ?_|refine cm (wk r (bz h)) ?_|refine cm (hm) ?_|refine cm (gC (pv r) _ (bz h2)) ?_|refine ap ?_|exact jI|(clear hK K)))
 have Vb:=hK;clear hK;refine jW (dT.nil 2 5 3 (sz:=1) rfl jC (Or.inr ⟨_,_,_,rfl,rfl⟩)) ?_
 (refine S ?_;try exact jI)
 refine ee (S:=Nat×Bool×Rd×UP) [(5,1),(7,2),(27,17)] (fun s=>s.2.2.1.Inv/\(s.2.1=true->s.2.2.1.rem+2<=s.1)/\1<=s.1/\s.2.2.2.length+s.1<=5000/\nJ s.1 s.2.1 s.2.2.1 s.2.2.2=nY r) (fun s=>[(5,.rs 2 s.2.2.2.length 1 s.2.2.2.length),(7,rB s.2.1)]) (fun s=>⟨[0,1],cF s.2.2.1++[(2,.aG 3 1 (s.2.2.2.map eI))]⟩) (fun s=>s.1) ((pv r).rem+2,more (pv r),pv r,[]) ⟨h2,fun _=>Nat.le_refl _,jJ,by(try simp only[List.length_nil]);omega,rfl⟩ (dZ rfl (by simp only[go_sem,lc,Nat.reduceAdd,AV.raw.injEq,Value.int.injEq,Value.slice.injEq,Value.pointer.injEq,AV.rs.injEq,more,List.length_nil];try omega)) ?_;rintro⟨n,b,q,L⟩ ⟨hq,VR,Xa,X0,hA⟩ Kr U5;simp only at hq VR Xa X0 hA;have hqi:=hq.lt;have hqp:=hq.pos;have Zg:=hq.len;obtain⟨n,rfl⟩:∃k,n=k+1:=⟨n-1,jB⟩;cases b with
 |false=>
  rw[nJ]at hA;have e1:q=(nY r).1:=by rw[<-hA]
  have e2:L=(nY r).2:=by rw[<-hA]
  rw[<-e1]at h4;refine S ?_
  (repeat' (first|refine aq fun K hK=>?_|refine ak ?_|(refine hK _ _ ?_;clear hK K)|(refine ao ?_ ?_<;>intro hc<;>try exact jz)|refine ap ?_|exact jI|(clear hK K)))
  refine Vb _ _ ?_;refine KA [2] 5 (aM eI 1 L) Sd Sd jo ?_;refine S ?_
  (repeat' (first|refine aq fun K hK=>?_|refine ak ?_|(refine hK _ _ ?_;clear hK K)|(refine ao ?_ ?_<;>intro hc<;>try exact jz)|refine cm (iY q _ (bz hq)) ?_|refine cm (xB (q.av (⟨#[41]⟩:UR)) _ _ _ _ L (bz h4)) ?_|refine ap ?_|exact jI|(clear hK K)))
  (refine bY [.tmp 2] ?_ ?_<;>(try simp only[go_sem]))
  ·unfold mW;rw[<-e1,<-e2]
  ·unfold mW;rw[<-e1,<-e2]
 |true=>
  have s1:=j4 hq;have hx:=s1.inv hq;have Xh:=s1.rem;have hxi:=hx.lt;have hxp:=hx.pos;have Ze:=hx.len;have VR:=VR rfl;rw[nJ]at hA;refine S ?_
  (repeat' (first|refine aq fun K hK=>?_|refine ak ?_|(refine hK _ _ ?_;clear hK K)|(refine ao ?_ ?_<;>intro hc<;>try exact jz)|refine cm (qN hq) ?_|refine cm (gC (de q).1 _ (bz hx)) ?_|refine ap ?_|exact jI|(clear hK K)))
  ·rw[if_pos hc]at hA;have hk:=Rd.bc hc;have Xn:=Rd.dc hx hk;refine U5 _ _ (dY (n,true,(de q).1.inc,L++[(de q).2]) ⟨(Rd.br hx hk.2).1.inv hx,fun _=>jJ,jJ,by(try simp only[List.length_append,List.length_cons,List.length_nil]);omega,hA⟩ jJ (by simp only[go_sem,cF,iz,List.map_append,List.map_cons,List.map_nil,List.cons_append,List.nil_append];(try rfl)) (by simp only[go_sem,lc,Nat.reduceAdd,AV.raw.injEq,Value.int.injEq,Value.slice.injEq,Value.pointer.injEq,AV.rs.injEq,hc,List.length_append,List.length_cons,List.length_nil];try omega))
  ·rw[if_neg (by rw[hc];decide)]at hA;refine U5 _ _ (dY (n,false,(de q).1,L++[(de q).2]) ⟨hx,(by intro h;cases h),jJ,by(try simp only[List.length_append,List.length_cons,List.length_nil]);omega,?_⟩ jJ (by simp only[go_sem,cF,iz,List.map_append,List.map_cons,List.map_nil,List.cons_append,List.nil_append];(try rfl)) (by simp only[go_sem,lc,Nat.reduceAdd,AV.raw.injEq,Value.int.injEq,Value.slice.injEq,Value.pointer.injEq,AV.rs.injEq,hc,List.length_append,List.length_cons,List.length_nil];try omega));rw[<-hA];obtain⟨n,rfl⟩:∃k,n=k+1:=⟨n-1,jB⟩;rw[nJ]
def xZ(h:r.Inv):ab prog 136 [pR] (cF r) (fun v l=>v=rB r.calls/\l=cF r):=Lp r (bz h) (fun hk=>Rd.behind h (Rd.dL hk jC).2)
def Hb(h:r.Inv):ab prog 115 [pR] (cF r) (fun v l=>v=rI (lU r).2/\l=cF (lU r).1):=by
 have hri:=h.lt;have hrp:=h.pos;have WT:=h.len;have Xi:r.tok.kind≠0->r.inc.Inv:=fun hk=>(Rd.br h hk).1.inv h
 by_cases hx:r.is (⟨#[105,110,112,117,116]⟩:UR)=true
 ·have hi:=Xi (Rd.bc hx).2;rw[lU,if_pos hx];refine aO func115 ntmps115 ?_;refine S ?_
  (have W:=hx;repeat' (first|refine aq fun K hK=>?_|refine ak ?_|(refine hK _ _ ?_;clear hK K)|(refine ao ?_ ?_<;>intro hc<;>try exact jz)|refine cm (ir r (bz h)) ?_|refine cm (gC r _ (bz h)) ?_|refine cm (k8 r.inc _ _ _ _ [] _ gM.nil (bz hi)) ?_|refine ap ?_|exact jI|(clear hK K)))
  (refine bY [.tmp 2] ?_ ?_<;>(try simp only[go_sem]))
 rw[lU,if_neg hx];have Vx:r.is (⟨#[105,110,112,117,116]⟩:UR)=false:=by simpa using hx
 by_cases hy:r.is (⟨#[110,101,119]⟩:UR)=true
 ·have hi:=Xi (Rd.bc hy).2;have h1:=(Rd.aK hi (⟨#[40]⟩:UR)).inv hi;have h2:=(j4 h1).inv h1;have h3:=(Rd.aK h2 (⟨#[41]⟩:UR)).inv h2;rw[if_pos hy];refine aO func115 ntmps115 ?_;refine S ?_
  (have W:=jA Vx hy;repeat' (first|refine aq fun K hK=>?_|refine ak ?_|(refine hK _ _ ?_;clear hK K)|(refine ao ?_ ?_<;>intro hc<;>try exact jz)|refine cm (ir r (bz h)) ?_|refine cm (gC r _ (bz h)) ?_|refine cm (iY r.inc _ (bz hi)) ?_|refine cm (qN h1) ?_|refine cm (iY (de (r.inc.av (⟨#[40]⟩:UR))).1 _ (bz h2)) ?_|refine cm (k8 ((de (r.inc.av (⟨#[40]⟩:UR))).1.av (⟨#[41]⟩:UR)) _ _ _ _ [(de (r.inc.av (⟨#[40]⟩:UR))).2] _ gM.sl (bz h3)) ?_|refine ap ?_|exact jI|(clear hK K)))
  (refine bY [.tmp 2] ?_ ?_<;>(try simp only[go_sem]))
 rw[if_neg hy];have Zu:r.is (⟨#[110,101,119]⟩:UR)=false:=by simpa using hy
 by_cases U4:r.calls=true
 ·rw[if_pos U4];refine aO func115 ntmps115 ?_;refine S ?_
  (have W:=jA Vx (jA Zu (U4));repeat' (first|refine aq fun K hK=>?_|refine ak ?_|(refine hK _ _ ?_;clear hK K)|(refine ao ?_ ?_<;>intro hc<;>try exact jz)|refine cm (ir r (bz h)) ?_|refine cm (gC r _ (bz h)) ?_|refine cm (xZ h) ?_|refine cm (GV h) ?_|refine ap ?_|exact jI|(clear hK K)))
  (refine bY [.tmp 2] ?_ ?_<;>(try simp only[go_sem]))
 ·rw[if_neg U4];have Wa:r.calls=false:=by simpa using U4
  refine aO func115 ntmps115 ?_;refine S ?_
  (have W:=jA Vx (jA Zu (Wa));repeat' (first|refine aq fun K hK=>?_|refine ak ?_|(refine hK _ _ ?_;clear hK K)|(refine ao ?_ ?_<;>intro hc<;>try exact jz)|refine cm (ir r (bz h)) ?_|refine cm (gC r _ (bz h)) ?_|refine cm (xZ h) ?_|refine cm (qN h) ?_|refine ap ?_|exact jI|(clear hK K)))
  (refine bY [.tmp 2] ?_ ?_<;>(try simp only[go_sem]))
def KN(h:r.Inv)(he:r.e=0)(ln:Int):ab prog 117 [pR,rI ln] (cF r) (fun v l=>v=rI (qc r ln).2/\l=cF (qc r ln).1):=by
 have hri:=h.lt;have hrp:=h.pos;have WT:=h.len;by_cases U4:r.calls=true
 ·have h1:=(DW h U4).1.inv h;have h2:=(Rd.aK h1 (⟨#[59]⟩:UR)).inv h1;rw[qc,if_pos U4];refine aO func117 ntmps117 ?_;refine S ?_
  (have W:=U4;repeat' (first|refine aq fun K hK=>?_|refine ak ?_|(refine hK _ _ ?_;clear hK K)|(refine ao ?_ ?_<;>intro hc<;>try exact jz)|refine cm (xZ h) ?_|refine cm (GV h) ?_|refine cm (iY (mW r).1 _ (bz h1)) ?_|refine cm (k8 ((mW r).1.av (⟨#[59]⟩:UR)) _ _ _ _ [(mW r).2] _ gM.sl (bz h2)) ?_|refine ap ?_|exact jI|(clear hK K)))
  (refine bY [.tmp 4] ?_ ?_<;>(try simp only[go_sem]))
 rw[qc,if_neg U4];have Wa:r.calls=false:=by simpa using U4
 have h0:=(Rd.dv h).inv h;by_cases hx:r.name.1.is (⟨#[91]⟩:UR)=true
 ·rw[if_pos hx];have d0:=(Rd.bO h0 (Rd.bc hx).1).1;have d1:=(Rd.aK d0 (⟨#[91]⟩:UR)).inv d0;have d2:=(j4 d1).inv d1;have d3:=(Rd.aK d2 (⟨#[93]⟩:UR)).inv d2;have d4:=(BX h0 hx).2.inv h0;have d5:=(y8 h0 hx).1.inv h0;have d6:=(y8 h0 hx).2.inv h0;have d7:=(Rd.aK d6 (⟨#[59]⟩:UR)).inv d6;have d3l:=d3.pn;have d3h:=d3.pJ;unfold uW pe at*;refine aO func117 ntmps117 ?_;refine S ?_
  (have W:=jA Wa hx;repeat' (first|refine aq fun K hK=>?_|refine ak ?_|(refine hK _ _ ?_;clear hK K)|(refine ao ?_ ?_<;>intro hc<;>try exact jz)|refine cm (xZ h) ?_|refine cm (wk r (bz h)) ?_|refine cm (gC r.name.1 _ (bz h0)) ?_|refine cm (uN r.name.1 (bz h0)) ?_|refine cm (iY r.name.1.down _ (bz d0)) ?_|refine cm (qN d1) ?_|refine cm (iY (de (r.name.1.down.av (⟨#[91]⟩:UR))).1 _ (bz d2)) ?_|refine cm (iY ((de (r.name.1.down.av (⟨#[91]⟩:UR))).1.av (⟨#[93]⟩:UR)).up _ (bz d4)) ?_|refine cm (qN d5) ?_|refine cm (iY (de (((de (r.name.1.down.av (⟨#[91]⟩:UR))).1.av (⟨#[93]⟩:UR)).up.av (⟨#[61]⟩:UR))).1 _ (bz d6)) ?_|refine cm (k8 ((de (((de (r.name.1.down.av (⟨#[91]⟩:UR))).1.av (⟨#[93]⟩:UR)).up.av (⟨#[61]⟩:UR))).1.av (⟨#[59]⟩:UR)) _ _ _ _ [(de (r.name.1.down.av (⟨#[91]⟩:UR))).2,(de (((de (r.name.1.down.av (⟨#[91]⟩:UR))).1.av (⟨#[93]⟩:UR)).up.av (⟨#[61]⟩:UR))).2] _ gM.sl (bz d7)) ?_|refine ap ?_|exact jI|(clear hK K)))
  (refine bY [.tmp 4] ?_ ?_<;>(try simp only[go_sem]))
 ·rw[if_neg hx];have Vx:r.name.1.is (⟨#[91]⟩:UR)=false:=by simpa using hx
  have d1:=(Rd.aK h0 (⟨#[61]⟩:UR)).inv h0;have d2:=(zr d1).inv d1;have d3:=(Rd.aK d2 (⟨#[59]⟩:UR)).inv d2;refine aO func117 ntmps117 ?_;refine S ?_
  (have W:=jA Wa (Vx);repeat' (first|refine aq fun K hK=>?_|refine ak ?_|(refine hK _ _ ?_;clear hK K)|(refine ao ?_ ?_<;>intro hc<;>try exact jz)|refine cm (xZ h) ?_|refine cm (wk r (bz h)) ?_|refine cm (gC r.name.1 _ (bz h0)) ?_|refine cm (iY r.name.1 _ (bz h0)) ?_|refine cm (Hb d1) ?_|refine cm (iY (lU (r.name.1.av (⟨#[61]⟩:UR))).1 _ (bz d2)) ?_|refine cm (k8 ((lU (r.name.1.av (⟨#[61]⟩:UR))).1.av (⟨#[59]⟩:UR)) _ _ _ _ [(lU (r.name.1.av (⟨#[61]⟩:UR))).2] _ gM.sl (bz d3)) ?_|refine ap ?_|exact jI|(clear hK K)))
  (refine bY [.tmp 4] ?_ ?_<;>(try simp only[go_sem]))
def R4(w:UR):aB prog 101 [rS w] (rI (sJ w)):=by
 refine bF func101 ntmps101 ?_
 (repeat' (first|refine aq fun K hK=>?_|refine ak ?_|(refine hK _ _ ?_;clear hK K)|(refine ao ?_ ?_<;>intro hc<;>try exact jz)|refine ap ?_|exact jI|(clear hK K)))
 all_goals(refine bY [.tmp 2] ?_ ?_<;>(try simp only[go_sem]))
 all_goals unfold sJ
 all_goals repeat' split
 all_goals first|rfl|(exfalso;simp_all;done)
def EF(h:r.Inv):ab prog 71 [pR] (cF r) (fun v l=>v=rI (iZ r).2/\l=cF (iZ r).1):=by
 have hri:=h.lt;have hrp:=h.pos;have WT:=h.len;refine aO func71 ntmps71 ?_;refine S ?_
 (repeat' (first|refine aq fun K hK=>?_|refine ak ?_|(refine hK _ _ ?_;clear hK K)|(refine ao ?_ ?_<;>intro hc<;>try exact jz)|refine cm (sa r (bz h)) ?_|refine cp (R4 r.word) ?_|refine cm (uL r _ (bz h)) ?_|refine ap ?_|exact jI|(clear hK K)))
 ·(refine bY [.tmp 2] ?_ ?_<;>(try simp only[go_sem]))
  ·simp only[iZ,if_pos hc]
  ·simp only[iZ,if_pos hc,go_sem]
 ·(refine bY [.tmp 2] ?_ ?_<;>(try simp only[go_sem]))
  ·simp only[iZ,if_neg hc]
  ·simp only[iZ,if_neg hc];rfl
def Bp(n:Nat):Prop:=∀r:Rd,r.Inv->4*r.rem+1<=n->ab prog 72 [pR] (cF r) (fun v l=>v=rI (gh n r).2/\l=cF (gh n r).1)
def AB(n:Nat):Prop:=∀r:Rd,r.Inv->r.e=0->4*r.rem+2<=n->ab prog 103 [pR] (cF r) (fun v l=>v=rI (nT n r).2/\l=cF (nT n r).1)
def Tx(n:Nat)(hs:∀m,m<=n->AB m):Bp (n+1):=by
 intro r h hn;by_cases hx:r.is (⟨#[123]⟩:UR)=true
 ·have he:=(Rd.bc hx).1;have hd:=(Rd.bO h he).1;have s1:=Rd.aK hd (⟨#[123]⟩:UR);have h1:=s1.inv hd;have s2:=(sD n).2.1 _ [] h1;have h2:=s2.inv h1;have s3:=Rd.aK h2 (⟨#[125]⟩:UR);have h3:=s3.inv h2;have h4:=(Rd.fC h he ((s1.trans s2).trans s3)).inv h;have h3l:=h3.pn;have h3h:=h3.pJ;have hr:=(Rd.gN h hx).1;have Z4:r.rem<=2000:=by
   have:=h.pos;have:=h.len;unfold Rd.rem;split<;>omega
  rw[gh,if_pos hx];refine aO func72 ntmps72 ?_;refine S ?_
  (have W:=hx;repeat' (first|refine aq fun K hK=>?_|refine ak ?_|(refine hK _ _ ?_;clear hK K)|(refine ao ?_ ?_<;>intro hc<;>try exact jz)|refine cm (ir r (bz h)) ?_|refine cm (gC r _ (bz h)) ?_|refine cm (uN r (bz h)) ?_|refine cm (iY r.down _ (bz hd)) ?_|refine ap ?_|exact jI|(clear hK K)))
  have Vb:=hK;clear hK;refine jW (dT.nil 2 5 3 (sz:=1) rfl jC (Or.inr ⟨_,_,_,rfl,rfl⟩)) ?_
  (refine S ?_;try exact jI)
  refine ee (S:=Nat×Rd×UP) [(5,3),(21,14)] (fun s=>s.2.1.Inv/\4*s.2.1.rem+3<=s.1/\s.1<=n/\s.2.2.length+s.2.1.rem<=2000/\mL s.1 s.2.1 s.2.2=mL n (r.down.av (⟨#[123]⟩:UR)) []) (fun s=>[(5,.rs 2 s.2.2.length 1 s.2.2.length)]) (fun s=>⟨[0,1],cF s.2.1++[(2,.aG 3 1 (s.2.2.map eI))]⟩) (fun s=>s.1) (n,r.down.av (⟨#[123]⟩:UR),[]) ⟨h1,jJ,Nat.le_refl _,by(try simp only[List.length_nil]);omega,rfl⟩ (dZ rfl cr) ?_;rintro⟨m,q,L⟩ ⟨hq,Xy,WW,Wd,hA⟩ Kr U5;simp only at hq Xy WW Wd hA;have hqi:=hq.lt;have hqp:=hq.pos;have Zg:=hq.len;obtain⟨m,rfl⟩:∃k,m=k+1:=⟨m-1,jB⟩;rw[mL]at hA;by_cases Vn:q.e=0/\q.is (⟨#[125]⟩:UR)=false
  ·rw[if_pos Vn]at hA;obtain⟨Xz,XW⟩:=Vn;obtain⟨t1,t2⟩:=(sD m).2.2 q hq Xz jB;have hj:=t1.inv hq;refine S ?_
   (have W:=jA Xz XW;repeat' (first|refine aq fun K hK=>?_|refine ak ?_|(refine hK _ _ ?_;clear hK K)|(refine ao ?_ ?_<;>intro hc<;>try exact jz)|refine cm (gC q _ (bz hq)) ?_|refine cm (hs m jB q hq Xz jB) ?_|refine ap ?_|exact jI|(clear hK K)))
   refine U5 _ _ (dY (m,(nT m q).1,L++[(nT m q).2]) ⟨hj,jJ,jJ,by(try simp only[List.length_append,List.length_cons,List.length_nil]);omega,hA⟩ jJ (by simp only[go_sem,cF,iz,List.map_append,List.map_cons,List.map_nil,List.cons_append,List.nil_append];(try rfl)) cr)
  ·rw[if_neg Vn]at hA;have e1:q=(mL n (r.down.av (⟨#[123]⟩:UR)) []).1:=by rw[<-hA]
   have e2:L=(mL n (r.down.av (⟨#[123]⟩:UR)) []).2:=by rw[<-hA]
   rw[<-e1]at h3 h4 h3l h3h;refine S ?_
   (repeat' (first|refine aq fun K hK=>?_|refine ak ?_|(refine hK _ _ ?_;clear hK K)|(refine ao ?_ ?_<;>intro hc<;>try exact jz)|refine cm (gC q _ (bz hq)) ?_|refine ap ?_|exact jI|(clear hK K)))
   all_goals first|(exact absurd ⟨by assumption,by assumption⟩ Vn)|skip
   all_goals refine Vb _ _ ?_
   all_goals refine KA [2] 5 (aM eI 1 L) Sd Sd jo ?_
   all_goals(
    refine S ?_
    (repeat' (first|refine aq fun K hK=>?_|refine ak ?_|(refine hK _ _ ?_;clear hK K)|(refine ao ?_ ?_<;>intro hc<;>try exact jz)|refine cm (iY q _ (bz hq)) ?_|refine cm (xB (q.av (⟨#[125]⟩:UR)).up _ _ _ _ L (bz h4)) ?_|refine ap ?_|exact jI|(clear hK K)))
    (refine bY [.tmp 2] ?_ ?_<;>(try simp only[go_sem]))
    all_goals simp only[<-e1,<-e2])
 ·rw[gh,if_neg hx];have Vx:r.is (⟨#[123]⟩:UR)=false:=by simpa using hx
  refine aO func72 ntmps72 ?_;refine S ?_
  (have W:=Vx;repeat' (first|refine aq fun K hK=>?_|refine ak ?_|(refine hK _ _ ?_;clear hK K)|(refine ao ?_ ?_<;>intro hc<;>try exact jz)|refine cm (ir r (bz h)) ?_|refine cm (gC r _ (bz h)) ?_|refine cm (uL r _ (bz h)) ?_|refine ap ?_|exact jI|(clear hK K)))
  (refine bY [.tmp 2] ?_ ?_<;>(try simp only[go_sem]))
def LA(n:Nat)(hb:Bp n):AB (n+1):=by
 intro r h he hn;have hri:=h.lt;have hrp:=h.pos;have WT:=h.len;have word:∀w:UR,w≠⟨#[]⟩->r.word=w->r.inc.Inv/\r.inc.rem+1<=r.rem:=fun w h0 hw=>by have hk:=Rd.dL (Rd.gW hw h0) jC;exact⟨(Rd.br h hk.2).1.inv h,Rd.dc h hk⟩
 rw[nT];by_cases w1:r.word=(⟨#[108,101,116]⟩:UR)
 ·rw[if_pos w1];have w1':=eq_true w1;obtain⟨hi,hr⟩:=word _ jC w1;have h1:=(Rd.dv hi).inv hi;have h2:=(Rd.aK h1 (⟨#[61]⟩:UR)).inv h1;have h3:=(zr h2).inv h2;have h4:=(Rd.aK h3 (⟨#[59]⟩:UR)).inv h3;refine aO func103 ntmps103 ?_;refine S ?_
  (have W:=w1';repeat' (first|refine aq fun K hK=>?_|refine ak ?_|(refine hK _ _ ?_;clear hK K)|(refine ao ?_ ?_<;>intro hc<;>try exact jz)|refine cm (ir r (bz h)) ?_|refine cm (sa r (bz h)) ?_|refine cm (wk r.inc (bz hi)) ?_|refine cm (iY r.inc.name.1 _ (bz h1)) ?_|refine cm (Hb h2) ?_|refine cm (iY (lU (r.inc.name.1.av (⟨#[61]⟩:UR))).1 _ (bz h3)) ?_|refine cm (k8 ((lU (r.inc.name.1.av (⟨#[61]⟩:UR))).1.av (⟨#[59]⟩:UR)) _ _ _ _ [(lU (r.inc.name.1.av (⟨#[61]⟩:UR))).2] _ gM.sl (bz h4)) ?_|refine ap ?_|exact jI|(clear hK K)))
  (refine bY [.tmp 2] ?_ ?_<;>(try simp only[go_sem]))
 rw[if_neg w1];by_cases w2:r.word=(⟨#[112,114,105,110,116]⟩:UR)
 ·rw[if_pos w2];have w2':=eq_true w2;obtain⟨hi,hr⟩:=word _ jC w2;have h1:=(j4 hi).inv hi;have h2:=(Rd.aK h1 (⟨#[59]⟩:UR)).inv h1;refine aO func103 ntmps103 ?_;refine S ?_
  (have W:=jA w1 (w2');repeat' (first|refine aq fun K hK=>?_|refine ak ?_|(refine hK _ _ ?_;clear hK K)|(refine ao ?_ ?_<;>intro hc<;>try exact jz)|refine cm (ir r (bz h)) ?_|refine cm (sa r (bz h)) ?_|refine cm (qN hi) ?_|refine cm (iY (de r.inc).1 _ (bz h1)) ?_|refine cm (k8 ((de r.inc).1.av (⟨#[59]⟩:UR)) _ _ _ _ [(de r.inc).2] _ gM.sl (bz h2)) ?_|refine ap ?_|exact jI|(clear hK K)))
  (refine bY [.tmp 2] ?_ ?_<;>(try simp only[go_sem]))
 rw[if_neg w2];by_cases w3:r.word=(⟨#[119,104,105,108,101]⟩:UR)
 ·rw[if_pos w3];have w3':=eq_true w3;obtain⟨hi,hr⟩:=word _ jC w3;have h1:=(j4 hi).inv hi;have Xh:=(j4 hi).rem;have h2:=((sD n).1 _ h1).inv h1;refine aO func103 ntmps103 ?_;refine S ?_
  (have W:=jA w1 (jA w2 (w3'));repeat' (first|refine aq fun K hK=>?_|refine ak ?_|(refine hK _ _ ?_;clear hK K)|(refine ao ?_ ?_<;>intro hc<;>try exact jz)|refine cm (ir r (bz h)) ?_|refine cm (sa r (bz h)) ?_|refine cm (qN hi) ?_|refine cm (hb _ h1 jB) ?_|refine cm (k8 (gh n (de r.inc).1).1 _ _ _ _ [(de r.inc).2,(gh n (de r.inc).1).2] _ gM.sl (bz h2)) ?_|refine ap ?_|exact jI|(clear hK K)))
  (refine bY [.tmp 2] ?_ ?_<;>(try simp only[go_sem]))
 rw[if_neg w3];by_cases w4:r.word=(⟨#[105,102]⟩:UR)
 ·rw[if_pos w4];have w4':=eq_true w4;obtain⟨hi,hr⟩:=word _ jC w4;have h1:=(j4 hi).inv hi;have Xh:=(j4 hi).rem;have s2:=(sD n).1 _ h1;have h2:=s2.inv h1;have Xn:=s2.rem;have h2i:=h2.lt;have h2p:=h2.pos;have h2l:=h2.len;by_cases hx:(gh n (de r.inc).1).1.is (⟨#[101,108,115,101]⟩:UR)=true
  ·rw[if_pos hx];have hk:=Rd.bc hx;have h3:=(Rd.br h2 hk.2).1.inv h2;have hr3:=Rd.dc h2 hk;have h4:=((sD n).1 _ h3).inv h3;refine aO func103 ntmps103 ?_;refine S ?_
   (have W:=jA w1 (jA w2 (jA w3 (jA w4' (hx))));repeat' (first|refine Ip (id:=31) [2] [(13,135)] [(12,aM eI 1 [(de r.inc).2,(gh n (de r.inc).1).2,(gh n (gh n (de r.inc).1).1.inc).2])] ?_|refine aq fun K hK=>?_|refine ak ?_|(refine hK _ _ ?_;clear hK K)|(refine ao ?_ ?_<;>intro hc<;>try exact jz)|refine cm (ir r (bz h)) ?_|refine cm (sa r (bz h)) ?_|refine cm (qN hi) ?_|refine cm (hb _ h1 jB) ?_|refine cm (gC (gh n (de r.inc).1).1 _ (bz h2)) ?_|refine cm (hb _ h3 jB) ?_|refine cm (xB (gh n (gh n (de r.inc).1).1.inc).1 _ _ _ _ [(de r.inc).2,(gh n (de r.inc).1).2,(gh n (gh n (de r.inc).1).1.inc).2] (bz h4)) ?_|refine ap ?_|exact jI|(clear hK K)))
   (refine bY [.tmp 2] ?_ ?_<;>(try simp only[go_sem]))
  ·rw[if_neg hx];have Vx:(gh n (de r.inc).1).1.is (⟨#[101,108,115,101]⟩:UR)=false:=by simpa using hx
   refine aO func103 ntmps103 ?_;refine S ?_
   (have W:=jA w1 (jA w2 (jA w3 (jA w4' (Vx))));repeat' (first|refine aq fun K hK=>?_|refine ak ?_|(refine hK _ _ ?_;clear hK K)|(refine ao ?_ ?_<;>intro hc<;>try exact jz)|refine cm (ir r (bz h)) ?_|refine cm (sa r (bz h)) ?_|refine cm (qN hi) ?_|refine cm (hb _ h1 jB) ?_|refine cm (gC (gh n (de r.inc).1).1 _ (bz h2)) ?_|refine cm (k8 (gh n (de r.inc).1).1 _ _ _ _ [(de r.inc).2,(gh n (de r.inc).1).2] _ gM.sl (bz h2)) ?_|refine ap ?_|exact jI|(clear hK K)))
   (refine bY [.tmp 2] ?_ ?_<;>(try simp only[go_sem]))
 rw[if_neg w4];by_cases w5:r.word=(⟨#[114,101,116,117,114,110]⟩:UR)
 ·rw[if_pos w5];have w5':=eq_true w5;obtain⟨hi,hr⟩:=word _ jC w5;by_cases hx:r.inc.is (⟨#[59]⟩:UR)=true
  ·rw[if_pos hx];have h1:=(Rd.aK hi (⟨#[59]⟩:UR)).inv hi;refine aO func103 ntmps103 ?_;refine S ?_
   (have W:=jA w1 (jA w2 (jA w3 (jA w4 (jA w5' (hx)))));repeat' (first|refine aq fun K hK=>?_|refine ak ?_|(refine hK _ _ ?_;clear hK K)|(refine ao ?_ ?_<;>intro hc<;>try exact jz)|refine cm (ir r (bz h)) ?_|refine cm (sa r (bz h)) ?_|refine cm (gC r.inc _ (bz hi)) ?_|refine cm (iY r.inc _ (bz hi)) ?_|refine cm (k8 (r.inc.av (⟨#[59]⟩:UR)) _ _ _ _ [] _ gM.sl (bz h1)) ?_|refine ap ?_|exact jI|(clear hK K)))
   (refine bY [.tmp 2] ?_ ?_<;>(try simp only[go_sem]))
  ·rw[if_neg hx];have Vx:r.inc.is (⟨#[59]⟩:UR)=false:=by simpa using hx
   have h1:=(j4 hi).inv hi;have h2:=(Rd.aK h1 (⟨#[59]⟩:UR)).inv h1;refine aO func103 ntmps103 ?_;refine S ?_
   (have W:=jA w1 (jA w2 (jA w3 (jA w4 (jA w5' (Vx)))));repeat' (first|refine Ip (id:=40) [2] [(16,132)] [(15,aM eI 1 [(de r.inc).2])] ?_|refine aq fun K hK=>?_|refine ak ?_|(refine hK _ _ ?_;clear hK K)|(refine ao ?_ ?_<;>intro hc<;>try exact jz)|refine cm (ir r (bz h)) ?_|refine cm (sa r (bz h)) ?_|refine cm (gC r.inc _ (bz hi)) ?_|refine cm (qN hi) ?_|refine cm (iY (de r.inc).1 _ (bz h1)) ?_|refine cm (xB ((de r.inc).1.av (⟨#[59]⟩:UR)) _ _ _ _ [(de r.inc).2] (bz h2)) ?_|refine ap ?_|exact jI|(clear hK K)))
   (refine bY [.tmp 2] ?_ ?_<;>(try simp only[go_sem]))
 rw[if_neg w5];refine aO func103 ntmps103 ?_;refine S ?_
 (have W:=jA w1 (jA w2 (jA w3 (jA w4 (w5))));repeat' (first|refine aq fun K hK=>?_|refine ak ?_|(refine hK _ _ ?_;clear hK K)|(refine ao ?_ ?_<;>intro hc<;>try exact jz)|refine cm (ir r (bz h)) ?_|refine cm (sa r (bz h)) ?_|refine cm (KN h he r.cV) ?_|refine ap ?_|exact jI|(clear hK K)))
 (refine bY [.tmp 2] ?_ ?_<;>(try simp only[go_sem]))
theorem Iq:∀m n,n<=m->Bp n/\AB n
 |0,0,_=>⟨fun r h hn=>by omega,fun r h he hn=>by omega⟩
 |m+1,0,_=>⟨fun r h hn=>jB,fun r h he hn=>jB⟩
 |m+1,n+1,hm=>by
  have ih:=fun k (hk:k<=n)=>Iq m k jB
  exact⟨Tx n fun k hk=>(ih k hk).2,LA n (ih n jl).1⟩
def It(h:r.Inv):ab prog 72 [pR] (cF r) (fun v l=>v=rI (oM r).2/\l=cF (oM r).1):=(Iq _ _ jl).1 r h jB
def MX(h:r.Inv):ab prog 44 [pR] (cF r) (fun v l=>v=.agg (fY (mQ r).2)/\l=cF (mQ r).1):=by
 have h1:=(qo h).1.inv h;have h2:=(qo h).2.1.inv h;have h3:=(qo h).2.2.1.inv h;have h4:=(CS h).inv h1;have h5:=(zt h).inv h1;have h6:=(yB h).inv h1;have h7:=(BT h6).inv h6;have Z4:(nz r).rem<=2000:=by have:=h3.pos;have:=h3.len;unfold Rd.rem;split<;>omega
 have hm:ab prog 68 [pR,rS (⟨#[40]⟩:UR)] (cF (r.av (⟨#[102,110]⟩:UR)).name.1) (fun v l=>v=.aQ []/\l=cF (nz r)):=iY (r.av (⟨#[102,110]⟩:UR)).name.1 _ (bz h2);refine aO func44 ntmps44 ?_;refine S ?_
 (repeat' (first|refine aq fun K hK=>?_|refine ak ?_|(refine hK _ _ ?_;clear hK K)|(refine ao ?_ ?_<;>intro hc<;>try exact jz)|refine cm (ir r (bz h)) ?_|refine cm (hm) ?_|refine cm (iY r _ (bz h)) ?_|refine cm (wk (r.av (⟨#[102,110]⟩:UR)) (bz h1)) ?_|refine cm (gC (nz r) _ (bz h3)) ?_|refine ap ?_|exact jI|(clear hK K)))
 have Vb:=hK;clear hK;refine jW (dT.gl 4 3 2 140 2 rfl jC rfl rfl) ?_
 (refine S ?_;try exact jI)
 refine ee (S:=Nat×Bool×Rd×List bM) [(5,3),(30,23)] (fun s=>s.2.2.1.Inv/\(s.2.1=true->s.2.2.1.rem+2<=s.1)/\1<=s.1/\s.2.2.2.length+s.1<=5000/\nb s.1 s.2.1 s.2.2.1 s.2.2.2=tq r) (fun s=>[(5,rB s.2.1)]) (fun s=>⟨[0,1],cF s.2.2.1++[(2,.var 98 [rS ⟨#[]⟩,rI 0,.raw (.slice none 0 0),rI 0,rI 0]),(3,.var 98 [rS (r.av (⟨#[102,110]⟩:UR)).name.2,rI r.cV,.rs 4 s.2.2.2.length 2 s.2.2.2.length,rI 0,rI 0]),(4,.aG 140 2 (s.2.2.2.map mM))]⟩) (fun s=>s.1) ((nz r).rem+2,more (nz r),nz r,[]) ⟨h3,fun _=>Nat.le_refl _,jJ,by(try simp only[List.length_nil]);omega,rfl⟩ (dZ rfl (by simp only[go_sem,lc,Nat.reduceAdd,AV.raw.injEq,Value.int.injEq,Value.slice.injEq,Value.pointer.injEq,AV.rs.injEq,more,List.length_nil];try omega)) ?_;rintro⟨n,b,q,L⟩ ⟨hq,VR,Xa,X0,hA⟩ Kr U5;simp only at hq VR Xa X0 hA;have hqi:=hq.lt;have hqp:=hq.pos;have Zg:=hq.len;obtain⟨n,rfl⟩:∃k,n=k+1:=⟨n-1,jB⟩;cases b with
 |false=>
  rw[nb]at hA;have e1:q=(tq r).1:=by rw[<-hA]
  have e2:L=(tq r).2:=by rw[<-hA]
  have hmm:ab prog 68 [pR,rS (⟨#[41]⟩:UR)] (cF q) (fun v l=>v=.aQ []/\l=cF (lR r)):=by rw[e1];exact iY (tq r).1 _ (bz h4)
  by_cases hx:(lR r).is (⟨#[123]⟩:UR)=true
  ·have ed:mn r=(lR r,0):=by unfold mn;rw[if_pos hx]
   have ef:mQ r=((oM (lR r)).1,⟨(r.av (⟨#[102,110]⟩:UR)).name.2,r.cV,L,0,(oM (lR r)).2⟩):=by unfold mQ;rw[ed,<-e2]
   rw[ef]at Vb;refine S ?_
   (have W:=hx;repeat' (first|refine aq fun K hK=>?_|refine ak ?_|(refine hK _ _ ?_;clear hK K)|(refine ao ?_ ?_<;>intro hc<;>try exact jz)|refine Vb _ _ ?_|refine cm (hmm) ?_|refine cm (gC (lR r) _ (bz h5)) ?_|refine cm (It h5) ?_|refine ap ?_|exact jI|(clear hK K)))
   refine fH [.cell 2 98] ?_;refine bt.agg (ds:=[rS _,rI _,aM mM 2 L,rI _,rI _]) ?_;exact jA (.same _ rfl) (jA (.same _ rfl) (jA (cY.row (enc:=mM) L rfl rfl jE) (jA (.same _ rfl) (jA (.same _ rfl) trivial))))
  ·have Vx:(lR r).is (⟨#[123]⟩:UR)=false:=by simpa using hx
   have ed:mn r=iZ (lR r):=by unfold mn;rw[if_neg hx]
   rw[ed]at h6;have ef:mQ r=((oM (iZ (lR r)).1).1,⟨(r.av (⟨#[102,110]⟩:UR)).name.2,r.cV,L,(iZ (lR r)).2,(oM (iZ (lR r)).1).2⟩):=by unfold mQ;rw[ed,<-e2]
   rw[ef]at Vb;refine S ?_
   (have W:=Vx;repeat' (first|refine aq fun K hK=>?_|refine ak ?_|(refine hK _ _ ?_;clear hK K)|(refine ao ?_ ?_<;>intro hc<;>try exact jz)|refine Vb _ _ ?_|refine cm (hmm) ?_|refine cm (gC (lR r) _ (bz h5)) ?_|refine cm (EF h5) ?_|refine cm (It h6) ?_|refine ap ?_|exact jI|(clear hK K)))
   refine fH [.cell 2 98] ?_;refine bt.agg (ds:=[rS _,rI _,aM mM 2 L,rI _,rI _]) ?_;exact jA (.same _ rfl) (jA (.same _ rfl) (jA (cY.row (enc:=mM) L rfl rfl jE) (jA (.same _ rfl) (jA (.same _ rfl) trivial))))
 |true=>
  have s1:=H8 hq;have hx:=s1.inv hq;have Xh:=s1.rem;have hxi:=hx.lt;have hxp:=hx.pos;have Ze:=hx.len;have VR:=VR rfl;have X1:=(Rd.dv hq).inv hq;have XG:ab prog 71 [pR] (cF q.name.1) (fun v l=>v=rI (iZ q.name.1).2/\l=cF (pG q)):=EF X1;rw[nb]at hA;refine S ?_
  (repeat' (first|refine aq fun K hK=>?_|refine ak ?_|(refine hK _ _ ?_;clear hK K)|(refine ao ?_ ?_<;>intro hc<;>try exact jz)|refine cm (wk q (bz hq)) ?_|refine cm (XG) ?_|refine cm (gC (pG q) _ (bz hx)) ?_|refine ap ?_|exact jI|(clear hK K)))
  ·rw[if_pos hc]at hA;have hk:=Rd.bc hc;have Xn:=Rd.dc hx hk;refine U5 _ _ (dY (n,true,(pG q).inc,L++[⟨q.name.2,(iZ q.name.1).2⟩]) ⟨(Rd.br hx hk.2).1.inv hx,fun _=>jJ,jJ,by(try simp only[List.length_append,List.length_cons,List.length_nil]);omega,hA⟩ jJ (by simp only[go_sem,cF,iz,List.map_append,List.map_cons,List.map_nil,List.cons_append,List.nil_append,List.length_append,List.length_cons,List.length_nil,Nat.reduceAdd];(try rfl)) (by simp only[go_sem,lc,Nat.reduceAdd,AV.raw.injEq,Value.int.injEq,Value.slice.injEq,Value.pointer.injEq,AV.rs.injEq,hc,List.length_append,List.length_cons,List.length_nil];try omega))
  ·rw[if_neg (by rw[hc];decide)]at hA;refine U5 _ _ (dY (n,false,pG q,L++[⟨q.name.2,(iZ q.name.1).2⟩]) ⟨hx,(by intro h;cases h),jJ,by(try simp only[List.length_append,List.length_cons,List.length_nil]);omega,?_⟩ jJ (by simp only[go_sem,cF,iz,List.map_append,List.map_cons,List.map_nil,List.cons_append,List.nil_append,List.length_append,List.length_cons,List.length_nil,Nat.reduceAdd];(try rfl)) (by simp only[go_sem,lc,Nat.reduceAdd,AV.raw.injEq,Value.int.injEq,Value.slice.injEq,Value.pointer.injEq,AV.rs.injEq,hc,List.length_append,List.length_cons,List.length_nil];try omega));rw[<-hA];obtain⟨n,rfl⟩:∃k,n=k+1:=⟨n-1,jB⟩;rw[nb]
variable{k:Nat}
def T7{α:Type}[Inhabited α](p:α->Bool)(l:List α)(h:k<l.length):(l.take (k+1)).any p=((l.take k).any p || p (nth l k)):=by rw[List.take_succ_eq_append_getElem h,List.any_append,fM h];simp
def tG(t:List bq)(L:List bj)(k:Nat):Bool:=decide (300<(t.length:Int)) || decide (6<(L.length:Int)) || (L.take k).any fun f=>decide (3<(f.params.length:Int))
def Qe(t:List bq)(L:List bj)(h:k<L.length):tG t L (k+1)=(tG t L k || decide (3<((nth L k).params.length:Int))):=by unfold tG;rw[T7 _ _ h];simp only[Bool.or_assoc]
def Oo(t:List bq)(L:List bj)(h:L.length<=k):tG t L k=ut t L:=by
 unfold tG ut;rw[List.take_of_length_le h];have e1:∀n:Nat,decide (300<(n:Int))=decide (300<n):=fun n=>decide_eq_decide.2 jB
 have e2:∀n:Nat,decide (6<(n:Int))=decide (6<n):=fun n=>decide_eq_decide.2 jB
 have e3:∀n:Nat,decide (3<(n:Int))=decide (3<n):=fun n=>decide_eq_decide.2 jB
 simp only[e1,e2,e3]
def QZ(s:UR)(hs:s.size<=1000000):aB prog 20 [rS s] (.aQ [.agg (lS (gY s).1),rI (gY s).2.1,rI (gY s).2.2]):=by
 by_cases he:(kX s).2.2=0
 ·have hi:=Hg he;have Z4:(oO s).rem<=2000:=by
   have:=hi.pos;have:=hi.len;unfold Rd.rem;split<;>omega
  refine bF func20 ntmps20 ?_
  (have W:=he;repeat' (first|refine aq fun K hK=>?_|refine ak ?_|(refine hK _ _ ?_;clear hK K)|(refine ao ?_ ?_<;>intro hc<;>try exact jz)|refine cp (F0 s hs) ?_|(refine yH (t:=27) 10 (by simp only[go_sem];rfl) rfl ?_;refine S ?_)|(refine zI 0 jD rfl ?_;refine S ?_)|refine ap ?_|exact jI|(clear hK K)))
  have Vb:=hK;clear hK;refine jW (dT.gl 1 0 3 66 5 rfl jC rfl rfl) ?_
  (refine S ?_;try exact jI)
  refine jW (dT.gl 12 11 1 98 5 rfl jC rfl rfl) ?_
  (refine S ?_;try exact jI)
  refine ee (S:=Nat×Rd×List bj) [(10,2),(30,16)] (fun p=>p.2.1.Inv/\p.2.1.rem+1<=p.1/\p.2.2.length+p.1<=5000/\qx p.1 p.2.1 p.2.2=oi s) (fun _=>[]) (fun p=>⟨[],[(10,.var 27 [.raw (.slice none 0 0),.raw (.slice none 0 0)]),(0,.var 94 (iz p.2.1)),(11,.var 27 [.raw (.slice none 0 0),.rs 12 p.2.2.length 5 p.2.2.length]),(1,.aG 66 5 (p.2.1.nodes.map eN)),(12,.aG 98 5 (p.2.2.map fY))]⟩) (fun p=>p.1) ((oO s).rem+1,oO s,[]) ⟨hi,Nat.le_refl _,by(try simp only[List.length_nil]);omega,rfl⟩ (dZ rfl cr) ?_;rintro⟨n,q,L⟩ ⟨hq,VR,Xa,hA⟩ Kr U5;simp only at hq VR Xa hA;have hqi:=hq.lt;have hqp:=hq.pos;have Zg:=hq.len;obtain⟨n,rfl⟩:∃k,n=k+1:=⟨n-1,jB⟩;rw[qx]at hA;by_cases Vn:q.e=0/\q.kind 0=false
  ·rw[if_pos Vn]at hA;obtain⟨Xz,XW⟩:=Vn;obtain⟨t1,t2⟩:=EY hq;have t2:=t2 Xz;have hj:=t1.inv hq;refine S ?_
   (have W:=jA Xz XW;repeat' (first|refine aq fun K hK=>?_|refine ak ?_|(refine hK _ _ ?_;clear hK K)|(refine ao ?_ ?_<;>intro hc<;>try exact jz)|refine cm (xr q _ (bz hq)) ?_|refine cm (MX hq) ?_|refine ap ?_|exact jI|(clear hK K)))
   refine U5 _ _ (po [13] (n,(mQ q).1,L++[(mQ q).2]) ⟨hj,jJ,by(try simp only[List.length_append,List.length_cons,List.length_nil]);omega,hA⟩ jJ rfl Sd (by simp only[go_sem,iz,List.map_append,List.map_cons,List.map_nil,List.length_append,List.length_cons,List.length_nil,Nat.reduceAdd];(try rfl)) jo)
  ·rw[if_neg Vn]at hA;have e1:q=(oi s).1:=by rw[<-hA]
   have e2:L=(oi s).2:=by rw[<-hA]
   refine S ?_
   (repeat' (first|refine aq fun K hK=>?_|refine ak ?_|(refine hK _ _ ?_;clear hK K)|(refine ao ?_ ?_<;>intro hc<;>try exact jz)|refine cm (xr q _ (bz hq)) ?_|refine ap ?_|exact jI|(clear hK K)))
   all_goals first|(exact absurd ⟨by assumption,by assumption⟩ Vn)|skip
   ·have Xz:q.e=0:=by assumption
    have hee:¬(oi s).1.e≠0:=by rw[<-e1];simp[Xz]
    refine Vb _ _ ?_;clear Vb
    (have W:=Xz;repeat' (first|refine aq fun K hK=>?_|refine ak ?_|(refine hK _ _ ?_;clear hK K)|(refine ao ?_ ?_<;>intro hc<;>try exact jz)|refine ap ?_|exact jI|(clear hK K)))
    have Vb:=hK;clear hK;refine ee (S:=Nat) [(12,2),(75,18)] (fun k=>k<=L.length) (fun k=>[(12,rB (tG q.nodes L k)),(13,rI k)]) (fun _=>⟨[],[(10,.var 27 [.raw (.slice none 0 0),.raw (.slice none 0 0)]),(0,.var 94 (iz q)),(11,.var 27 [.rs 1 q.nodes.length 5 q.nodes.length,.rs 12 L.length 5 L.length]),(1,.aG 66 5 (q.nodes.map eN)),(12,.aG 98 5 (L.map fY))]⟩) (fun k=>L.length-k) 0 (Nat.zero_le _) (dZ (by simp only[iz,Xz]) (by simp only[go_sem,lc,Nat.reduceAdd,AV.raw.injEq,Value.int.injEq,Value.slice.injEq,Value.pointer.injEq,AV.rs.injEq,tG,List.take_zero,List.any_nil,Bool.or_false];try omega)) ?_;intro k hk Kr U5;refine S ?_
    (repeat' (first|refine aq fun K hK=>?_|refine ak ?_|(refine hK _ _ ?_;clear hK K)|(refine ao ?_ ?_<;>intro hc<;>try exact jz)|refine ap ?_|exact jI|(clear hK K)))
    ·have Wy:k<L.length:=jB;refine U5 _ _ (dY (k+1) jJ jJ (by simp only[iz,Xz]) (by simp only[go_sem,lc,Nat.reduceAdd,AV.raw.injEq,Value.int.injEq,Value.slice.injEq,Value.pointer.injEq,AV.rs.injEq,Qe _ _ Wy];try omega))
    ·have hbu:tG q.nodes L k=ut q.nodes L:=Oo _ _ jB;by_cases WH:ut q.nodes L=true
     ·have ep:gY s=(⟨[],[]⟩,0,4):=by unfold gY;rw[if_neg (by simp[he]),if_neg hee,<-e1,<-e2,if_pos WH]
      rw[ep]at Vb;refine Vb _ _ ?_
      (have W:=jA hbu WH;repeat' (first|refine aq fun K hK=>?_|refine ak ?_|(refine hK _ _ ?_;clear hK K)|(refine ao ?_ ?_<;>intro hc<;>try exact jz)|refine ap ?_|exact jI|(clear hK K)))
      refine fH [.cell 2 27,.tmp 3,.tmp 4] ?_;refine bt.aQ (ds:=[.agg (lS ⟨[],[]⟩),rI _,rI _]) ?_;exact jA (bt.agg (ds:=[aM eN 5 [],aM fY 5 []]) (jA (cY.nil _ _) (jA (cY.nil _ _) trivial))) (jA (.same _ rfl) (jA (.same _ rfl) trivial))
     ·have hbf:ut q.nodes L=false:=by simpa using WH
      have ep:gY s=(⟨q.nodes,L⟩,0,0):=by unfold gY;rw[if_neg (by simp[he]),if_neg hee,<-e1,<-e2,if_neg WH]
      rw[ep]at Vb;refine Vb _ _ ?_
      (have W:=jA hbu hbf;repeat' (first|refine aq fun K hK=>?_|refine ak ?_|(refine hK _ _ ?_;clear hK K)|(refine ao ?_ ?_<;>intro hc<;>try exact jz)|refine ap ?_|exact jI|(clear hK K)))
      refine fH [.cell 2 27,.tmp 3,.tmp 4] ?_;refine bt.aQ (ds:=[.agg (lS ⟨q.nodes,L⟩),rI _,rI _]) ?_;exact jA (bt.agg (ds:=[aM eN 5 q.nodes,aM fY 5 L]) (jA (cY.row (enc:=eN) q.nodes rfl rfl jE) (jA (cY.row (enc:=fY) L rfl rfl jE) trivial))) (jA (.same _ rfl) (jA (.same _ rfl) trivial))
   ·have Xz:¬q.e=0:=by assumption
    have ep:gY s=(⟨[],[]⟩,q.at_,q.e):=by unfold gY;rw[if_neg (by simp[he]),<-e1,if_pos Xz]
    rw[ep]at Vb;refine Vb _ _ ?_
    (have W:=Xz;repeat' (first|refine aq fun K hK=>?_|refine ak ?_|(with_reducible refine gR 12 ?_);refine dA 12 [10] (ba 0 12) mixed ?_|(refine hK _ _ ?_;clear hK K)|(refine ao ?_ ?_<;>intro hc<;>try exact jz)|refine ap ?_|exact jI|(clear hK K)))
    refine fH [.cell 2 27,.tmp 3,.tmp 4] ?_;refine bt.aQ (ds:=[.agg (lS ⟨[],[]⟩),rI _,rI _]) ?_;exact jA (bt.agg (ds:=[aM eN 5 [],aM fY 5 []]) (jA (cY.nil _ _) (jA (cY.nil _ _) trivial))) (jA (.same _ rfl) (jA (.same _ rfl) trivial))
 ·have ep:gY s=(⟨[],[]⟩,(kX s).2.1,(kX s).2.2):=by unfold gY;rw[if_pos he]
  rw[ep];refine bF func20 ntmps20 ?_
  (have W:=he;repeat' (first|refine aq fun K hK=>?_|refine ak ?_|(refine hK _ _ ?_;clear hK K)|(refine ao ?_ ?_<;>intro hc<;>try exact jz)|refine cp (F0 s hs) ?_|refine ap ?_|exact jI|(clear hK K)))
  refine fH [.cell 2 27,.tmp 3,.tmp 4] ?_;refine bt.aQ (ds:=[.agg (lS ⟨[],[]⟩),rI _,rI _]) ?_;exact jA (bt.agg (ds:=[aM eN 5 [],aM fY 5 []]) (jA (cY.nil _ _) (jA (cY.nil _ _) trivial))) (jA (.same _ rfl) (jA (.same _ rfl) trivial))
def wh(c:Ck):UM:=[aM eN 5 c.aa.nodes,aM fY 5 c.aa.aw,.rs 1 c.types.length 1 c.types.length,.rs 2 c.slots.length 1 c.slots.length,.rs 3 c.aw.length 1 c.aw.length,.rs 4 c.aP.length 1 c.aP.length,rI c.fn,.rs 5 (c.vars.length+c.more.length) 3 c.vars.length,rI c.size,rI c.e,rI c.at_]
def fL(c:Ck):UL:=[(0,.var 103 (wh c)),(1,.aG 3 1 (c.types.map eI)),(2,.aG 3 1 (c.slots.map eI)),(3,.aG 3 1 (c.aw.map eI)),(4,.aG 3 1 (c.aP.map eI)),(5,.aG 144 3 ((c.vars++c.more).map lg))]
attribute [go_sem] fL wh Ck.slot Ck.note Ck.ai
structure bJ(c:Ck):Prop where
 aa:aR c.aa
 types:c.types.length=c.aa.nodes.length
 slots:c.slots.length=c.aa.nodes.length
 aw:c.aw.length=c.aa.nodes.length
 aP:c.aP.length<=6
 wa:0<=c.fn
 vg:c.fn<c.aa.aw.length
 vars:(c.vars.length:Int)<=c.size
 size:c.size<=25
 room:c.e=0->c.size<=24
theorem z6{α:Type}(f:α->UR)(nm:UR):∀(l:List α) (i:Int),0<=i->(js f nm l i=-1/\∀v∈l,f v≠nm)\/(i<=js f nm l i/\js f nm l i<i+l.length)
 |[],i,_=>.inl ⟨rfl,fun v hv=>by simp at hv⟩
 |v::l,i,hi=>by
  unfold js;by_cases h:f v=nm
  ·rw[if_pos h];exact .inr jF
  ·rw[if_neg h];rcases z6 f nm l (i+1) jB with⟨h1,h2⟩|h1
   ·exact .inl ⟨h1,fun u hu=>by
     rcases List.mem_cons.1 hu with rfl|hu
     ·exact h
     ·exact h2 u hu⟩
   ·exact .inr jF
def kW{α:Type}[Inhabited α]{l:List α}{i:Nat}(h:i<l.length):l.drop i=nth l i::l.drop (i+1):=by rw[fM h];exact List.drop_eq_getElem_cons h
def te(c:Ck)(e a:Int):ab prog 73 [pR,rI e,rI a] (fL c) (fun v l=>v=.aQ []/\l=fL (c.aE e a)):=by
 refine aO func73 ntmps73 ?_;refine S ?_
 (repeat' (first|refine aq fun K hK=>?_|refine ak ?_|(refine hK _ _ ?_;clear hK K)|(refine ao ?_ ?_<;>intro hc<;>try exact jz)|refine ap ?_|exact jI|(clear hK K)))
 ·(refine bY [] ?_ ?_<;>(try simp only[go_sem]))
  simp only[Ck.aE,if_pos hc,fL,wh]
 ·(refine bY [] ?_ ?_<;>(try simp only[go_sem]))
  simp only[Ck.aE,if_neg hc,fL,wh]
def Bc(c:Ck)(nm:UR)(h:bJ c):ab prog 74 [pR,rS nm] (fL c) (fun v l=>v=rI (c.find nm)/\l=fL c):=by
 have h1:=h.vars;have h2:=h.size;refine aO func74 ntmps74 ?_;refine S ?_
 (repeat' (first|refine aq fun K hK=>?_|refine ak ?_|(refine hK _ _ ?_;clear hK K)|(refine ao ?_ ?_<;>intro hc<;>try exact jz)|refine ap ?_|exact jI|(clear hK K)))
 have Vb:=hK;clear hK;refine ee (S:=Nat) [(4,22)] (fun k=>k<=c.vars.length/\js bI.name nm (c.vars.drop k) k=c.find nm) (fun k=>[(5,rI k)]) (fun _=>⟨[0,1,2,3,4,5],fL c⟩) (fun k=>c.vars.length-k) 0 ⟨jB,rfl⟩ (dZ jD cr) ?_;rintro k ⟨Vr,Vc⟩ Kr U5
 (refine S ?_;try exact jI)
 by_cases hk:k<c.vars.length
 ·rw[kW hk]at Vc;unfold js at Vc;have ZR:nth (c.vars++c.more) k=nth c.vars k:=pK hk
  (have W:=ZR;repeat' (first|refine aq fun K hK=>?_|refine ak ?_|(refine hK _ _ ?_;clear hK K)|(refine ao ?_ ?_<;>intro hc<;>try exact jz)|refine ap ?_|exact jI|(clear hK K)))
  ·(refine bY [.tmp 4] ?_ ?_<;>(try simp only[go_sem]))
   rw[if_pos hc]at Vc;rw[<-Vc]
  ·rw[if_neg hc]at Vc;refine U5 _ _ (dY (k+1) ⟨jB,by rw[<-Vc];rfl⟩ jJ jD cr)
 ·rw[List.drop_eq_nil_of_le jB]at Vc
  (repeat' (first|refine aq fun K hK=>?_|refine ak ?_|(refine hK _ _ ?_;clear hK K)|(refine ao ?_ ?_<;>intro hc<;>try exact jz)|refine Vb _ _ ?_|refine ap ?_|exact jI|(clear hK K)))
  (refine bY [.tmp 4] ?_ ?_<;>(try simp only[go_sem]))
  rw[<-Vc];rfl
def oq(c:Ck)(b:Bool)(a:Int):ab prog 121 [pR,rB b,rI a] (fL c) (fun v l=>v=.aQ []/\l=fL (c.av b a)):=by
 refine aO func121 ntmps121 ?_;refine S ?_
 (repeat' (first|refine aq fun K hK=>?_|refine ak ?_|(refine hK _ _ ?_;clear hK K)|(refine ao ?_ ?_<;>intro hc<;>try exact jz)|refine cm (te c 42 a) ?_|refine ap ?_|exact jI|(clear hK K)))
 ·(refine bY [] ?_ ?_<;>(try simp only[go_sem]))
  simp only[Ck.av,hc,Bool.false_eq_true,if_false,fL,wh]
 ·(refine bY [] ?_ ?_<;>(try simp only[go_sem]))
  simp only[Ck.av,hc,if_true,fL,wh]
variable{a:Int}
def vU{c:Ck}(h:bJ c)(h0:0<=a)(h1:a<c.aa.nodes.length):Shape c.aa.nodes (c.node a)/\∀x∈(c.node a).l,0<=x/\x.toNat<a.toNat:=by have:=h.aa.shape a.toNat jB;exact⟨this.1,this.2.1⟩
def Aa{c:Ck}(h:bJ c)(h0:0<=a)(h1:a<c.aa.nodes.length):(c.node a).l.length<=300:=by obtain⟨_,_,lo,hc⟩:=h.aa.shape a.toNat jB;have:=hc.len;have:=h.aa.many;show(nth c.aa.nodes a.toNat).l.length<=300;omega
def FH(c:Ck)(a:Int)(h:bJ c)(h0:0<=a)(h1:a<c.aa.nodes.length):ab prog 119 [pR,rI a] (fL c) (fun v l=>v=rI (c.named a).2/\l=fL (c.named a).1):=by
 have hv:=h.vars;have hz:=h.size;have V5:=h.slots;have hfd:=z6 bI.name (c.node a).name c.vars 0 jB;have Xv:=Bc c (c.node a).name h;have Y0:=te c 40 a;have ZR:0<=c.find (c.node a).name->nth (c.vars++c.more) (c.find (c.node a).name).toNat=nth c.vars (c.find (c.node a).name).toNat:=fun h=>pK (by have hfd:(c.find (c.node a).name=-1/\_)\/(0<=c.find (c.node a).name/\c.find (c.node a).name<0+c.vars.length):=hfd;omega)
 have hfd:(c.find (c.node a).name=-1/\_)\/(0<=c.find (c.node a).name/\c.find (c.node a).name<0+c.vars.length):=hfd;unfold Ck.named;by_cases hf:c.find (c.node a).name<0
 ·rw[if_pos hf];refine aO func119 ntmps119 ?_;refine S ?_
  (repeat' (first|refine aq fun K hK=>?_|refine ak ?_|(refine hK _ _ ?_;clear hK K)|(refine ao ?_ ?_<;>intro hc<;>try exact jz)|refine cm (Xv) ?_|refine cm (Y0) ?_|refine ap ?_|exact jI|(clear hK K)))
  (refine bY [.tmp 4] ?_ ?_<;>(try simp only[go_sem]))
 ·rw[if_neg hf];have ZR:=ZR jB;refine aO func119 ntmps119 ?_;refine S ?_
  (have W:=ZR;repeat' (first|refine aq fun K hK=>?_|refine ak ?_|(with_reducible refine gR 5 ?_);refine dE 5 (ba 0 16) mixed ?_|(refine hK _ _ ?_;clear hK K)|(refine ao ?_ ?_<;>intro hc<;>try exact jz)|refine cm (Xv) ?_|refine ap ?_|exact jI|(clear hK K)))
  (refine bY [.tmp 4] ?_ ?_<;>(try simp only[go_sem]))
structure Ev(c c':Ck):Prop where
 aa:c'.aa=c.aa
 fn:c'.fn=c.fn
 vars:c'.vars=c.vars
 more:c'.more=c.more
 size:c'.size=c.size
 aP:c'.aP=c.aP
 types:c'.types.length=c.types.length
 slots:c'.slots.length=c.slots.length
 aw:c'.aw.length=c.aw.length
 err:c.e≠0->c'.e≠0
def Ev.refl(c:Ck):Ev c c:=⟨rfl,rfl,rfl,rfl,rfl,rfl,rfl,rfl,rfl,id⟩
theorem Ev.trans{a b c:Ck}(h:Ev a b)(k:Ev b c):Ev a c:=⟨k.aa.trans h.aa,k.fn.trans h.fn,k.vars.trans h.vars,k.more.trans h.more,k.size.trans h.size,k.aP.trans h.aP,k.types.trans h.types,k.slots.trans h.slots,k.aw.trans h.aw,fun e=>k.err (h.err e)⟩
def bJ.ev{c c':Ck}(h:bJ c)(s:Ev c c'):bJ c' where
 aa:=by rw[s.aa];exact h.aa
 types:=by rw[s.types,s.aa];exact h.types
 slots:=by rw[s.slots,s.aa];exact h.slots
 aw:=by rw[s.aw,s.aa];exact h.aw
 aP:=by rw[s.aP];exact h.aP
 wa:=by rw[s.fn];exact h.wa
 vg:=by rw[s.fn,s.aa];exact h.vg
 vars:=by rw[s.vars,s.size];exact h.vars
 size:=by rw[s.size];exact h.size
 room:=fun e=>by rw[s.size];exact h.room (Classical.byContradiction fun h=>s.err h e)
theorem Ev.node{c c':Ck}(s:Ev c c')(a:Int):c'.node a=c.node a:=by unfold Ck.node;rw[s.aa]
def oj(c:Ck){e:Int}(he:e≠0)(a:Int):Ev c (c.aE e a):=by
 unfold Ck.aE;split
 ·exact⟨rfl,rfl,rfl,rfl,rfl,rfl,rfl,rfl,rfl,fun _=>he⟩
 ·exact .refl c
def kP(c:Ck)(b:Bool)(a:Int):Ev c (c.av b a):=by
 unfold Ck.av;split
 ·exact .refl c
 ·exact oj c jC a
def N9(c:Ck)(a s:Int):Ev c (c.slot a s):=⟨rfl,rfl,rfl,rfl,rfl,rfl,rfl,by simp[Ck.slot],rfl,id⟩
def TS(c:Ck)(a t:Int):Ev c (c.note a t):=⟨rfl,rfl,rfl,rfl,rfl,rfl,by simp[Ck.note],rfl,by simp[Ck.note],id⟩
def rM(c:Ck)(a:Int):Ev c (c.ai a):=⟨rfl,rfl,rfl,rfl,rfl,rfl,rfl,rfl,by simp[Ck.ai],id⟩
def nZ(c:Ck)(a:Int):Ev c (c.named a).1:=by
 unfold Ck.named;split
 ·exact oj c jC a
 ·exact N9 c a _
theorem uM{ex:Ck->Int->Ck×Int}(hex:∀c a,Ev c (ex c a).1):∀(l:UP) (c:Ck) (ts:UP),Ev c (gG ex c l ts).1
 |[],c,ts=>by unfold gG;exact .refl c
 |a::l,c,ts=>by
  unfold gG;split
  ·exact(hex c a).trans (uM hex l _ _)
  ·exact .refl c
theorem zU(a:Int):∀(ts:UP) (ps:List bM) (c:Ck),Ev c (iE a c ts ps)
 |[],_,c=>by unfold iE;exact .refl c
 |_::_,[],c=>by unfold iE;exact .refl c
 |t::ts,p::ps,c=>by
  unfold iE;split
  ·exact(kP c _ a).trans (zU a ts ps _)
  ·exact .refl c
variable{ex:Ck->Int->Ck×Int}
def SP(hex:∀c a,Ev c (ex c a).1)(c:Ck)(a:Int):Ev c (je ex c a).1:=by
 unfold je;split
 ·exact oj c jC a
 ·refine Ev.trans ?_ (zU _ _ _ _);split
  ·exact(uM hex _ _ _).trans (oj _ jC a)
  ·exact uM hex _ _ _
def Bk(hex:∀c a,Ev c (ex c a).1)(c:Ck)(a:Int):Ev c (cw ex c a).1:=by
 unfold cw;simp only;repeat' split
 all_goals first
  |exact .refl c
  |exact nZ c a
  |exact SP hex c a
  |exact((nZ c a).trans (hex _ _)).trans (kP _ _ _)
  |exact((hex c _).trans (hex _ _)).trans (kP _ _ _)
  |exact(hex c _).trans (kP _ _ _)
theorem fx:∀(n:Nat) (c:Ck) (a:Int),Ev c (aA n c a).1
 |0,c,a=>by unfold aA;exact .refl c
 |n+1,c,a=>by
  unfold aA;split
  ·exact .refl c
  ·exact(Bk (fx n) c a).trans (TS _ _ _)
def uO(n:Nat):Prop:=∀(c:Ck) (a:Int),bJ c->0<=a->a<c.aa.nodes.length->a.toNat<n->fy (c.node a).kind->ab prog 120 [pR,rI a] (fL c) (fun v l=>v=rI (aA n c a).2/\l=fL (aA n c a).1)
def Fb(n:Nat):Prop:=∀(c:Ck) (a:Int),bJ c->c.e=0->0<=a->a<c.aa.nodes.length->a.toNat<=n->fy (c.node a).kind->ab prog 139 [pR,rI a] (fL c) (fun v l=>v=rI (cw (aA n) c a).2/\l=fL (cw (aA n) c a).1)
def EN(n:Nat):Prop:=∀(c:Ck) (a:Int),bJ c->0<=a->a<c.aa.nodes.length->a.toNat<=n->(c.node a).kind=21->ab prog 164 [pR,rI a] (fL c) (fun v l=>v=rI (je (aA n) c a).2/\l=fL (je (aA n) c a).1)
def K6(s:UR)(a b:Int):aB prog 165 [rS s,rI a,rI b] (rI (lZ s a b)):=by
 refine bF func165 ntmps165 ?_
 (repeat' (first|refine aq fun K hK=>?_|refine ak ?_|(refine hK _ _ ?_;clear hK K)|(refine ao ?_ ?_<;>intro hc<;>try exact jz)|refine ap ?_|exact jI|(clear hK K)))
 all_goals(refine bY [.tmp 6] ?_ ?_<;>(try simp only[go_sem]))
 all_goals simp_all [lZ]
 all_goals omega
def UB(n:Nat)(ht:Fb n):uO (n+1):=by
 intro c a h h0 h1 hn hk;have hz:=h.size;have hv:=h.vars;by_cases he:c.e=0
 ·have htc:=ht c a h he h0 h1 jB hk;have s:=Bk (fx n) c a;have h2:=h.ev s;have l1:=h2.types;have l2:=h2.aw;rw[s.aa]at l1 l2;rw[aA,jN];refine aO func120 ntmps120 ?_;refine S ?_
  (repeat' (first|refine aq fun K hK=>?_|refine ak ?_|(with_reducible refine gR 5 ?_);refine dE 5 (ba 0 12) mixed ?_|(refine hK _ _ ?_;clear hK K)|(refine ao ?_ ?_<;>intro hc<;>try exact jz)|refine cm (htc) ?_|refine ap ?_|exact jI|(clear hK K)))
  (refine bY [.tmp 4] ?_ ?_<;>(try simp only[go_sem]))
 ·rw[aA,if_pos he];refine aO func120 ntmps120 ?_;refine S ?_
  (repeat' (first|refine aq fun K hK=>?_|refine ak ?_|(refine hK _ _ ?_;clear hK K)|(refine ao ?_ ?_<;>intro hc<;>try exact jz)|refine ap ?_|exact jI|(clear hK K)))
  (refine bY [.tmp 4] ?_ ?_<;>(try simp only[go_sem]))
def UC(n:Nat)(hx:uO n)(Vp:EN n):Fb n:=by
 intro c a h he h0 h1 hn hk;have hz:=h.size;have hv:=h.vars;obtain⟨sh,Wv⟩:=vU h h0 h1;have VI:∀i,i<(c.node a).l.length->(c.aF a i).toNat<n/\0<=c.aF a i/\c.aF a i<c.aa.nodes.length:=fun i hi=>by have hm:c.aF a i∈(c.node a).l:=fa hi;have:=Wv _ hm;omega
 have ev0:=nZ c a;have YF:=h.ev ev0;have Vd:=FH c a h h0 h1;unfold fy cS at hk;have e19:(c.node a).kind=1\/(c.node a).kind=19\/(c.node a).kind=2\/(c.node a).kind=3\/(c.node a).kind=4\/(c.node a).kind=21\/(c.node a).kind=5\/(c.node a).kind=9\/(c.node a).kind=6\/(c.node a).kind=7\/(c.node a).kind=8\/(c.node a).kind=20:=jB;rcases e19 with k|k|k|k|k|k|k|k|k|k|k|k
 ·have Vk:(nth c.aa.nodes a.toNat).kind=1:=k;rw[show cw (aA n) c a=(c,1) from by unfold cw;rw[k];rfl];refine aO func139 ntmps139 ?_;refine S ?_
  (have W:=Vk;repeat' (first|refine aq fun K hK=>?_|refine ak ?_|(refine hK _ _ ?_;clear hK K)|(refine ao ?_ ?_<;>intro hc<;>try exact jz)|refine ap ?_|exact jI|(clear hK K)))
  (refine aW [.tmp 4] ?_;try simp only[go_sem])
 ·have Vk:(nth c.aa.nodes a.toNat).kind=19:=k;rw[show cw (aA n) c a=(c,1) from by unfold cw;rw[k];rfl];refine aO func139 ntmps139 ?_;refine S ?_
  (have W:=Vk;repeat' (first|refine aq fun K hK=>?_|refine ak ?_|(refine hK _ _ ?_;clear hK K)|(refine ao ?_ ?_<;>intro hc<;>try exact jz)|refine ap ?_|exact jI|(clear hK K)))
  (refine aW [.tmp 4] ?_;try simp only[go_sem])
 ·have Vk:(nth c.aa.nodes a.toNat).kind=2:=k;rw[show cw (aA n) c a=(c,2) from by unfold cw;rw[k];rfl];refine aO func139 ntmps139 ?_;refine S ?_
  (have W:=Vk;repeat' (first|refine aq fun K hK=>?_|refine ak ?_|(refine hK _ _ ?_;clear hK K)|(refine ao ?_ ?_<;>intro hc<;>try exact jz)|refine ap ?_|exact jI|(clear hK K)))
  (refine aW [.tmp 4] ?_;try simp only[go_sem])
 ·have Vk:(nth c.aa.nodes a.toNat).kind=3:=k;rw[show cw (aA n) c a=(c,3) from by unfold cw;rw[k];rfl];refine aO func139 ntmps139 ?_;refine S ?_
  (have W:=Vk;repeat' (first|refine aq fun K hK=>?_|refine ak ?_|(refine hK _ _ ?_;clear hK K)|(refine ao ?_ ?_<;>intro hc<;>try exact jz)|refine ap ?_|exact jI|(clear hK K)))
  (refine aW [.tmp 4] ?_;try simp only[go_sem])
 ·have Vk:(nth c.aa.nodes a.toNat).kind=4:=k;rw[show cw (aA n) c a=c.named a from by unfold cw;rw[k];rfl];refine aO func139 ntmps139 ?_;refine S ?_
  (have W:=Vk;repeat' (first|refine aq fun K hK=>?_|refine ak ?_|(refine hK _ _ ?_;clear hK K)|(refine ao ?_ ?_<;>intro hc<;>try exact jz)|refine cm (Vd) ?_|refine ap ?_|exact jI|(clear hK K)))
  (refine aW [.tmp 4] ?_;try simp only[go_sem])
 ·have Vk:(nth c.aa.nodes a.toNat).kind=21:=k;rw[show cw (aA n) c a=je (aA n) c a from by unfold cw;rw[k];rfl];have U4:=Vp c a h h0 h1 hn k;refine aO func139 ntmps139 ?_;refine S ?_
  (have W:=Vk;repeat' (first|refine aq fun K hK=>?_|refine ak ?_|(refine hK _ _ ?_;clear hK K)|(refine ao ?_ ?_<;>intro hc<;>try exact jz)|refine cm (U4) ?_|refine ap ?_|exact jI|(clear hK K)))
  (refine aW [.tmp 4] ?_;try simp only[go_sem])
 ·have Vk:(nth c.aa.nodes a.toNat).kind=5:=k;obtain⟨x,hl,Vs⟩:=sh.one jB;have Wr:(c.node a).l.length=1:=by rw[hl];rfl
  have Wk:(nth c.aa.nodes a.toNat).l.length=1:=Wr;obtain⟨g1,g2,g3⟩:=VI 0 jB;have X2:fy (c.node (c.aF a 0)).kind:=by
   have:c.aF a 0=x:=by unfold Ck.aF;rw[hl];rfl
   rw[this];exact .inl Vs
  have hex:=hx (c.named a).1 (c.aF a 0) YF g2 (by rw[ev0.aa];exact g3) g1 (by rw[ev0.node];exact X2);have hm:=oq (aA n (c.named a).1 (c.aF a 0)).1 (decide ((c.named a).2=4) && decide ((aA n (c.named a).1 (c.aF a 0)).2=1)) a;rw[show cw (aA n) c a=((aA n (c.named a).1 (c.aF a 0)).1.av (decide ((c.named a).2=4) && decide ((aA n (c.named a).1 (c.aF a 0)).2=1)) a,1) from by unfold cw;rw[k];rfl];refine aO func139 ntmps139 ?_;refine S ?_
  (have W:=Vk;repeat' (first|refine aq fun K hK=>?_|refine ak ?_|(refine hK _ _ ?_;clear hK K)|(refine ao ?_ ?_<;>intro hc<;>try exact jz)|refine cm (Vd) ?_|refine cm (hex) ?_|refine cm (hm) ?_|refine ap ?_|exact jI|(clear hK K)))
  (refine aW [.tmp 4] ?_;try simp only[go_sem])
 ·have Vk:(nth c.aa.nodes a.toNat).kind=9:=k;obtain⟨x,y,hl,Vs,Yg⟩:=sh.two jB;have Wr:(c.node a).l.length=2:=by rw[hl];rfl
  have Wk:(nth c.aa.nodes a.toNat).l.length=2:=Wr;obtain⟨g1,g2,g3⟩:=VI 0 jB;obtain⟨g4,g5,g6⟩:=VI 1 jB;have X2:fy (c.node (c.aF a 0)).kind:=by
   have:c.aF a 0=x:=by unfold Ck.aF;rw[hl];rfl
   rw[this];exact .inl Vs
  have hky:fy (c.node (c.aF a 1)).kind:=by
   have:c.aF a 1=y:=by unfold Ck.aF;rw[hl];rfl
   rw[this];exact .inl Yg
  have ev1:=fx n c (c.aF a 0);have hex:=hx c (c.aF a 0) h g2 g3 g1 X2;have hey:=hx (aA n c (c.aF a 0)).1 (c.aF a 1) (h.ev ev1) g5 (by rw[ev1.aa];exact g6) g4 (by rw[ev1.node];exact hky);have hb:=K6 (c.node a).name (aA n c (c.aF a 0)).2 (aA n (aA n c (c.aF a 0)).1 (c.aF a 1)).2;have hm:=oq (aA n (aA n c (c.aF a 0)).1 (c.aF a 1)).1 (!decide (lZ (c.node a).name (aA n c (c.aF a 0)).2 (aA n (aA n c (c.aF a 0)).1 (c.aF a 1)).2=0)) a;rw[show cw (aA n) c a=((aA n (aA n c (c.aF a 0)).1 (c.aF a 1)).1.av (!decide (lZ (c.node a).name (aA n c (c.aF a 0)).2 (aA n (aA n c (c.aF a 0)).1 (c.aF a 1)).2=0)) a,lZ (c.node a).name (aA n c (c.aF a 0)).2 (aA n (aA n c (c.aF a 0)).1 (c.aF a 1)).2) from by unfold cw;rw[k];rfl];refine aO func139 ntmps139 ?_;refine S ?_
  (have W:=Vk;repeat' (first|refine aq fun K hK=>?_|refine ak ?_|(refine hK _ _ ?_;clear hK K)|(refine ao ?_ ?_<;>intro hc<;>try exact jz)|refine cm (hex) ?_|refine cm (hey) ?_|refine cp (hb) ?_|refine cm (hm) ?_|refine ap ?_|exact jI|(clear hK K)))
  (refine aW [.tmp 4] ?_;try simp only[go_sem])
 ·have Vk:(nth c.aa.nodes a.toNat).kind=6:=k;obtain⟨x,hl,Vs⟩:=sh.one jB;have Wr:(c.node a).l.length=1:=by rw[hl];rfl
  have Wk:(nth c.aa.nodes a.toNat).l.length=1:=Wr;obtain⟨g1,g2,g3⟩:=VI 0 jB;have X2:fy (c.node (c.aF a 0)).kind:=by
   have:c.aF a 0=x:=by unfold Ck.aF;rw[hl];rfl
   rw[this];exact .inl Vs
  have hex:=hx c (c.aF a 0) h g2 g3 g1 X2;have hm:=oq (aA n c (c.aF a 0)).1 (decide ((aA n c (c.aF a 0)).2=3) || decide ((aA n c (c.aF a 0)).2=4)) a;rw[show cw (aA n) c a=((aA n c (c.aF a 0)).1.av (decide ((aA n c (c.aF a 0)).2=3) || decide ((aA n c (c.aF a 0)).2=4)) a,1) from by unfold cw;rw[k];rfl];refine aO func139 ntmps139 ?_;refine S ?_
  (have W:=Vk;repeat' (first|refine aq fun K hK=>?_|refine ak ?_|(refine hK _ _ ?_;clear hK K)|(refine ao ?_ ?_<;>intro hc<;>try exact jz)|refine cm (hex) ?_|refine cm (hm) ?_|refine ap ?_|exact jI|(clear hK K)))
  (refine aW [.tmp 4] ?_;try simp only[go_sem])
 ·have Vk:(nth c.aa.nodes a.toNat).kind=7:=k;obtain⟨x,hl,Vs⟩:=sh.one jB;have Wr:(c.node a).l.length=1:=by rw[hl];rfl
  have Wk:(nth c.aa.nodes a.toNat).l.length=1:=Wr;obtain⟨g1,g2,g3⟩:=VI 0 jB;have X2:fy (c.node (c.aF a 0)).kind:=by
   have:c.aF a 0=x:=by unfold Ck.aF;rw[hl];rfl
   rw[this];exact .inl Vs
  have hex:=hx c (c.aF a 0) h g2 g3 g1 X2;have hm:=oq (aA n c (c.aF a 0)).1 (decide ((aA n c (c.aF a 0)).2=1)) a;rw[show cw (aA n) c a=((aA n c (c.aF a 0)).1.av (decide ((aA n c (c.aF a 0)).2=1)) a,1) from by unfold cw;rw[k];rfl];refine aO func139 ntmps139 ?_;refine S ?_
  (have W:=Vk;repeat' (first|refine aq fun K hK=>?_|refine ak ?_|(refine hK _ _ ?_;clear hK K)|(refine ao ?_ ?_<;>intro hc<;>try exact jz)|refine cm (hex) ?_|refine cm (hm) ?_|refine ap ?_|exact jI|(clear hK K)))
  (refine aW [.tmp 4] ?_;try simp only[go_sem])
 ·have Vk:(nth c.aa.nodes a.toNat).kind=8:=k;obtain⟨x,hl,Vs⟩:=sh.one jB;have Wr:(c.node a).l.length=1:=by rw[hl];rfl
  have Wk:(nth c.aa.nodes a.toNat).l.length=1:=Wr;obtain⟨g1,g2,g3⟩:=VI 0 jB;have X2:fy (c.node (c.aF a 0)).kind:=by
   have:c.aF a 0=x:=by unfold Ck.aF;rw[hl];rfl
   rw[this];exact .inl Vs
  have hex:=hx c (c.aF a 0) h g2 g3 g1 X2;have hm:=oq (aA n c (c.aF a 0)).1 (decide ((aA n c (c.aF a 0)).2=2)) a;rw[show cw (aA n) c a=((aA n c (c.aF a 0)).1.av (decide ((aA n c (c.aF a 0)).2=2)) a,2) from by unfold cw;rw[k];rfl];refine aO func139 ntmps139 ?_;refine S ?_
  (have W:=Vk;repeat' (first|refine aq fun K hK=>?_|refine ak ?_|(refine hK _ _ ?_;clear hK K)|(refine ao ?_ ?_<;>intro hc<;>try exact jz)|refine cm (hex) ?_|refine cm (hm) ?_|refine ap ?_|exact jI|(clear hK K)))
  (refine aW [.tmp 4] ?_;try simp only[go_sem])
 ·have Vk:(nth c.aa.nodes a.toNat).kind=20:=k;obtain⟨x,hl,Vs⟩:=sh.one jB;have Wr:(c.node a).l.length=1:=by rw[hl];rfl
  have Wk:(nth c.aa.nodes a.toNat).l.length=1:=Wr;obtain⟨g1,g2,g3⟩:=VI 0 jB;have X2:fy (c.node (c.aF a 0)).kind:=by
   have:c.aF a 0=x:=by unfold Ck.aF;rw[hl];rfl
   rw[this];exact .inl Vs
  have hex:=hx c (c.aF a 0) h g2 g3 g1 X2;have hm:=oq (aA n c (c.aF a 0)).1 (decide ((aA n c (c.aF a 0)).2=1)) a;rw[show cw (aA n) c a=((aA n c (c.aF a 0)).1.av (decide ((aA n c (c.aF a 0)).2=1)) a,4) from by unfold cw;rw[k];rfl];refine aO func139 ntmps139 ?_;refine S ?_
  (have W:=Vk;repeat' (first|refine aq fun K hK=>?_|refine ak ?_|(refine hK _ _ ?_;clear hK K)|(refine ao ?_ ?_<;>intro hc<;>try exact jz)|refine cm (hex) ?_|refine cm (hm) ?_|refine ap ?_|exact jI|(clear hK K)))
  (refine aW [.tmp 4] ?_;try simp only[go_sem])
def tV(a:Int)(c:Ck)(ps:List bM):iE a c [] ps=c:=by cases ps<;>rfl
def ux(a:Int)(c:Ck)(ts:UP):iE a c ts []=c:=by cases ts<;>rfl
theorem Ih{α:Type}(f:α->UR)(nm:UR):∀(l:List α) (i k:Int),0<=i->(jR f nm l i k=k\/i<=jR f nm l i k)/\(jR f nm l i k=k\/jR f nm l i k<i+l.length)
 |[],i,k,_=>by unfold jR;exact⟨.inl rfl,.inl rfl⟩
 |v::l,i,k,hi=>by
  unfold jR;obtain⟨h1,h2⟩:=Ih f nm l (i+1) (if f v=nm then i else k) jB;simp only[List.length_cons];split at h1<;>rename_i hv
  ·rw[if_pos hv]at h2 ⊢;omega
  ·rw[if_neg hv]at h2 ⊢;omega
def NF(n:Nat)(hx:uO n):EN n:=by
 intro c a h h0 h1 hn hk;have hz:=h.size;have hv:=h.vars;have htf:=h.aa.aw;have XL:=h.aa.many;obtain⟨sh,Wv⟩:=vU h h0 h1;have hck:=h.aa.chain;have O':(nth c.aa.nodes a.toNat).l.length<=300:=Aa h h0 h1;have XY:∀i,i<(c.node a).l.length->fy (c.node (nth (c.node a).l i)).kind/\(nth (c.node a).l i).toNat<n/\0<=nth (c.node a).l i/\nth (c.node a).l i<c.aa.nodes.length:=fun i hi=>by have hm:nth (c.node a).l i∈(c.node a).l:=fa hi;have:=Wv _ hm;exact⟨.inl (sh.call hk _ hm),jB,this.1,jB⟩
 obtain⟨lg1,lg2⟩:=Ih bj.name (c.node a).name c.aa.aw 0 (-1) jB;have lg1:fV c a=-1\/0<=fV c a:=lg1;have lg2:fV c a=-1\/fV c a<0+c.aa.aw.length:=lg2;refine aO func164 ntmps164 ?_;refine S ?_
 (repeat' (first|refine aq fun K hK=>?_|refine ak ?_|(refine hK _ _ ?_;clear hK K)|(refine ao ?_ ?_<;>intro hc<;>try exact jz)|refine ap ?_|exact jI|(clear hK K)))
 have Vb:=hK;clear hK;refine ee (S:=Nat×Int) [(6,2),(22,25)] (fun s=>s.1<=c.aa.aw.length/\jR bj.name (c.node a).name (c.aa.aw.drop s.1) s.1 s.2=fV c a) (fun s=>[(7,rI s.1),(6,rI s.2)]) (fun _=>⟨[0,1,2,3,4,5],fL c++[(6,.var 66 (eN (c.node a)))]⟩) (fun s=>c.aa.aw.length-s.1) (0,-1) ⟨jJ,rfl⟩ (dZ jQ cr) ?_;rintro⟨k,j⟩ ⟨Vr,Vc⟩ Kr U5;simp only at Vr Vc
 (refine S ?_;try exact jI)
 by_cases I':k<c.aa.aw.length
 ·rw[kW I']at Vc;unfold jR at Vc
  (repeat' (first|refine aq fun K hK=>?_|refine ak ?_|(with_reducible refine gR 6 ?_);refine dE 6 (ba 0 13) mixed ?_|(refine hK _ _ ?_;clear hK K)|(refine ao ?_ ?_<;>intro hc<;>try exact jz)|refine ap ?_|exact jI|(clear hK K)))
  ·rw[if_pos hc]at Vc;refine U5 _ _ (dY (k+1,(k:Int)) ⟨jJ,by rw[<-Vc];rfl⟩ jJ jQ cr)
  ·rw[if_neg hc]at Vc;refine U5 _ _ (dY (k+1,j) ⟨jJ,by rw[<-Vc];rfl⟩ jJ jQ cr)
 ·rw[List.drop_eq_nil_of_le jB]at Vc;have Vc:j=fV c a:=Vc;subst Vc;by_cases haH:fV c a<0
  ·rw[je,if_pos haH]at*
   (repeat' (first|refine aq fun K hK=>?_|refine ak ?_|(refine hK _ _ ?_;clear hK K)|(refine ao ?_ ?_<;>intro hc<;>try exact jz)|refine Vb _ _ ?_|refine cm (te c 40 a) ?_|refine ap ?_|exact jI|(clear hK K)))
   (refine aW [.tmp 4] ?_;try simp only[go_sem])
  ·have YE:0<=fV c a:=jB;have YC:(fV c a).toNat<c.aa.aw.length:=jB;have hfp:=(h.aa.fn _ (fa YC)).2;have e0:je (aA n) c a=(iE a (if(c.node a).l.length≠(nth c.aa.aw (fV c a).toNat).params.length then(gG (aA n) c (c.node a).l []).1.aE 43 a else(gG (aA n) c (c.node a).l []).1) (gG (aA n) c (c.node a).l []).2 (nth c.aa.aw (fV c a).toNat).params,(nth c.aa.aw (fV c a).toNat).ret):=by
    rw[je,if_neg haH]
   (repeat' (first|refine aq fun K hK=>?_|refine ak ?_|(refine hK _ _ ?_;clear hK K)|(refine ao ?_ ?_<;>intro hc<;>try exact jz)|refine Vb _ _ ?_|refine ap ?_|exact jI|(clear hK K)))
   have Y1:=hK;clear hK;refine jW (dT.nil 8 9 3 (sz:=1) rfl jC (Or.inr ⟨_,_,_,rfl,rfl⟩)) ?_
   (refine S ?_;try exact jI)
   refine ee (S:=Nat×Ck×UP) [(9,3),(62,25)] (fun s=>s.1<=(c.node a).l.length/\Ev c s.2.1/\s.2.2.length=s.1/\gG (aA n) s.2.1 ((c.node a).l.drop s.1) s.2.2=gG (aA n) c (c.node a).l []) (fun s=>[(10,rI s.1),(9,.rs 8 s.2.2.length 1 s.2.2.length)]) (fun s=>⟨[0,1,2,3,4,5],fL s.2.1++[(6,.var 66 (eN (c.node a))),(7,.var 98 (fY (nth c.aa.aw (fV c a).toNat))),(8,.aG 3 1 (s.2.2.map eI))]⟩) (fun s=>(c.node a).l.length-s.1) (0,c,[]) ⟨jJ,.refl c,rfl,rfl⟩ (dZ jQ cr) ?_;rintro⟨i,q,ts⟩ ⟨Xx,ev,hts,hA⟩ Kr2 Ys;simp only at Xx ev hts hA;have hq:=h.ev ev;have lt1:=hq.types;have lt2:=hq.slots;have lt3:=hq.aw;have lt4:=hq.vars;have lt5:=hq.size;have hlq:(c.node a).l.length<=300:=O'
   (refine S ?_;try exact jI)
   by_cases V9:i<(c.node a).l.length/\q.e=0
   ·obtain⟨VD,Ww⟩:=V9;rw[kW VD,gG,if_pos Ww]at hA;obtain⟨g1,g2,g3,g4⟩:=XY i VD;have hxc:=hx q (nth (c.node a).l i) hq g3 (by rw[ev.aa];exact g4) g2 (by rw[ev.node];exact g1)
    (have W:=Ww;repeat' (first|refine aq fun K hK=>?_|refine ak ?_|(refine hK _ _ ?_;clear hK K)|(refine ao ?_ ?_<;>intro hc<;>try exact jz)|refine cm (hxc) ?_|refine ap ?_|exact jI|(clear hK K)))
    refine Ys _ _ (dY (i+1,(aA n q (nth (c.node a).l i)).1,ts++[(aA n q (nth (c.node a).l i)).2]) ⟨jJ,ev.trans (fx _ _ _),by simp[hts],hA⟩ jJ jQ cr)
   have hA2:gG (aA n) c (c.node a).l []=(q,ts):=by
    rw[<-hA];by_cases VD:i<(c.node a).l.length
    ·rw[kW VD,gG,if_neg fun e=>V9 ⟨VD,e⟩]
    ·rw[List.drop_eq_nil_of_le jB,gG]
   have X1:q=(gG (aA n) c (c.node a).l []).1:=by rw[hA2]
   have hq2:ts=(gG (aA n) c (c.node a).l []).2:=by rw[hA2]
   by_cases VM:(c.node a).l.length≠(nth c.aa.aw (fV c a).toNat).params.length
   ·have hah:(((c.node a).l.length:Int)=((nth c.aa.aw (fV c a).toNat).params.length:Int))=False:=eq_false jB;have Yh:(q.aE 43 a).e≠0:=by unfold Ck.aE;split;(exact fun h=>by cases h);assumption
    have evx:Ev c (q.aE 43 a):=ev.trans (oj q jC a);have hb:((q.aE 43 a)).e=0->ts.length<=(nth c.aa.aw (fV c a).toNat).params.length:=fun h=>(Yh h).elim
    (have W:=hah;repeat' (first|refine aq fun K hK=>?_|refine ak ?_|(refine hK _ _ ?_;clear hK K)|(refine ao ?_ ?_<;>intro hc<;>try exact jz)|(refine Y1 _ _ ?_)|refine cm (te q 43 a) ?_|refine ap ?_|exact jI|(clear hK K)))
    have hai:=hK;clear hK;refine ee (S:=Nat×Ck) [(12,1),(97,27)] (fun s=>s.1<=ts.length/\Ev (q.aE 43 a) s.2/\iE a s.2 (ts.drop s.1) ((nth c.aa.aw (fV c a).toNat).params.drop s.1)=iE a (q.aE 43 a) ts (nth c.aa.aw (fV c a).toNat).params) (fun s=>[(12,rI s.1)]) (fun s=>⟨[0,1,2,3,4,5],fL s.2++[(6,.var 66 (eN (c.node a))),(7,.var 98 (fY (nth c.aa.aw (fV c a).toNat))),(8,.aG 3 1 (ts.map eI))]⟩) (fun s=>ts.length-s.1) (0,(q.aE 43 a)) ⟨jJ,.refl _,rfl⟩ (dZ jQ cr) ?_;rintro⟨m,z⟩ ⟨Xy,WW,Wd⟩ Kr3 haI;simp only at Xy WW Wd
    (refine S ?_;try exact jI)
    by_cases V9:m<ts.length/\z.e=0
    ·obtain⟨VD,Ww⟩:=V9;have XK:((q.aE 43 a)).e=0:=Classical.byContradiction fun h=>WW.err h Ww
     exact(Yh XK).elim
    ·have hz:z=iE a (q.aE 43 a) ts (nth c.aa.aw (fV c a).toNat).params:=by
      by_cases VD:m<ts.length
      ·have Ww:z.e≠0:=fun e=>V9 ⟨VD,e⟩
       rw[kW VD]at Wd;cases hp:(nth c.aa.aw (fV c a).toNat).params.drop m with
       |nil=>rw[hp,ux]at Wd;exact Wd
       |cons x y=>rw[hp,iE,if_neg Ww]at Wd;exact Wd
      ·rw[List.drop_eq_nil_of_le jB,tV]at Wd;exact Wd
     (repeat' (first|refine aq fun K hK=>?_|refine ak ?_|(refine hK _ _ ?_;clear hK K)|(refine ao ?_ ?_<;>intro hc<;>try exact jz)|(refine hai _ _ ?_)|refine ap ?_|exact jI|(clear hK K)))
     all_goals first|(exact absurd ⟨jB,by assumption⟩ V9)|skip
     have e1:je (aA n) c a=(z,(nth c.aa.aw (fV c a).toNat).ret):=by rw[e0,if_pos VM,<-X1,<-hq2,hz]
     all_goals(
      rw[e1]
      (refine aW [.tmp 4] ?_;try simp only[go_sem]))
   ·have hah:((c.node a).l.length:Int)=((nth c.aa.aw (fV c a).toNat).params.length:Int):=jB;have Yh:True:=trivial;have evx:Ev c q:=ev;have hb:(q).e=0->ts.length<=(nth c.aa.aw (fV c a).toNat).params.length:=fun _=>jB
    (have W:=hah;repeat' (first|refine aq fun K hK=>?_|refine ak ?_|(refine hK _ _ ?_;clear hK K)|(refine ao ?_ ?_<;>intro hc<;>try exact jz)|(refine Y1 _ _ ?_)|refine ap ?_|exact jI|(clear hK K)))
    have hai:=hK;clear hK;refine ee (S:=Nat×Ck) [(12,1),(97,27)] (fun s=>s.1<=ts.length/\Ev q s.2/\iE a s.2 (ts.drop s.1) ((nth c.aa.aw (fV c a).toNat).params.drop s.1)=iE a q ts (nth c.aa.aw (fV c a).toNat).params) (fun s=>[(12,rI s.1)]) (fun s=>⟨[0,1,2,3,4,5],fL s.2++[(6,.var 66 (eN (c.node a))),(7,.var 98 (fY (nth c.aa.aw (fV c a).toNat))),(8,.aG 3 1 (ts.map eI))]⟩) (fun s=>ts.length-s.1) (0,q) ⟨jJ,.refl _,rfl⟩ (dZ jQ cr) ?_;rintro⟨m,z⟩ ⟨Xy,WW,Wd⟩ Kr3 haI;simp only at Xy WW Wd
    (refine S ?_;try exact jI)
    by_cases V9:m<ts.length/\z.e=0
    ·obtain⟨VD,Ww⟩:=V9;have XK:(q).e=0:=Classical.byContradiction fun h=>WW.err h Ww
     have hmp:m<(nth c.aa.aw (fV c a).toNat).params.length:=by have:=hb XK;omega
     rw[kW VD,kW hmp,iE,if_pos Ww]at Wd
     (have W:=Ww;repeat' (first|refine aq fun K hK=>?_|refine ak ?_|(with_reducible refine gR 23 ?_);refine dE 23 (ba 0 14) mixed ?_|(refine hK _ _ ?_;clear hK K)|(refine ao ?_ ?_<;>intro hc<;>try exact jz)|refine cm (oq z (decide (nth ts m=(nth (nth c.aa.aw (fV c a).toNat).params m).ty)) a) ?_|refine ap ?_|exact jI|(clear hK K)))
     refine haI _ _ (dY (m+1,z.av (decide (nth ts m=(nth (nth c.aa.aw (fV c a).toNat).params m).ty)) a) ⟨jJ,WW.trans (kP _ _ _),Wd⟩ jJ jQ cr)
    ·have hz:z=iE a q ts (nth c.aa.aw (fV c a).toNat).params:=by
      by_cases VD:m<ts.length
      ·have Ww:z.e≠0:=fun e=>V9 ⟨VD,e⟩
       rw[kW VD]at Wd;cases hp:(nth c.aa.aw (fV c a).toNat).params.drop m with
       |nil=>rw[hp,ux]at Wd;exact Wd
       |cons x y=>rw[hp,iE,if_neg Ww]at Wd;exact Wd
      ·rw[List.drop_eq_nil_of_le jB,tV]at Wd;exact Wd
     (repeat' (first|refine aq fun K hK=>?_|refine ak ?_|(refine hK _ _ ?_;clear hK K)|(refine ao ?_ ?_<;>intro hc<;>try exact jz)|(refine hai _ _ ?_)|refine ap ?_|exact jI|(clear hK K)))
     all_goals first|(exact absurd ⟨jB,by assumption⟩ V9)|skip
     have e1:je (aA n) c a=(z,(nth c.aa.aw (fV c a).toNat).ret):=by rw[e0,if_neg VM,<-X1,<-hq2,hz]
     all_goals(
      rw[e1]
      (refine aW [.tmp 4] ?_;try simp only[go_sem]))
structure Sv(c c':Ck):Prop where
 aa:c'.aa=c.aa
 fn:c'.fn=c.fn
 aP:c'.aP=c.aP
 err:c.e≠0->c'.e≠0
 inv:bJ c'
 pre:∃u,c'.vars=c.vars++u
def Sv.refl{c:Ck}(h:bJ c):Sv c c:=⟨rfl,rfl,rfl,id,h,[],jE⟩
def Sv.iG{c c':Ck}(h:bJ c)(s:Ev c c'):Sv c c':=⟨s.aa,s.fn,s.aP,s.err,h.ev s,[],by rw[s.vars];simp⟩
theorem Sv.trans{a b c:Ck}(h:Sv a b)(k:Sv b c):Sv a c:=⟨k.aa.trans h.aa,k.fn.trans h.fn,k.aP.trans h.aP,fun e=>k.err (h.err e),k.inv,by obtain⟨u,hu⟩:=h.pre;obtain⟨v,hv⟩:=k.pre;exact⟨u++v,by rw[hv,hu,List.append_assoc]⟩⟩
def iS(ex:Ck->Int->Ck×Int)(c:Ck)(a:Int):Ck:=(ex c (c.aF a 0)).1.av (!decide ((ex c (c.aF a 0)).2=0)) a
def jO(ex:Ck->Int->Ck×Int)(c:Ck)(a:Int):Ck:=if 0<=(iS ex c a).find (c.node a).name then(iS ex c a).aE 41 a else iS ex c a
def eR(ex:Ck->Int->Ck×Int)(c:Ck)(a:Int):Ck:=if 24<=(jO ex c a).size then(jO ex c a).aE 4 a else jO ex c a
def Bi(c:Ck)(a:Int)(v:bI):Ck:={ (c.slot a c.size)with vars:=c.vars++[v],more:=c.more.drop 1,size:=c.size+1 }
def uF(ex:Ck->Int->Ck×Int)(c:Ck)(a:Int):pm ex c a=Bi (eR ex c a) a ⟨(c.node a).name,(ex c (c.aF a 0)).2,(eR ex c a).size⟩:=rfl
def Bj(hex:∀c a,Ev c (ex c a).1)(c:Ck)(a:Int):Ev c (iS ex c a):=(hex c _).trans (kP _ _ _)
def CQ(hex:∀c a,Ev c (ex c a).1)(c:Ck)(a:Int):Ev c (jO ex c a):=by
 unfold jO;split
 ·exact(Bj hex c a).trans (oj _ jC a)
 ·exact Bj hex c a
def Ae(hex:∀c a,Ev c (ex c a).1)(c:Ck)(a:Int):Ev c (eR ex c a):=by
 unfold eR;split
 ·exact(CQ hex c a).trans (oj _ jC a)
 ·exact CQ hex c a
def MK{c:Ck}(h:(eR ex c a).e=0):(eR ex c a).size<24:=by
 unfold eR at h ⊢;split
 ·rename_i hs;rw[if_pos hs]at h;exfalso;unfold Ck.aE at h;split at h
  ·cases h
  ·contradiction
 ·omega
def Nl{c:Ck}(h:bJ c)(a:Int)(v:bI)(h24:c.size<=24)(hr:c.e=0->c.size<24):Sv c (Bi c a v):=by refine⟨rfl,rfl,rfl,id,⟨h.aa,h.types,by show(c.slots.set _ _).length=_;rw[List.length_set];exact h.slots,h.aw,h.aP,h.wa,h.vg,?_,by show c.size+1<=25;omega,fun e=>by show c.size+1<=24;have:=hr e;omega⟩,[v],rfl⟩;show((c.vars++[v]).length:Int)<=c.size+1;have:=h.vars;simp;omega
def Od(hex:∀c a,Ev c (ex c a).1){c:Ck}(h:bJ c)(he:c.e=0)(a:Int):Sv c (pm ex c a):=by rw[uF];have s:=Ae hex c a;refine(Sv.iG h s).trans (Nl (h.ev s) a _ ?_ MK);rw[s.size];exact h.room he
def Me(hex:∀c a,Ev c (ex c a).1){c:Ck}(h:bJ c)(a:Int):Sv c (kJ ex c a):=by
 refine Sv.iG h ?_;unfold kJ;simp only;split
 ·exact oj c jC a
 split
 ·exact(hex c _).trans (kP _ _ _)
 ·exact .refl c
theorem rz{st:Ck->Int->Ck}(P':∀c a,bJ c->c.e=0->Sv c (st c a)):∀(l:UP) (c:Ck),bJ c->Sv c (dS st c l)
 |[],c,h=>by unfold dS;exact .refl h
 |a::l,c,h=>by
  unfold dS;split
  ·rename_i he;have s:=P' c a h he;exact s.trans (rz P' l _ s.inv)
  ·exact .refl h
def qk{st:Ck->Int->Ck}(P':∀c a,bJ c->c.e=0->Sv c (st c a)){c:Ck}(h:bJ c)(a:Int):Sv c (fp st c a)/\(fp st c a).vars=c.vars:=by
 have s:=(Sv.iG h (rM c a)).trans (rz P' (c.node a).l _ (h.ev (rM c a)));obtain⟨u,hu⟩:=s.pre;have hv:(dS st (c.ai a) (c.node a).l).vars.take (min c.vars.length (dS st (c.ai a) (c.node a).l).vars.length)=c.vars:=by rw[hu,Nat.min_eq_left jE,List.take_left'];rfl
 have hi:=s.inv;refine⟨⟨s.aa,s.fn,s.aP,s.err,⟨hi.aa,hi.types,hi.slots,hi.aw,hi.aP,hi.wa,hi.vg,?_,hi.size,hi.room⟩,[],by rw[List.append_nil];exact hv⟩,hv⟩;have:=hi.vars;show(((dS st (c.ai a) (c.node a).l).vars.take _).length:Int)<=_;rw[List.length_take];show _<=(dS st (c.ai a) (c.node a).l).size;omega
theorem oL:∀(n:Nat) (c:Ck) (a:Int),bJ c->c.e=0->Sv c (bU n c a)
 |0,c,a,h,he=>by unfold bU;exact .refl h
 |n+1,c,a,h,he=>by
  have e0:=rM c a;have h0:=h.ev e0;have s0:=Sv.iG h e0;have hx:=fx n;unfold bU;simp only;repeat' split
  ·exact s0.trans (Od hx h0 he a)
  ·exact s0.trans (Sv.iG h0 (((nZ _ a).trans (hx _ _)).trans (kP _ _ _)))
  ·exact s0.trans (Sv.iG h0 ((((nZ _ a).trans (hx _ _)).trans (hx _ _)).trans (kP _ _ _)))
  ·exact s0.trans (Sv.iG h0 (hx _ _))
  ·exact s0.trans (Sv.iG h0 ((hx _ _).trans (kP _ _ _)))
  ·exact s0.trans (Me hx h0 a)
  ·have s1:=s0.trans (Sv.iG h0 ((hx (c.ai a) ((c.ai a).aF a 0)).trans (kP _ (decide ((aA n (c.ai a) ((c.ai a).aF a 0)).2=2)) a)));exact s1.trans (rz (fun q b hq _=>(qk (oL n) hq b).1) _ _ s1.inv)
def Dk(n:Nat):Prop:=∀(c:Ck) (a:Int),bJ c->c.e=0->0<=a->a<c.aa.nodes.length->a.toNat<n->fA (c.node a).kind->ab prog 105 [pR,rI a] (fL c) (fun v l=>v=.aQ []/\l=fL (bU n c a))
def JY(n:Nat):Prop:=∀(c:Ck) (a:Int),bJ c->0<=a->a<c.aa.nodes.length->a.toNat<=n->(c.node a).kind=18->ab prog 75 [pR,rI a] (fL c) (fun v l=>v=.aQ []/\l=fL (fp (bU n) c a))
attribute [go_sem] Bi List.length_drop
def P6(n:Nat)(hx:uO n)(c:Ck)(a:Int)(h:bJ c)(he:c.e=0)(h0:0<=a)(h1:a<c.aa.nodes.length)(hn:a.toNat<=n)(hk:(c.node a).kind=10):ab prog 118 [pR,rI a] (fL c) (fun v l=>v=.aQ []/\l=fL (pm (aA n) c a)):=by
 obtain⟨sh,Wv⟩:=vU h h0 h1;obtain⟨x,hl,Vs⟩:=sh.right jB;have Wk:(nth c.aa.nodes a.toNat).l.length=1:=by
  have:(c.node a).l.length=1:=by rw[hl];rfl
  exact this
 have X2:c.aF a 0=x:=by unfold Ck.aF;rw[hl];rfl
 have hm:=Wv x (by rw[hl];simp);have hex:=hx c (c.aF a 0) h jB jB jB (by rw[X2];exact Vs);have VN:ab prog 121 _ _ (fun v l=>v=.aQ []/\l=fL (iS (aA n) c a)):=oq (aA n c (c.aF a 0)).1 (!decide ((aA n c (c.aF a 0)).2=0)) a;have eA:=Bj (fx n) c a;have eB:=CQ (fx n) c a;have eC:=Ae (fx n) c a;have hA:=h.ev eA;have hC:=h.ev eC;have V0:=Bc (iS (aA n) c a) (c.node a).name hA;have Y0:=te (iS (aA n) c a) 41 a;have Zv:=te (jO (aA n) c a) 4 a;have V5:=hC.slots;have hcz:=hC.size;have Yz:=hC.vars;have X5:=eC.size;have hc24:=h.room he;rw[eC.aa]at V5;rw[uF];refine aO func118 ntmps118 ?_
 (refine S ?_;try exact jI)
 by_cases c1:0<=(iS (aA n) c a).find (c.node a).name
 ·have e1:jO (aA n) c a=(iS (aA n) c a).aE 41 a:=if_pos c1;rw[<-e1]at Y0;by_cases c2:24<=(jO (aA n) c a).size
  ·have e2:eR (aA n) c a=(jO (aA n) c a).aE 4 a:=if_pos c2;rw[<-e2]at Zv
   (repeat' (first|refine aq fun K hK=>?_|refine ak ?_|(with_reducible refine gR 7 ?_);refine dE 7 (ba 0 12) mixed ?_|(with_reducible refine gR 8 ?_);refine dE 8 (ba 0 18) mixed ?_|(refine hK _ _ ?_;clear hK K)|(refine ao ?_ ?_<;>intro hc<;>try exact jz)|refine cm (hex) ?_|refine cm (VN) ?_|refine cm (V0) ?_|refine cm (Y0) ?_|refine cm (Zv) ?_|refine q5 (eR (aA n) c a).vars (eR (aA n) c a).more [⟨(c.node a).name,(aA n c (c.aF a 0)).2,(eR (aA n) c a).size⟩] ?_|refine ap ?_|exact jI|(clear hK K)))
   (refine aW [] ?_;try simp only[go_sem])
  ·have e2:eR (aA n) c a=jO (aA n) c a:=if_neg c2;rw[e2]at V5 hcz Yz X5;rw[e2]
   (repeat' (first|refine aq fun K hK=>?_|refine ak ?_|(with_reducible refine gR 7 ?_);refine dE 7 (ba 0 12) mixed ?_|(with_reducible refine gR 8 ?_);refine dE 8 (ba 0 18) mixed ?_|(refine hK _ _ ?_;clear hK K)|(refine ao ?_ ?_<;>intro hc<;>try exact jz)|refine cm (hex) ?_|refine cm (VN) ?_|refine cm (V0) ?_|refine cm (Y0) ?_|refine q5 (jO (aA n) c a).vars (jO (aA n) c a).more [⟨(c.node a).name,(aA n c (c.aF a 0)).2,(jO (aA n) c a).size⟩] ?_|refine ap ?_|exact jI|(clear hK K)))
   (refine aW [] ?_;try simp only[go_sem])
 ·have e1:jO (aA n) c a=iS (aA n) c a:=if_neg c1;rw[e1]at Zv;by_cases c2:24<=(iS (aA n) c a).size
  ·have e2:eR (aA n) c a=(iS (aA n) c a).aE 4 a:=by unfold eR;rw[e1];exact if_pos c2
   rw[<-e2]at Zv
   (repeat' (first|refine aq fun K hK=>?_|refine ak ?_|(with_reducible refine gR 7 ?_);refine dE 7 (ba 0 12) mixed ?_|(with_reducible refine gR 8 ?_);refine dE 8 (ba 0 18) mixed ?_|(refine hK _ _ ?_;clear hK K)|(refine ao ?_ ?_<;>intro hc<;>try exact jz)|refine cm (hex) ?_|refine cm (VN) ?_|refine cm (V0) ?_|refine cm (Zv) ?_|refine q5 (eR (aA n) c a).vars (eR (aA n) c a).more [⟨(c.node a).name,(aA n c (c.aF a 0)).2,(eR (aA n) c a).size⟩] ?_|refine ap ?_|exact jI|(clear hK K)))
   (refine aW [] ?_;try simp only[go_sem])
  ·have e2:eR (aA n) c a=iS (aA n) c a:=by unfold eR;rw[e1];exact if_neg c2
   rw[e2]at V5 hcz Yz X5;rw[e2]
   (repeat' (first|refine aq fun K hK=>?_|refine ak ?_|(with_reducible refine gR 7 ?_);refine dE 7 (ba 0 12) mixed ?_|(with_reducible refine gR 8 ?_);refine dE 8 (ba 0 18) mixed ?_|(refine hK _ _ ?_;clear hK K)|(refine ao ?_ ?_<;>intro hc<;>try exact jz)|refine cm (hex) ?_|refine cm (VN) ?_|refine cm (V0) ?_|refine q5 (iS (aA n) c a).vars (iS (aA n) c a).more [⟨(c.node a).name,(aA n c (c.aF a 0)).2,(iS (aA n) c a).size⟩] ?_|refine ap ?_|exact jI|(clear hK K)))
   (refine aW [] ?_;try simp only[go_sem])
def Kq(n:Nat)(hs:Dk n):JY n:=by
 intro c a h h0 h1 hn hk;obtain⟨sh,Wv⟩:=vU h h0 h1;have O':(nth c.aa.nodes a.toNat).l.length<=300:=Aa h h0 h1;have e0:=rM c a;have hq0:=h.ev e0;have Wb:=h.aw;have hvz:=h.vars;have U':=h.size;refine aO func75 ntmps75 ?_;refine S ?_
 (repeat' (first|refine aq fun K hK=>?_|refine ak ?_|(with_reducible refine gR 0 ?_);refine dE 0 (ba 0 12) mixed ?_|(refine hK _ _ ?_;clear hK K)|(refine ao ?_ ?_<;>intro hc<;>try exact jz)|refine ap ?_|exact jI|(clear hK K)))
 have Vb:=hK;clear hK;refine ee (S:=Nat×Ck) [(6,1),(33,19)] (fun s=>s.1<=(c.node a).l.length/\Sv (c.ai a) s.2/\dS (bU n) s.2 ((c.node a).l.drop s.1)=dS (bU n) (c.ai a) (c.node a).l) (fun s=>[(6,rI s.1)]) (fun s=>⟨[0,1,2,3,4,5],fL s.2⟩) (fun s=>(c.node a).l.length-s.1) (0,c.ai a) ⟨jJ,.refl hq0,rfl⟩ (dZ jQ cr) ?_;rintro⟨i,q⟩ ⟨hi,hq,hA⟩ Kr U5;simp only at hi hq hA
 (refine S ?_;try exact jI)
 have lt1:=hq.inv.types;have lt3:=hq.inv.aw;have lt4:=hq.inv.vars;have lt5:=hq.inv.size;by_cases V9:i<(c.node a).l.length/\q.e=0
 ·obtain⟨VD,Ww⟩:=V9;have haJ:i<(nth c.aa.nodes a.toNat).l.length:=VD;rw[kW VD,dS,if_pos Ww]at hA;have hm:nth (c.node a).l i∈(c.node a).l:=fa VD;have hb:=Wv _ hm;have P':=hs q (nth (c.node a).l i) hq.inv Ww hb.1 (by rw[hq.aa];show _<(c.aa.nodes.length:Int);omega) jB (by
   have:q.node (nth (c.node a).l i)=c.node (nth (c.node a).l i):=by unfold Ck.node;rw[hq.aa];rfl
   rw[this];exact sh.block hk _ hm)
  (have W:=Ww;repeat' (first|refine aq fun K hK=>?_|refine ak ?_|(refine hK _ _ ?_;clear hK K)|(refine ao ?_ ?_<;>intro hc<;>try exact jz)|refine cm (P') ?_|refine ap ?_|exact jI|(clear hK K)))
  refine U5 _ _ (dY (i+1,bU n q (nth (c.node a).l i)) ⟨jJ,hq.trans (oL n q _ hq.inv Ww),hA⟩ jJ jQ cr)
 ·have hz:q=dS (bU n) (c.ai a) (c.node a).l:=by
   by_cases VD:i<(c.node a).l.length
   ·rw[kW VD,dS,if_neg fun e=>V9 ⟨VD,e⟩]at hA;exact hA
   ·rw[List.drop_eq_nil_of_le jB,dS]at hA;exact hA
  have e1:fp (bU n) c a={ q with vars:=q.vars.take (min c.vars.length q.vars.length),more:=q.vars.drop (min c.vars.length q.vars.length)++q.more }:=by unfold fp;rw[<-hz]
  obtain⟨u,hu⟩:=hq.pre;have hu:q.vars=c.vars++u:=hu;have YX:min c.vars.length q.vars.length=c.vars.length:=by rw[hu];simp
  have Y2:¬(i<(nth c.aa.nodes a.toNat).l.length/\q.e=0):=V9
  (repeat' (first|refine aq fun K hK=>?_|refine ak ?_|(with_reducible refine gR 7 ?_);refine dE 7 (ba 0 16) mixed ?_|(refine hK _ _ ?_;clear hK K)|(refine ao ?_ ?_<;>intro hc<;>try exact jz)|refine Vb _ _ ?_|refine ap ?_|exact jI|(clear hK K)))
  all_goals first|(exact absurd ⟨by have:=hc.1;omega,hc.2⟩ Y2)|skip
  have ht:q.vars.take c.vars.length=c.vars:=by rw[hu,List.take_left' rfl]
  have hd:q.vars.drop c.vars.length=u:=by rw[hu,List.drop_left' rfl]
  rw[e1,YX,ht,hd]
  (refine bY [] ?_ ?_<;>(try simp only[go_sem]))
  simp only[hu,List.map_append,List.append_assoc,List.length_append,Nat.add_assoc];rw[jN,Int.toNat_natCast]
def TQ(n:Nat)(hx:uO n)(c:Ck)(a:Int)(h:bJ c)(h0:0<=a)(h1:a<c.aa.nodes.length)(hn:a.toNat<=n)(hk:(c.node a).kind=17):ab prog 122 [pR,rI a] (fL c) (fun v l=>v=.aQ []/\l=fL (kJ (aA n) c a)):=by
 obtain⟨sh,Wv⟩:=vU h h0 h1;have VY:=h.wa;have hfh:=h.vg;have O':(nth c.aa.nodes a.toNat).l.length<=300:=Aa h h0 h1;have haK:=te c 43 a;have Y3:decide (((c.node a).l.length:Int)=1)=decide ((c.node a).l.length=1):=by rw[decide_eq_decide];omega
 by_cases b:decide ((c.node a).l.length=1)≠(!decide ((nth c.aa.aw c.fn.toNat).ret=0))
 ·have e1:kJ (aA n) c a=c.aE 43 a:=if_pos b;have hb:(decide (((nth c.aa.nodes a.toNat).l.length:Int)=1) == !decide ((nth c.aa.aw c.fn.toNat).ret=0))=false:=by
   rw[show((nth c.aa.nodes a.toNat).l.length)=(c.node a).l.length from rfl,Y3];simpa using b
  rw[e1];refine aO func122 ntmps122 ?_;refine S ?_
  (have W:=hb;repeat' (first|refine aq fun K hK=>?_|refine ak ?_|(with_reducible refine gR 1 ?_);refine dE 1 (ba 0 14) mixed ?_|(refine hK _ _ ?_;clear hK K)|(refine ao ?_ ?_<;>intro hc<;>try exact jz)|refine cm (haK) ?_|refine ap ?_|exact jI|(clear hK K)))
  (refine aW [] ?_;try simp only[go_sem])
 ·have hb:(decide (((nth c.aa.nodes a.toNat).l.length:Int)=1) == !decide ((nth c.aa.aw c.fn.toNat).ret=0))=true:=by
   rw[show((nth c.aa.nodes a.toNat).l.length)=(c.node a).l.length from rfl,Y3];rw[Classical.not_not.1 b];exact beq_self_eq_true _
  by_cases hl:(c.node a).l.length=1
  ·have Wk:(nth c.aa.nodes a.toNat).l.length=1:=hl;have e1:kJ (aA n) c a=(aA n c (c.aF a 0)).1.av (decide ((aA n c (c.aF a 0)).2=(nth c.aa.aw c.fn.toNat).ret)) a:=by unfold kJ;simp only;rw[if_neg b,if_pos hl]
   rcases sh.ret hk with h2|⟨x,h2,h3⟩
   ·rw[h2]at hl;cases hl
   have X2:c.aF a 0=x:=by unfold Ck.aF;rw[h2];rfl
   have hm:=Wv x (by rw[h2];simp);have hex:=hx c (c.aF a 0) h jB jB jB (by rw[X2];exact .inl h3);have VN:=oq (aA n c (c.aF a 0)).1 (decide ((aA n c (c.aF a 0)).2=(nth c.aa.aw c.fn.toNat).ret)) a;rw[e1];refine aO func122 ntmps122 ?_;refine S ?_
   (have W:=hb;repeat' (first|refine aq fun K hK=>?_|refine ak ?_|(with_reducible refine gR 1 ?_);refine dE 1 (ba 0 14) mixed ?_|(refine hK _ _ ?_;clear hK K)|(refine ao ?_ ?_<;>intro hc<;>try exact jz)|refine cm (hex) ?_|refine cm (VN) ?_|refine ap ?_|exact jI|(clear hK K)))
   (refine aW [] ?_;try simp only[go_sem])
  ·have Wk:¬(nth c.aa.nodes a.toNat).l.length=1:=hl;have e1:kJ (aA n) c a=c:=by unfold kJ;simp only;rw[if_neg b,if_neg hl]
   rw[e1];refine aO func122 ntmps122 ?_;refine S ?_
   (have W:=hb;repeat' (first|refine aq fun K hK=>?_|refine ak ?_|(with_reducible refine gR 1 ?_);refine dE 1 (ba 0 14) mixed ?_|(refine hK _ _ ?_;clear hK K)|(refine ao ?_ ?_<;>intro hc<;>try exact jz)|refine ap ?_|exact jI|(clear hK K)))
   (refine aW [] ?_;try simp only[go_sem])
def O7(n:Nat):Prop:=∀(c:Ck) (a:Int),bJ c->c.e=0->0<=a->a<c.aa.nodes.length->a.toNat<=n->(c.node a).kind=10->ab prog 118 [pR,rI a] (fL c) (fun v l=>v=.aQ []/\l=fL (pm (aA n) c a))
def Mz(n:Nat):Prop:=∀(c:Ck) (a:Int),bJ c->0<=a->a<c.aa.nodes.length->a.toNat<=n->(c.node a).kind=17->ab prog 122 [pR,rI a] (fL c) (fun v l=>v=.aQ []/\l=fL (kJ (aA n) c a))
def L3(n:Nat)(hx:uO n)(hl:O7 n)(hr:Mz n)(hbl:JY n):Dk (n+1):=by
 intro c a h he h0 h1 hn hk;have ev:=rM c a;have hq:=h.ev ev;obtain⟨sh,Wv⟩:=vU h h0 h1;have O':(nth c.aa.nodes a.toNat).l.length<=300:=Aa h h0 h1;have Wb:=h.aw;have hvz:=h.vars;have U':=h.size;have VI:∀i,i<(c.node a).l.length->(c.aF a i).toNat<n/\0<=c.aF a i/\c.aF a i<c.aa.nodes.length:=fun i hi=>by have hm:c.aF a i∈(c.node a).l:=fa hi;have:=Wv _ hm;omega
 have en:=nZ (c.ai a) a;have hqn:=hq.ev en;have Vd:=FH (c.ai a) a hq h0 h1;have e17:(c.node a).kind=10\/(c.node a).kind=11\/(c.node a).kind=12\/(c.node a).kind=13\/(c.node a).kind=14\/(c.node a).kind=17\/((c.node a).kind=15\/(c.node a).kind=16):=by unfold fA at hk;omega
 rcases e17 with k|k|k|k|k|k|k
 ·have Vk:(nth c.aa.nodes a.toNat).kind=10:=k;have k0:((c.ai a).node a).kind=10:=k;have hlc:=hl (c.ai a) a hq he h0 h1 jB k0;rw[show bU (n+1) c a=pm (aA n) (c.ai a) a from by unfold bU;simp only;rw[k0];rfl];refine aO func105 ntmps105 ?_;refine S ?_
  (have W:=Vk;repeat' (first|refine aq fun K hK=>?_|refine ak ?_|(with_reducible refine gR 1 ?_);refine dE 1 (ba 0 12) mixed ?_|(refine hK _ _ ?_;clear hK K)|(refine ao ?_ ?_<;>intro hc<;>try exact jz)|refine cm (hlc) ?_|refine ap ?_|exact jI|(clear hK K)))
  (refine aW [] ?_;try simp only[go_sem])
 ·have Vk:(nth c.aa.nodes a.toNat).kind=11:=k;have k0:((c.ai a).node a).kind=11:=k;obtain⟨x,Ws,V6⟩:=sh.right jB;have Wr:(c.node a).l.length=1:=by rw[Ws];rfl
  have Wk:(nth c.aa.nodes a.toNat).l.length=1:=Wr;obtain⟨g0a,g0b,g0c⟩:=VI 0 jB;have Vh:c.aF a 0=x:=by unfold Ck.aF;rw[Ws];rfl
  have hex:=hx ((c.ai a).named a).1 (c.aF a 0) hqn g0b (by rw[en.aa];exact g0c) g0a (by rw[en.node];show fy (c.node (c.aF a 0)).kind;rw[Vh];exact V6);have VN:=oq (aA n ((c.ai a).named a).1 (c.aF a 0)).1 (decide (((c.ai a).named a).2=(aA n ((c.ai a).named a).1 (c.aF a 0)).2)) a;rw[show bU (n+1) c a=(aA n ((c.ai a).named a).1 (c.aF a 0)).1.av (decide (((c.ai a).named a).2=(aA n ((c.ai a).named a).1 (c.aF a 0)).2)) a from by unfold bU;simp only;rw[k0];rfl];refine aO func105 ntmps105 ?_;refine S ?_
  (have W:=Vk;repeat' (first|refine aq fun K hK=>?_|refine ak ?_|(with_reducible refine gR 1 ?_);refine dE 1 (ba 0 12) mixed ?_|(refine hK _ _ ?_;clear hK K)|(refine ao ?_ ?_<;>intro hc<;>try exact jz)|refine cm (Vd) ?_|refine cm (hex) ?_|refine cm (VN) ?_|refine ap ?_|exact jI|(clear hK K)))
  (refine aW [] ?_;try simp only[go_sem])
 ·have Vk:(nth c.aa.nodes a.toNat).kind=12:=k;have k0:((c.ai a).node a).kind=12:=k;obtain⟨x,y,Ws,V6,Xb⟩:=sh.two jB;have Wr:(c.node a).l.length=2:=by rw[Ws];rfl
  have Wk:(nth c.aa.nodes a.toNat).l.length=2:=Wr;obtain⟨g0a,g0b,g0c⟩:=VI 0 jB;have Vh:c.aF a 0=x:=by unfold Ck.aF;rw[Ws];rfl
  obtain⟨g1a,g1b,g1c⟩:=VI 1 jB;have Vr:c.aF a 1=y:=by unfold Ck.aF;rw[Ws];rfl
  have ex1:=fx n ((c.ai a).named a).1 (c.aF a 0);have hex:=hx ((c.ai a).named a).1 (c.aF a 0) hqn g0b (by rw[en.aa];exact g0c) g0a (by rw[en.node];show fy (c.node (c.aF a 0)).kind;rw[Vh];exact .inl V6);have hey:=hx (aA n ((c.ai a).named a).1 (c.aF a 0)).1 (c.aF a 1) (hqn.ev ex1) g1b (by rw[ex1.aa,en.aa];exact g1c) g1a (by rw[ex1.node,en.node];show fy (c.node (c.aF a 1)).kind;rw[Vr];exact .inl Xb);have VN:=oq (aA n (aA n ((c.ai a).named a).1 (c.aF a 0)).1 (c.aF a 1)).1 (decide (((c.ai a).named a).2=4) && decide ((aA n ((c.ai a).named a).1 (c.aF a 0)).2=1) && decide ((aA n (aA n ((c.ai a).named a).1 (c.aF a 0)).1 (c.aF a 1)).2=1)) a;rw[show bU (n+1) c a=(aA n (aA n ((c.ai a).named a).1 (c.aF a 0)).1 (c.aF a 1)).1.av (decide (((c.ai a).named a).2=4) && decide ((aA n ((c.ai a).named a).1 (c.aF a 0)).2=1) && decide ((aA n (aA n ((c.ai a).named a).1 (c.aF a 0)).1 (c.aF a 1)).2=1)) a from by unfold bU;simp only;rw[k0];rfl];refine aO func105 ntmps105 ?_;refine S ?_
  (have W:=Vk;repeat' (first|refine aq fun K hK=>?_|refine ak ?_|(with_reducible refine gR 1 ?_);refine dE 1 (ba 0 12) mixed ?_|(refine hK _ _ ?_;clear hK K)|(refine ao ?_ ?_<;>intro hc<;>try exact jz)|refine cm (Vd) ?_|refine cm (hex) ?_|refine cm (hey) ?_|refine cm (VN) ?_|refine ap ?_|exact jI|(clear hK K)))
  (refine aW [] ?_;try simp only[go_sem])
 ·have Vk:(nth c.aa.nodes a.toNat).kind=13:=k;have k0:((c.ai a).node a).kind=13:=k;obtain⟨x,Ws,V6⟩:=sh.tn jB;have Wr:(c.node a).l.length=1:=by rw[Ws];rfl
  have Wk:(nth c.aa.nodes a.toNat).l.length=1:=Wr;obtain⟨g0a,g0b,g0c⟩:=VI 0 jB;have Vh:c.aF a 0=x:=by unfold Ck.aF;rw[Ws];rfl
  have hex:=hx (c.ai a) (c.aF a 0) hq g0b g0c g0a (by show fy (c.node (c.aF a 0)).kind;rw[Vh];exact .inr (.inr (.inr V6)));rw[show bU (n+1) c a=(aA n (c.ai a) (c.aF a 0)).1 from by unfold bU;simp only;rw[k0];rfl];refine aO func105 ntmps105 ?_;refine S ?_
  (have W:=Vk;repeat' (first|refine aq fun K hK=>?_|refine ak ?_|(with_reducible refine gR 1 ?_);refine dE 1 (ba 0 12) mixed ?_|(refine hK _ _ ?_;clear hK K)|(refine ao ?_ ?_<;>intro hc<;>try exact jz)|refine cm (hex) ?_|refine ap ?_|exact jI|(clear hK K)))
  (refine aW [] ?_;try simp only[go_sem])
 ·have Vk:(nth c.aa.nodes a.toNat).kind=14:=k;have k0:((c.ai a).node a).kind=14:=k;obtain⟨x,Ws,V6⟩:=sh.one jB;have Wr:(c.node a).l.length=1:=by rw[Ws];rfl
  have Wk:(nth c.aa.nodes a.toNat).l.length=1:=Wr;obtain⟨g0a,g0b,g0c⟩:=VI 0 jB;have Vh:c.aF a 0=x:=by unfold Ck.aF;rw[Ws];rfl
  have hex:=hx (c.ai a) (c.aF a 0) hq g0b g0c g0a (by show fy (c.node (c.aF a 0)).kind;rw[Vh];exact .inl V6);have VN:=oq (aA n (c.ai a) (c.aF a 0)).1 (!decide ((aA n (c.ai a) (c.aF a 0)).2=4)) a;rw[show bU (n+1) c a=(aA n (c.ai a) (c.aF a 0)).1.av (!decide ((aA n (c.ai a) (c.aF a 0)).2=4)) a from by unfold bU;simp only;rw[k0];rfl];refine aO func105 ntmps105 ?_;refine S ?_
  (have W:=Vk;repeat' (first|refine aq fun K hK=>?_|refine ak ?_|(with_reducible refine gR 1 ?_);refine dE 1 (ba 0 12) mixed ?_|(refine hK _ _ ?_;clear hK K)|(refine ao ?_ ?_<;>intro hc<;>try exact jz)|refine cm (hex) ?_|refine cm (VN) ?_|refine ap ?_|exact jI|(clear hK K)))
  (refine aW [] ?_;try simp only[go_sem])
 ·have Vk:(nth c.aa.nodes a.toNat).kind=17:=k;have k0:((c.ai a).node a).kind=17:=k;have hrc:=hr (c.ai a) a hq h0 h1 jB k0;rw[show bU (n+1) c a=kJ (aA n) (c.ai a) a from by unfold bU;simp only;rw[k0];rfl];refine aO func105 ntmps105 ?_;refine S ?_
  (have W:=Vk;repeat' (first|refine aq fun K hK=>?_|refine ak ?_|(with_reducible refine gR 1 ?_);refine dE 1 (ba 0 12) mixed ?_|(refine hK _ _ ?_;clear hK K)|(refine ao ?_ ?_<;>intro hc<;>try exact jz)|refine cm (hrc) ?_|refine ap ?_|exact jI|(clear hK K)))
  (refine aW [] ?_;try simp only[go_sem])
 ·have Vj:1<=(c.node a).l.length/\cS (c.node (c.aF a 0)).kind/\∀i,i<(c.node a).l.length->1<=i->(c.node (nth (c.node a).l i)).kind=18:=by
   have fin:∀{x y:Int},(c.node a).l=[x,y]->cS (bX c.aa.nodes x)->bX c.aa.nodes y=18->1<=(c.node a).l.length/\cS (c.node (c.aF a 0)).kind/\∀i,i<(c.node a).l.length->1<=i->(c.node (nth (c.node a).l i)).kind=18:=fun{x y} e hx hy=>by
    refine⟨by rw[e];simp,by have:c.aF a 0=x:=(by unfold Ck.aF;rw[e];rfl);rw[this];exact hx,fun i hi h1=>?_⟩;rw[e]at hi ⊢;obtain rfl:i=1:=by simp at hi;omega
    exact hy
   rcases k with k|k
   ·obtain⟨x,y,Vs,Yg,Ws⟩:=sh.lA k;rcases Ws with Ws|⟨d,Ws,hd⟩
    ·exact fin Ws Vs Yg
    ·refine⟨by rw[Ws];simp,by have:c.aF a 0=x:=(by unfold Ck.aF;rw[Ws];rfl);rw[this];exact Vs,fun i hi h1=>?_⟩;rw[Ws]at hi ⊢;rcases(show i=1\/i=2 by simp at hi;omega)with rfl|rfl
     ·exact Yg
     ·exact hd
   ·obtain⟨x,y,Ws,Vs,Yg⟩:=sh.eF k;exact fin Ws Vs Yg
  obtain⟨Wr,Vs,Zw⟩:=Vj;have Wk:1<=(nth c.aa.nodes a.toNat).l.length:=Wr;obtain⟨g0a,g0b,g0c⟩:=VI 0 jB;have hex:=hx (c.ai a) (c.aF a 0) hq g0b g0c g0a (.inl Vs);have eM:Ev c ((aA n (c.ai a) (c.aF a 0)).1.av (decide ((aA n (c.ai a) (c.aF a 0)).2=2)) a):=(ev.trans (fx n _ _)).trans (kP _ _ _);have hM:=h.ev eM;have VN:=oq (aA n (c.ai a) (c.aF a 0)).1 (decide ((aA n (c.ai a) (c.aF a 0)).2=2)) a;rcases k with k|k
  ·have Vk:(nth c.aa.nodes a.toNat).kind=15:=k;have k0:((c.ai a).node a).kind=15:=k;rw[show bU (n+1) c a=dS (fp (bU n)) ((aA n (c.ai a) (c.aF a 0)).1.av (decide ((aA n (c.ai a) (c.aF a 0)).2=2)) a) ((c.node a).l.drop 1) from by unfold bU;simp only;rw[k0];rfl];generalize hY:dS (fp (bU n)) ((aA n (c.ai a) (c.aF a 0)).1.av (decide ((aA n (c.ai a) (c.aF a 0)).2=2)) a) ((c.node a).l.drop 1)=Y;refine aO func105 ntmps105 ?_;refine S ?_
   (have W:=Vk;repeat' (first|refine aq fun K hK=>?_|refine ak ?_|(with_reducible refine gR 1 ?_);refine dE 1 (ba 0 12) mixed ?_|(refine hK _ _ ?_;clear hK K)|(refine ao ?_ ?_<;>intro hc<;>try exact jz)|refine cm (hex) ?_|refine cm (VN) ?_|refine ap ?_|exact jI|(clear hK K)))
   refine ee (S:=Nat×Ck) [(12,1),(46,21)] (fun s=>s.1<=(c.node a).l.length/\1<=s.1/\bJ s.2/\s.2.aa=c.aa/\dS (fp (bU n)) s.2 ((c.node a).l.drop s.1)=Y) (fun s=>[(12,rI s.1)]) (fun s=>⟨[0,1,2,3,4,5],fL s.2++[(6,.var 66 (eN (c.node a)))]⟩) (fun s=>(c.node a).l.length-s.1) (1,(aA n (c.ai a) (c.aF a 0)).1.av (decide ((aA n (c.ai a) (c.aF a 0)).2=2)) a) ⟨jJ,Nat.le_refl _,hM,eM.aa,hY⟩ (dZ jQ cr) ?_;rintro⟨i,z⟩ ⟨hi,Xx,hz,Zx,hA⟩ Kr U5;simp only at hi Xx hz Zx hA;have VE:i<=(nth c.aa.nodes a.toNat).l.length:=hi
   (refine S ?_;try exact jI)
   by_cases V9:i<(c.node a).l.length/\z.e=0
   ·obtain⟨VD,Ww⟩:=V9;have haJ:i<(nth c.aa.nodes a.toNat).l.length:=VD;rw[kW VD,dS,if_pos Ww]at hA;have hm:nth (c.node a).l i∈(c.node a).l:=fa VD;have hb:=Wv _ hm;have hbc:=hbl z (nth (c.node a).l i) hz hb.1 (by rw[Zx];omega) jB (by
     have:z.node (nth (c.node a).l i)=c.node (nth (c.node a).l i):=by unfold Ck.node;rw[Zx]
     rw[this];exact Zw i VD Xx)
    have sz:=(qk (fun q b hq he=>oL n q b hq he) hz (nth (c.node a).l i)).1
    (have W:=Ww;repeat' (first|refine aq fun K hK=>?_|refine ak ?_|(refine hK _ _ ?_;clear hK K)|(refine ao ?_ ?_<;>intro hc<;>try exact jz)|refine cm (hbc) ?_|refine ap ?_|exact jI|(clear hK K)))
    refine U5 _ _ (dY (i+1,fp (bU n) z (nth (c.node a).l i)) ⟨jJ,jJ,sz.inv,sz.aa.trans Zx,hA⟩ jJ jQ cr)
   ·have YB:z=Y:=by
     by_cases VD:i<(c.node a).l.length
     ·rw[kW VD,dS,if_neg fun e=>V9 ⟨VD,e⟩]at hA;exact hA
     ·rw[List.drop_eq_nil_of_le jB,dS]at hA;exact hA
    have Y2:¬(i<(nth c.aa.nodes a.toNat).l.length/\z.e=0):=V9
    (repeat' (first|refine aq fun K hK=>?_|refine ak ?_|(refine hK _ _ ?_;clear hK K)|(refine ao ?_ ?_<;>intro hc<;>try exact jz)|refine ap ?_|exact jI|(clear hK K)))
    all_goals first|(exact absurd ⟨by have:=hc.1;omega,hc.2⟩ Y2)|skip
    rw[<-YB]
    (refine aW [] ?_;try simp only[go_sem])
  ·have Vk:(nth c.aa.nodes a.toNat).kind=16:=k;have k0:((c.ai a).node a).kind=16:=k;rw[show bU (n+1) c a=dS (fp (bU n)) ((aA n (c.ai a) (c.aF a 0)).1.av (decide ((aA n (c.ai a) (c.aF a 0)).2=2)) a) ((c.node a).l.drop 1) from by unfold bU;simp only;rw[k0];rfl];generalize hY:dS (fp (bU n)) ((aA n (c.ai a) (c.aF a 0)).1.av (decide ((aA n (c.ai a) (c.aF a 0)).2=2)) a) ((c.node a).l.drop 1)=Y;refine aO func105 ntmps105 ?_;refine S ?_
   (have W:=Vk;repeat' (first|refine aq fun K hK=>?_|refine ak ?_|(with_reducible refine gR 1 ?_);refine dE 1 (ba 0 12) mixed ?_|(refine hK _ _ ?_;clear hK K)|(refine ao ?_ ?_<;>intro hc<;>try exact jz)|refine cm (hex) ?_|refine cm (VN) ?_|refine ap ?_|exact jI|(clear hK K)))
   refine ee (S:=Nat×Ck) [(12,1),(46,21)] (fun s=>s.1<=(c.node a).l.length/\1<=s.1/\bJ s.2/\s.2.aa=c.aa/\dS (fp (bU n)) s.2 ((c.node a).l.drop s.1)=Y) (fun s=>[(12,rI s.1)]) (fun s=>⟨[0,1,2,3,4,5],fL s.2++[(6,.var 66 (eN (c.node a)))]⟩) (fun s=>(c.node a).l.length-s.1) (1,(aA n (c.ai a) (c.aF a 0)).1.av (decide ((aA n (c.ai a) (c.aF a 0)).2=2)) a) ⟨jJ,Nat.le_refl _,hM,eM.aa,hY⟩ (dZ jQ cr) ?_;rintro⟨i,z⟩ ⟨hi,Xx,hz,Zx,hA⟩ Kr U5;simp only at hi Xx hz Zx hA;have VE:i<=(nth c.aa.nodes a.toNat).l.length:=hi
   (refine S ?_;try exact jI)
   by_cases V9:i<(c.node a).l.length/\z.e=0
   ·obtain⟨VD,Ww⟩:=V9;have haJ:i<(nth c.aa.nodes a.toNat).l.length:=VD;rw[kW VD,dS,if_pos Ww]at hA;have hm:nth (c.node a).l i∈(c.node a).l:=fa VD;have hb:=Wv _ hm;have hbc:=hbl z (nth (c.node a).l i) hz hb.1 (by rw[Zx];omega) jB (by
     have:z.node (nth (c.node a).l i)=c.node (nth (c.node a).l i):=by unfold Ck.node;rw[Zx]
     rw[this];exact Zw i VD Xx)
    have sz:=(qk (fun q b hq he=>oL n q b hq he) hz (nth (c.node a).l i)).1
    (have W:=Ww;repeat' (first|refine aq fun K hK=>?_|refine ak ?_|(refine hK _ _ ?_;clear hK K)|(refine ao ?_ ?_<;>intro hc<;>try exact jz)|refine cm (hbc) ?_|refine ap ?_|exact jI|(clear hK K)))
    refine U5 _ _ (dY (i+1,fp (bU n) z (nth (c.node a).l i)) ⟨jJ,jJ,sz.inv,sz.aa.trans Zx,hA⟩ jJ jQ cr)
   ·have YB:z=Y:=by
     by_cases VD:i<(c.node a).l.length
     ·rw[kW VD,dS,if_neg fun e=>V9 ⟨VD,e⟩]at hA;exact hA
     ·rw[List.drop_eq_nil_of_le jB,dS]at hA;exact hA
    have Y2:¬(i<(nth c.aa.nodes a.toNat).l.length/\z.e=0):=V9
    (repeat' (first|refine aq fun K hK=>?_|refine ak ?_|(refine hK _ _ ?_;clear hK K)|(refine ao ?_ ?_<;>intro hc<;>try exact jz)|refine ap ?_|exact jI|(clear hK K)))
    all_goals first|(exact absurd ⟨by have:=hc.1;omega,hc.2⟩ Y2)|skip
    rw[<-YB]
    (refine aW [] ?_;try simp only[go_sem])
theorem x8:∀n,uO n
 |0=>fun c a h h0 h1 hn=>by omega
 |n+1=>UB n (UC n (x8 n) (NF n (x8 n)))
theorem JJ:∀n,Dk n
 |0=>fun c a h he h0 h1 hn=>by omega
 |n+1=>L3 n (x8 n) (fun c a h he h0 h1 hn hk=>P6 n (x8 n) c a h he h0 h1 hn hk) (fun c a h h0 h1 hn hk=>TQ n (x8 n) c a h h0 h1 hn hk) (Kq n (JJ n))
def Av(c:Ck):UM:=[aM eN 5 c.aa.nodes,aM fY 5 c.aa.aw,.rs 1 c.types.length 1 c.types.length,.rs 2 c.slots.length 1 c.slots.length,.rs 3 c.aw.length 1 c.aw.length,.rs 4 c.aP.length 1 c.aP.length,rI c.fn,.any,rI c.size,rI c.e,rI c.at_]
def n7(c:Ck):UL:=[(0,.var 103 (Av c)),(1,.aG 3 1 (c.types.map eI)),(2,.aG 3 1 (c.slots.map eI)),(3,.aG 3 1 (c.aw.map eI)),(4,.aG 3 1 (c.aP.map eI))]
attribute [go_sem] n7 Av
structure gD(c:Ck):Prop where
 aa:aR c.aa
 types:c.types.length=c.aa.nodes.length
 slots:c.slots.length=c.aa.nodes.length
 aw:c.aw.length=c.aa.nodes.length
def mU(c:Ck)(v:bI):Ck:={ c with vars:=c.vars++[v],more:=c.more.drop 1,size:=c.size+1 }
attribute [go_sem] mU
def AJ{c:Ck}(h:bJ c)(v:bI)(hs:c.size<=20):bJ (mU c v):=⟨h.aa,h.types,h.slots,h.aw,h.aP,h.wa,h.vg,by have:=h.vars;show((c.vars++[v]).length:Int)<=c.size+1;simp;omega,by show c.size+1<=25;omega,fun _=>by show c.size+1<=24;omega⟩
def Lc(c:Ck)(k:Nat)(h:gD c)(hk:k<c.aa.aw.length)(U':c.aP.length<6):ab prog 46 [pR,rI k] (n7 c) (fun v l=>v=.aQ []/\l=n7 (gU c k)):=by
 have hff:=h.aa.aw;have VY:=h.aa.fn _ (fa hk);have hp3:=VY.2;have X3:=h.aa.body _ (fa hk);have hbm:=h.aa.chain.mem (nth c.aa.aw k).body (List.mem_map.2 ⟨_,fa hk,rfl⟩);refine aO func46 ntmps46 ?_;refine S ?_
 (repeat' (first|refine aq fun K hK=>?_|refine ak ?_|(refine hK _ _ ?_;clear hK K)|(refine ao ?_ ?_<;>intro hc<;>try exact jz)|refine al 6 ?_|refine ap ?_|exact jI|(clear hK K)))
 have Vb:=hK;clear hK;refine jW (dT.gl 5 0 7 144 3 rfl jC rfl rfl) ?_
 (refine S ?_;try exact jI)
 generalize Wu:({ c with fn:=(k:Int),vars:=[],more:=[],size:=0 }:Ck)=c0;have Xg:bJ c0:=by subst Wu;exact⟨h.aa,h.types,h.slots,h.aw,by show c.aP.length<=6;omega,by show(0:Int)<=k;omega,by show(k:Int)<(c.aa.aw.length:Int);omega,by show((0:Nat):Int)<=0;omega,by show(0:Int)<=25;omega,fun _=>by show(0:Int)<=24;omega⟩
 have Vn:gU c k=(fun c2:Ck=>{ c2 with aP:=c2.aP++[c2.size],vars:=[],more:=[] }) (if(fF (nth c.aa.aw k).body c0 (nth c.aa.aw k).params 0).e=0 then fp (bU c.aa.nodes.length) (fF (nth c.aa.aw k).body c0 (nth c.aa.aw k).params 0) (nth c.aa.aw k).body else fF (nth c.aa.aw k).body c0 (nth c.aa.aw k).params 0):=by subst Wu;rfl
 refine jW (dT.perm (fL c0++[(6,.var 98 (fY (nth c.aa.aw k)))]) (fun i=>by subst Wu;simp only[go_sem,aC];(repeat' split)<;>first|rfl|omega)) ?_;refine ee (S:=Nat×Ck) [(5,1),(25,50)] (fun s=>s.1<=(nth c.aa.aw k).params.length/\bJ s.2/\s.2.size=s.1/\s.2.vars.length=s.1/\s.2.aa=c.aa/\s.2.aP=c.aP/\fF (nth c.aa.aw k).body s.2 ((nth c.aa.aw k).params.drop s.1) s.1=fF (nth c.aa.aw k).body c0 (nth c.aa.aw k).params 0) (fun s=>[(5,rI s.1)]) (fun s=>⟨[0,1,2,3,4],fL s.2++[(6,.var 98 (fY (nth c.aa.aw k)))]⟩) (fun s=>(nth c.aa.aw k).params.length-s.1) (0,c0) ⟨jJ,Xg,by subst Wu;rfl,by subst Wu;rfl,by subst Wu;rfl,by subst Wu;rfl,rfl⟩ (dZ rfl cr) ?_;rintro⟨i,q⟩ ⟨hi,hq,hqs,Z',YH,hqz,hA⟩ Kr U5;simp only at hi hq hqs Z' YH hqz hA
 (refine S ?_;try exact jI)
 by_cases I':i<(nth c.aa.aw k).params.length
 ·rw[kW I',fF]at hA;have V0:=Bc q (nth (nth c.aa.aw k).params i).name hq;have Y0:=te q 41 (nth c.aa.aw k).body;by_cases hf:0<=q.find (nth (nth c.aa.aw k).params i).name
  ·rw[if_pos hf]at hA;have ef:=oj q (e:=41) jC (nth c.aa.aw k).body;have Zj:=ef.vars;have VK:=ef.size;have Xx:=hq.ev ef;have Zn:(q.aE 41 (nth c.aa.aw k).body).vars.length=i:=by rw[Zj,Z']
   (repeat' (first|refine aq fun K hK=>?_|refine ak ?_|(with_reducible refine gR 9 ?_);refine dE 9 (ba 0 24) mixed ?_|(refine hK _ _ ?_;clear hK K)|(refine ao ?_ ?_<;>intro hc<;>try exact jz)|refine cm (V0) ?_|refine cm (Y0) ?_|refine q5 (q.aE 41 (nth c.aa.aw k).body).vars (q.aE 41 (nth c.aa.aw k).body).more [⟨(nth (nth c.aa.aw k).params i).name,(nth (nth c.aa.aw k).params i).ty,(i:Int)⟩] ?_|refine ap ?_|exact jI|(clear hK K)))
   refine U5 _ _ (dY (i+1,mU (q.aE 41 (nth c.aa.aw k).body) ⟨(nth (nth c.aa.aw k).params i).name,(nth (nth c.aa.aw k).params i).ty,(i:Int)⟩) ⟨jJ,AJ Xx _ jB,by show(q.aE 41 (nth c.aa.aw k).body).size+1=_;omega,by show((q.aE 41 (nth c.aa.aw k).body).vars++[_]).length=i+1;rw[List.length_append,Zn];rfl,ef.aa.trans YH,ef.aP.trans hqz,hA⟩ jJ jQ cr)
  ·rw[if_neg hf]at hA
   (repeat' (first|refine aq fun K hK=>?_|refine ak ?_|(with_reducible refine gR 9 ?_);refine dE 9 (ba 0 24) mixed ?_|(refine hK _ _ ?_;clear hK K)|(refine ao ?_ ?_<;>intro hc<;>try exact jz)|refine cm (V0) ?_|refine q5 q.vars q.more [⟨(nth (nth c.aa.aw k).params i).name,(nth (nth c.aa.aw k).params i).ty,(i:Int)⟩] ?_|refine ap ?_|exact jI|(clear hK K)))
   refine U5 _ _ (dY (i+1,mU q ⟨(nth (nth c.aa.aw k).params i).name,(nth (nth c.aa.aw k).params i).ty,(i:Int)⟩) ⟨jJ,AJ hq _ jB,by show q.size+1=_;omega,by show(q.vars++[_]).length=i+1;rw[List.length_append,Z'];rfl,YH,hqz,hA⟩ jJ jQ cr)
 ·have hz:q=fF (nth c.aa.aw k).body c0 (nth c.aa.aw k).params 0:=by
   rw[List.drop_eq_nil_of_le jB]at hA;exact hA
  rw[<-hz]at Vn;by_cases he:q.e=0
  ·rw[if_pos he]at Vn;have sb:=(qk (fun q b hq he=>oL c.aa.nodes.length q b hq he) hq (nth c.aa.aw k).body).1;have hbc:=Kq c.aa.nodes.length (JJ _) q (nth c.aa.aw k).body hq hbm.1 (by rw[YH];omega) jB (by unfold Ck.node;rw[YH];exact X3);have Xl:(fp (bU c.aa.nodes.length) q (nth c.aa.aw k).body).aP.length<6:=by rw[sb.aP,hqz];exact U'
   (have W:=he;repeat' (first|refine JT (id:=13) 0 7 ?_|refine aq fun K hK=>?_|refine ak ?_|(with_reducible refine gR 13 ?_);refine dE 13 (ba 0 16) mixed ?_|(refine hK _ _ ?_;clear hK K)|(refine ao ?_ ?_<;>intro hc<;>try exact jz)|refine Vb _ _ ?_|refine cm (hbc) ?_|refine ap ?_|exact jI|(clear hK K)))
   rw[Vn]
   (refine aW [] ?_;try simp only[go_sem])
  ·rw[if_neg he]at Vn;have Xl:q.aP.length<6:=by rw[hqz];exact U'
   (have W:=he;repeat' (first|refine JT (id:=13) 0 7 ?_|refine aq fun K hK=>?_|refine ak ?_|(with_reducible refine gR 13 ?_);refine dE 13 (ba 0 16) mixed ?_|(refine hK _ _ ?_;clear hK K)|(refine ao ?_ ?_<;>intro hc<;>try exact jz)|refine Vb _ _ ?_|refine ap ?_|exact jI|(clear hK K)))
   rw[Vn]
   (refine aW [] ?_;try simp only[go_sem])
def Jo(c:Ck)(e a:Int):ab prog 73 [pR,rI e,rI a] (n7 c) (fun v l=>v=.aQ []/\l=n7 (c.aE e a)):=by
 refine aO func73 ntmps73 ?_;refine S ?_
 (repeat' (first|refine aq fun K hK=>?_|refine ak ?_|(refine hK _ _ ?_;clear hK K)|(refine ao ?_ ?_<;>intro hc<;>try exact jz)|refine ap ?_|exact jI|(clear hK K)))
 ·(refine bY [] ?_ ?_<;>(try simp only[go_sem]))
  simp only[Ck.aE,if_pos hc,n7,Av]
 ·(refine bY [] ?_ ?_<;>(try simp only[go_sem]))
  simp only[Ck.aE,if_neg hc,n7,Av]
theorem CA(x:bj):∀(l:List bj) (c:Ck),Ev c (kT x c l)
 |[],c=>by unfold kT;exact .refl c
 |f::l,c=>by
  unfold kT;refine Ev.trans ?_ (CA x l _);split
  ·exact oj c jC _
  ·exact .refl c
theorem AR(aw:List bj):∀(n:Nat) (c:Ck) (m:Bool) (i:Nat),Ev c (kn aw c m i n).1
 |0,c,m,i=>by unfold kn;exact .refl c
 |n+1,c,m,i=>by unfold kn;exact(CA _ _ _).trans (AR aw n _ _ _)
def Gw(c:Ck):Ev c (jd c):=by
 unfold jd;simp only;split
 ·exact AR _ _ _ _ _
 ·exact(AR _ _ _ _ _).trans (oj _ jC _)
def NY(c:Ck)(h:c.aa.aw.length<=6):ab prog 45 [pR] (n7 c) (fun v l=>v=.aQ []/\l=n7 (jd c)):=by
 refine aO func45 ntmps45 ?_;refine S ?_
 (repeat' (first|refine aq fun K hK=>?_|refine ak ?_|(refine hK _ _ ?_;clear hK K)|(refine ao ?_ ?_<;>intro hc<;>try exact jz)|refine ap ?_|exact jI|(clear hK K)))
 have Vb:=hK;clear hK;refine ee (S:=Nat×Ck×Bool) [(3,3),(12,55)] (fun s=>s.1<=c.aa.aw.length/\kn c.aa.aw s.2.1 s.2.2 s.1 (c.aa.aw.length-s.1)=kn c.aa.aw c false 0 c.aa.aw.length/\s.2.1.aa=c.aa) (fun s=>[(4,rI s.1),(3,rB s.2.2)]) (fun s=>⟨[0,1,2,3,4],n7 s.2.1⟩) (fun s=>c.aa.aw.length-s.1) (0,c,false) ⟨jJ,rfl,rfl⟩ (dZ jQ cr) ?_;rintro⟨i,q,m⟩ ⟨hi,hA,YH⟩ Kr U5;simp only at hi hA YH
 (refine S ?_;try exact jI)
 by_cases I':i<c.aa.aw.length
 ·rw[show c.aa.aw.length-i=(c.aa.aw.length-(i+1))+1 from jB,kn]at hA
  (repeat' (first|refine aq fun K hK=>?_|refine ak ?_|(refine hK _ _ ?_;clear hK K)|(refine ao ?_ ?_<;>intro hc<;>try exact jz)|refine ap ?_|exact jI|(clear hK K)))
  have hKi:=hK;clear hK;have hKb:=hK;clear hK;refine ee (S:=Nat×Ck) [(5,1),(18,23)] (fun s=>s.1<=i/\kT (nth c.aa.aw i) s.2 ((c.aa.aw.take i).drop s.1)=kT (nth c.aa.aw i) q (c.aa.aw.take i)) (fun s=>[(5,rI s.1)]) (fun s=>⟨[0,1,2,3,4],n7 s.2⟩) (fun s=>i-s.1) (0,q) ⟨jJ,rfl⟩ (dZ jQ cr) ?_;rintro⟨k,z⟩ ⟨hk,hB⟩ Kj hKj;simp only at hk hB
  (refine S ?_;try exact jI)
  by_cases Wy:k<i
  ·have ZS:k<(c.aa.aw.take i).length:=by rw[List.length_take];omega
   have hnt:nth (c.aa.aw.take i) k=nth c.aa.aw k:=by simp[nth,List.getD_eq_getElem?_getD,List.getElem?_take,Wy]
   rw[kW ZS,hnt,kT]at hB;have Y0:=Jo z 41 (nth c.aa.aw i).body
   (repeat' (first|refine aq fun K hK=>?_|refine ak ?_|(with_reducible refine gR 8 ?_);refine dE 8 (ba 0 11) mixed ?_|(refine hK _ _ ?_;clear hK K)|(refine ao ?_ ?_<;>intro hc<;>try exact jz)|refine cm (Y0) ?_|refine ap ?_|exact jI|(clear hK K)))
   ·rw[if_pos hc]at hB;refine hKj _ _ (dY (k+1,z.aE 41 (nth c.aa.aw i).body) ⟨jJ,hB⟩ jJ jQ cr)
   ·rw[if_neg hc]at hB;refine hKj _ _ (dY (k+1,z) ⟨jJ,hB⟩ jJ jQ cr)
  ·rw[List.drop_eq_nil_of_le (by rw[List.length_take];omega),kT]at hB
   (repeat' (first|refine aq fun K hK=>?_|refine ak ?_|(refine hK _ _ ?_;clear hK K)|(refine ao ?_ ?_<;>intro hc<;>try exact jz)|refine hKi _ _ ?_|refine hKb _ _ ?_|refine ap ?_|exact jI|(clear hK K)))
   refine U5 _ _ (dY (i+1,z,m || vR (nth c.aa.aw i)) ⟨jJ,by rw[<-hB]at hA;exact hA,by rw[hB];exact(CA _ _ _).aa.trans YH⟩ jJ jQ (by simp only[go_sem,lc,Nat.reduceAdd,AV.raw.injEq,Value.int.injEq,Value.slice.injEq,Value.pointer.injEq,AV.rs.injEq,vR];try omega))
 ·rw[show c.aa.aw.length-i=0 from jB,kn]at hA;have hz:jd c=if m=true then q else q.aE 44 0:=by unfold jd;rw[<-hA]
  have Y0:=Jo q 44 0;cases m
  ·rw[if_neg jC]at hz
   (repeat' (first|refine aq fun K hK=>?_|refine ak ?_|(refine hK _ _ ?_;clear hK K)|(refine ao ?_ ?_<;>intro hc<;>try exact jz)|refine Vb _ _ ?_|refine cm (Y0) ?_|refine ap ?_|exact jI|(clear hK K)))
   rw[hz]
   (refine bY [] ?_ ?_<;>(try simp only[go_sem]))
  ·rw[if_pos rfl]at hz
   (repeat' (first|refine aq fun K hK=>?_|refine ak ?_|(refine hK _ _ ?_;clear hK K)|(refine ao ?_ ?_<;>intro hc<;>try exact jz)|refine Vb _ _ ?_|refine ap ?_|exact jI|(clear hK K)))
   rw[hz]
   (refine bY [] ?_ ?_<;>(try simp only[go_sem]))
theorem yq(body:Int):∀(ps:List bM) (c:Ck) (i:Int),bJ c->c.size+ps.length<=20->bJ (fF body c ps i)/\(fF body c ps i).aa=c.aa/\(fF body c ps i).aP=c.aP
 |[],c,i,h,hs=>by unfold fF;exact⟨h,rfl,rfl⟩
 |p::ps,c,i,h,hs=>by
  unfold fF;simp only[List.length_cons]at hs;have fin:∀c1:Ck,Ev c c1->bJ (fF body (mU c1 ⟨p.name,p.ty,i⟩) ps (i+1))/\(fF body (mU c1 ⟨p.name,p.ty,i⟩) ps (i+1)).aa=c.aa/\(fF body (mU c1 ⟨p.name,p.ty,i⟩) ps (i+1)).aP=c.aP:=fun c1 s=>by have h1:=h.ev s;have hz:=s.size;obtain⟨a,b,d⟩:=yq body ps (mU c1 ⟨p.name,p.ty,i⟩) (i+1) (AJ h1 _ jB) (by show c1.size+1+_<=20;omega);exact⟨a,b.trans s.aa,d.trans s.aP⟩
  simp only;split
  ·exact fin _ (oj c jC body)
  ·exact fin _ (.refl c)
def B6{c:Ck}(h:gD c)(hk:k<c.aa.aw.length)(U':c.aP.length<6):gD (gU c k)/\(gU c k).aa=c.aa/\(gU c k).aP.length=c.aP.length+1:=by
 have hp3:=(h.aa.fn _ (fa hk)).2;have Xg:bJ { c with fn:=(k:Int),vars:=[],more:=[],size:=0 }:=⟨h.aa,h.types,h.slots,h.aw,by show c.aP.length<=6;omega,by show(0:Int)<=k;omega,by show(k:Int)<(c.aa.aw.length:Int);omega,by show((0:Nat):Int)<=0;omega,by show(0:Int)<=25;omega,fun _=>by show(0:Int)<=24;omega⟩;obtain⟨a,b,d⟩:=yq (nth c.aa.aw k).body (nth c.aa.aw k).params _ 0 Xg (by show(0:Int)+_<=20;omega);unfold gU;simp only;split
 ·have s:=(qk (fun q b hq he=>oL c.aa.nodes.length q b hq he) a (nth c.aa.aw k).body).1;have hi:=s.inv;refine⟨⟨hi.aa,hi.types,hi.slots,hi.aw⟩,s.aa.trans b,?_⟩;show((fp (bU c.aa.nodes.length) _ _).aP++[_]).length=_;rw[List.length_append,s.aP,d];rfl
 ·refine⟨⟨a.aa,a.types,a.slots,a.aw⟩,b,?_⟩;show((fF _ _ _ _).aP++[_]).length=_;rw[List.length_append,d];rfl
def ns(t:aH)(n:Nat):Ck:=⟨t,(t.nodes.take n).map fun _=>0,(t.nodes.take n).map fun _=>-1,(t.nodes.take n).map fun _=>0,[],0,[],[],0,0,0⟩
variable{n:Nat}
def Mn(t:aH)(h:t.nodes.length<=n):ns t n=jU t:=by simp[ns,jU,List.take_of_length_le h]
def P1(t:aH)(h:n<t.nodes.length):ns t (n+1)={ ns t n with types:=(ns t n).types++[0],slots:=(ns t n).slots++[-1],aw:=(ns t n).aw++[0] }:=by simp[ns,tT h]
def Mr(t:aH)(h:n<=t.nodes.length):(ns t n).types.length=n/\(ns t n).slots.length=n/\(ns t n).aw.length=n:=by simp[ns];omega
@[go_sem] def j2f(t:aH)(l:UM):lS t++l=aM eN 5 t.nodes::aM fY 5 t.aw::l:=rfl
def LB(t:aH)(h:aR t):aB prog 21 [.agg (lS t)] (.aQ [.agg (cf (iA t).1),rI (iA t).2.1,rI (iA t).2.2]):=by
 have hf:=h.aw;have hm:=h.many;refine bF func21 ntmps21 ?_
 (repeat' (first|refine aq fun K hK=>?_|refine ak ?_|(refine hK _ _ ?_;clear hK K)|(refine ao ?_ ?_<;>intro hc<;>try exact jz)|refine bx 10 ?_|refine al 11 ?_|refine bx 0 ?_|refine ap ?_|exact jI|(clear hK K)))
 have Vb:=hK;clear hK;refine jW (dT.gl 1 0 2 3 1 rfl jC rfl rfl) ?_
 (refine S ?_;try exact jI)
 refine jW (dT.gl 2 0 3 3 1 rfl jC rfl rfl) ?_
 (refine S ?_;try exact jI)
 refine jW (dT.gl 3 0 4 3 1 rfl jC rfl rfl) ?_
 (refine S ?_;try exact jI)
 refine jW (dT.gl 4 0 5 3 1 rfl jC rfl rfl) ?_
 (refine S ?_;try exact jI)
 refine jW (dT.tL 0 7 rfl) ?_
 (refine S ?_;try exact jI)
 refine jW (dT.perm (n7 (ns t 0)++[(10,.var 27 (lS t)),(11,.var 30 [.raw (.slice none 0 0),.raw (.slice none 0 0),.raw (.slice none 0 0),.raw (.slice none 0 0),.raw (.slice none 0 0),.raw (.slice none 0 0)])]) (fun i=>by simp only[go_sem,aC,ns];(repeat' split)<;>first|rfl|omega)) ?_;refine ee (S:=Nat) [(6,1),(12,40)] (fun k=>k<=t.nodes.length) (fun k=>[(6,rI k)]) (fun k=>⟨[],n7 (ns t k)++[(10,.var 27 (lS t)),(11,.var 30 [.raw (.slice none 0 0),.raw (.slice none 0 0),.raw (.slice none 0 0),.raw (.slice none 0 0),.raw (.slice none 0 0),.raw (.slice none 0 0)])]⟩) (fun k=>t.nodes.length-k) 0 (Nat.zero_le _) (dZ rfl cr) ?_;rintro k hk Kr U5;obtain⟨l1,l2,l3⟩:=Mr t hk
 (refine S ?_;try exact jI)
 by_cases I':k<t.nodes.length
 ·(repeat' (first|refine aq fun K hK=>?_|refine ak ?_|(refine hK _ _ ?_;clear hK K)|(refine ao ?_ ?_<;>intro hc<;>try exact jz)|refine ap ?_|exact jI|(clear hK K)))
  refine U5 _ _ (dY (k+1) jB jB (by rw[P1 t I'];exact jQ) cr)
 ·have Vj:=Mn t (n:=k) jB;rw[Vj]at*;have hh:=NY (jU t) hf
  (repeat' (first|refine aq fun K hK=>?_|refine ak ?_|(refine hK _ _ ?_;clear hK K)|(refine ao ?_ ?_<;>intro hc<;>try exact jz)|refine Vb _ _ ?_|refine cm (hh) ?_|refine ap ?_|exact jI|(clear hK K)))
  have Y1:=hK;clear hK;have eh:=Gw (jU t);have Xg:gD (jd (jU t)):=⟨by rw[eh.aa];exact h,by rw[eh.types,eh.aa];simp[jU],by rw[eh.slots,eh.aa];simp[jU],by rw[eh.aw,eh.aa];simp[jU]⟩;refine ee (S:=Nat×Ck) [(7,1),(54,17)] (fun s=>s.1<=t.aw.length/\gD s.2/\s.2.aa=t/\s.2.aP.length=s.1/\gA s.2 s.1 (t.aw.length-s.1)=jb t) (fun s=>[(7,rI s.1)]) (fun s=>⟨[],n7 s.2++[(10,.var 27 (lS t)),(11,.var 30 [.raw (.slice none 0 0),.raw (.slice none 0 0),.raw (.slice none 0 0),.raw (.slice none 0 0),.raw (.slice none 0 0),.raw (.slice none 0 0)])]⟩) (fun s=>t.aw.length-s.1) (0,jd (jU t)) ⟨Nat.zero_le _,Xg,eh.aa,by rw[eh.aP];rfl,rfl⟩ (dZ jQ cr) ?_;rintro⟨i,q⟩ ⟨hi,hq,YH,hqz,hA⟩ Kr2 Ys;simp only at hi hq YH hqz hA
  (refine S ?_;try exact jI)
  by_cases V9:i<t.aw.length/\q.e=0
  ·obtain⟨VD,Ww⟩:=V9;rw[show t.aw.length-i=(t.aw.length-(i+1))+1 from jB,gA,if_pos Ww]at hA;have hkf:i<q.aa.aw.length:=by rw[YH];exact VD
   have Xv:=Lc q i hq hkf jB;obtain⟨f1,f2,f3⟩:=B6 hq hkf jB
   (have W:=Ww;repeat' (first|refine aq fun K hK=>?_|refine ak ?_|(refine hK _ _ ?_;clear hK K)|(refine ao ?_ ?_<;>intro hc<;>try exact jz)|refine cm (Xv) ?_|refine ap ?_|exact jI|(clear hK K)))
   refine Ys _ _ (dY (i+1,gU q i) ⟨jJ,f1,f2.trans YH,jJ,hA⟩ jJ jQ cr)
  ·have hz:q=jb t:=by
    rw[<-hA];by_cases VD:i<t.aw.length
    ·rw[show t.aw.length-i=(t.aw.length-(i+1))+1 from jB,gA,if_neg fun e=>V9 ⟨VD,e⟩]
    ·rw[show t.aw.length-i=0 from jB,gA]
   by_cases he:q.e=0
   ·have hr:iA t=(q.prog,0,0):=by unfold iA;rw[<-hz,if_neg (fun h=>h he)]
    have O':¬i<t.aw.length:=fun h=>V9 ⟨h,he⟩
    (have W:=he;repeat' (first|refine aq fun K hK=>?_|refine ak ?_|(refine hK _ _ ?_;clear hK K)|(refine ao ?_ ?_<;>intro hc<;>try exact jz)|(refine Y1 _ _ ?_)|refine ap ?_|exact jI|(clear hK K)))
    rw[hr];refine fH [.cell 2 30,.tmp 3,.tmp 4] ?_;refine bt.aQ (ds:=[.agg (cf q.prog),rI 0,rI 0]) ?_;refine jA (bt.agg (ds:=cf q.prog) ?_) (jA (.same _ rfl) (jA (.same _ rfl) trivial));simp only[cf,Ck.prog];exact jo
   ·have hr:iA t=(la,q.at_,q.e):=by unfold iA;rw[<-hz,if_pos he]
    (have W:=he;repeat' (first|refine aq fun K hK=>?_|refine ak ?_|(with_reducible refine gR 14 ?_);refine dA 14 [11] (ba 0 12) mixed ?_|(refine hK _ _ ?_;clear hK K)|(refine ao ?_ ?_<;>intro hc<;>try exact jz)|(refine Y1 _ _ ?_)|refine ap ?_|exact jI|(clear hK K)))
    rw[hr];refine fH [.cell 2 30,.tmp 3,.tmp 4] ?_;refine bt.aQ (ds:=[.agg (cf la),rI _,rI _]) ?_;refine jA (bt.agg (ds:=cf la) ?_) (jA (.same _ rfl) (jA (.same _ rfl) trivial));simp only[cf,la];exact jo
end Go.Proofs.YtijdhbokcdpklaaGreatDoor
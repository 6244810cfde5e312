/- Lemmas. No conditions. -/
import Derived.Test.YtjpcgmjaipfgdaaGreatDoorP2
import Derived.Test.YtjpcgmjaipfgdaaGreatDoorShelf
set_option linter.all false
set_option maxHeartbeats 8000000
set_option maxRecDepth 10000
namespace Go.Gd
open Go
def F0{P:U3}{f:FuncId}{args:US}{r:AV}(cH:U1)(v:Value)(ha:args=cH.map .raw)(hr:∀w:NW,aw w r v)(h:∀w:World,Calls P f cH.toArray w fun e w'=>e=.returned v/\RowKit.Below w.heap.size w w'):aL P f args r:=by
 intro w vs h1 h2;have V':vs=cH.toArray:=by
  apply Array.ext';apply List.ext_getElem?;intro i;obtain⟨hl,hv⟩:=h2;subst ha;by_cases hi:i<cH.length
  ·have Wx:i<vs.size:=by rw[<-hl];simpa using hi
   have:=cZ (hv i (.raw cH[i]) vs[i] (by simp[hi]) (by simp[Wx]));simp[hi,Wx,this]
  ·have Wx:¬i<vs.size:=by rw[<-hl];simpa using hi
   rw[List.getElem?_eq_none (by simpa using Wx),List.getElem?_eq_none (by simpa using hi)]
 subst V';refine(h w.toWorld).mono ?_;rintro e W ⟨rfl,hb⟩;have ex:Ext w (entry []) (w.to W) (entry []):={ size:=hb.size,free:=fun b VM hO=>⟨hb.block b VM,hO⟩,names:=fun _ _ _ _ h=>h,os:=hb.os,tape:=hb.tape,output:=hb.output,rest:=fun b VM hO Vd=>⟨hb.block b VM,hO,Vd⟩,base:=rfl };refine⟨v,r,entry [],w.to W,rfl,rfl,⟨rfl,rfl⟩,{ rows:=fun i row hi=>(by cases hi),dt:=h1.dt,inj:=h1.inj,own:=h1.own,bY:=h1.bY.aU ex.toKeep,fin:=fun b VM=>Nat.lt_of_lt_of_le (h1.fin b VM) hb.size },hr _,ex.qA⟩
variable{H:Hp}{t:UY}{cs:US}
def C2{w:NW}(r:aF w H){j:Nat}{cs':US}(hj:H.get j=some (.var t cs))(hl:cs'.length=cs.length)(h:∀(k:Nat) a a' v,cs[k]?=some a->cs'[k]?=some a'->aw w a v->aw w a' v):aF w (H.put j (.var t cs'))/\Ext w H w (H.put j (.var t cs')):=by
 have ex:Ext w H w (H.put j (.var t cs')):={ ExtQ.refl _ w with base:=rfl };refine⟨{ rows:=fun i s hi=>?_,dt:=fun i m z hz=>?_,inj:=r.inj,own:=r.own,fin:=r.fin,bY:=r.bY.aU ex.toKeep },ex⟩
 ·rw[Hp.bj]at hi;split at hi
  ·rename_i e;subst e;cases hi;obtain⟨h1,z,h2,h3⟩:=r.rows _ _ hj;refine⟨trivial,z,h2,?_⟩;cases z with
   |nil=>obtain⟨e,sz,h4⟩:=h3;cases h4
   |«at» b u s=>
    obtain⟨g1,cur,g2,⟨g3,g4⟩,g5⟩:=h3;refine⟨g1,cur,g2,⟨g3,by show cs'.length<=u;rw[hl];exact g4⟩,fun k a v ha hv=>?_⟩;have ha:cs'[k]?=some a:=ha;have hk:k<cs.length:=by rw[<-hl];exact(List.getElem?_eq_some_iff.1 ha).1
    exact h k cs[k] a v (List.getElem?_eq_getElem hk) ha (g5 k cs[k] v (List.getElem?_eq_getElem hk) hv)
  ·exact r.rows i s hi
 ·obtain⟨s,h1,h2⟩:=r.dt i m z hz;rw[Hp.bj];split
  ·rename_i e;subst e;rw[hj]at h1;cases h1;exact⟨_,rfl,h2⟩
  ·exact⟨s,h1,h2⟩
variable{F:US}
def dM.fz(i j k:Nat)(e:UY)(sz:Nat)(hi:H.get i=none)(h0:0<sz)(hj:H.get j=some (.var t cs))(hk:cs[k]?=some (.raw (.slice none 0 0))):dM F H F ((H.put i (.aD e sz [])).put j (.var t (cs.set k (.rs i 0 sz 0)))):=fun w tm h1 h2=>by
 obtain⟨a,b⟩:=yc h1 hi e h0;have hij:j≠i:=fun e=>by subst e;rw[hi]at hj;cases hj
 obtain⟨a',b'⟩:=C2 (cs':=cs.set k (.rs i 0 sz 0)) a (j:=j) (t:=t) (cs:=cs) (by rw[Hp.bj,if_neg hij];exact hj) jE fun n x x' v hx Vr hv=>by
  rw[List.getElem?_set]at Vr;by_cases hn:k=n
  ·subst hn;rw[if_pos rfl]at Vr;split at Vr
   ·cases Vr;rw[hk]at hx;cases hx;cases hv;exact .iH _ _ _ _ (NW.ci _ _ _ _)
   ·cases Vr
  ·rw[if_neg hn,hx]at Vr;cases Vr;exact hv
 exact⟨w.name i 0 .nil,rfl,a',h2.ext b,(b.trans b').qA⟩
def dM.sL(j k:Nat)(hj:H.get j=some (.var t cs)):dM F H F (H.put j (.var t (cs.set k .any))):=fun w tm h1 h2=>by
 obtain⟨a',b'⟩:=C2 (cs':=cs.set k .any) h1 (j:=j) (t:=t) (cs:=cs) hj jE fun n x x' v hx Vr hv=>by
  rw[List.getElem?_set]at Vr;by_cases hn:k=n
  ·subst hn;rw[if_pos rfl]at Vr;split at Vr
   ·cases Vr;exact .any _
   ·cases Vr
  ·rw[if_neg hn]at Vr;rw[hx]at Vr;cases Vr;exact hv
 exact⟨w,rfl,a',h2,b'.qA⟩
def JX{P:U3}{id:Nat}{l:List Oper}{b:Bool}{Q:Exit->UO}{q:Prop}(j k:Nat){i m sz n:Nat}(h:q)(hj:H.get j=some (.var t cs):=by rfl)(hc:cs[k]?=some (.rs i m sz n):=by rfl)(e:dJ P (.region id l.toArray b) Q F (H.put j (.var t (cs.set k .any)))=q:=by first|(simp only[go_sem];rfl)|rfl):dJ P (.region id l.toArray b) Q F H:=iQ (dM.sL j k hj) (e ▸ h)
end Go.Gd
namespace Go.Proofs.YtjpcgmjaipfgdaaGreatDoor
open Go Go.Gd Tryz
def BU(s:UX)(k:Nat):dY s k=((s.data.toList.getD k 0).toNat:Int):=by unfold dY;simp
def kU:List UInt8->Nat->Nat
 |[],a=>a
 |c::l,a=>kU l (a*10+(c.toNat-48))
theorem H8:∀(l:List UInt8) (a:Nat),a<=kU l a
 |[],a=>Nat.le_refl _
 |c::l,a=>Nat.le_trans jB (H8 l _)
theorem GJ:∀(l:List UInt8) (a:Nat),(∀c∈l,48<=c.toNat/\c.toNat<=57)->kU l a<=9223372036854775807->Lib.parseUint10 a l=.ok (kU l a)
 |[],a,_,_=>rfl
 |c::l,a,h,hm=>by have hc:=h c jE;have h1:=H8 l (a*10+(c.toNat-48));simp only[kU]at hm ⊢;unfold Lib.parseUint10;rw[if_pos hc,jN,jN];exact GJ l _ (fun x hx=>h x (by simp[hx])) hm
theorem Gp:∀(l:List UInt8) (c:UInt8) (a:Nat),kU (l++[c]) a=kU l a*10+(c.toNat-48)
 |[],_,_=>rfl
 |_::l,c,_=>Gp l c _
theorem AL:∀(l:List UInt8) (a:Nat),(∀c∈l,48<=c.toNat/\c.toNat<=57)->kU l a+1<=(a+1)*10 ^ l.length
 |[],a,_=>by simp[kU]
 |c::l,a,h=>by have hc:=h c jE;have ih:=AL l (a*10+(c.toNat-48)) (fun x hx=>h x (by simp[hx]));simp only[kU,List.length_cons,Nat.pow_succ];refine Nat.le_trans ih ?_;rw[Nat.mul_comm (10 ^ l.length) 10,<-Nat.mul_assoc];exact Nat.mul_le_mul_right _ jB
theorem Hf:∀(l:List UInt8) (a:Nat),a*10 ^ l.length<=kU l a
 |[],a=>by simp[kU]
 |c::l,a=>by have ih:=Hf l (a*10+(c.toNat-48));simp only[kU,List.length_cons,Nat.pow_succ];refine Nat.le_trans ?_ ih;rw[Nat.mul_comm (10 ^ l.length) 10,<-Nat.mul_assoc];exact Nat.mul_le_mul_right _ jB
theorem Ha:∀(l m:List UInt8) (a:Nat),l.length=m.length->(∀c∈l,48<=c.toNat/\c.toNat<=57)->(∀c∈m,48<=c.toNat/\c.toNat<=57)->Op.bytesLess l m=true->kU l a<kU m a
 |[],[],_,_,_,_,h=>by simp[Op.bytesLess]at h
 |[],_::_,_,hl,_,_,_=>by simp at hl
 |_::_,[],_,hl,_,_,_=>by simp at hl
 |x::l,y::m,a,hl,h1,h2,h=>by
  have hx:=h1 x jE;have hy:=h2 y jE;simp only[Op.bytesLess,Bool.or_eq_true,decide_eq_true_eq,Bool.and_eq_true,beq_iff_eq]at h;simp only[kU];rcases h with h|⟨rfl,h⟩
  ·have h:x.toNat<y.toNat:=h;have e1:=AL l (a*10+(x.toNat-48)) (fun c hc=>h1 c (by simp[hc]));have e2:=Hf m (a*10+(y.toNat-48));have e3:(a*10+(x.toNat-48)+1)*10 ^ l.length<=(a*10+(y.toNat-48))*10 ^ m.length:=by
    rw[show l.length=m.length by simpa using hl];exact Nat.mul_le_mul_right _ jB
   omega
  ·exact Ha l m _ (by simpa using hl) (fun c hc=>h1 c (by simp[hc])) (fun c hc=>h2 c (by simp[hc])) h
theorem CB(s:UX)(hd:∀j,j<s.size->km (dY s j)=true):∀k,k<=s.size->xf s k=(kU (s.data.toList.take k) 0:Nat)
 |0,_=>by simp[xf,kU]
 |k+1,hk=>by
  have Vn:k<s.data.toList.length:=by simp;omega
  have h1:=hd k jB;simp only[km,Bool.and_eq_true,decide_eq_true_eq]at h1;rw[BU]at h1;rw[xf,CB s hd k jB,List.take_succ_eq_append_getElem Vn,Gp,BU];have:s.data.toList.getD k 0=s.data.toList[k]:=by rw[List.getD_eq_getElem?_getD,List.getElem?_eq_getElem Vn];rfl
  rw[this]at h1 ⊢;omega
variable{s:UX}
def ET(h:rZ s):∀c∈s.data.toList,48<=c.toNat/\c.toNat<=57:=fun c hc=>by obtain⟨k,hk,rfl⟩:=List.getElem_of_mem hc;have:=h.2.2 k (by simpa using hk);simp only[km,Bool.and_eq_true,decide_eq_true_eq]at this;rw[BU,List.getD_eq_getElem?_getD,List.getElem?_eq_getElem hk]at this;simp only[Option.getD_some]at this;omega
def FY(h:rZ s):kU s.data.toList 0<=9223372036854775807:=by
 have hd:=ET h;have hn:=h.2.1;have hl:=AL s.data.toList 0 hd;have J':s.data.toList.length=s.size:=jE;unfold yb at hn;simp only[Bool.or_eq_true,decide_eq_true_eq,Bool.and_eq_true]at hn;rcases hn with hn|⟨hn,h2|h2⟩
 ·have:10 ^ s.data.toList.length<=10 ^ 18:=Nat.pow_le_pow_right jB (by rw[J'];omega);simp only[Nat.zero_add,Nat.one_mul]at hl;omega
 ·have e:s.toList=s.data.toList:=ByteArray.toList_eq s;have:=Ha s.data.toList [57,50,50,51,51,55,50,48,51,54,56,53,52,55,55,53,56,48,55] 0 (by rw[J'];simp;omega) hd jC (by rw[<-e,show[57,50,50,51,51,55,50,48,51,54,56,53,52,55,55,53,56,48,55]=(⟨#[57,50,50,51,51,55,50,48,51,54,56,53,52,55,55,53,56,48,55]⟩:UX).toList by rw[ByteArray.toList_eq]];exact h2);have e2:kU [57,50,50,51,51,55,50,48,51,54,56,53,52,55,55,53,56,48,55] 0=9223372036854775807:=jC;omega
 ·subst h2;decide
def OZ(h:rZ s):Lib.atoiAll s.data.toList=.ok (qv s):=by
 have hd:=ET h;have Vj:=FY h;have Zu:qv s=(kU s.data.toList 0:Nat):=by unfold qv;rw[CB s h.2.2 _ jl,List.take_of_length_le jE]
 have hp:=GJ s.data.toList 0 hd Vj;have VK:=h.1;cases hs:s.data.toList with
 |nil=> have:s.data.toList.length=s.size:=jE;rw[hs]at this;simp at this;omega
 |cons c l=> rw[hs]at hd hp Zu Vj;have hc:=hd c jE;simp only[Lib.atoiAll];rw[jN];simp only[Lib.parseMag,List.cons_ne_nil,if_false,hp,reduceCtorEq];rw[jN,jN,jN,Zu]
def SX(s:UX)(h:rZ s):aL prog 280 [rS s] (.aY [rI (qv s),.raw .nilIface]):=by
 have hs:s.size<=9223372036854775806:=by have hn:=h.2.1;unfold yb at hn;simp only[Bool.or_eq_true,decide_eq_true_eq,Bool.and_eq_true]at hn;omega
 refine F0 [.string s] (.tuple #[.int .i64 (qv s),.nilIface]) rfl (fun w=>?_) fun w=>?_
 ·exact .aY _ _ rfl fun i a v ha hv=>by
   match i with
   |0=>simp at ha hv;subst ha hv;exact .raw _
   |1=>simp at ha hv;subst ha hv;exact .raw _
   |i+2=>simp at ha
 ·refine(Tryz.strconv_Atoi_ok s hs (qv s) (OZ h) w).mono ?_;rintro e W ⟨rfl,hW⟩;refine⟨rfl,?_⟩;rcases hW with rfl|⟨t,rfl⟩
  ·exact RowKit.Below.refl _ _
  ·exact Lib.bytesWorld_below _ _ _
def Ol(n:Nat)(hc:yK n):Cv (n+1):=by
 intro r h hn;have WK:=h.lt;have hip:=h.pos;have Wb:=h.len;have hin':(r.l.length:Int)<=2000:=jB;have T':∀q:Rd,q.Inv->8*q.rem+8<=n->ab prog 232 [pR] (cv q) (fun v l=>v=rI (dF n 0 q).2/\l=cv (dF n 0 q).1):=fun q hq hm=>by
  have:=hc 0 q jB hq jB;refine aK func232 ntmps232 ?_;refine S ?_
  (repeat' (first|refine au fun K hK=>?_|refine aq ?_|(refine hK _ _ ?_;clear hK K)|(refine ar ?_ ?_<;>intro hc<;>try exact jz)|refine cm (this) ?_|refine av ?_|exact jI|(clear hK K)))
  (refine bL [.tmp 2] ?_ ?_<;>(try simp only[go_sem]))
 have deeper:∀(q:Rd) (t u:UX),q.Inv->q.e=0->q.down.Inv/\(q.down.ao t).Inv/\(dF n 0 (q.down.ao t)).1.Inv/\((dF n 0 (q.down.ao t)).1.ao u).Inv/\((dF n 0 (q.down.ao t)).1.ao u).up.Inv/\(q.down.ao t).rem<=q.rem:=fun q t u hq he=>by have h1:=(Rd.bH hq he).1;have s1:=Rd.aH h1 t;have h2:=s1.inv h1;have s2:=(sI n).2.2.1 0 _ h2;have h3:=s2.inv h2;have s3:=Rd.aH h3 u;refine⟨h1,h2,h3,s3.inv h3,(Rd.fw hq he ((s1.trans s2).trans s3)).inv hq,Nat.le_trans s1.rem ?_⟩;have hd:=Rd.bH hq he;unfold Rd.rem;rw[if_pos he,hd.2.2.1,hd.2.2.2.1];split<;>omega
 rw[po];by_cases he:r.e≠0
 ·rw[if_pos he];refine aK func276 ntmps276 ?_;refine S ?_
  (repeat' (first|refine au fun K hK=>?_|refine aq ?_|(with_reducible refine gR 2 ?_);refine dE 2 (bf 0 12) mixed ?_|(refine hK _ _ ?_;clear hK K)|(refine ar ?_ ?_<;>intro hc<;>try exact jz)|refine cm (iv r (bw h)) ?_|refine av ?_|exact jI|(clear hK K)))
  (refine bu [.tmp 2] ?_;try simp only[go_sem])
 rw[if_neg he];have he:r.e=0:=jB;have W9:r.tok.kind≠0->r.inc.Inv/\r.inc.rem+1<=r.rem/\r.i+1<r.l.length:=fun hk=>⟨(Rd.bq h hk).1.inv h,Rd.cW h ⟨he,hk⟩,Rd.behind h hk⟩
 by_cases Vs:r.tok.kind=1
 ·rw[if_pos Vs];obtain⟨hi,_,hb⟩:=W9 jB;have hnt:=h.num r.i.toNat jB Vs;have WY:(nth r.l r.i.toNat).kind=1:=Vs;refine aK func276 ntmps276 ?_;refine S ?_
  (have W:=jA he (WY);repeat' (first|refine au fun K hK=>?_|refine aq ?_|(with_reducible refine gR 2 ?_);refine dE 2 (bf 0 12) mixed ?_|(refine hK _ _ ?_;clear hK K)|(refine ar ?_ ?_<;>intro hc<;>try exact jz)|refine cm (iv r (bw h)) ?_|refine cp (SX _ hnt) ?_|refine cm (lp r.inc _ _ _ _ [] _ gW.nil (bw hi)) ?_|refine av ?_|exact jI|(clear hK K)))
  (refine bu [.tmp 2] ?_;try simp only[go_sem])
  all_goals rfl
 rw[if_neg Vs];have WY:¬(nth r.l r.i.toNat).kind=1:=Vs;by_cases Va:r.tok.kind=2
 ·rw[if_pos Va];obtain⟨hi,_,hb⟩:=W9 jB;have XA:(nth r.l r.i.toNat).kind=2:=Va;refine aK func276 ntmps276 ?_;refine S ?_
  (have W:=jA he (XA);repeat' (first|refine au fun K hK=>?_|refine aq ?_|(with_reducible refine gR 2 ?_);refine dE 2 (bf 0 12) mixed ?_|(refine hK _ _ ?_;clear hK K)|(refine ar ?_ ?_<;>intro hc<;>try exact jz)|refine cm (iv r (bw h)) ?_|refine cm (lp r.inc _ _ _ _ [] _ gW.nil (bw hi)) ?_|refine av ?_|exact jI|(clear hK K)))
  (refine bu [.tmp 2] ?_;try simp only[go_sem])
  all_goals rfl
 rw[if_neg Va];have XA:¬(nth r.l r.i.toNat).kind=2:=Va;by_cases Xo:r.tok.kind=3
 ·rw[if_pos Xo];obtain⟨hi,hr,hb⟩:=W9 jB;have Xk:(nth r.l r.i.toNat).kind=3:=Xo;by_cases hx:r.inc.is (⟨#[91]⟩:UX)=true
  ·rw[if_pos hx];obtain⟨d1,d2,d3,d4,d5,d6⟩:=deeper r.inc (⟨#[91]⟩:UX) (⟨#[93]⟩:UX) hi he;have d4l:=d4.pH;have d4h:=d4.qn;refine aK func276 ntmps276 ?_;refine S ?_
   (have W:=jA he (jA Xk (hx));repeat' (first|refine au fun K hK=>?_|refine aq ?_|(with_reducible refine gR 2 ?_);refine dE 2 (bf 0 12) mixed ?_|(refine hK _ _ ?_;clear hK K)|(refine ar ?_ ?_<;>intro hc<;>try exact jz)|refine cm (iv r (bw h)) ?_|refine cm (gI r.inc _ (bw hi)) ?_|refine cm (uJ r.inc (bw hi)) ?_|refine cm (iX r.inc.down _ (bw d1)) ?_|refine cm (T' (r.inc.down.ao (⟨#[91]⟩:UX)) d2 jB) ?_|refine cm (iX (dF n 0 (r.inc.down.ao (⟨#[91]⟩:UX))).1 _ (bw d3)) ?_|refine cm (lp ((dF n 0 (r.inc.down.ao (⟨#[91]⟩:UX))).1.ao (⟨#[93]⟩:UX)).up _ _ _ _ [(dF n 0 (r.inc.down.ao (⟨#[91]⟩:UX))).2] _ gW.sl (bw d5)) ?_|refine av ?_|exact jI|(clear hK K)))
   (refine bu [.tmp 2] ?_;try simp only[go_sem])
   all_goals rfl
  ·rw[if_neg hx];have Vr:r.inc.is (⟨#[91]⟩:UX)=false:=by simpa using hx
   refine aK func276 ntmps276 ?_;refine S ?_
   (have W:=jA he (jA Xk (Vr));repeat' (first|refine au fun K hK=>?_|refine aq ?_|(with_reducible refine gR 2 ?_);refine dE 2 (bf 0 12) mixed ?_|(refine hK _ _ ?_;clear hK K)|(refine ar ?_ ?_<;>intro hc<;>try exact jz)|refine cm (iv r (bw h)) ?_|refine cm (gI r.inc _ (bw hi)) ?_|refine cm (lp r.inc _ _ _ _ [] _ gW.nil (bw hi)) ?_|refine av ?_|exact jI|(clear hK K)))
   (refine bu [.tmp 2] ?_;try simp only[go_sem])
   all_goals rfl
 rw[if_neg Xo];have Xk:¬(nth r.l r.i.toNat).kind=3:=Xo;by_cases ht:r.is (⟨#[116,114,117,101]⟩:UX)=true
 ·rw[if_pos ht];obtain⟨hi,hr,hb⟩:=W9 (Rd.aT ht).2;refine aK func276 ntmps276 ?_;refine S ?_
  (have W:=jA he (jA ht (jA WY (jA XA (Xk))));repeat' (first|refine au fun K hK=>?_|refine aq ?_|(with_reducible refine gR 2 ?_);refine dE 2 (bf 0 12) mixed ?_|(refine hK _ _ ?_;clear hK K)|(refine ar ?_ ?_<;>intro hc<;>try exact jz)|refine cm (iv r (bw h)) ?_|refine cm (gI r _ (bw h)) ?_|refine cm (lp r.inc _ _ _ _ [] _ gW.nil (bw hi)) ?_|refine av ?_|exact jI|(clear hK K)))
  (refine bu [.tmp 2] ?_;try simp only[go_sem])
 rw[if_neg ht];have XM:r.is (⟨#[116,114,117,101]⟩:UX)=false:=by simpa using ht
 by_cases hf:r.is (⟨#[102,97,108,115,101]⟩:UX)=true
 ·rw[if_pos hf];obtain⟨hi,hr,hb⟩:=W9 (Rd.aT hf).2;refine aK func276 ntmps276 ?_;refine S ?_
  (have W:=jA he (jA XM (jA hf (jA WY (jA XA (Xk)))));repeat' (first|refine au fun K hK=>?_|refine aq ?_|(with_reducible refine gR 2 ?_);refine dE 2 (bf 0 12) mixed ?_|(refine hK _ _ ?_;clear hK K)|(refine ar ?_ ?_<;>intro hc<;>try exact jz)|refine cm (iv r (bw h)) ?_|refine cm (gI r _ (bw h)) ?_|refine cm (lp r.inc _ _ _ _ [] _ gW.nil (bw hi)) ?_|refine av ?_|exact jI|(clear hK K)))
  (refine bu [.tmp 2] ?_;try simp only[go_sem])
 rw[if_neg hf];have ZR:r.is (⟨#[102,97,108,115,101]⟩:UX)=false:=by simpa using hf
 by_cases hl:r.is (⟨#[108,101,110]⟩:UX)=true
 ·rw[if_pos hl];obtain⟨hi,hr,hb⟩:=W9 (Rd.aT hl).2;by_cases hx:r.inc.is (⟨#[40]⟩:UX)=true
  ·rw[if_pos hx];obtain⟨d1,d2,d3,d4,d5,d6⟩:=deeper r.inc (⟨#[40]⟩:UX) (⟨#[41]⟩:UX) hi he;have d4l:=d4.pH;have d4h:=d4.qn;refine aK func276 ntmps276 ?_;refine S ?_
   (have W:=jA he (jA XM (jA ZR (jA hl (jA WY (jA XA (jA Xk (hx)))))));repeat' (first|refine au fun K hK=>?_|refine aq ?_|(with_reducible refine gR 2 ?_);refine dE 2 (bf 0 12) mixed ?_|(refine hK _ _ ?_;clear hK K)|(refine ar ?_ ?_<;>intro hc<;>try exact jz)|refine cm (iv r (bw h)) ?_|refine cm (gI r _ (bw h)) ?_|refine cm (gI r.inc _ (bw hi)) ?_|refine cm (uJ r.inc (bw hi)) ?_|refine cm (iX r.inc.down _ (bw d1)) ?_|refine cm (T' (r.inc.down.ao (⟨#[40]⟩:UX)) d2 jB) ?_|refine cm (iX (dF n 0 (r.inc.down.ao (⟨#[40]⟩:UX))).1 _ (bw d3)) ?_|refine cm (lp ((dF n 0 (r.inc.down.ao (⟨#[40]⟩:UX))).1.ao (⟨#[41]⟩:UX)).up _ _ _ _ [(dF n 0 (r.inc.down.ao (⟨#[40]⟩:UX))).2] _ gW.sl (bw d5)) ?_|refine av ?_|exact jI|(clear hK K)))
   (refine bu [.tmp 2] ?_;try simp only[go_sem])
  ·rw[if_neg hx];have Vr:r.inc.is (⟨#[40]⟩:UX)=false:=by simpa using hx
   refine aK func276 ntmps276 ?_;refine S ?_
   (have W:=jA he (jA XM (jA ZR (jA hl (jA WY (jA XA (jA Xk (Vr)))))));repeat' (first|refine au fun K hK=>?_|refine aq ?_|(with_reducible refine gR 2 ?_);refine dE 2 (bf 0 12) mixed ?_|(refine hK _ _ ?_;clear hK K)|(refine ar ?_ ?_<;>intro hc<;>try exact jz)|refine cm (iv r (bw h)) ?_|refine cm (gI r _ (bw h)) ?_|refine cm (gI r.inc _ (bw hi)) ?_|refine cm (uC r.inc _ (bw hi)) ?_|refine av ?_|exact jI|(clear hK K)))
   (refine bu [.tmp 2] ?_;try simp only[go_sem])
 rw[if_neg hl];have Wv:r.is (⟨#[108,101,110]⟩:UX)=false:=by simpa using hl
 by_cases hx:r.is (⟨#[40]⟩:UX)=true
 ·rw[if_pos hx];obtain⟨hi,hr,hb⟩:=W9 (Rd.aT hx).2;obtain⟨d1,d2,d3,d4,d5,d6⟩:=deeper r (⟨#[40]⟩:UX) (⟨#[41]⟩:UX) h he;have d4l:=d4.pH;have d4h:=d4.qn;have d7:(r.down.ao (⟨#[40]⟩:UX)).rem+1<=r.rem:=by
   have hdn:=Rd.bH h he;unfold Rd.rem;rw[if_pos he];have Vf:(r.down.ao (⟨#[40]⟩:UX)).l=r.l:=(Rd.aH d1 _).l.trans hdn.2.2.2.1;rw[Vf];by_cases hq:r.down.is (⟨#[40]⟩:UX)=true
   ·have:r.down.ao (⟨#[40]⟩:UX)=r.down.inc:=by unfold Rd.ao;rw[if_pos hq]
    rw[this];have:r.down.inc.i=r.i+1:=by show r.down.i+1=_;rw[hdn.2.2.1]
    rw[this];split<;>omega
   ·have hm:r.down.ao (⟨#[40]⟩:UX)=r.down.aA 20:=by unfold Rd.ao;rw[if_neg hq]
    rw[hm];have:(r.down.aA 20).e≠0:=by
     unfold Rd.aA;split
     ·show(20:Int)≠0;decide
     ·assumption
    rw[if_neg this];omega
  refine aK func276 ntmps276 ?_;refine S ?_
  (have W:=jA he (jA XM (jA ZR (jA Wv (jA WY (jA XA (jA Xk (hx)))))));repeat' (first|refine au fun K hK=>?_|refine aq ?_|(with_reducible refine gR 2 ?_);refine dE 2 (bf 0 12) mixed ?_|(refine hK _ _ ?_;clear hK K)|(refine ar ?_ ?_<;>intro hc<;>try exact jz)|refine cm (iv r (bw h)) ?_|refine cm (gI r _ (bw h)) ?_|refine cm (uJ r (bw h)) ?_|refine cm (iX r.down _ (bw d1)) ?_|refine cm (T' (r.down.ao (⟨#[40]⟩:UX)) d2 jB) ?_|refine cm (iX (dF n 0 (r.down.ao (⟨#[40]⟩:UX))).1 _ (bw d3)) ?_|refine av ?_|exact jI|(clear hK K)))
  (refine bu [.tmp 2] ?_;try simp only[go_sem])
 rw[if_neg hx];have Vr:r.is (⟨#[40]⟩:UX)=false:=by simpa using hx
 refine aK func276 ntmps276 ?_;refine S ?_
 (have W:=jA he (jA XM (jA ZR (jA Wv (jA WY (jA XA (jA Xk (Vr)))))));repeat' (first|refine au fun K hK=>?_|refine aq ?_|(with_reducible refine gR 2 ?_);refine dE 2 (bf 0 12) mixed ?_|(refine hK _ _ ?_;clear hK K)|(refine ar ?_ ?_<;>intro hc<;>try exact jz)|refine cm (iv r (bw h)) ?_|refine cm (gI r _ (bw h)) ?_|refine cm (uC r _ (bw h)) ?_|refine av ?_|exact jI|(clear hK K)))
 (refine bu [.tmp 2] ?_;try simp only[go_sem])
theorem Bh:∀m n,n<=m->Cv n/\AH n/\yK n
 |0,0,_=>⟨fun r h hn=>by omega,fun r h hn=>by omega,fun lv r hl h hn=>by omega⟩
 |m+1,0,_=>⟨fun r h hn=>jB,fun r h hn=>jB,fun lv r hl h hn=>jB⟩
 |m+1,n+1,hm=>by obtain⟨ha,hf,hc⟩:=Bh m n jB;exact⟨Ol n hc,N0 n ha hf,PX n hf fun k hk=>(Bh m k jB).2.2⟩
def Q8(n:Nat)(r:Rd)(h:r.Inv)(hn:8*r.rem+8<=n):ab prog 232 [pR] (cv r) (fun v l=>v=rI (dF n 0 r).2/\l=cv (dF n 0 r).1):=by
 have:=(Bh n n jl).2.2 0 r jB h jB;refine aK func232 ntmps232 ?_;refine S ?_
 (repeat' (first|refine au fun K hK=>?_|refine aq ?_|(refine hK _ _ ?_;clear hK K)|(refine ar ?_ ?_<;>intro hc<;>try exact jz)|refine cm (this) ?_|refine av ?_|exact jI|(clear hK K)))
 (refine bL [.tmp 2] ?_ ?_<;>(try simp only[go_sem]))
variable{r:Rd}
def qX(h:r.Inv):ab prog 232 [pR] (cv r) (fun v l=>v=rI (cU r).2/\l=cv (cU r).1):=Q8 _ r h jl
def Ih(h:r.Inv):ab prog 255 [pR] (cv r) (fun v l=>v=rI (mU r).2/\l=cv (mU r).1):=by
 have h1:=(Rd.dm h).inv h;have h2:=(zm h).inv h;have h3:=(B6 h).inv h;have h4:=(LH h).inv h;have hr0:(pK r).rem<=2000:=by have:=h2.pos;have:=h2.len;unfold Rd.rem;split<;>omega
 have hm:ab prog 145 [pR,rS (⟨#[40]⟩:UX)] (cv r.name.1) (fun v l=>v=.aY []/\l=cv (pK r)):=iX r.name.1 _ (bw h1);refine aK func255 ntmps255 ?_;refine S ?_
 (repeat' (first|refine au fun K hK=>?_|refine aq ?_|(refine hK _ _ ?_;clear hK K)|(refine ar ?_ ?_<;>intro hc<;>try exact jz)|refine cm (iv r (bw h)) ?_|refine cm (wu r (bw h)) ?_|refine cm (hm) ?_|refine cm (gI (pK r) _ (bw h2)) ?_|refine av ?_|exact jI|(clear hK K)))
 have U6:=hK;clear hK;refine iQ (dM.nil 2 5 3 (sz:=1) rfl jC (Or.inr ⟨_,_,_,rfl,rfl⟩)) ?_
 (refine S ?_;try exact jI)
 refine dw (S:=Nat×Bool×Rd×UU) [(5,1),(7,2),(27,17)] (fun s=>s.2.2.1.Inv/\(s.2.1=true->s.2.2.1.rem+2<=s.1)/\1<=s.1/\s.2.2.2.length+s.1<=5000/\mf s.1 s.2.1 s.2.2.1 s.2.2.2=oI r) (fun s=>[(5,.rs 2 s.2.2.2.length 1 s.2.2.2.length),(7,rB s.2.1)]) (fun s=>⟨[0,1],cv s.2.2.1++[(2,.aD 3 1 (s.2.2.2.map eI))]⟩) (fun s=>s.1) ((pK r).rem+2,more (pK r),pK r,[]) ⟨h2,fun _=>Nat.le_refl _,jJ,by(try simp only[List.length_nil]);omega,rfl⟩ (dx rfl (by simp only[go_sem,kS,Nat.reduceAdd,AV.raw.injEq,Value.int.injEq,Value.slice.injEq,Value.pointer.injEq,AV.rs.injEq,more,List.length_nil];try omega)) ?_;rintro⟨n,b,q,L⟩ ⟨hq,V0,Xd,X0,hA⟩ Kr U8;simp only at hq V0 Xd X0 hA;have hqi:=hq.lt;have hqp:=hq.pos;have hql:=hq.len;obtain⟨n,rfl⟩:∃k,n=k+1:=⟨n-1,jB⟩;cases b with
 |false=>
  rw[mf]at hA;have e1:q=(oI r).1:=by rw[<-hA]
  have e2:L=(oI r).2:=by rw[<-hA]
  rw[<-e1]at h4;refine S ?_
  (repeat' (first|refine au fun K hK=>?_|refine aq ?_|(refine hK _ _ ?_;clear hK K)|(refine ar ?_ ?_<;>intro hc<;>try exact jz)|refine av ?_|exact jI|(clear hK K)))
  refine U6 _ _ ?_;refine Jd [2] 5 (aO eI 1 L) Sd Sd ie ?_;refine S ?_
  (repeat' (first|refine au fun K hK=>?_|refine aq ?_|(refine hK _ _ ?_;clear hK K)|(refine ar ?_ ?_<;>intro hc<;>try exact jz)|refine cm (iX q _ (bw hq)) ?_|refine cm (ye (q.ao (⟨#[41]⟩:UX)) _ _ _ _ L (bw h4)) ?_|refine av ?_|exact jI|(clear hK K)))
  (refine bL [.tmp 2] ?_ ?_<;>(try simp only[go_sem]))
  ·unfold mU;rw[<-e1,<-e2]
  ·unfold mU;rw[<-e1,<-e2]
 |true=>
  have s1:=kH hq;have hx:=s1.inv hq;have W8:=s1.rem;have hxi:=hx.lt;have hxp:=hx.pos;have Yj:=hx.len;have V0:=V0 rfl;rw[mf]at hA;refine S ?_
  (repeat' (first|refine au fun K hK=>?_|refine aq ?_|(refine hK _ _ ?_;clear hK K)|(refine ar ?_ ?_<;>intro hc<;>try exact jz)|refine cm (qX hq) ?_|refine cm (gI (cU q).1 _ (bw hx)) ?_|refine av ?_|exact jI|(clear hK K)))
  ·rw[if_pos hc]at hA;have hk:=Rd.aT hc;have Yq:=Rd.cW hx hk;refine U8 _ _ (dO (n,true,(cU q).1.inc,L++[(cU q).2]) ⟨(Rd.bq hx hk.2).1.inv hx,fun _=>jJ,jJ,by(try simp only[List.length_append,List.length_cons,List.length_nil]);omega,hA⟩ jJ (by simp only[go_sem,cv,iz,List.map_append,List.map_cons,List.map_nil,List.cons_append,List.nil_append];(try rfl)) (by simp only[go_sem,kS,Nat.reduceAdd,AV.raw.injEq,Value.int.injEq,Value.slice.injEq,Value.pointer.injEq,AV.rs.injEq,hc,List.length_append,List.length_cons,List.length_nil];try omega))
  ·rw[if_neg (by rw[hc];decide)]at hA;refine U8 _ _ (dO (n,false,(cU q).1,L++[(cU q).2]) ⟨hx,(by intro h;cases h),jJ,by(try simp only[List.length_append,List.length_cons,List.length_nil]);omega,?_⟩ jJ (by simp only[go_sem,cv,iz,List.map_append,List.map_cons,List.map_nil,List.cons_append,List.nil_append];(try rfl)) (by simp only[go_sem,kS,Nat.reduceAdd,AV.raw.injEq,Value.int.injEq,Value.slice.injEq,Value.pointer.injEq,AV.rs.injEq,hc,List.length_append,List.length_cons,List.length_nil];try omega));rw[<-hA];obtain⟨n,rfl⟩:∃k,n=k+1:=⟨n-1,jB⟩;rw[mf]
def wX(h:r.Inv):ab prog 254 [pR] (cv r) (fun v l=>v=rB r.calls/\l=cv r):=O5 r (bw h) (fun hk=>Rd.behind h (Rd.dH hk jC).2)
def JV(h:r.Inv):ab prog 231 [pR] (cv r) (fun v l=>v=rI (kZ r).2/\l=cv (kZ r).1):=by
 have hri:=h.lt;have hrp:=h.pos;have W4:=h.len;have W9:r.tok.kind≠0->r.inc.Inv:=fun hk=>(Rd.bq h hk).1.inv h
 by_cases hx:r.is (⟨#[105,110,112,117,116]⟩:UX)=true
 ·have hi:=W9 (Rd.aT hx).2;rw[kZ,if_pos hx];refine aK func231 ntmps231 ?_;refine S ?_
  (have W:=hx;repeat' (first|refine au fun K hK=>?_|refine aq ?_|(refine hK _ _ ?_;clear hK K)|(refine ar ?_ ?_<;>intro hc<;>try exact jz)|refine cm (iv r (bw h)) ?_|refine cm (gI r _ (bw h)) ?_|refine cm (lp r.inc _ _ _ _ [] _ gW.nil (bw hi)) ?_|refine av ?_|exact jI|(clear hK K)))
  (refine bL [.tmp 2] ?_ ?_<;>(try simp only[go_sem]))
 rw[kZ,if_neg hx];have Vr:r.is (⟨#[105,110,112,117,116]⟩:UX)=false:=by simpa using hx
 by_cases hy:r.is (⟨#[110,101,119]⟩:UX)=true
 ·have hi:=W9 (Rd.aT hy).2;have h1:=(Rd.aH hi (⟨#[40]⟩:UX)).inv hi;have h2:=(kH h1).inv h1;have h3:=(Rd.aH h2 (⟨#[41]⟩:UX)).inv h2;rw[if_pos hy];refine aK func231 ntmps231 ?_;refine S ?_
  (have W:=jA Vr hy;repeat' (first|refine au fun K hK=>?_|refine aq ?_|(refine hK _ _ ?_;clear hK K)|(refine ar ?_ ?_<;>intro hc<;>try exact jz)|refine cm (iv r (bw h)) ?_|refine cm (gI r _ (bw h)) ?_|refine cm (iX r.inc _ (bw hi)) ?_|refine cm (qX h1) ?_|refine cm (iX (cU (r.inc.ao (⟨#[40]⟩:UX))).1 _ (bw h2)) ?_|refine cm (lp ((cU (r.inc.ao (⟨#[40]⟩:UX))).1.ao (⟨#[41]⟩:UX)) _ _ _ _ [(cU (r.inc.ao (⟨#[40]⟩:UX))).2] _ gW.sl (bw h3)) ?_|refine av ?_|exact jI|(clear hK K)))
  (refine bL [.tmp 2] ?_ ?_<;>(try simp only[go_sem]))
 rw[if_neg hy];have YG:r.is (⟨#[110,101,119]⟩:UX)=false:=by simpa using hy
 by_cases U9:r.calls=true
 ·rw[if_pos U9];refine aK func231 ntmps231 ?_;refine S ?_
  (have W:=jA Vr (jA YG (U9));repeat' (first|refine au fun K hK=>?_|refine aq ?_|(refine hK _ _ ?_;clear hK K)|(refine ar ?_ ?_<;>intro hc<;>try exact jz)|refine cm (iv r (bw h)) ?_|refine cm (gI r _ (bw h)) ?_|refine cm (wX h) ?_|refine cm (Ih h) ?_|refine av ?_|exact jI|(clear hK K)))
  (refine bL [.tmp 2] ?_ ?_<;>(try simp only[go_sem]))
 ·rw[if_neg U9];have VV:r.calls=false:=by simpa using U9
  refine aK func231 ntmps231 ?_;refine S ?_
  (have W:=jA Vr (jA YG (VV));repeat' (first|refine au fun K hK=>?_|refine aq ?_|(refine hK _ _ ?_;clear hK K)|(refine ar ?_ ?_<;>intro hc<;>try exact jz)|refine cm (iv r (bw h)) ?_|refine cm (gI r _ (bw h)) ?_|refine cm (wX h) ?_|refine cm (qX h) ?_|refine av ?_|exact jI|(clear hK K)))
  (refine bL [.tmp 2] ?_ ?_<;>(try simp only[go_sem]))
def Ov(h:r.Inv)(he:r.e=0)(ln:Int):ab prog 233 [pR,rI ln] (cv r) (fun v l=>v=rI (pd r ln).2/\l=cv (pd r ln).1):=by
 have hri:=h.lt;have hrp:=h.pos;have W4:=h.len;by_cases U9:r.calls=true
 ·have h1:=(Dr h U9).1.inv h;have h2:=(Rd.aH h1 (⟨#[59]⟩:UX)).inv h1;rw[pd,if_pos U9];refine aK func233 ntmps233 ?_;refine S ?_
  (have W:=U9;repeat' (first|refine au fun K hK=>?_|refine aq ?_|(refine hK _ _ ?_;clear hK K)|(refine ar ?_ ?_<;>intro hc<;>try exact jz)|refine cm (wX h) ?_|refine cm (Ih h) ?_|refine cm (iX (mU r).1 _ (bw h1)) ?_|refine cm (lp ((mU r).1.ao (⟨#[59]⟩:UX)) _ _ _ _ [(mU r).2] _ gW.sl (bw h2)) ?_|refine av ?_|exact jI|(clear hK K)))
  (refine bL [.tmp 4] ?_ ?_<;>(try simp only[go_sem]))
 rw[pd,if_neg U9];have VV:r.calls=false:=by simpa using U9
 have h0:=(Rd.dm h).inv h;by_cases hx:r.name.1.is (⟨#[91]⟩:UX)=true
 ·rw[if_pos hx];have d0:=(Rd.bH h0 (Rd.aT hx).1).1;have d1:=(Rd.aH d0 (⟨#[91]⟩:UX)).inv d0;have d2:=(kH d1).inv d1;have d3:=(Rd.aH d2 (⟨#[93]⟩:UX)).inv d2;have d4:=(Ca h0 hx).2.inv h0;have d5:=(yN h0 hx).1.inv h0;have d6:=(yN h0 hx).2.inv h0;have d7:=(Rd.aH d6 (⟨#[59]⟩:UX)).inv d6;have d3l:=d3.pH;have d3h:=d3.qn;unfold uB pe at*;refine aK func233 ntmps233 ?_;refine S ?_
  (have W:=jA VV hx;repeat' (first|refine au fun K hK=>?_|refine aq ?_|(refine hK _ _ ?_;clear hK K)|(refine ar ?_ ?_<;>intro hc<;>try exact jz)|refine cm (wX h) ?_|refine cm (wu r (bw h)) ?_|refine cm (gI r.name.1 _ (bw h0)) ?_|refine cm (uJ r.name.1 (bw h0)) ?_|refine cm (iX r.name.1.down _ (bw d0)) ?_|refine cm (qX d1) ?_|refine cm (iX (cU (r.name.1.down.ao (⟨#[91]⟩:UX))).1 _ (bw d2)) ?_|refine cm (iX ((cU (r.name.1.down.ao (⟨#[91]⟩:UX))).1.ao (⟨#[93]⟩:UX)).up _ (bw d4)) ?_|refine cm (qX d5) ?_|refine cm (iX (cU (((cU (r.name.1.down.ao (⟨#[91]⟩:UX))).1.ao (⟨#[93]⟩:UX)).up.ao (⟨#[61]⟩:UX))).1 _ (bw d6)) ?_|refine cm (lp ((cU (((cU (r.name.1.down.ao (⟨#[91]⟩:UX))).1.ao (⟨#[93]⟩:UX)).up.ao (⟨#[61]⟩:UX))).1.ao (⟨#[59]⟩:UX)) _ _ _ _ [(cU (r.name.1.down.ao (⟨#[91]⟩:UX))).2,(cU (((cU (r.name.1.down.ao (⟨#[91]⟩:UX))).1.ao (⟨#[93]⟩:UX)).up.ao (⟨#[61]⟩:UX))).2] _ gW.sl (bw d7)) ?_|refine av ?_|exact jI|(clear hK K)))
  (refine bL [.tmp 4] ?_ ?_<;>(try simp only[go_sem]))
 ·rw[if_neg hx];have Vr:r.name.1.is (⟨#[91]⟩:UX)=false:=by simpa using hx
  have d1:=(Rd.aH h0 (⟨#[61]⟩:UX)).inv h0;have d2:=(Aa d1).inv d1;have d3:=(Rd.aH d2 (⟨#[59]⟩:UX)).inv d2;refine aK func233 ntmps233 ?_;refine S ?_
  (have W:=jA VV (Vr);repeat' (first|refine au fun K hK=>?_|refine aq ?_|(refine hK _ _ ?_;clear hK K)|(refine ar ?_ ?_<;>intro hc<;>try exact jz)|refine cm (wX h) ?_|refine cm (wu r (bw h)) ?_|refine cm (gI r.name.1 _ (bw h0)) ?_|refine cm (iX r.name.1 _ (bw h0)) ?_|refine cm (JV d1) ?_|refine cm (iX (kZ (r.name.1.ao (⟨#[61]⟩:UX))).1 _ (bw d2)) ?_|refine cm (lp ((kZ (r.name.1.ao (⟨#[61]⟩:UX))).1.ao (⟨#[59]⟩:UX)) _ _ _ _ [(kZ (r.name.1.ao (⟨#[61]⟩:UX))).2] _ gW.sl (bw d3)) ?_|refine av ?_|exact jI|(clear hK K)))
  (refine bL [.tmp 4] ?_ ?_<;>(try simp only[go_sem]))
def MZ(w:UX):aL prog 193 [rS w] (rI (tZ w)):=by
 refine dG func193 ntmps193 ?_
 (repeat' (first|refine au fun K hK=>?_|refine aq ?_|(refine hK _ _ ?_;clear hK K)|(refine ar ?_ ?_<;>intro hc<;>try exact jz)|refine av ?_|exact jI|(clear hK K)))
 all_goals(refine bL [.tmp 2] ?_ ?_<;>(try simp only[go_sem]))
 all_goals unfold tZ
 all_goals repeat' split
 all_goals first|rfl|(exfalso;simp_all;done)
def FV(h:r.Inv):ab prog 148 [pR] (cv r) (fun v l=>v=rI (iB r).2/\l=cv (iB r).1):=by
 have hri:=h.lt;have hrp:=h.pos;have W4:=h.len;refine aK func148 ntmps148 ?_;refine S ?_
 (repeat' (first|refine au fun K hK=>?_|refine aq ?_|(refine hK _ _ ?_;clear hK K)|(refine ar ?_ ?_<;>intro hc<;>try exact jz)|refine cm (rP r (bw h)) ?_|refine cp (MZ r.word) ?_|refine cm (uC r _ (bw h)) ?_|refine av ?_|exact jI|(clear hK K)))
 ·(refine bL [.tmp 2] ?_ ?_<;>(try simp only[go_sem]))
  ·simp only[iB,if_pos hc]
  ·simp only[iB,if_pos hc,go_sem]
 ·(refine bL [.tmp 2] ?_ ?_<;>(try simp only[go_sem]))
  ·simp only[iB,if_neg hc]
  ·simp only[iB,if_neg hc];rfl
def Cw(n:Nat):Prop:=∀r:Rd,r.Inv->4*r.rem+1<=n->ab prog 149 [pR] (cv r) (fun v l=>v=rI (fP n r).2/\l=cv (fP n r).1)
def A1(n:Nat):Prop:=∀r:Rd,r.Inv->r.e=0->4*r.rem+2<=n->ab prog 195 [pR] (cv r) (fun v l=>v=rI (mF n r).2/\l=cv (mF n r).1)
def P2(n:Nat)(hs:∀m,m<=n->A1 m):Cw (n+1):=by
 intro r h hn;by_cases hx:r.is (⟨#[123]⟩:UX)=true
 ·have he:=(Rd.aT hx).1;have hd:=(Rd.bH h he).1;have s1:=Rd.aH hd (⟨#[123]⟩:UX);have h1:=s1.inv hd;have s2:=(tV n).2.1 _ [] h1;have h2:=s2.inv h1;have s3:=Rd.aH h2 (⟨#[125]⟩:UX);have h3:=s3.inv h2;have h4:=(Rd.fw h he ((s1.trans s2).trans s3)).inv h;have h3l:=h3.pH;have h3h:=h3.qn;have hr:=(Rd.gS h hx).1;have hr0:r.rem<=2000:=by
   have:=h.pos;have:=h.len;unfold Rd.rem;split<;>omega
  rw[fP,if_pos hx];refine aK func149 ntmps149 ?_;refine S ?_
  (have W:=hx;repeat' (first|refine au fun K hK=>?_|refine aq ?_|(refine hK _ _ ?_;clear hK K)|(refine ar ?_ ?_<;>intro hc<;>try exact jz)|refine cm (iv r (bw h)) ?_|refine cm (gI r _ (bw h)) ?_|refine cm (uJ r (bw h)) ?_|refine cm (iX r.down _ (bw hd)) ?_|refine av ?_|exact jI|(clear hK K)))
  have U6:=hK;clear hK;refine iQ (dM.nil 2 5 3 (sz:=1) rfl jC (Or.inr ⟨_,_,_,rfl,rfl⟩)) ?_
  (refine S ?_;try exact jI)
  refine dw (S:=Nat×Rd×UU) [(5,3),(21,14)] (fun s=>s.2.1.Inv/\4*s.2.1.rem+3<=s.1/\s.1<=n/\s.2.2.length+s.2.1.rem<=2000/\mn s.1 s.2.1 s.2.2=mn n (r.down.ao (⟨#[123]⟩:UX)) []) (fun s=>[(5,.rs 2 s.2.2.length 1 s.2.2.length)]) (fun s=>⟨[0,1],cv s.2.1++[(2,.aD 3 1 (s.2.2.map eI))]⟩) (fun s=>s.1) (n,r.down.ao (⟨#[123]⟩:UX),[]) ⟨h1,jJ,Nat.le_refl _,by(try simp only[List.length_nil]);omega,rfl⟩ (dx rfl bS) ?_;rintro⟨m,q,L⟩ ⟨hq,Xq,WR,Wg,hA⟩ Kr U8;simp only at hq Xq WR Wg hA;have hqi:=hq.lt;have hqp:=hq.pos;have hql:=hq.len;obtain⟨m,rfl⟩:∃k,m=k+1:=⟨m-1,jB⟩;rw[mn]at hA;by_cases VC:q.e=0/\q.is (⟨#[125]⟩:UX)=false
  ·rw[if_pos VC]at hA;obtain⟨XJ,XX⟩:=VC;obtain⟨t1,t2⟩:=(tV m).2.2 q hq XJ jB;have hj:=t1.inv hq;refine S ?_
   (have W:=jA XJ XX;repeat' (first|refine au fun K hK=>?_|refine aq ?_|(refine hK _ _ ?_;clear hK K)|(refine ar ?_ ?_<;>intro hc<;>try exact jz)|refine cm (gI q _ (bw hq)) ?_|refine cm (hs m jB q hq XJ jB) ?_|refine av ?_|exact jI|(clear hK K)))
   refine U8 _ _ (dO (m,(mF m q).1,L++[(mF m q).2]) ⟨hj,jJ,jJ,by(try simp only[List.length_append,List.length_cons,List.length_nil]);omega,hA⟩ jJ (by simp only[go_sem,cv,iz,List.map_append,List.map_cons,List.map_nil,List.cons_append,List.nil_append];(try rfl)) bS)
  ·rw[if_neg VC]at hA;have e1:q=(mn n (r.down.ao (⟨#[123]⟩:UX)) []).1:=by rw[<-hA]
   have e2:L=(mn n (r.down.ao (⟨#[123]⟩:UX)) []).2:=by rw[<-hA]
   rw[<-e1]at h3 h4 h3l h3h;refine S ?_
   (repeat' (first|refine au fun K hK=>?_|refine aq ?_|(refine hK _ _ ?_;clear hK K)|(refine ar ?_ ?_<;>intro hc<;>try exact jz)|refine cm (gI q _ (bw hq)) ?_|refine av ?_|exact jI|(clear hK K)))
   all_goals first|(exact absurd ⟨by assumption,by assumption⟩ VC)|skip
   all_goals refine U6 _ _ ?_
   all_goals refine Jd [2] 5 (aO eI 1 L) Sd Sd ie ?_
   all_goals(
    refine S ?_
    (repeat' (first|refine au fun K hK=>?_|refine aq ?_|(refine hK _ _ ?_;clear hK K)|(refine ar ?_ ?_<;>intro hc<;>try exact jz)|refine cm (iX q _ (bw hq)) ?_|refine cm (ye (q.ao (⟨#[125]⟩:UX)).up _ _ _ _ L (bw h4)) ?_|refine av ?_|exact jI|(clear hK K)))
    (refine bL [.tmp 2] ?_ ?_<;>(try simp only[go_sem]))
    all_goals simp only[<-e1,<-e2])
 ·rw[fP,if_neg hx];have Vr:r.is (⟨#[123]⟩:UX)=false:=by simpa using hx
  refine aK func149 ntmps149 ?_;refine S ?_
  (have W:=Vr;repeat' (first|refine au fun K hK=>?_|refine aq ?_|(refine hK _ _ ?_;clear hK K)|(refine ar ?_ ?_<;>intro hc<;>try exact jz)|refine cm (iv r (bw h)) ?_|refine cm (gI r _ (bw h)) ?_|refine cm (uC r _ (bw h)) ?_|refine av ?_|exact jI|(clear hK K)))
  (refine bL [.tmp 2] ?_ ?_<;>(try simp only[go_sem]))
def UD(n:Nat)(hb:Cw n):A1 (n+1):=by
 intro r h he hn;have hri:=h.lt;have hrp:=h.pos;have W4:=h.len;have word:∀w:UX,w≠⟨#[]⟩->r.word=w->r.inc.Inv/\r.inc.rem+1<=r.rem:=fun w h0 hw=>by have hk:=Rd.dH (Rd.gO hw h0) jC;exact⟨(Rd.bq h hk.2).1.inv h,Rd.cW h hk⟩
 rw[mF];by_cases w1:r.word=(⟨#[108,101,116]⟩:UX)
 ·rw[if_pos w1];have w1':=eq_true w1;obtain⟨hi,hr⟩:=word _ jC w1;have h1:=(Rd.dm hi).inv hi;have h2:=(Rd.aH h1 (⟨#[61]⟩:UX)).inv h1;have h3:=(Aa h2).inv h2;have h4:=(Rd.aH h3 (⟨#[59]⟩:UX)).inv h3;refine aK func195 ntmps195 ?_;refine S ?_
  (have W:=w1';repeat' (first|refine au fun K hK=>?_|refine aq ?_|(refine hK _ _ ?_;clear hK K)|(refine ar ?_ ?_<;>intro hc<;>try exact jz)|refine cm (iv r (bw h)) ?_|refine cm (rP r (bw h)) ?_|refine cm (wu r.inc (bw hi)) ?_|refine cm (iX r.inc.name.1 _ (bw h1)) ?_|refine cm (JV h2) ?_|refine cm (iX (kZ (r.inc.name.1.ao (⟨#[61]⟩:UX))).1 _ (bw h3)) ?_|refine cm (lp ((kZ (r.inc.name.1.ao (⟨#[61]⟩:UX))).1.ao (⟨#[59]⟩:UX)) _ _ _ _ [(kZ (r.inc.name.1.ao (⟨#[61]⟩:UX))).2] _ gW.sl (bw h4)) ?_|refine av ?_|exact jI|(clear hK K)))
  (refine bL [.tmp 2] ?_ ?_<;>(try simp only[go_sem]))
 rw[if_neg w1];by_cases w2:r.word=(⟨#[112,114,105,110,116]⟩:UX)
 ·rw[if_pos w2];have w2':=eq_true w2;obtain⟨hi,hr⟩:=word _ jC w2;have h1:=(kH hi).inv hi;have h2:=(Rd.aH h1 (⟨#[59]⟩:UX)).inv h1;refine aK func195 ntmps195 ?_;refine S ?_
  (have W:=jA w1 (w2');repeat' (first|refine au fun K hK=>?_|refine aq ?_|(refine hK _ _ ?_;clear hK K)|(refine ar ?_ ?_<;>intro hc<;>try exact jz)|refine cm (iv r (bw h)) ?_|refine cm (rP r (bw h)) ?_|refine cm (qX hi) ?_|refine cm (iX (cU r.inc).1 _ (bw h1)) ?_|refine cm (lp ((cU r.inc).1.ao (⟨#[59]⟩:UX)) _ _ _ _ [(cU r.inc).2] _ gW.sl (bw h2)) ?_|refine av ?_|exact jI|(clear hK K)))
  (refine bL [.tmp 2] ?_ ?_<;>(try simp only[go_sem]))
 rw[if_neg w2];by_cases w3:r.word=(⟨#[119,104,105,108,101]⟩:UX)
 ·rw[if_pos w3];have w3':=eq_true w3;obtain⟨hi,hr⟩:=word _ jC w3;have h1:=(kH hi).inv hi;have W8:=(kH hi).rem;have h2:=((tV n).1 _ h1).inv h1;refine aK func195 ntmps195 ?_;refine S ?_
  (have W:=jA w1 (jA w2 (w3'));repeat' (first|refine au fun K hK=>?_|refine aq ?_|(refine hK _ _ ?_;clear hK K)|(refine ar ?_ ?_<;>intro hc<;>try exact jz)|refine cm (iv r (bw h)) ?_|refine cm (rP r (bw h)) ?_|refine cm (qX hi) ?_|refine cm (hb _ h1 jB) ?_|refine cm (lp (fP n (cU r.inc).1).1 _ _ _ _ [(cU r.inc).2,(fP n (cU r.inc).1).2] _ gW.sl (bw h2)) ?_|refine av ?_|exact jI|(clear hK K)))
  (refine bL [.tmp 2] ?_ ?_<;>(try simp only[go_sem]))
 rw[if_neg w3];by_cases w4:r.word=(⟨#[105,102]⟩:UX)
 ·rw[if_pos w4];have w4':=eq_true w4;obtain⟨hi,hr⟩:=word _ jC w4;have h1:=(kH hi).inv hi;have W8:=(kH hi).rem;have s2:=(tV n).1 _ h1;have h2:=s2.inv h1;have Yq:=s2.rem;have h2i:=h2.lt;have h2p:=h2.pos;have h2l:=h2.len;by_cases hx:(fP n (cU r.inc).1).1.is (⟨#[101,108,115,101]⟩:UX)=true
  ·rw[if_pos hx];have hk:=Rd.aT hx;have h3:=(Rd.bq h2 hk.2).1.inv h2;have hr3:=Rd.cW h2 hk;have h4:=((tV n).1 _ h3).inv h3;refine aK func195 ntmps195 ?_;refine S ?_
   (have W:=jA w1 (jA w2 (jA w3 (jA w4' (hx))));repeat' (first|refine GI (id:=31) [2] [(13,135)] [(12,aO eI 1 [(cU r.inc).2,(fP n (cU r.inc).1).2,(fP n (fP n (cU r.inc).1).1.inc).2])] ?_|refine au fun K hK=>?_|refine aq ?_|(refine hK _ _ ?_;clear hK K)|(refine ar ?_ ?_<;>intro hc<;>try exact jz)|refine cm (iv r (bw h)) ?_|refine cm (rP r (bw h)) ?_|refine cm (qX hi) ?_|refine cm (hb _ h1 jB) ?_|refine cm (gI (fP n (cU r.inc).1).1 _ (bw h2)) ?_|refine cm (hb _ h3 jB) ?_|refine cm (ye (fP n (fP n (cU r.inc).1).1.inc).1 _ _ _ _ [(cU r.inc).2,(fP n (cU r.inc).1).2,(fP n (fP n (cU r.inc).1).1.inc).2] (bw h4)) ?_|refine av ?_|exact jI|(clear hK K)))
   (refine bL [.tmp 2] ?_ ?_<;>(try simp only[go_sem]))
  ·rw[if_neg hx];have Vr:(fP n (cU r.inc).1).1.is (⟨#[101,108,115,101]⟩:UX)=false:=by simpa using hx
   refine aK func195 ntmps195 ?_;refine S ?_
   (have W:=jA w1 (jA w2 (jA w3 (jA w4' (Vr))));repeat' (first|refine au fun K hK=>?_|refine aq ?_|(refine hK _ _ ?_;clear hK K)|(refine ar ?_ ?_<;>intro hc<;>try exact jz)|refine cm (iv r (bw h)) ?_|refine cm (rP r (bw h)) ?_|refine cm (qX hi) ?_|refine cm (hb _ h1 jB) ?_|refine cm (gI (fP n (cU r.inc).1).1 _ (bw h2)) ?_|refine cm (lp (fP n (cU r.inc).1).1 _ _ _ _ [(cU r.inc).2,(fP n (cU r.inc).1).2] _ gW.sl (bw h2)) ?_|refine av ?_|exact jI|(clear hK K)))
   (refine bL [.tmp 2] ?_ ?_<;>(try simp only[go_sem]))
 rw[if_neg w4];by_cases w5:r.word=(⟨#[114,101,116,117,114,110]⟩:UX)
 ·rw[if_pos w5];have w5':=eq_true w5;obtain⟨hi,hr⟩:=word _ jC w5;by_cases hx:r.inc.is (⟨#[59]⟩:UX)=true
  ·rw[if_pos hx];have h1:=(Rd.aH hi (⟨#[59]⟩:UX)).inv hi;refine aK func195 ntmps195 ?_;refine S ?_
   (have W:=jA w1 (jA w2 (jA w3 (jA w4 (jA w5' (hx)))));repeat' (first|refine au fun K hK=>?_|refine aq ?_|(refine hK _ _ ?_;clear hK K)|(refine ar ?_ ?_<;>intro hc<;>try exact jz)|refine cm (iv r (bw h)) ?_|refine cm (rP r (bw h)) ?_|refine cm (gI r.inc _ (bw hi)) ?_|refine cm (iX r.inc _ (bw hi)) ?_|refine cm (lp (r.inc.ao (⟨#[59]⟩:UX)) _ _ _ _ [] _ gW.sl (bw h1)) ?_|refine av ?_|exact jI|(clear hK K)))
   (refine bL [.tmp 2] ?_ ?_<;>(try simp only[go_sem]))
  ·rw[if_neg hx];have Vr:r.inc.is (⟨#[59]⟩:UX)=false:=by simpa using hx
   have h1:=(kH hi).inv hi;have h2:=(Rd.aH h1 (⟨#[59]⟩:UX)).inv h1;refine aK func195 ntmps195 ?_;refine S ?_
   (have W:=jA w1 (jA w2 (jA w3 (jA w4 (jA w5' (Vr)))));repeat' (first|refine GI (id:=40) [2] [(16,132)] [(15,aO eI 1 [(cU r.inc).2])] ?_|refine au fun K hK=>?_|refine aq ?_|(refine hK _ _ ?_;clear hK K)|(refine ar ?_ ?_<;>intro hc<;>try exact jz)|refine cm (iv r (bw h)) ?_|refine cm (rP r (bw h)) ?_|refine cm (gI r.inc _ (bw hi)) ?_|refine cm (qX hi) ?_|refine cm (iX (cU r.inc).1 _ (bw h1)) ?_|refine cm (ye ((cU r.inc).1.ao (⟨#[59]⟩:UX)) _ _ _ _ [(cU r.inc).2] (bw h2)) ?_|refine av ?_|exact jI|(clear hK K)))
   (refine bL [.tmp 2] ?_ ?_<;>(try simp only[go_sem]))
 rw[if_neg w5];refine aK func195 ntmps195 ?_;refine S ?_
 (have W:=jA w1 (jA w2 (jA w3 (jA w4 (w5))));repeat' (first|refine au fun K hK=>?_|refine aq ?_|(refine hK _ _ ?_;clear hK K)|(refine ar ?_ ?_<;>intro hc<;>try exact jz)|refine cm (iv r (bw h)) ?_|refine cm (rP r (bw h)) ?_|refine cm (Ov h he r.bA) ?_|refine av ?_|exact jI|(clear hK K)))
 (refine bL [.tmp 2] ?_ ?_<;>(try simp only[go_sem]))
theorem JO:∀m n,n<=m->Cw n/\A1 n
 |0,0,_=>⟨fun r h hn=>by omega,fun r h he hn=>by omega⟩
 |m+1,0,_=>⟨fun r h hn=>jB,fun r h he hn=>jB⟩
 |m+1,n+1,hm=>by
  have ih:=fun k (hk:k<=n)=>JO m k jB
  exact⟨P2 n fun k hk=>(ih k hk).2,UD n (ih n jl).1⟩
def KI(h:r.Inv):ab prog 149 [pR] (cv r) (fun v l=>v=rI (oi r).2/\l=cv (oi r).1):=(JO _ _ jl).1 r h jB
def QG(h:r.Inv):ab prog 103 [pR] (cv r) (fun v l=>v=.agg (fW (mA r).2)/\l=cv (mA r).1):=by
 have h1:=(qK h).1.inv h;have h2:=(qK h).2.1.inv h;have h3:=(qK h).2.2.1.inv h;have h4:=(DO h).inv h1;have h5:=(yF h).inv h1;have h6:=(As h).inv h1;have h7:=(Bi h6).inv h6;have hr0:(l5 r).rem<=2000:=by have:=h3.pos;have:=h3.len;unfold Rd.rem;split<;>omega
 have hm:ab prog 145 [pR,rS (⟨#[40]⟩:UX)] (cv (r.ao (⟨#[102,110]⟩:UX)).name.1) (fun v l=>v=.aY []/\l=cv (l5 r)):=iX (r.ao (⟨#[102,110]⟩:UX)).name.1 _ (bw h2);refine aK func103 ntmps103 ?_;refine S ?_
 (repeat' (first|refine au fun K hK=>?_|refine aq ?_|(refine hK _ _ ?_;clear hK K)|(refine ar ?_ ?_<;>intro hc<;>try exact jz)|refine cm (iv r (bw h)) ?_|refine cm (hm) ?_|refine cm (iX r _ (bw h)) ?_|refine cm (wu (r.ao (⟨#[102,110]⟩:UX)) (bw h1)) ?_|refine cm (gI (l5 r) _ (bw h3)) ?_|refine av ?_|exact jI|(clear hK K)))
 have U6:=hK;clear hK;refine iQ (dM.fz 4 3 2 254 2 rfl jC rfl rfl) ?_
 (refine S ?_;try exact jI)
 refine dw (S:=Nat×Bool×Rd×List bp) [(5,3),(30,23)] (fun s=>s.2.2.1.Inv/\(s.2.1=true->s.2.2.1.rem+2<=s.1)/\1<=s.1/\s.2.2.2.length+s.1<=5000/\k9 s.1 s.2.1 s.2.2.1 s.2.2.2=tj r) (fun s=>[(5,rB s.2.1)]) (fun s=>⟨[0,1],cv s.2.2.1++[(2,.var 181 [rS ⟨#[]⟩,rI 0,.raw (.slice none 0 0),rI 0,rI 0]),(3,.var 181 [rS (r.ao (⟨#[102,110]⟩:UX)).name.2,rI r.bA,.rs 4 s.2.2.2.length 2 s.2.2.2.length,rI 0,rI 0]),(4,.aD 254 2 (s.2.2.2.map nw))]⟩) (fun s=>s.1) ((l5 r).rem+2,more (l5 r),l5 r,[]) ⟨h3,fun _=>Nat.le_refl _,jJ,by(try simp only[List.length_nil]);omega,rfl⟩ (dx rfl (by simp only[go_sem,kS,Nat.reduceAdd,AV.raw.injEq,Value.int.injEq,Value.slice.injEq,Value.pointer.injEq,AV.rs.injEq,more,List.length_nil];try omega)) ?_;rintro⟨n,b,q,L⟩ ⟨hq,V0,Xd,X0,hA⟩ Kr U8;simp only at hq V0 Xd X0 hA;have hqi:=hq.lt;have hqp:=hq.pos;have hql:=hq.len;obtain⟨n,rfl⟩:∃k,n=k+1:=⟨n-1,jB⟩;cases b with
 |false=>
  rw[k9]at hA;have e1:q=(tj r).1:=by rw[<-hA]
  have e2:L=(tj r).2:=by rw[<-hA]
  have hmm:ab prog 145 [pR,rS (⟨#[41]⟩:UX)] (cv q) (fun v l=>v=.aY []/\l=cv (lI r)):=by rw[e1];exact iX (tj r).1 _ (bw h4)
  by_cases hx:(lI r).is (⟨#[123]⟩:UX)=true
  ·have ed:lT r=(lI r,0):=by unfold lT;rw[if_pos hx]
   have ef:mA r=((oi (lI r)).1,⟨(r.ao (⟨#[102,110]⟩:UX)).name.2,r.bA,L,0,(oi (lI r)).2⟩):=by unfold mA;rw[ed,<-e2]
   rw[ef]at U6;refine S ?_
   (have W:=hx;repeat' (first|refine au fun K hK=>?_|refine aq ?_|(refine hK _ _ ?_;clear hK K)|(refine ar ?_ ?_<;>intro hc<;>try exact jz)|refine U6 _ _ ?_|refine cm (hmm) ?_|refine cm (gI (lI r) _ (bw h5)) ?_|refine cm (KI h5) ?_|refine av ?_|exact jI|(clear hK K)))
   refine iM [.cell 2 181] ?_;refine cn.agg (ds:=[rS _,rI _,aO nw 2 L,rI _,rI _]) ?_;exact jA (.same _ rfl) (jA (.same _ rfl) (jA (dn.row (enc:=nw) L rfl rfl jE) (jA (.same _ rfl) (jA (.same _ rfl) trivial))))
  ·have Vr:(lI r).is (⟨#[123]⟩:UX)=false:=by simpa using hx
   have ed:lT r=iB (lI r):=by unfold lT;rw[if_neg hx]
   rw[ed]at h6;have ef:mA r=((oi (iB (lI r)).1).1,⟨(r.ao (⟨#[102,110]⟩:UX)).name.2,r.bA,L,(iB (lI r)).2,(oi (iB (lI r)).1).2⟩):=by unfold mA;rw[ed,<-e2]
   rw[ef]at U6;refine S ?_
   (have W:=Vr;repeat' (first|refine au fun K hK=>?_|refine aq ?_|(refine hK _ _ ?_;clear hK K)|(refine ar ?_ ?_<;>intro hc<;>try exact jz)|refine U6 _ _ ?_|refine cm (hmm) ?_|refine cm (gI (lI r) _ (bw h5)) ?_|refine cm (FV h5) ?_|refine cm (KI h6) ?_|refine av ?_|exact jI|(clear hK K)))
   refine iM [.cell 2 181] ?_;refine cn.agg (ds:=[rS _,rI _,aO nw 2 L,rI _,rI _]) ?_;exact jA (.same _ rfl) (jA (.same _ rfl) (jA (dn.row (enc:=nw) L rfl rfl jE) (jA (.same _ rfl) (jA (.same _ rfl) trivial))))
 |true=>
  have s1:=Ig hq;have hx:=s1.inv hq;have W8:=s1.rem;have hxi:=hx.lt;have hxp:=hx.pos;have Yj:=hx.len;have V0:=V0 rfl;have YH:=(Rd.dm hq).inv hq;have XB:ab prog 148 [pR] (cv q.name.1) (fun v l=>v=rI (iB q.name.1).2/\l=cv (pr q)):=FV YH;rw[k9]at hA;refine S ?_
  (repeat' (first|refine au fun K hK=>?_|refine aq ?_|(refine hK _ _ ?_;clear hK K)|(refine ar ?_ ?_<;>intro hc<;>try exact jz)|refine cm (wu q (bw hq)) ?_|refine cm (XB) ?_|refine cm (gI (pr q) _ (bw hx)) ?_|refine av ?_|exact jI|(clear hK K)))
  ·rw[if_pos hc]at hA;have hk:=Rd.aT hc;have Yq:=Rd.cW hx hk;refine U8 _ _ (dO (n,true,(pr q).inc,L++[⟨q.name.2,(iB q.name.1).2⟩]) ⟨(Rd.bq hx hk.2).1.inv hx,fun _=>jJ,jJ,by(try simp only[List.length_append,List.length_cons,List.length_nil]);omega,hA⟩ jJ (by simp only[go_sem,cv,iz,List.map_append,List.map_cons,List.map_nil,List.cons_append,List.nil_append,List.length_append,List.length_cons,List.length_nil,Nat.reduceAdd];(try rfl)) (by simp only[go_sem,kS,Nat.reduceAdd,AV.raw.injEq,Value.int.injEq,Value.slice.injEq,Value.pointer.injEq,AV.rs.injEq,hc,List.length_append,List.length_cons,List.length_nil];try omega))
  ·rw[if_neg (by rw[hc];decide)]at hA;refine U8 _ _ (dO (n,false,pr q,L++[⟨q.name.2,(iB q.name.1).2⟩]) ⟨hx,(by intro h;cases h),jJ,by(try simp only[List.length_append,List.length_cons,List.length_nil]);omega,?_⟩ jJ (by simp only[go_sem,cv,iz,List.map_append,List.map_cons,List.map_nil,List.cons_append,List.nil_append,List.length_append,List.length_cons,List.length_nil,Nat.reduceAdd];(try rfl)) (by simp only[go_sem,kS,Nat.reduceAdd,AV.raw.injEq,Value.int.injEq,Value.slice.injEq,Value.pointer.injEq,AV.rs.injEq,hc,List.length_append,List.length_cons,List.length_nil];try omega));rw[<-hA];obtain⟨n,rfl⟩:∃k,n=k+1:=⟨n-1,jB⟩;rw[k9]
variable{k:Nat}
def Rs{α:Type}[Inhabited α](p:α->Bool)(l:List α)(h:k<l.length):(l.take (k+1)).any p=((l.take k).any p || p (nth l k)):=by rw[List.take_succ_eq_append_getElem h,List.any_append,ee h];simp
def sY(t:List bk)(L:List aV)(k:Nat):Bool:=decide (300<(t.length:Int)) || decide (6<(L.length:Int)) || (L.take k).any fun f=>decide (3<(f.params.length:Int))
def PU(t:List bk)(L:List aV)(h:k<L.length):sY t L (k+1)=(sY t L k || decide (3<((nth L k).params.length:Int))):=by unfold sY;rw[Rs _ _ h];simp only[Bool.or_assoc]
def PD(t:List bk)(L:List aV)(h:L.length<=k):sY t L k=ua t L:=by
 unfold sY ua;rw[List.take_of_length_le h];have e1:∀n:Nat,decide (300<(n:Int))=decide (300<n):=fun n=>decide_eq_decide.2 jB
 have e2:∀n:Nat,decide (6<(n:Int))=decide (6<n):=fun n=>decide_eq_decide.2 jB
 have e3:∀n:Nat,decide (3<(n:Int))=decide (3<n):=fun n=>decide_eq_decide.2 jB
 simp only[e1,e2,e3]
def Mx(s:UX)(hs:s.size<=1000000):aL prog 52 [rS s] (.aY [.agg (l6 (gu s).1),rI (gu s).2.1,rI (gu s).2.2]):=by
 by_cases he:(ko s).2.2=0
 ·have hi:=Ht he;have hr0:(nN s).rem<=2000:=by
   have:=hi.pos;have:=hi.len;unfold Rd.rem;split<;>omega
  refine dG func52 ntmps52 ?_
  (have W:=he;repeat' (first|refine au fun K hK=>?_|refine aq ?_|(refine hK _ _ ?_;clear hK K)|(refine ar ?_ ?_<;>intro hc<;>try exact jz)|refine cp (GF s hs) ?_|(refine zO (t:=30) 10 (by simp only[go_sem];rfl) rfl ?_;refine S ?_)|(refine yH 0 jD rfl ?_;refine S ?_)|refine av ?_|exact jI|(clear hK K)))
  have U6:=hK;clear hK;refine iQ (dM.fz 1 0 3 116 5 rfl jC rfl rfl) ?_
  (refine S ?_;try exact jI)
  refine iQ (dM.fz 12 11 1 181 5 rfl jC rfl rfl) ?_
  (refine S ?_;try exact jI)
  refine dw (S:=Nat×Rd×List aV) [(10,2),(30,16)] (fun p=>p.2.1.Inv/\p.2.1.rem+1<=p.1/\p.2.2.length+p.1<=5000/\ot p.1 p.2.1 p.2.2=oj s) (fun _=>[]) (fun p=>⟨[],[(10,.var 30 [.raw (.slice none 0 0),.raw (.slice none 0 0)]),(0,.var 177 (iz p.2.1)),(11,.var 30 [.raw (.slice none 0 0),.rs 12 p.2.2.length 5 p.2.2.length]),(1,.aD 116 5 (p.2.1.nodes.map eF)),(12,.aD 181 5 (p.2.2.map fW))]⟩) (fun p=>p.1) ((nN s).rem+1,nN s,[]) ⟨hi,Nat.le_refl _,by(try simp only[List.length_nil]);omega,rfl⟩ (dx rfl bS) ?_;rintro⟨n,q,L⟩ ⟨hq,V0,Xd,hA⟩ Kr U8;simp only at hq V0 Xd hA;have hqi:=hq.lt;have hqp:=hq.pos;have hql:=hq.len;obtain⟨n,rfl⟩:∃k,n=k+1:=⟨n-1,jB⟩;rw[ot]at hA;by_cases VC:q.e=0/\q.kind 0=false
  ·rw[if_pos VC]at hA;obtain⟨XJ,XX⟩:=VC;obtain⟨t1,t2⟩:=FU hq;have t2:=t2 XJ;have hj:=t1.inv hq;refine S ?_
   (have W:=jA XJ XX;repeat' (first|refine au fun K hK=>?_|refine aq ?_|(refine hK _ _ ?_;clear hK K)|(refine ar ?_ ?_<;>intro hc<;>try exact jz)|refine cm (xP q _ (bw hq)) ?_|refine cm (QG hq) ?_|refine av ?_|exact jI|(clear hK K)))
   refine U8 _ _ (lc [13] (n,(mA q).1,L++[(mA q).2]) ⟨hj,jJ,by(try simp only[List.length_append,List.length_cons,List.length_nil]);omega,hA⟩ jJ rfl Sd (by simp only[go_sem,iz,List.map_append,List.map_cons,List.map_nil,List.length_append,List.length_cons,List.length_nil,Nat.reduceAdd];(try rfl)) ie)
  ·rw[if_neg VC]at hA;have e1:q=(oj s).1:=by rw[<-hA]
   have e2:L=(oj s).2:=by rw[<-hA]
   refine S ?_
   (repeat' (first|refine au fun K hK=>?_|refine aq ?_|(refine hK _ _ ?_;clear hK K)|(refine ar ?_ ?_<;>intro hc<;>try exact jz)|refine cm (xP q _ (bw hq)) ?_|refine av ?_|exact jI|(clear hK K)))
   all_goals first|(exact absurd ⟨by assumption,by assumption⟩ VC)|skip
   ·have XJ:q.e=0:=by assumption
    have hee:¬(oj s).1.e≠0:=by rw[<-e1];simp[XJ]
    refine U6 _ _ ?_;clear U6
    (have W:=XJ;repeat' (first|refine au fun K hK=>?_|refine aq ?_|(refine hK _ _ ?_;clear hK K)|(refine ar ?_ ?_<;>intro hc<;>try exact jz)|refine av ?_|exact jI|(clear hK K)))
    have U6:=hK;clear hK;refine dw (S:=Nat) [(12,2),(75,18)] (fun k=>k<=L.length) (fun k=>[(12,rB (sY q.nodes L k)),(13,rI k)]) (fun _=>⟨[],[(10,.var 30 [.raw (.slice none 0 0),.raw (.slice none 0 0)]),(0,.var 177 (iz q)),(11,.var 30 [.rs 1 q.nodes.length 5 q.nodes.length,.rs 12 L.length 5 L.length]),(1,.aD 116 5 (q.nodes.map eF)),(12,.aD 181 5 (L.map fW))]⟩) (fun k=>L.length-k) 0 (Nat.zero_le _) (dx (by simp only[iz,XJ]) (by simp only[go_sem,kS,Nat.reduceAdd,AV.raw.injEq,Value.int.injEq,Value.slice.injEq,Value.pointer.injEq,AV.rs.injEq,sY,List.take_zero,List.any_nil,Bool.or_false];try omega)) ?_;intro k hk Kr U8;refine S ?_
    (repeat' (first|refine au fun K hK=>?_|refine aq ?_|(refine hK _ _ ?_;clear hK K)|(refine ar ?_ ?_<;>intro hc<;>try exact jz)|refine av ?_|exact jI|(clear hK K)))
    ·have Wc:k<L.length:=jB;refine U8 _ _ (dO (k+1) jJ jJ (by simp only[iz,XJ]) (by simp only[go_sem,kS,Nat.reduceAdd,AV.raw.injEq,Value.int.injEq,Value.slice.injEq,Value.pointer.injEq,AV.rs.injEq,PU _ _ Wc];try omega))
    ·have hbu:sY q.nodes L k=ua q.nodes L:=PD _ _ jB;by_cases WD:ua q.nodes L=true
     ·have ep:gu s=(⟨[],[]⟩,0,4):=by unfold gu;rw[if_neg (by simp[he]),if_neg hee,<-e1,<-e2,if_pos WD]
      rw[ep]at U6;refine U6 _ _ ?_
      (have W:=jA hbu WD;repeat' (first|refine au fun K hK=>?_|refine aq ?_|(refine hK _ _ ?_;clear hK K)|(refine ar ?_ ?_<;>intro hc<;>try exact jz)|refine av ?_|exact jI|(clear hK K)))
      refine iM [.cell 2 30,.tmp 3,.tmp 4] ?_;refine cn.aY (ds:=[.agg (l6 ⟨[],[]⟩),rI _,rI _]) ?_;exact jA (cn.agg (ds:=[aO eF 5 [],aO fW 5 []]) (jA (dn.nil _ _) (jA (dn.nil _ _) trivial))) (jA (.same _ rfl) (jA (.same _ rfl) trivial))
     ·have hbf:ua q.nodes L=false:=by simpa using WD
      have ep:gu s=(⟨q.nodes,L⟩,0,0):=by unfold gu;rw[if_neg (by simp[he]),if_neg hee,<-e1,<-e2,if_neg WD]
      rw[ep]at U6;refine U6 _ _ ?_
      (have W:=jA hbu hbf;repeat' (first|refine au fun K hK=>?_|refine aq ?_|(refine hK _ _ ?_;clear hK K)|(refine ar ?_ ?_<;>intro hc<;>try exact jz)|refine av ?_|exact jI|(clear hK K)))
      refine iM [.cell 2 30,.tmp 3,.tmp 4] ?_;refine cn.aY (ds:=[.agg (l6 ⟨q.nodes,L⟩),rI _,rI _]) ?_;exact jA (cn.agg (ds:=[aO eF 5 q.nodes,aO fW 5 L]) (jA (dn.row (enc:=eF) q.nodes rfl rfl jE) (jA (dn.row (enc:=fW) L rfl rfl jE) trivial))) (jA (.same _ rfl) (jA (.same _ rfl) trivial))
   ·have XJ:¬q.e=0:=by assumption
    have ep:gu s=(⟨[],[]⟩,q.at_,q.e):=by unfold gu;rw[if_neg (by simp[he]),<-e1,if_pos XJ]
    rw[ep]at U6;refine U6 _ _ ?_
    (have W:=XJ;repeat' (first|refine au fun K hK=>?_|refine aq ?_|(with_reducible refine gR 12 ?_);refine dA 12 [10] (bf 0 12) mixed ?_|(refine hK _ _ ?_;clear hK K)|(refine ar ?_ ?_<;>intro hc<;>try exact jz)|refine av ?_|exact jI|(clear hK K)))
    refine iM [.cell 2 30,.tmp 3,.tmp 4] ?_;refine cn.aY (ds:=[.agg (l6 ⟨[],[]⟩),rI _,rI _]) ?_;exact jA (cn.agg (ds:=[aO eF 5 [],aO fW 5 []]) (jA (dn.nil _ _) (jA (dn.nil _ _) trivial))) (jA (.same _ rfl) (jA (.same _ rfl) trivial))
 ·have ep:gu s=(⟨[],[]⟩,(ko s).2.1,(ko s).2.2):=by unfold gu;rw[if_pos he]
  rw[ep];refine dG func52 ntmps52 ?_
  (have W:=he;repeat' (first|refine au fun K hK=>?_|refine aq ?_|(refine hK _ _ ?_;clear hK K)|(refine ar ?_ ?_<;>intro hc<;>try exact jz)|refine cp (GF s hs) ?_|refine av ?_|exact jI|(clear hK K)))
  refine iM [.cell 2 30,.tmp 3,.tmp 4] ?_;refine cn.aY (ds:=[.agg (l6 ⟨[],[]⟩),rI _,rI _]) ?_;exact jA (cn.agg (ds:=[aO eF 5 [],aO fW 5 []]) (jA (dn.nil _ _) (jA (dn.nil _ _) trivial))) (jA (.same _ rfl) (jA (.same _ rfl) trivial))
def wh(c:Ck):US:=[aO eF 5 c.aa.nodes,aO fW 5 c.aa.ak,.rs 1 c.types.length 1 c.types.length,.rs 2 c.slots.length 1 c.slots.length,.rs 3 c.ak.length 1 c.ak.length,.rs 4 c.aJ.length 1 c.aJ.length,rI c.fn,.rs 5 (c.vars.length+c.more.length) 3 c.vars.length,rI c.size,rI c.e,rI c.at_]
def fB(c:Ck):UR:=[(0,.var 186 (wh c)),(1,.aD 3 1 (c.types.map eI)),(2,.aD 3 1 (c.slots.map eI)),(3,.aD 3 1 (c.ak.map eI)),(4,.aD 3 1 (c.aJ.map eI)),(5,.aD 258 3 ((c.vars++c.more).map lg))]
attribute [go_sem] fB wh Ck.slot Ck.note Ck.af
structure bz(c:Ck):Prop where
 aa:aM c.aa
 types:c.types.length=c.aa.nodes.length
 slots:c.slots.length=c.aa.nodes.length
 ak:c.ak.length=c.aa.nodes.length
 aJ:c.aJ.length<=6
 vX:0<=c.fn
 vp:c.fn<c.aa.ak.length
 vars:(c.vars.length:Int)<=c.size
 size:c.size<=25
 room:c.e=0->c.size<=24
theorem vy{α:Type}(f:α->UX)(nm:UX):∀(l:List α) (i:Int),0<=i->(jx f nm l i=-1/\∀v∈l,f v≠nm)\/(i<=jx f nm l i/\jx f nm l i<i+l.length)
 |[],i,_=>.inl ⟨rfl,fun v hv=>by simp at hv⟩
 |v::l,i,hi=>by
  unfold jx;by_cases h:f v=nm
  ·rw[if_pos h];exact .inr jF
  ·rw[if_neg h];rcases vy f nm l (i+1) jB with⟨h1,h2⟩|h1
   ·exact .inl ⟨h1,fun u hu=>by
     rcases List.mem_cons.1 hu with rfl|hu
     ·exact h
     ·exact h2 u hu⟩
   ·exact .inr jF
def kX{α:Type}[Inhabited α]{l:List α}{i:Nat}(h:i<l.length):l.drop i=nth l i::l.drop (i+1):=by rw[ee h];exact List.drop_eq_getElem_cons h
def tF(c:Ck)(e a:Int):ab prog 150 [pR,rI e,rI a] (fB c) (fun v l=>v=.aY []/\l=fB (c.aA e a)):=by
 refine aK func150 ntmps150 ?_;refine S ?_
 (repeat' (first|refine au fun K hK=>?_|refine aq ?_|(refine hK _ _ ?_;clear hK K)|(refine ar ?_ ?_<;>intro hc<;>try exact jz)|refine av ?_|exact jI|(clear hK K)))
 ·(refine bL [] ?_ ?_<;>(try simp only[go_sem]))
  simp only[Ck.aA,if_pos hc,fB,wh]
 ·(refine bL [] ?_ ?_<;>(try simp only[go_sem]))
  simp only[Ck.aA,if_neg hc,fB,wh]
def CH(c:Ck)(nm:UX)(h:bz c):ab prog 151 [pR,rS nm] (fB c) (fun v l=>v=rI (c.find nm)/\l=fB c):=by
 have h1:=h.vars;have h2:=h.size;refine aK func151 ntmps151 ?_;refine S ?_
 (repeat' (first|refine au fun K hK=>?_|refine aq ?_|(refine hK _ _ ?_;clear hK K)|(refine ar ?_ ?_<;>intro hc<;>try exact jz)|refine av ?_|exact jI|(clear hK K)))
 have U6:=hK;clear hK;refine dw (S:=Nat) [(4,22)] (fun k=>k<=c.vars.length/\jx ba.name nm (c.vars.drop k) k=c.find nm) (fun k=>[(5,rI k)]) (fun _=>⟨[0,1,2,3,4,5],fB c⟩) (fun k=>c.vars.length-k) 0 ⟨jB,rfl⟩ (dx jD bS) ?_;rintro k ⟨Vs,Va⟩ Kr U8
 (refine S ?_;try exact jI)
 by_cases hk:k<c.vars.length
 ·rw[kX hk]at Va;unfold jx at Va;have ZT:nth (c.vars++c.more) k=nth c.vars k:=qf hk
  (have W:=ZT;repeat' (first|refine au fun K hK=>?_|refine aq ?_|(refine hK _ _ ?_;clear hK K)|(refine ar ?_ ?_<;>intro hc<;>try exact jz)|refine av ?_|exact jI|(clear hK K)))
  ·(refine bL [.tmp 4] ?_ ?_<;>(try simp only[go_sem]))
   rw[if_pos hc]at Va;rw[<-Va]
  ·rw[if_neg hc]at Va;refine U8 _ _ (dO (k+1) ⟨jB,by rw[<-Va];rfl⟩ jJ jD bS)
 ·rw[List.drop_eq_nil_of_le jB]at Va
  (repeat' (first|refine au fun K hK=>?_|refine aq ?_|(refine hK _ _ ?_;clear hK K)|(refine ar ?_ ?_<;>intro hc<;>try exact jz)|refine U6 _ _ ?_|refine av ?_|exact jI|(clear hK K)))
  (refine bL [.tmp 4] ?_ ?_<;>(try simp only[go_sem]))
  rw[<-Va];rfl
def o7(c:Ck)(b:Bool)(a:Int):ab prog 237 [pR,rB b,rI a] (fB c) (fun v l=>v=.aY []/\l=fB (c.ao b a)):=by
 refine aK func237 ntmps237 ?_;refine S ?_
 (repeat' (first|refine au fun K hK=>?_|refine aq ?_|(refine hK _ _ ?_;clear hK K)|(refine ar ?_ ?_<;>intro hc<;>try exact jz)|refine cm (tF c 42 a) ?_|refine av ?_|exact jI|(clear hK K)))
 ·(refine bL [] ?_ ?_<;>(try simp only[go_sem]))
  simp only[Ck.ao,hc,Bool.false_eq_true,if_false,fB,wh]
 ·(refine bL [] ?_ ?_<;>(try simp only[go_sem]))
  simp only[Ck.ao,hc,if_true,fB,wh]
variable{a:Int}
def wL{c:Ck}(h:bz c)(h0:0<=a)(h1:a<c.aa.nodes.length):Shape c.aa.nodes (c.node a)/\∀x∈(c.node a).l,0<=x/\x.toNat<a.toNat:=by have:=h.aa.shape a.toNat jB;exact⟨this.1,this.2.1⟩
def zK{c:Ck}(h:bz c)(h0:0<=a)(h1:a<c.aa.nodes.length):(c.node a).l.length<=300:=by obtain⟨_,_,lo,hc⟩:=h.aa.shape a.toNat jB;have:=hc.len;have:=h.aa.many;show(nth c.aa.nodes a.toNat).l.length<=300;omega
def E1(c:Ck)(a:Int)(h:bz c)(h0:0<=a)(h1:a<c.aa.nodes.length):ab prog 235 [pR,rI a] (fB c) (fun v l=>v=rI (c.named a).2/\l=fB (c.named a).1):=by
 have hv:=h.vars;have hz:=h.size;have VX:=h.slots;have hfd:=vy ba.name (c.node a).name c.vars 0 jB;have Xl:=CH c (c.node a).name h;have YY:=tF c 40 a;have ZT:0<=c.find (c.node a).name->nth (c.vars++c.more) (c.find (c.node a).name).toNat=nth c.vars (c.find (c.node a).name).toNat:=fun h=>qf (by have hfd:(c.find (c.node a).name=-1/\_)\/(0<=c.find (c.node a).name/\c.find (c.node a).name<0+c.vars.length):=hfd;omega)
 have hfd:(c.find (c.node a).name=-1/\_)\/(0<=c.find (c.node a).name/\c.find (c.node a).name<0+c.vars.length):=hfd;unfold Ck.named;by_cases hf:c.find (c.node a).name<0
 ·rw[if_pos hf];refine aK func235 ntmps235 ?_;refine S ?_
  (repeat' (first|refine au fun K hK=>?_|refine aq ?_|(refine hK _ _ ?_;clear hK K)|(refine ar ?_ ?_<;>intro hc<;>try exact jz)|refine cm (Xl) ?_|refine cm (YY) ?_|refine av ?_|exact jI|(clear hK K)))
  (refine bL [.tmp 4] ?_ ?_<;>(try simp only[go_sem]))
 ·rw[if_neg hf];have ZT:=ZT jB;refine aK func235 ntmps235 ?_;refine S ?_
  (have W:=ZT;repeat' (first|refine au fun K hK=>?_|refine aq ?_|(with_reducible refine gR 5 ?_);refine dE 5 (bf 0 16) mixed ?_|(refine hK _ _ ?_;clear hK K)|(refine ar ?_ ?_<;>intro hc<;>try exact jz)|refine cm (Xl) ?_|refine av ?_|exact jI|(clear hK K)))
  (refine bL [.tmp 4] ?_ ?_<;>(try simp only[go_sem]))
structure Ev(c c':Ck):Prop where
 aa:c'.aa=c.aa
 fn:c'.fn=c.fn
 vars:c'.vars=c.vars
 more:c'.more=c.more
 size:c'.size=c.size
 aJ:c'.aJ=c.aJ
 types:c'.types.length=c.types.length
 slots:c'.slots.length=c.slots.length
 ak:c'.ak.length=c.ak.length
 err:c.e≠0->c'.e≠0
def Ev.refl(c:Ck):Ev c c:=⟨rfl,rfl,rfl,rfl,rfl,rfl,rfl,rfl,rfl,id⟩
theorem Ev.trans{a b c:Ck}(h:Ev a b)(k:Ev b c):Ev a c:=⟨k.aa.trans h.aa,k.fn.trans h.fn,k.vars.trans h.vars,k.more.trans h.more,k.size.trans h.size,k.aJ.trans h.aJ,k.types.trans h.types,k.slots.trans h.slots,k.ak.trans h.ak,fun e=>k.err (h.err e)⟩
def bz.ev{c c':Ck}(h:bz c)(s:Ev c c'):bz c' where
 aa:=by rw[s.aa];exact h.aa
 types:=by rw[s.types,s.aa];exact h.types
 slots:=by rw[s.slots,s.aa];exact h.slots
 ak:=by rw[s.ak,s.aa];exact h.ak
 aJ:=by rw[s.aJ];exact h.aJ
 vX:=by rw[s.fn];exact h.vX
 vp:=by rw[s.fn,s.aa];exact h.vp
 vars:=by rw[s.vars,s.size];exact h.vars
 size:=by rw[s.size];exact h.size
 room:=fun e=>by rw[s.size];exact h.room (Classical.byContradiction fun h=>s.err h e)
theorem Ev.node{c c':Ck}(s:Ev c c')(a:Int):c'.node a=c.node a:=by unfold Ck.node;rw[s.aa]
def nR(c:Ck){e:Int}(he:e≠0)(a:Int):Ev c (c.aA e a):=by
 unfold Ck.aA;split
 ·exact⟨rfl,rfl,rfl,rfl,rfl,rfl,rfl,rfl,rfl,fun _=>he⟩
 ·exact .refl c
def jd(c:Ck)(b:Bool)(a:Int):Ev c (c.ao b a):=by
 unfold Ck.ao;split
 ·exact .refl c
 ·exact nR c jC a
def Tq(c:Ck)(a s:Int):Ev c (c.slot a s):=⟨rfl,rfl,rfl,rfl,rfl,rfl,rfl,by simp[Ck.slot],rfl,id⟩
def KW(c:Ck)(a t:Int):Ev c (c.note a t):=⟨rfl,rfl,rfl,rfl,rfl,rfl,by simp[Ck.note],rfl,by simp[Ck.note],id⟩
def pO(c:Ck)(a:Int):Ev c (c.af a):=⟨rfl,rfl,rfl,rfl,rfl,rfl,rfl,rfl,by simp[Ck.af],id⟩
def nn(c:Ck)(a:Int):Ev c (c.named a).1:=by
 unfold Ck.named;split
 ·exact nR c jC a
 ·exact Tq c a _
theorem uZ{ex:Ck->Int->Ck×Int}(hex:∀c a,Ev c (ex c a).1):∀(l:UU) (c:Ck) (ts:UU),Ev c (gK ex c l ts).1
 |[],c,ts=>by unfold gK;exact .refl c
 |a::l,c,ts=>by
  unfold gK;split
  ·exact(hex c a).trans (uZ hex l _ _)
  ·exact .refl c
theorem yD(a:Int):∀(ts:UU) (ps:List bp) (c:Ck),Ev c (iO a c ts ps)
 |[],_,c=>by unfold iO;exact .refl c
 |_::_,[],c=>by unfold iO;exact .refl c
 |t::ts,p::ps,c=>by
  unfold iO;split
  ·exact(jd c _ a).trans (yD a ts ps _)
  ·exact .refl c
variable{ex:Ck->Int->Ck×Int}
def UJ(hex:∀c a,Ev c (ex c a).1)(c:Ck)(a:Int):Ev c (jr ex c a).1:=by
 unfold jr;split
 ·exact nR c jC a
 ·refine Ev.trans ?_ (yD _ _ _ _);split
  ·exact(uZ hex _ _ _).trans (nR _ jC a)
  ·exact uZ hex _ _ _
def CP(hex:∀c a,Ev c (ex c a).1)(c:Ck)(a:Int):Ev c (cf ex c a).1:=by
 unfold cf;simp only;repeat' split
 all_goals first
  |exact .refl c
  |exact nn c a
  |exact UJ hex c a
  |exact((nn c a).trans (hex _ _)).trans (jd _ _ _)
  |exact((hex c _).trans (hex _ _)).trans (jd _ _ _)
  |exact(hex c _).trans (jd _ _ _)
theorem fa:∀(n:Nat) (c:Ck) (a:Int),Ev c (ay n c a).1
 |0,c,a=>by unfold ay;exact .refl c
 |n+1,c,a=>by
  unfold ay;split
  ·exact .refl c
  ·exact(CP (fa n) c a).trans (KW _ _ _)
def ui(n:Nat):Prop:=∀(c:Ck) (a:Int),bz c->0<=a->a<c.aa.nodes.length->a.toNat<n->fk (c.node a).kind->ab prog 236 [pR,rI a] (fB c) (fun v l=>v=rI (ay n c a).2/\l=fB (ay n c a).1)
def GK(n:Nat):Prop:=∀(c:Ck) (a:Int),bz c->c.e=0->0<=a->a<c.aa.nodes.length->a.toNat<=n->fk (c.node a).kind->ab prog 257 [pR,rI a] (fB c) (fun v l=>v=rI (cf (ay n) c a).2/\l=fB (cf (ay n) c a).1)
def Gs(n:Nat):Prop:=∀(c:Ck) (a:Int),bz c->0<=a->a<c.aa.nodes.length->a.toNat<=n->(c.node a).kind=21->ab prog 271 [pR,rI a] (fB c) (fun v l=>v=rI (jr (ay n) c a).2/\l=fB (jr (ay n) c a).1)
def PI(s:UX)(a b:Int):aL prog 272 [rS s,rI a,rI b] (rI (my s a b)):=by
 refine dG func272 ntmps272 ?_
 (repeat' (first|refine au fun K hK=>?_|refine aq ?_|(refine hK _ _ ?_;clear hK K)|(refine ar ?_ ?_<;>intro hc<;>try exact jz)|refine av ?_|exact jI|(clear hK K)))
 all_goals(refine bL [.tmp 6] ?_ ?_<;>(try simp only[go_sem]))
 all_goals simp_all [my]
 all_goals omega
def P6(n:Nat)(ht:GK n):ui (n+1):=by
 intro c a h h0 h1 hn hk;have hz:=h.size;have hv:=h.vars;by_cases he:c.e=0
 ·have htc:=ht c a h he h0 h1 jB hk;have s:=CP (fa n) c a;have h2:=h.ev s;have l1:=h2.types;have l2:=h2.ak;rw[s.aa]at l1 l2;rw[ay,jN];refine aK func236 ntmps236 ?_;refine S ?_
  (repeat' (first|refine au fun K hK=>?_|refine aq ?_|(with_reducible refine gR 5 ?_);refine dE 5 (bf 0 12) mixed ?_|(refine hK _ _ ?_;clear hK K)|(refine ar ?_ ?_<;>intro hc<;>try exact jz)|refine cm (htc) ?_|refine av ?_|exact jI|(clear hK K)))
  (refine bL [.tmp 4] ?_ ?_<;>(try simp only[go_sem]))
 ·rw[ay,if_pos he];refine aK func236 ntmps236 ?_;refine S ?_
  (repeat' (first|refine au fun K hK=>?_|refine aq ?_|(refine hK _ _ ?_;clear hK K)|(refine ar ?_ ?_<;>intro hc<;>try exact jz)|refine av ?_|exact jI|(clear hK K)))
  (refine bL [.tmp 4] ?_ ?_<;>(try simp only[go_sem]))
def SM(n:Nat)(hx:ui n)(Vz:Gs n):GK n:=by
 intro c a h he h0 h1 hn hk;have hz:=h.size;have hv:=h.vars;obtain⟨sh,Ws⟩:=wL h h0 h1;have VO:∀i,i<(c.node a).l.length->(c.aC a i).toNat<n/\0<=c.aC a i/\c.aC a i<c.aa.nodes.length:=fun i hi=>by have hm:c.aC a i∈(c.node a).l:=cV hi;have:=Ws _ hm;omega
 have ev0:=nn c a;have XH:=h.ev ev0;have Vh:=E1 c a h h0 h1;unfold fk cF at hk;have e19:(c.node a).kind=1\/(c.node a).kind=19\/(c.node a).kind=2\/(c.node a).kind=3\/(c.node a).kind=4\/(c.node a).kind=21\/(c.node a).kind=5\/(c.node a).kind=9\/(c.node a).kind=6\/(c.node a).kind=7\/(c.node a).kind=8\/(c.node a).kind=20:=jB;rcases e19 with k|k|k|k|k|k|k|k|k|k|k|k
 ·have Vn:(nth c.aa.nodes a.toNat).kind=1:=k;rw[show cf (ay n) c a=(c,1) from by unfold cf;rw[k];rfl];refine aK func257 ntmps257 ?_;refine S ?_
  (have W:=Vn;repeat' (first|refine au fun K hK=>?_|refine aq ?_|(refine hK _ _ ?_;clear hK K)|(refine ar ?_ ?_<;>intro hc<;>try exact jz)|refine av ?_|exact jI|(clear hK K)))
  (refine bu [.tmp 4] ?_;try simp only[go_sem])
 ·have Vn:(nth c.aa.nodes a.toNat).kind=19:=k;rw[show cf (ay n) c a=(c,1) from by unfold cf;rw[k];rfl];refine aK func257 ntmps257 ?_;refine S ?_
  (have W:=Vn;repeat' (first|refine au fun K hK=>?_|refine aq ?_|(refine hK _ _ ?_;clear hK K)|(refine ar ?_ ?_<;>intro hc<;>try exact jz)|refine av ?_|exact jI|(clear hK K)))
  (refine bu [.tmp 4] ?_;try simp only[go_sem])
 ·have Vn:(nth c.aa.nodes a.toNat).kind=2:=k;rw[show cf (ay n) c a=(c,2) from by unfold cf;rw[k];rfl];refine aK func257 ntmps257 ?_;refine S ?_
  (have W:=Vn;repeat' (first|refine au fun K hK=>?_|refine aq ?_|(refine hK _ _ ?_;clear hK K)|(refine ar ?_ ?_<;>intro hc<;>try exact jz)|refine av ?_|exact jI|(clear hK K)))
  (refine bu [.tmp 4] ?_;try simp only[go_sem])
 ·have Vn:(nth c.aa.nodes a.toNat).kind=3:=k;rw[show cf (ay n) c a=(c,3) from by unfold cf;rw[k];rfl];refine aK func257 ntmps257 ?_;refine S ?_
  (have W:=Vn;repeat' (first|refine au fun K hK=>?_|refine aq ?_|(refine hK _ _ ?_;clear hK K)|(refine ar ?_ ?_<;>intro hc<;>try exact jz)|refine av ?_|exact jI|(clear hK K)))
  (refine bu [.tmp 4] ?_;try simp only[go_sem])
 ·have Vn:(nth c.aa.nodes a.toNat).kind=4:=k;rw[show cf (ay n) c a=c.named a from by unfold cf;rw[k];rfl];refine aK func257 ntmps257 ?_;refine S ?_
  (have W:=Vn;repeat' (first|refine au fun K hK=>?_|refine aq ?_|(refine hK _ _ ?_;clear hK K)|(refine ar ?_ ?_<;>intro hc<;>try exact jz)|refine cm (Vh) ?_|refine av ?_|exact jI|(clear hK K)))
  (refine bu [.tmp 4] ?_;try simp only[go_sem])
 ·have Vn:(nth c.aa.nodes a.toNat).kind=21:=k;rw[show cf (ay n) c a=jr (ay n) c a from by unfold cf;rw[k];rfl];have U9:=Vz c a h h0 h1 hn k;refine aK func257 ntmps257 ?_;refine S ?_
  (have W:=Vn;repeat' (first|refine au fun K hK=>?_|refine aq ?_|(refine hK _ _ ?_;clear hK K)|(refine ar ?_ ?_<;>intro hc<;>try exact jz)|refine cm (U9) ?_|refine av ?_|exact jI|(clear hK K)))
  (refine bu [.tmp 4] ?_;try simp only[go_sem])
 ·have Vn:(nth c.aa.nodes a.toNat).kind=5:=k;obtain⟨x,hl,Vq⟩:=sh.one jB;have WB:(c.node a).l.length=1:=by rw[hl];rfl
  have Wv:(nth c.aa.nodes a.toNat).l.length=1:=WB;obtain⟨g1,g2,g3⟩:=VO 0 jB;have X1:fk (c.node (c.aC a 0)).kind:=by
   have:c.aC a 0=x:=by unfold Ck.aC;rw[hl];rfl
   rw[this];exact .inl Vq
  have hex:=hx (c.named a).1 (c.aC a 0) XH g2 (by rw[ev0.aa];exact g3) g1 (by rw[ev0.node];exact X1);have hm:=o7 (ay n (c.named a).1 (c.aC a 0)).1 (decide ((c.named a).2=4) && decide ((ay n (c.named a).1 (c.aC a 0)).2=1)) a;rw[show cf (ay n) c a=((ay n (c.named a).1 (c.aC a 0)).1.ao (decide ((c.named a).2=4) && decide ((ay n (c.named a).1 (c.aC a 0)).2=1)) a,1) from by unfold cf;rw[k];rfl];refine aK func257 ntmps257 ?_;refine S ?_
  (have W:=Vn;repeat' (first|refine au fun K hK=>?_|refine aq ?_|(refine hK _ _ ?_;clear hK K)|(refine ar ?_ ?_<;>intro hc<;>try exact jz)|refine cm (Vh) ?_|refine cm (hex) ?_|refine cm (hm) ?_|refine av ?_|exact jI|(clear hK K)))
  (refine bu [.tmp 4] ?_;try simp only[go_sem])
 ·have Vn:(nth c.aa.nodes a.toNat).kind=9:=k;obtain⟨x,y,hl,Vq,Ye⟩:=sh.two jB;have WB:(c.node a).l.length=2:=by rw[hl];rfl
  have Wv:(nth c.aa.nodes a.toNat).l.length=2:=WB;obtain⟨g1,g2,g3⟩:=VO 0 jB;obtain⟨g4,g5,g6⟩:=VO 1 jB;have X1:fk (c.node (c.aC a 0)).kind:=by
   have:c.aC a 0=x:=by unfold Ck.aC;rw[hl];rfl
   rw[this];exact .inl Vq
  have hky:fk (c.node (c.aC a 1)).kind:=by
   have:c.aC a 1=y:=by unfold Ck.aC;rw[hl];rfl
   rw[this];exact .inl Ye
  have ev1:=fa n c (c.aC a 0);have hex:=hx c (c.aC a 0) h g2 g3 g1 X1;have hey:=hx (ay n c (c.aC a 0)).1 (c.aC a 1) (h.ev ev1) g5 (by rw[ev1.aa];exact g6) g4 (by rw[ev1.node];exact hky);have hb:=PI (c.node a).name (ay n c (c.aC a 0)).2 (ay n (ay n c (c.aC a 0)).1 (c.aC a 1)).2;have hm:=o7 (ay n (ay n c (c.aC a 0)).1 (c.aC a 1)).1 (!decide (my (c.node a).name (ay n c (c.aC a 0)).2 (ay n (ay n c (c.aC a 0)).1 (c.aC a 1)).2=0)) a;rw[show cf (ay n) c a=((ay n (ay n c (c.aC a 0)).1 (c.aC a 1)).1.ao (!decide (my (c.node a).name (ay n c (c.aC a 0)).2 (ay n (ay n c (c.aC a 0)).1 (c.aC a 1)).2=0)) a,my (c.node a).name (ay n c (c.aC a 0)).2 (ay n (ay n c (c.aC a 0)).1 (c.aC a 1)).2) from by unfold cf;rw[k];rfl];refine aK func257 ntmps257 ?_;refine S ?_
  (have W:=Vn;repeat' (first|refine au fun K hK=>?_|refine aq ?_|(refine hK _ _ ?_;clear hK K)|(refine ar ?_ ?_<;>intro hc<;>try exact jz)|refine cm (hex) ?_|refine cm (hey) ?_|refine cp (hb) ?_|refine cm (hm) ?_|refine av ?_|exact jI|(clear hK K)))
  (refine bu [.tmp 4] ?_;try simp only[go_sem])
 ·have Vn:(nth c.aa.nodes a.toNat).kind=6:=k;obtain⟨x,hl,Vq⟩:=sh.one jB;have WB:(c.node a).l.length=1:=by rw[hl];rfl
  have Wv:(nth c.aa.nodes a.toNat).l.length=1:=WB;obtain⟨g1,g2,g3⟩:=VO 0 jB;have X1:fk (c.node (c.aC a 0)).kind:=by
   have:c.aC a 0=x:=by unfold Ck.aC;rw[hl];rfl
   rw[this];exact .inl Vq
  have hex:=hx c (c.aC a 0) h g2 g3 g1 X1;have hm:=o7 (ay n c (c.aC a 0)).1 (decide ((ay n c (c.aC a 0)).2=3) || decide ((ay n c (c.aC a 0)).2=4)) a;rw[show cf (ay n) c a=((ay n c (c.aC a 0)).1.ao (decide ((ay n c (c.aC a 0)).2=3) || decide ((ay n c (c.aC a 0)).2=4)) a,1) from by unfold cf;rw[k];rfl];refine aK func257 ntmps257 ?_;refine S ?_
  (have W:=Vn;repeat' (first|refine au fun K hK=>?_|refine aq ?_|(refine hK _ _ ?_;clear hK K)|(refine ar ?_ ?_<;>intro hc<;>try exact jz)|refine cm (hex) ?_|refine cm (hm) ?_|refine av ?_|exact jI|(clear hK K)))
  (refine bu [.tmp 4] ?_;try simp only[go_sem])
 ·have Vn:(nth c.aa.nodes a.toNat).kind=7:=k;obtain⟨x,hl,Vq⟩:=sh.one jB;have WB:(c.node a).l.length=1:=by rw[hl];rfl
  have Wv:(nth c.aa.nodes a.toNat).l.length=1:=WB;obtain⟨g1,g2,g3⟩:=VO 0 jB;have X1:fk (c.node (c.aC a 0)).kind:=by
   have:c.aC a 0=x:=by unfold Ck.aC;rw[hl];rfl
   rw[this];exact .inl Vq
  have hex:=hx c (c.aC a 0) h g2 g3 g1 X1;have hm:=o7 (ay n c (c.aC a 0)).1 (decide ((ay n c (c.aC a 0)).2=1)) a;rw[show cf (ay n) c a=((ay n c (c.aC a 0)).1.ao (decide ((ay n c (c.aC a 0)).2=1)) a,1) from by unfold cf;rw[k];rfl];refine aK func257 ntmps257 ?_;refine S ?_
  (have W:=Vn;repeat' (first|refine au fun K hK=>?_|refine aq ?_|(refine hK _ _ ?_;clear hK K)|(refine ar ?_ ?_<;>intro hc<;>try exact jz)|refine cm (hex) ?_|refine cm (hm) ?_|refine av ?_|exact jI|(clear hK K)))
  (refine bu [.tmp 4] ?_;try simp only[go_sem])
 ·have Vn:(nth c.aa.nodes a.toNat).kind=8:=k;obtain⟨x,hl,Vq⟩:=sh.one jB;have WB:(c.node a).l.length=1:=by rw[hl];rfl
  have Wv:(nth c.aa.nodes a.toNat).l.length=1:=WB;obtain⟨g1,g2,g3⟩:=VO 0 jB;have X1:fk (c.node (c.aC a 0)).kind:=by
   have:c.aC a 0=x:=by unfold Ck.aC;rw[hl];rfl
   rw[this];exact .inl Vq
  have hex:=hx c (c.aC a 0) h g2 g3 g1 X1;have hm:=o7 (ay n c (c.aC a 0)).1 (decide ((ay n c (c.aC a 0)).2=2)) a;rw[show cf (ay n) c a=((ay n c (c.aC a 0)).1.ao (decide ((ay n c (c.aC a 0)).2=2)) a,2) from by unfold cf;rw[k];rfl];refine aK func257 ntmps257 ?_;refine S ?_
  (have W:=Vn;repeat' (first|refine au fun K hK=>?_|refine aq ?_|(refine hK _ _ ?_;clear hK K)|(refine ar ?_ ?_<;>intro hc<;>try exact jz)|refine cm (hex) ?_|refine cm (hm) ?_|refine av ?_|exact jI|(clear hK K)))
  (refine bu [.tmp 4] ?_;try simp only[go_sem])
 ·have Vn:(nth c.aa.nodes a.toNat).kind=20:=k;obtain⟨x,hl,Vq⟩:=sh.one jB;have WB:(c.node a).l.length=1:=by rw[hl];rfl
  have Wv:(nth c.aa.nodes a.toNat).l.length=1:=WB;obtain⟨g1,g2,g3⟩:=VO 0 jB;have X1:fk (c.node (c.aC a 0)).kind:=by
   have:c.aC a 0=x:=by unfold Ck.aC;rw[hl];rfl
   rw[this];exact .inl Vq
  have hex:=hx c (c.aC a 0) h g2 g3 g1 X1;have hm:=o7 (ay n c (c.aC a 0)).1 (decide ((ay n c (c.aC a 0)).2=1)) a;rw[show cf (ay n) c a=((ay n c (c.aC a 0)).1.ao (decide ((ay n c (c.aC a 0)).2=1)) a,4) from by unfold cf;rw[k];rfl];refine aK func257 ntmps257 ?_;refine S ?_
  (have W:=Vn;repeat' (first|refine au fun K hK=>?_|refine aq ?_|(refine hK _ _ ?_;clear hK K)|(refine ar ?_ ?_<;>intro hc<;>try exact jz)|refine cm (hex) ?_|refine cm (hm) ?_|refine av ?_|exact jI|(clear hK K)))
  (refine bu [.tmp 4] ?_;try simp only[go_sem])
def uG(a:Int)(c:Ck)(ps:List bp):iO a c [] ps=c:=by cases ps<;>rfl
def uF(a:Int)(c:Ck)(ts:UU):iO a c ts []=c:=by cases ts<;>rfl
theorem FF{α:Type}(f:α->UX)(nm:UX):∀(l:List α) (i k:Int),0<=i->(jT f nm l i k=k\/i<=jT f nm l i k)/\(jT f nm l i k=k\/jT f nm l i k<i+l.length)
 |[],i,k,_=>by unfold jT;exact⟨.inl rfl,.inl rfl⟩
 |v::l,i,k,hi=>by
  unfold jT;obtain⟨h1,h2⟩:=FF f nm l (i+1) (if f v=nm then i else k) jB;simp only[List.length_cons];split at h1<;>rename_i hv
  ·rw[if_pos hv]at h2 ⊢;omega
  ·rw[if_neg hv]at h2 ⊢;omega
def Lo(n:Nat)(hx:ui n):Gs n:=by
 intro c a h h0 h1 hn hk;have hz:=h.size;have hv:=h.vars;have htf:=h.aa.ak;have Yr:=h.aa.many;obtain⟨sh,Ws⟩:=wL h h0 h1;have hck:=h.aa.chain;have J':(nth c.aa.nodes a.toNat).l.length<=300:=zK h h0 h1;have Yp:∀i,i<(c.node a).l.length->fk (c.node (nth (c.node a).l i)).kind/\(nth (c.node a).l i).toNat<n/\0<=nth (c.node a).l i/\nth (c.node a).l i<c.aa.nodes.length:=fun i hi=>by have hm:nth (c.node a).l i∈(c.node a).l:=cV hi;have:=Ws _ hm;exact⟨.inl (sh.call hk _ hm),jB,this.1,jB⟩
 obtain⟨lg1,lg2⟩:=FF aV.name (c.node a).name c.aa.ak 0 (-1) jB;have lg1:fL c a=-1\/0<=fL c a:=lg1;have lg2:fL c a=-1\/fL c a<0+c.aa.ak.length:=lg2;refine aK func271 ntmps271 ?_;refine S ?_
 (repeat' (first|refine au fun K hK=>?_|refine aq ?_|(refine hK _ _ ?_;clear hK K)|(refine ar ?_ ?_<;>intro hc<;>try exact jz)|refine av ?_|exact jI|(clear hK K)))
 have U6:=hK;clear hK;refine dw (S:=Nat×Int) [(6,2),(22,25)] (fun s=>s.1<=c.aa.ak.length/\jT aV.name (c.node a).name (c.aa.ak.drop s.1) s.1 s.2=fL c a) (fun s=>[(7,rI s.1),(6,rI s.2)]) (fun _=>⟨[0,1,2,3,4,5],fB c++[(6,.var 116 (eF (c.node a)))]⟩) (fun s=>c.aa.ak.length-s.1) (0,-1) ⟨jJ,rfl⟩ (dx jU bS) ?_;rintro⟨k,j⟩ ⟨Vs,Va⟩ Kr U8;simp only at Vs Va
 (refine S ?_;try exact jI)
 by_cases I':k<c.aa.ak.length
 ·rw[kX I']at Va;unfold jT at Va
  (repeat' (first|refine au fun K hK=>?_|refine aq ?_|(with_reducible refine gR 6 ?_);refine dE 6 (bf 0 13) mixed ?_|(refine hK _ _ ?_;clear hK K)|(refine ar ?_ ?_<;>intro hc<;>try exact jz)|refine av ?_|exact jI|(clear hK K)))
  ·rw[if_pos hc]at Va;refine U8 _ _ (dO (k+1,(k:Int)) ⟨jJ,by rw[<-Va];rfl⟩ jJ jU bS)
  ·rw[if_neg hc]at Va;refine U8 _ _ (dO (k+1,j) ⟨jJ,by rw[<-Va];rfl⟩ jJ jU bS)
 ·rw[List.drop_eq_nil_of_le jB]at Va;have Va:j=fL c a:=Va;subst Va;by_cases haK:fL c a<0
  ·rw[jr,if_pos haK]at*
   (repeat' (first|refine au fun K hK=>?_|refine aq ?_|(refine hK _ _ ?_;clear hK K)|(refine ar ?_ ?_<;>intro hc<;>try exact jz)|refine U6 _ _ ?_|refine cm (tF c 40 a) ?_|refine av ?_|exact jI|(clear hK K)))
   (refine bu [.tmp 4] ?_;try simp only[go_sem])
  ·have Xz:0<=fL c a:=jB;have ZP:(fL c a).toNat<c.aa.ak.length:=jB;have hfp:=(h.aa.fn _ (cV ZP)).2;have e0:jr (ay n) c a=(iO a (if(c.node a).l.length≠(nth c.aa.ak (fL c a).toNat).params.length then(gK (ay n) c (c.node a).l []).1.aA 43 a else(gK (ay n) c (c.node a).l []).1) (gK (ay n) c (c.node a).l []).2 (nth c.aa.ak (fL c a).toNat).params,(nth c.aa.ak (fL c a).toNat).ret):=by
    rw[jr,if_neg haK]
   (repeat' (first|refine au fun K hK=>?_|refine aq ?_|(refine hK _ _ ?_;clear hK K)|(refine ar ?_ ?_<;>intro hc<;>try exact jz)|refine U6 _ _ ?_|refine av ?_|exact jI|(clear hK K)))
   have YZ:=hK;clear hK;refine iQ (dM.nil 8 9 3 (sz:=1) rfl jC (Or.inr ⟨_,_,_,rfl,rfl⟩)) ?_
   (refine S ?_;try exact jI)
   refine dw (S:=Nat×Ck×UU) [(9,3),(62,25)] (fun s=>s.1<=(c.node a).l.length/\Ev c s.2.1/\s.2.2.length=s.1/\gK (ay n) s.2.1 ((c.node a).l.drop s.1) s.2.2=gK (ay n) c (c.node a).l []) (fun s=>[(10,rI s.1),(9,.rs 8 s.2.2.length 1 s.2.2.length)]) (fun s=>⟨[0,1,2,3,4,5],fB s.2.1++[(6,.var 116 (eF (c.node a))),(7,.var 181 (fW (nth c.aa.ak (fL c a).toNat))),(8,.aD 3 1 (s.2.2.map eI))]⟩) (fun s=>(c.node a).l.length-s.1) (0,c,[]) ⟨jJ,.refl c,rfl,rfl⟩ (dx jU bS) ?_;rintro⟨i,q,ts⟩ ⟨Xm,ev,hts,hA⟩ Kr2 Ys;simp only at Xm ev hts hA;have hq:=h.ev ev;have lt1:=hq.types;have lt2:=hq.slots;have lt3:=hq.ak;have lt4:=hq.vars;have lt5:=hq.size;have hlq:(c.node a).l.length<=300:=J'
   (refine S ?_;try exact jI)
   by_cases Wf:i<(c.node a).l.length/\q.e=0
   ·obtain⟨VF,Wy⟩:=Wf;rw[kX VF,gK,if_pos Wy]at hA;obtain⟨g1,g2,g3,g4⟩:=Yp i VF;have hxc:=hx q (nth (c.node a).l i) hq g3 (by rw[ev.aa];exact g4) g2 (by rw[ev.node];exact g1)
    (have W:=Wy;repeat' (first|refine au fun K hK=>?_|refine aq ?_|(refine hK _ _ ?_;clear hK K)|(refine ar ?_ ?_<;>intro hc<;>try exact jz)|refine cm (hxc) ?_|refine av ?_|exact jI|(clear hK K)))
    refine Ys _ _ (dO (i+1,(ay n q (nth (c.node a).l i)).1,ts++[(ay n q (nth (c.node a).l i)).2]) ⟨jJ,ev.trans (fa _ _ _),by simp[hts],hA⟩ jJ jU bS)
   have hA2:gK (ay n) c (c.node a).l []=(q,ts):=by
    rw[<-hA];by_cases VF:i<(c.node a).l.length
    ·rw[kX VF,gK,if_neg fun e=>Wf ⟨VF,e⟩]
    ·rw[List.drop_eq_nil_of_le jB,gK]
   have YH:q=(gK (ay n) c (c.node a).l []).1:=by rw[hA2]
   have hq2:ts=(gK (ay n) c (c.node a).l []).2:=by rw[hA2]
   by_cases VZ:(c.node a).l.length≠(nth c.aa.ak (fL c a).toNat).params.length
   ·have hai:(((c.node a).l.length:Int)=((nth c.aa.ak (fL c a).toNat).params.length:Int))=False:=eq_false jB;have Yf:(q.aA 43 a).e≠0:=by unfold Ck.aA;split;(exact fun h=>by cases h);assumption
    have evx:Ev c (q.aA 43 a):=ev.trans (nR q jC a);have hb:((q.aA 43 a)).e=0->ts.length<=(nth c.aa.ak (fL c a).toNat).params.length:=fun h=>(Yf h).elim
    (have W:=hai;repeat' (first|refine au fun K hK=>?_|refine aq ?_|(refine hK _ _ ?_;clear hK K)|(refine ar ?_ ?_<;>intro hc<;>try exact jz)|(refine YZ _ _ ?_)|refine cm (tF q 43 a) ?_|refine av ?_|exact jI|(clear hK K)))
    have haj:=hK;clear hK;refine dw (S:=Nat×Ck) [(12,1),(97,27)] (fun s=>s.1<=ts.length/\Ev (q.aA 43 a) s.2/\iO a s.2 (ts.drop s.1) ((nth c.aa.ak (fL c a).toNat).params.drop s.1)=iO a (q.aA 43 a) ts (nth c.aa.ak (fL c a).toNat).params) (fun s=>[(12,rI s.1)]) (fun s=>⟨[0,1,2,3,4,5],fB s.2++[(6,.var 116 (eF (c.node a))),(7,.var 181 (fW (nth c.aa.ak (fL c a).toNat))),(8,.aD 3 1 (ts.map eI))]⟩) (fun s=>ts.length-s.1) (0,(q.aA 43 a)) ⟨jJ,.refl _,rfl⟩ (dx jU bS) ?_;rintro⟨m,z⟩ ⟨Xq,WR,Wg⟩ Kr3 haL;simp only at Xq WR Wg
    (refine S ?_;try exact jI)
    by_cases Wf:m<ts.length/\z.e=0
    ·obtain⟨VF,Wy⟩:=Wf;have X6:((q.aA 43 a)).e=0:=Classical.byContradiction fun h=>WR.err h Wy
     exact(Yf X6).elim
    ·have hz:z=iO a (q.aA 43 a) ts (nth c.aa.ak (fL c a).toNat).params:=by
      by_cases VF:m<ts.length
      ·have Wy:z.e≠0:=fun e=>Wf ⟨VF,e⟩
       rw[kX VF]at Wg;cases hp:(nth c.aa.ak (fL c a).toNat).params.drop m with
       |nil=>rw[hp,uF]at Wg;exact Wg
       |cons x y=>rw[hp,iO,if_neg Wy]at Wg;exact Wg
      ·rw[List.drop_eq_nil_of_le jB,uG]at Wg;exact Wg
     (repeat' (first|refine au fun K hK=>?_|refine aq ?_|(refine hK _ _ ?_;clear hK K)|(refine ar ?_ ?_<;>intro hc<;>try exact jz)|(refine haj _ _ ?_)|refine av ?_|exact jI|(clear hK K)))
     all_goals first|(exact absurd ⟨jB,by assumption⟩ Wf)|skip
     have e1:jr (ay n) c a=(z,(nth c.aa.ak (fL c a).toNat).ret):=by rw[e0,if_pos VZ,<-YH,<-hq2,hz]
     all_goals(
      rw[e1]
      (refine bu [.tmp 4] ?_;try simp only[go_sem]))
   ·have hai:((c.node a).l.length:Int)=((nth c.aa.ak (fL c a).toNat).params.length:Int):=jB;have Yf:True:=trivial;have evx:Ev c q:=ev;have hb:(q).e=0->ts.length<=(nth c.aa.ak (fL c a).toNat).params.length:=fun _=>jB
    (have W:=hai;repeat' (first|refine au fun K hK=>?_|refine aq ?_|(refine hK _ _ ?_;clear hK K)|(refine ar ?_ ?_<;>intro hc<;>try exact jz)|(refine YZ _ _ ?_)|refine av ?_|exact jI|(clear hK K)))
    have haj:=hK;clear hK;refine dw (S:=Nat×Ck) [(12,1),(97,27)] (fun s=>s.1<=ts.length/\Ev q s.2/\iO a s.2 (ts.drop s.1) ((nth c.aa.ak (fL c a).toNat).params.drop s.1)=iO a q ts (nth c.aa.ak (fL c a).toNat).params) (fun s=>[(12,rI s.1)]) (fun s=>⟨[0,1,2,3,4,5],fB s.2++[(6,.var 116 (eF (c.node a))),(7,.var 181 (fW (nth c.aa.ak (fL c a).toNat))),(8,.aD 3 1 (ts.map eI))]⟩) (fun s=>ts.length-s.1) (0,q) ⟨jJ,.refl _,rfl⟩ (dx jU bS) ?_;rintro⟨m,z⟩ ⟨Xq,WR,Wg⟩ Kr3 haL;simp only at Xq WR Wg
    (refine S ?_;try exact jI)
    by_cases Wf:m<ts.length/\z.e=0
    ·obtain⟨VF,Wy⟩:=Wf;have X6:(q).e=0:=Classical.byContradiction fun h=>WR.err h Wy
     have hmp:m<(nth c.aa.ak (fL c a).toNat).params.length:=by have:=hb X6;omega
     rw[kX VF,kX hmp,iO,if_pos Wy]at Wg
     (have W:=Wy;repeat' (first|refine au fun K hK=>?_|refine aq ?_|(with_reducible refine gR 23 ?_);refine dE 23 (bf 0 14) mixed ?_|(refine hK _ _ ?_;clear hK K)|(refine ar ?_ ?_<;>intro hc<;>try exact jz)|refine cm (o7 z (decide (nth ts m=(nth (nth c.aa.ak (fL c a).toNat).params m).ty)) a) ?_|refine av ?_|exact jI|(clear hK K)))
     refine haL _ _ (dO (m+1,z.ao (decide (nth ts m=(nth (nth c.aa.ak (fL c a).toNat).params m).ty)) a) ⟨jJ,WR.trans (jd _ _ _),Wg⟩ jJ jU bS)
    ·have hz:z=iO a q ts (nth c.aa.ak (fL c a).toNat).params:=by
      by_cases VF:m<ts.length
      ·have Wy:z.e≠0:=fun e=>Wf ⟨VF,e⟩
       rw[kX VF]at Wg;cases hp:(nth c.aa.ak (fL c a).toNat).params.drop m with
       |nil=>rw[hp,uF]at Wg;exact Wg
       |cons x y=>rw[hp,iO,if_neg Wy]at Wg;exact Wg
      ·rw[List.drop_eq_nil_of_le jB,uG]at Wg;exact Wg
     (repeat' (first|refine au fun K hK=>?_|refine aq ?_|(refine hK _ _ ?_;clear hK K)|(refine ar ?_ ?_<;>intro hc<;>try exact jz)|(refine haj _ _ ?_)|refine av ?_|exact jI|(clear hK K)))
     all_goals first|(exact absurd ⟨jB,by assumption⟩ Wf)|skip
     have e1:jr (ay n) c a=(z,(nth c.aa.ak (fL c a).toNat).ret):=by rw[e0,if_neg VZ,<-YH,<-hq2,hz]
     all_goals(
      rw[e1]
      (refine bu [.tmp 4] ?_;try simp only[go_sem]))
structure Sv(c c':Ck):Prop where
 aa:c'.aa=c.aa
 fn:c'.fn=c.fn
 aJ:c'.aJ=c.aJ
 err:c.e≠0->c'.e≠0
 inv:bz c'
 pre:∃u,c'.vars=c.vars++u
def Sv.refl{c:Ck}(h:bz c):Sv c c:=⟨rfl,rfl,rfl,id,h,[],jE⟩
def Sv.iL{c c':Ck}(h:bz c)(s:Ev c c'):Sv c c':=⟨s.aa,s.fn,s.aJ,s.err,h.ev s,[],by rw[s.vars];simp⟩
theorem Sv.trans{a b c:Ck}(h:Sv a b)(k:Sv b c):Sv a c:=⟨k.aa.trans h.aa,k.fn.trans h.fn,k.aJ.trans h.aJ,fun e=>k.err (h.err e),k.inv,by obtain⟨u,hu⟩:=h.pre;obtain⟨v,hv⟩:=k.pre;exact⟨u++v,by rw[hv,hu,List.append_assoc]⟩⟩
def iK(ex:Ck->Int->Ck×Int)(c:Ck)(a:Int):Ck:=(ex c (c.aC a 0)).1.ao (!decide ((ex c (c.aC a 0)).2=0)) a
def jn(ex:Ck->Int->Ck×Int)(c:Ck)(a:Int):Ck:=if 0<=(iK ex c a).find (c.node a).name then(iK ex c a).aA 41 a else iK ex c a
def dX(ex:Ck->Int->Ck×Int)(c:Ck)(a:Int):Ck:=if 24<=(jn ex c a).size then(jn ex c a).aA 4 a else jn ex c a
def CC(c:Ck)(a:Int)(v:ba):Ck:={ (c.slot a c.size)with vars:=c.vars++[v],more:=c.more.drop 1,size:=c.size+1 }
def sW(ex:Ck->Int->Ck×Int)(c:Ck)(a:Int):oz ex c a=CC (dX ex c a) a ⟨(c.node a).name,(ex c (c.aC a 0)).2,(dX ex c a).size⟩:=rfl
def Ai(hex:∀c a,Ev c (ex c a).1)(c:Ck)(a:Int):Ev c (iK ex c a):=(hex c _).trans (jd _ _ _)
def AM(hex:∀c a,Ev c (ex c a).1)(c:Ck)(a:Int):Ev c (jn ex c a):=by
 unfold jn;split
 ·exact(Ai hex c a).trans (nR _ jC a)
 ·exact Ai hex c a
def xw(hex:∀c a,Ev c (ex c a).1)(c:Ck)(a:Int):Ev c (dX ex c a):=by
 unfold dX;split
 ·exact(AM hex c a).trans (nR _ jC a)
 ·exact AM hex c a
def Ue{c:Ck}(h:(dX ex c a).e=0):(dX ex c a).size<24:=by
 unfold dX at h ⊢;split
 ·rename_i hs;rw[if_pos hs]at h;exfalso;unfold Ck.aA at h;split at h
  ·cases h
  ·contradiction
 ·omega
def MR{c:Ck}(h:bz c)(a:Int)(v:ba)(h24:c.size<=24)(hr:c.e=0->c.size<24):Sv c (CC c a v):=by refine⟨rfl,rfl,rfl,id,⟨h.aa,h.types,by show(c.slots.set _ _).length=_;rw[List.length_set];exact h.slots,h.ak,h.aJ,h.vX,h.vp,?_,by show c.size+1<=25;omega,fun e=>by show c.size+1<=24;have:=hr e;omega⟩,[v],rfl⟩;show((c.vars++[v]).length:Int)<=c.size+1;have:=h.vars;simp;omega
def Qt(hex:∀c a,Ev c (ex c a).1){c:Ck}(h:bz c)(he:c.e=0)(a:Int):Sv c (oz ex c a):=by rw[sW];have s:=xw hex c a;refine(Sv.iL h s).trans (MR (h.ev s) a _ ?_ Ue);rw[s.size];exact h.room he
def Mz(hex:∀c a,Ev c (ex c a).1){c:Ck}(h:bz c)(a:Int):Sv c (j5 ex c a):=by
 refine Sv.iL h ?_;unfold j5;simp only;split
 ·exact nR c jC a
 split
 ·exact(hex c _).trans (jd _ _ _)
 ·exact .refl c
theorem rX{st:Ck->Int->Ck}(O':∀c a,bz c->c.e=0->Sv c (st c a)):∀(l:UU) (c:Ck),bz c->Sv c (dh st c l)
 |[],c,h=>by unfold dh;exact .refl h
 |a::l,c,h=>by
  unfold dh;split
  ·rename_i he;have s:=O' c a h he;exact s.trans (rX O' l _ s.inv)
  ·exact .refl h
def pE{st:Ck->Int->Ck}(O':∀c a,bz c->c.e=0->Sv c (st c a)){c:Ck}(h:bz c)(a:Int):Sv c (eH st c a)/\(eH st c a).vars=c.vars:=by
 have s:=(Sv.iL h (pO c a)).trans (rX O' (c.node a).l _ (h.ev (pO c a)));obtain⟨u,hu⟩:=s.pre;have hv:(dh st (c.af a) (c.node a).l).vars.take (min c.vars.length (dh st (c.af a) (c.node a).l).vars.length)=c.vars:=by rw[hu,Nat.min_eq_left jE,List.take_left'];rfl
 have hi:=s.inv;refine⟨⟨s.aa,s.fn,s.aJ,s.err,⟨hi.aa,hi.types,hi.slots,hi.ak,hi.aJ,hi.vX,hi.vp,?_,hi.size,hi.room⟩,[],by rw[List.append_nil];exact hv⟩,hv⟩;have:=hi.vars;show(((dh st (c.af a) (c.node a).l).vars.take _).length:Int)<=_;rw[List.length_take];show _<=(dh st (c.af a) (c.node a).l).size;omega
theorem mD:∀(n:Nat) (c:Ck) (a:Int),bz c->c.e=0->Sv c (bF n c a)
 |0,c,a,h,he=>by unfold bF;exact .refl h
 |n+1,c,a,h,he=>by
  have e0:=pO c a;have h0:=h.ev e0;have s0:=Sv.iL h e0;have hx:=fa n;unfold bF;simp only;repeat' split
  ·exact s0.trans (Qt hx h0 he a)
  ·exact s0.trans (Sv.iL h0 (((nn _ a).trans (hx _ _)).trans (jd _ _ _)))
  ·exact s0.trans (Sv.iL h0 ((((nn _ a).trans (hx _ _)).trans (hx _ _)).trans (jd _ _ _)))
  ·exact s0.trans (Sv.iL h0 (hx _ _))
  ·exact s0.trans (Sv.iL h0 ((hx _ _).trans (jd _ _ _)))
  ·exact s0.trans (Mz hx h0 a)
  ·have s1:=s0.trans (Sv.iL h0 ((hx (c.af a) ((c.af a).aC a 0)).trans (jd _ (decide ((ay n (c.af a) ((c.af a).aC a 0)).2=2)) a)));exact s1.trans (rX (fun q b hq _=>(pE (mD n) hq b).1) _ _ s1.inv)
def DC(n:Nat):Prop:=∀(c:Ck) (a:Int),bz c->c.e=0->0<=a->a<c.aa.nodes.length->a.toNat<n->fu (c.node a).kind->ab prog 197 [pR,rI a] (fB c) (fun v l=>v=.aY []/\l=fB (bF n c a))
def Ea(n:Nat):Prop:=∀(c:Ck) (a:Int),bz c->0<=a->a<c.aa.nodes.length->a.toNat<=n->(c.node a).kind=18->ab prog 152 [pR,rI a] (fB c) (fun v l=>v=.aY []/\l=fB (eH (bF n) c a))
attribute [go_sem] CC List.length_drop
def Nx(n:Nat)(hx:ui n)(c:Ck)(a:Int)(h:bz c)(he:c.e=0)(h0:0<=a)(h1:a<c.aa.nodes.length)(hn:a.toNat<=n)(hk:(c.node a).kind=10):ab prog 234 [pR,rI a] (fB c) (fun v l=>v=.aY []/\l=fB (oz (ay n) c a)):=by
 obtain⟨sh,Ws⟩:=wL h h0 h1;obtain⟨x,hl,Vq⟩:=sh.right jB;have Wv:(nth c.aa.nodes a.toNat).l.length=1:=by
  have:(c.node a).l.length=1:=by rw[hl];rfl
  exact this
 have X1:c.aC a 0=x:=by unfold Ck.aC;rw[hl];rfl
 have hm:=Ws x (by rw[hl];simp);have hex:=hx c (c.aC a 0) h jB jB jB (by rw[X1];exact Vq);have VP:ab prog 237 _ _ (fun v l=>v=.aY []/\l=fB (iK (ay n) c a)):=o7 (ay n c (c.aC a 0)).1 (!decide ((ay n c (c.aC a 0)).2=0)) a;have eA:=Ai (fa n) c a;have eB:=AM (fa n) c a;have eC:=xw (fa n) c a;have hA:=h.ev eA;have hC:=h.ev eC;have V6:=CH (iK (ay n) c a) (c.node a).name hA;have YY:=tF (iK (ay n) c a) 41 a;have hfb:=tF (jn (ay n) c a) 4 a;have VX:=hC.slots;have hcz:=hC.size;have YC:=hC.vars;have Yk:=eC.size;have hc24:=h.room he;rw[eC.aa]at VX;rw[sW];refine aK func234 ntmps234 ?_
 (refine S ?_;try exact jI)
 by_cases c1:0<=(iK (ay n) c a).find (c.node a).name
 ·have e1:jn (ay n) c a=(iK (ay n) c a).aA 41 a:=if_pos c1;rw[<-e1]at YY;by_cases c2:24<=(jn (ay n) c a).size
  ·have e2:dX (ay n) c a=(jn (ay n) c a).aA 4 a:=if_pos c2;rw[<-e2]at hfb
   (repeat' (first|refine au fun K hK=>?_|refine aq ?_|(with_reducible refine gR 7 ?_);refine dE 7 (bf 0 12) mixed ?_|(with_reducible refine gR 8 ?_);refine dE 8 (bf 0 18) mixed ?_|(refine hK _ _ ?_;clear hK K)|(refine ar ?_ ?_<;>intro hc<;>try exact jz)|refine cm (hex) ?_|refine cm (VP) ?_|refine cm (V6) ?_|refine cm (YY) ?_|refine cm (hfb) ?_|refine sj (dX (ay n) c a).vars (dX (ay n) c a).more [⟨(c.node a).name,(ay n c (c.aC a 0)).2,(dX (ay n) c a).size⟩] ?_|refine av ?_|exact jI|(clear hK K)))
   (refine bu [] ?_;try simp only[go_sem])
  ·have e2:dX (ay n) c a=jn (ay n) c a:=if_neg c2;rw[e2]at VX hcz YC Yk;rw[e2]
   (repeat' (first|refine au fun K hK=>?_|refine aq ?_|(with_reducible refine gR 7 ?_);refine dE 7 (bf 0 12) mixed ?_|(with_reducible refine gR 8 ?_);refine dE 8 (bf 0 18) mixed ?_|(refine hK _ _ ?_;clear hK K)|(refine ar ?_ ?_<;>intro hc<;>try exact jz)|refine cm (hex) ?_|refine cm (VP) ?_|refine cm (V6) ?_|refine cm (YY) ?_|refine sj (jn (ay n) c a).vars (jn (ay n) c a).more [⟨(c.node a).name,(ay n c (c.aC a 0)).2,(jn (ay n) c a).size⟩] ?_|refine av ?_|exact jI|(clear hK K)))
   (refine bu [] ?_;try simp only[go_sem])
 ·have e1:jn (ay n) c a=iK (ay n) c a:=if_neg c1;rw[e1]at hfb;by_cases c2:24<=(iK (ay n) c a).size
  ·have e2:dX (ay n) c a=(iK (ay n) c a).aA 4 a:=by unfold dX;rw[e1];exact if_pos c2
   rw[<-e2]at hfb
   (repeat' (first|refine au fun K hK=>?_|refine aq ?_|(with_reducible refine gR 7 ?_);refine dE 7 (bf 0 12) mixed ?_|(with_reducible refine gR 8 ?_);refine dE 8 (bf 0 18) mixed ?_|(refine hK _ _ ?_;clear hK K)|(refine ar ?_ ?_<;>intro hc<;>try exact jz)|refine cm (hex) ?_|refine cm (VP) ?_|refine cm (V6) ?_|refine cm (hfb) ?_|refine sj (dX (ay n) c a).vars (dX (ay n) c a).more [⟨(c.node a).name,(ay n c (c.aC a 0)).2,(dX (ay n) c a).size⟩] ?_|refine av ?_|exact jI|(clear hK K)))
   (refine bu [] ?_;try simp only[go_sem])
  ·have e2:dX (ay n) c a=iK (ay n) c a:=by unfold dX;rw[e1];exact if_neg c2
   rw[e2]at VX hcz YC Yk;rw[e2]
   (repeat' (first|refine au fun K hK=>?_|refine aq ?_|(with_reducible refine gR 7 ?_);refine dE 7 (bf 0 12) mixed ?_|(with_reducible refine gR 8 ?_);refine dE 8 (bf 0 18) mixed ?_|(refine hK _ _ ?_;clear hK K)|(refine ar ?_ ?_<;>intro hc<;>try exact jz)|refine cm (hex) ?_|refine cm (VP) ?_|refine cm (V6) ?_|refine sj (iK (ay n) c a).vars (iK (ay n) c a).more [⟨(c.node a).name,(ay n c (c.aC a 0)).2,(iK (ay n) c a).size⟩] ?_|refine av ?_|exact jI|(clear hK K)))
   (refine bu [] ?_;try simp only[go_sem])
def HA(n:Nat)(hs:DC n):Ea n:=by
 intro c a h h0 h1 hn hk;obtain⟨sh,Ws⟩:=wL h h0 h1;have J':(nth c.aa.nodes a.toNat).l.length<=300:=zK h h0 h1;have e0:=pO c a;have hq0:=h.ev e0;have Wm:=h.ak;have hvz:=h.vars;have Vb:=h.size;refine aK func152 ntmps152 ?_;refine S ?_
 (repeat' (first|refine au fun K hK=>?_|refine aq ?_|(with_reducible refine gR 0 ?_);refine dE 0 (bf 0 12) mixed ?_|(refine hK _ _ ?_;clear hK K)|(refine ar ?_ ?_<;>intro hc<;>try exact jz)|refine av ?_|exact jI|(clear hK K)))
 have U6:=hK;clear hK;refine dw (S:=Nat×Ck) [(6,1),(33,19)] (fun s=>s.1<=(c.node a).l.length/\Sv (c.af a) s.2/\dh (bF n) s.2 ((c.node a).l.drop s.1)=dh (bF n) (c.af a) (c.node a).l) (fun s=>[(6,rI s.1)]) (fun s=>⟨[0,1,2,3,4,5],fB s.2⟩) (fun s=>(c.node a).l.length-s.1) (0,c.af a) ⟨jJ,.refl hq0,rfl⟩ (dx jU bS) ?_;rintro⟨i,q⟩ ⟨hi,hq,hA⟩ Kr U8;simp only at hi hq hA
 (refine S ?_;try exact jI)
 have lt1:=hq.inv.types;have lt3:=hq.inv.ak;have lt4:=hq.inv.vars;have lt5:=hq.inv.size;by_cases Wf:i<(c.node a).l.length/\q.e=0
 ·obtain⟨VF,Wy⟩:=Wf;have haM:i<(nth c.aa.nodes a.toNat).l.length:=VF;rw[kX VF,dh,if_pos Wy]at hA;have hm:nth (c.node a).l i∈(c.node a).l:=cV VF;have hb:=Ws _ hm;have O':=hs q (nth (c.node a).l i) hq.inv Wy hb.1 (by rw[hq.aa];show _<(c.aa.nodes.length:Int);omega) jB (by
   have:q.node (nth (c.node a).l i)=c.node (nth (c.node a).l i):=by unfold Ck.node;rw[hq.aa];rfl
   rw[this];exact sh.block hk _ hm)
  (have W:=Wy;repeat' (first|refine au fun K hK=>?_|refine aq ?_|(refine hK _ _ ?_;clear hK K)|(refine ar ?_ ?_<;>intro hc<;>try exact jz)|refine cm (O') ?_|refine av ?_|exact jI|(clear hK K)))
  refine U8 _ _ (dO (i+1,bF n q (nth (c.node a).l i)) ⟨jJ,hq.trans (mD n q _ hq.inv Wy),hA⟩ jJ jU bS)
 ·have hz:q=dh (bF n) (c.af a) (c.node a).l:=by
   by_cases VF:i<(c.node a).l.length
   ·rw[kX VF,dh,if_neg fun e=>Wf ⟨VF,e⟩]at hA;exact hA
   ·rw[List.drop_eq_nil_of_le jB,dh]at hA;exact hA
  have e1:eH (bF n) c a={ q with vars:=q.vars.take (min c.vars.length q.vars.length),more:=q.vars.drop (min c.vars.length q.vars.length)++q.more }:=by unfold eH;rw[<-hz]
  obtain⟨u,hu⟩:=hq.pre;have hu:q.vars=c.vars++u:=hu;have YW:min c.vars.length q.vars.length=c.vars.length:=by rw[hu];simp
  have Y0:¬(i<(nth c.aa.nodes a.toNat).l.length/\q.e=0):=Wf
  (repeat' (first|refine au fun K hK=>?_|refine aq ?_|(with_reducible refine gR 7 ?_);refine dE 7 (bf 0 16) mixed ?_|(refine hK _ _ ?_;clear hK K)|(refine ar ?_ ?_<;>intro hc<;>try exact jz)|refine U6 _ _ ?_|refine av ?_|exact jI|(clear hK K)))
  all_goals first|(exact absurd ⟨by have:=hc.1;omega,hc.2⟩ Y0)|skip
  have ht:q.vars.take c.vars.length=c.vars:=by rw[hu,List.take_left' rfl]
  have hd:q.vars.drop c.vars.length=u:=by rw[hu,List.drop_left' rfl]
  rw[e1,YW,ht,hd]
  (refine bL [] ?_ ?_<;>(try simp only[go_sem]))
  simp only[hu,List.map_append,List.append_assoc,List.length_append,Nat.add_assoc];rw[jN,Int.toNat_natCast]
def Mp(n:Nat)(hx:ui n)(c:Ck)(a:Int)(h:bz c)(h0:0<=a)(h1:a<c.aa.nodes.length)(hn:a.toNat<=n)(hk:(c.node a).kind=17):ab prog 238 [pR,rI a] (fB c) (fun v l=>v=.aY []/\l=fB (j5 (ay n) c a)):=by
 obtain⟨sh,Ws⟩:=wL h h0 h1;have VB:=h.vX;have hfh:=h.vp;have J':(nth c.aa.nodes a.toNat).l.length<=300:=zK h h0 h1;have haN:=tF c 43 a;have Y1:decide (((c.node a).l.length:Int)=1)=decide ((c.node a).l.length=1):=by rw[decide_eq_decide];omega
 by_cases b:decide ((c.node a).l.length=1)≠(!decide ((nth c.aa.ak c.fn.toNat).ret=0))
 ·have e1:j5 (ay n) c a=c.aA 43 a:=if_pos b;have hb:(decide (((nth c.aa.nodes a.toNat).l.length:Int)=1) == !decide ((nth c.aa.ak c.fn.toNat).ret=0))=false:=by
   rw[show((nth c.aa.nodes a.toNat).l.length)=(c.node a).l.length from rfl,Y1];simpa using b
  rw[e1];refine aK func238 ntmps238 ?_;refine S ?_
  (have W:=hb;repeat' (first|refine au fun K hK=>?_|refine aq ?_|(with_reducible refine gR 1 ?_);refine dE 1 (bf 0 14) mixed ?_|(refine hK _ _ ?_;clear hK K)|(refine ar ?_ ?_<;>intro hc<;>try exact jz)|refine cm (haN) ?_|refine av ?_|exact jI|(clear hK K)))
  (refine bu [] ?_;try simp only[go_sem])
 ·have hb:(decide (((nth c.aa.nodes a.toNat).l.length:Int)=1) == !decide ((nth c.aa.ak c.fn.toNat).ret=0))=true:=by
   rw[show((nth c.aa.nodes a.toNat).l.length)=(c.node a).l.length from rfl,Y1];rw[Classical.not_not.1 b];exact beq_self_eq_true _
  by_cases hl:(c.node a).l.length=1
  ·have Wv:(nth c.aa.nodes a.toNat).l.length=1:=hl;have e1:j5 (ay n) c a=(ay n c (c.aC a 0)).1.ao (decide ((ay n c (c.aC a 0)).2=(nth c.aa.ak c.fn.toNat).ret)) a:=by unfold j5;simp only;rw[if_neg b,if_pos hl]
   rcases sh.ret hk with h2|⟨x,h2,h3⟩
   ·rw[h2]at hl;cases hl
   have X1:c.aC a 0=x:=by unfold Ck.aC;rw[h2];rfl
   have hm:=Ws x (by rw[h2];simp);have hex:=hx c (c.aC a 0) h jB jB jB (by rw[X1];exact .inl h3);have VP:=o7 (ay n c (c.aC a 0)).1 (decide ((ay n c (c.aC a 0)).2=(nth c.aa.ak c.fn.toNat).ret)) a;rw[e1];refine aK func238 ntmps238 ?_;refine S ?_
   (have W:=hb;repeat' (first|refine au fun K hK=>?_|refine aq ?_|(with_reducible refine gR 1 ?_);refine dE 1 (bf 0 14) mixed ?_|(refine hK _ _ ?_;clear hK K)|(refine ar ?_ ?_<;>intro hc<;>try exact jz)|refine cm (hex) ?_|refine cm (VP) ?_|refine av ?_|exact jI|(clear hK K)))
   (refine bu [] ?_;try simp only[go_sem])
  ·have Wv:¬(nth c.aa.nodes a.toNat).l.length=1:=hl;have e1:j5 (ay n) c a=c:=by unfold j5;simp only;rw[if_neg b,if_neg hl]
   rw[e1];refine aK func238 ntmps238 ?_;refine S ?_
   (have W:=hb;repeat' (first|refine au fun K hK=>?_|refine aq ?_|(with_reducible refine gR 1 ?_);refine dE 1 (bf 0 14) mixed ?_|(refine hK _ _ ?_;clear hK K)|(refine ar ?_ ?_<;>intro hc<;>try exact jz)|refine av ?_|exact jI|(clear hK K)))
   (refine bu [] ?_;try simp only[go_sem])
def Ob(n:Nat):Prop:=∀(c:Ck) (a:Int),bz c->c.e=0->0<=a->a<c.aa.nodes.length->a.toNat<=n->(c.node a).kind=10->ab prog 234 [pR,rI a] (fB c) (fun v l=>v=.aY []/\l=fB (oz (ay n) c a))
def Pq(n:Nat):Prop:=∀(c:Ck) (a:Int),bz c->0<=a->a<c.aa.nodes.length->a.toNat<=n->(c.node a).kind=17->ab prog 238 [pR,rI a] (fB c) (fun v l=>v=.aY []/\l=fB (j5 (ay n) c a))
def Mc(n:Nat)(hx:ui n)(hl:Ob n)(hr:Pq n)(hbl:Ea n):DC (n+1):=by
 intro c a h he h0 h1 hn hk;have ev:=pO c a;have hq:=h.ev ev;obtain⟨sh,Ws⟩:=wL h h0 h1;have J':(nth c.aa.nodes a.toNat).l.length<=300:=zK h h0 h1;have Wm:=h.ak;have hvz:=h.vars;have Vb:=h.size;have VO:∀i,i<(c.node a).l.length->(c.aC a i).toNat<n/\0<=c.aC a i/\c.aC a i<c.aa.nodes.length:=fun i hi=>by have hm:c.aC a i∈(c.node a).l:=cV hi;have:=Ws _ hm;omega
 have en:=nn (c.af a) a;have hqn:=hq.ev en;have Vh:=E1 (c.af a) a hq h0 h1;have e17:(c.node a).kind=10\/(c.node a).kind=11\/(c.node a).kind=12\/(c.node a).kind=13\/(c.node a).kind=14\/(c.node a).kind=17\/((c.node a).kind=15\/(c.node a).kind=16):=by unfold fu at hk;omega
 rcases e17 with k|k|k|k|k|k|k
 ·have Vn:(nth c.aa.nodes a.toNat).kind=10:=k;have k0:((c.af a).node a).kind=10:=k;have hlc:=hl (c.af a) a hq he h0 h1 jB k0;rw[show bF (n+1) c a=oz (ay n) (c.af a) a from by unfold bF;simp only;rw[k0];rfl];refine aK func197 ntmps197 ?_;refine S ?_
  (have W:=Vn;repeat' (first|refine au fun K hK=>?_|refine aq ?_|(with_reducible refine gR 1 ?_);refine dE 1 (bf 0 12) mixed ?_|(refine hK _ _ ?_;clear hK K)|(refine ar ?_ ?_<;>intro hc<;>try exact jz)|refine cm (hlc) ?_|refine av ?_|exact jI|(clear hK K)))
  (refine bu [] ?_;try simp only[go_sem])
 ·have Vn:(nth c.aa.nodes a.toNat).kind=11:=k;have k0:((c.af a).node a).kind=11:=k;obtain⟨x,Wt,Wd⟩:=sh.right jB;have WB:(c.node a).l.length=1:=by rw[Wt];rfl
  have Wv:(nth c.aa.nodes a.toNat).l.length=1:=WB;obtain⟨g0a,g0b,g0c⟩:=VO 0 jB;have Vi:c.aC a 0=x:=by unfold Ck.aC;rw[Wt];rfl
  have hex:=hx ((c.af a).named a).1 (c.aC a 0) hqn g0b (by rw[en.aa];exact g0c) g0a (by rw[en.node];show fk (c.node (c.aC a 0)).kind;rw[Vi];exact Wd);have VP:=o7 (ay n ((c.af a).named a).1 (c.aC a 0)).1 (decide (((c.af a).named a).2=(ay n ((c.af a).named a).1 (c.aC a 0)).2)) a;rw[show bF (n+1) c a=(ay n ((c.af a).named a).1 (c.aC a 0)).1.ao (decide (((c.af a).named a).2=(ay n ((c.af a).named a).1 (c.aC a 0)).2)) a from by unfold bF;simp only;rw[k0];rfl];refine aK func197 ntmps197 ?_;refine S ?_
  (have W:=Vn;repeat' (first|refine au fun K hK=>?_|refine aq ?_|(with_reducible refine gR 1 ?_);refine dE 1 (bf 0 12) mixed ?_|(refine hK _ _ ?_;clear hK K)|(refine ar ?_ ?_<;>intro hc<;>try exact jz)|refine cm (Vh) ?_|refine cm (hex) ?_|refine cm (VP) ?_|refine av ?_|exact jI|(clear hK K)))
  (refine bu [] ?_;try simp only[go_sem])
 ·have Vn:(nth c.aa.nodes a.toNat).kind=12:=k;have k0:((c.af a).node a).kind=12:=k;obtain⟨x,y,Wt,Wd,WS⟩:=sh.two jB;have WB:(c.node a).l.length=2:=by rw[Wt];rfl
  have Wv:(nth c.aa.nodes a.toNat).l.length=2:=WB;obtain⟨g0a,g0b,g0c⟩:=VO 0 jB;have Vi:c.aC a 0=x:=by unfold Ck.aC;rw[Wt];rfl
  obtain⟨g1a,g1b,g1c⟩:=VO 1 jB;have Vs:c.aC a 1=y:=by unfold Ck.aC;rw[Wt];rfl
  have ex1:=fa n ((c.af a).named a).1 (c.aC a 0);have hex:=hx ((c.af a).named a).1 (c.aC a 0) hqn g0b (by rw[en.aa];exact g0c) g0a (by rw[en.node];show fk (c.node (c.aC a 0)).kind;rw[Vi];exact .inl Wd);have hey:=hx (ay n ((c.af a).named a).1 (c.aC a 0)).1 (c.aC a 1) (hqn.ev ex1) g1b (by rw[ex1.aa,en.aa];exact g1c) g1a (by rw[ex1.node,en.node];show fk (c.node (c.aC a 1)).kind;rw[Vs];exact .inl WS);have VP:=o7 (ay n (ay n ((c.af a).named a).1 (c.aC a 0)).1 (c.aC a 1)).1 (decide (((c.af a).named a).2=4) && decide ((ay n ((c.af a).named a).1 (c.aC a 0)).2=1) && decide ((ay n (ay n ((c.af a).named a).1 (c.aC a 0)).1 (c.aC a 1)).2=1)) a;rw[show bF (n+1) c a=(ay n (ay n ((c.af a).named a).1 (c.aC a 0)).1 (c.aC a 1)).1.ao (decide (((c.af a).named a).2=4) && decide ((ay n ((c.af a).named a).1 (c.aC a 0)).2=1) && decide ((ay n (ay n ((c.af a).named a).1 (c.aC a 0)).1 (c.aC a 1)).2=1)) a from by unfold bF;simp only;rw[k0];rfl];refine aK func197 ntmps197 ?_;refine S ?_
  (have W:=Vn;repeat' (first|refine au fun K hK=>?_|refine aq ?_|(with_reducible refine gR 1 ?_);refine dE 1 (bf 0 12) mixed ?_|(refine hK _ _ ?_;clear hK K)|(refine ar ?_ ?_<;>intro hc<;>try exact jz)|refine cm (Vh) ?_|refine cm (hex) ?_|refine cm (hey) ?_|refine cm (VP) ?_|refine av ?_|exact jI|(clear hK K)))
  (refine bu [] ?_;try simp only[go_sem])
 ·have Vn:(nth c.aa.nodes a.toNat).kind=13:=k;have k0:((c.af a).node a).kind=13:=k;obtain⟨x,Wt,Wd⟩:=sh.tS jB;have WB:(c.node a).l.length=1:=by rw[Wt];rfl
  have Wv:(nth c.aa.nodes a.toNat).l.length=1:=WB;obtain⟨g0a,g0b,g0c⟩:=VO 0 jB;have Vi:c.aC a 0=x:=by unfold Ck.aC;rw[Wt];rfl
  have hex:=hx (c.af a) (c.aC a 0) hq g0b g0c g0a (by show fk (c.node (c.aC a 0)).kind;rw[Vi];exact .inr (.inr (.inr Wd)));rw[show bF (n+1) c a=(ay n (c.af a) (c.aC a 0)).1 from by unfold bF;simp only;rw[k0];rfl];refine aK func197 ntmps197 ?_;refine S ?_
  (have W:=Vn;repeat' (first|refine au fun K hK=>?_|refine aq ?_|(with_reducible refine gR 1 ?_);refine dE 1 (bf 0 12) mixed ?_|(refine hK _ _ ?_;clear hK K)|(refine ar ?_ ?_<;>intro hc<;>try exact jz)|refine cm (hex) ?_|refine av ?_|exact jI|(clear hK K)))
  (refine bu [] ?_;try simp only[go_sem])
 ·have Vn:(nth c.aa.nodes a.toNat).kind=14:=k;have k0:((c.af a).node a).kind=14:=k;obtain⟨x,Wt,Wd⟩:=sh.one jB;have WB:(c.node a).l.length=1:=by rw[Wt];rfl
  have Wv:(nth c.aa.nodes a.toNat).l.length=1:=WB;obtain⟨g0a,g0b,g0c⟩:=VO 0 jB;have Vi:c.aC a 0=x:=by unfold Ck.aC;rw[Wt];rfl
  have hex:=hx (c.af a) (c.aC a 0) hq g0b g0c g0a (by show fk (c.node (c.aC a 0)).kind;rw[Vi];exact .inl Wd);have VP:=o7 (ay n (c.af a) (c.aC a 0)).1 (!decide ((ay n (c.af a) (c.aC a 0)).2=4)) a;rw[show bF (n+1) c a=(ay n (c.af a) (c.aC a 0)).1.ao (!decide ((ay n (c.af a) (c.aC a 0)).2=4)) a from by unfold bF;simp only;rw[k0];rfl];refine aK func197 ntmps197 ?_;refine S ?_
  (have W:=Vn;repeat' (first|refine au fun K hK=>?_|refine aq ?_|(with_reducible refine gR 1 ?_);refine dE 1 (bf 0 12) mixed ?_|(refine hK _ _ ?_;clear hK K)|(refine ar ?_ ?_<;>intro hc<;>try exact jz)|refine cm (hex) ?_|refine cm (VP) ?_|refine av ?_|exact jI|(clear hK K)))
  (refine bu [] ?_;try simp only[go_sem])
 ·have Vn:(nth c.aa.nodes a.toNat).kind=17:=k;have k0:((c.af a).node a).kind=17:=k;have hrc:=hr (c.af a) a hq h0 h1 jB k0;rw[show bF (n+1) c a=j5 (ay n) (c.af a) a from by unfold bF;simp only;rw[k0];rfl];refine aK func197 ntmps197 ?_;refine S ?_
  (have W:=Vn;repeat' (first|refine au fun K hK=>?_|refine aq ?_|(with_reducible refine gR 1 ?_);refine dE 1 (bf 0 12) mixed ?_|(refine hK _ _ ?_;clear hK K)|(refine ar ?_ ?_<;>intro hc<;>try exact jz)|refine cm (hrc) ?_|refine av ?_|exact jI|(clear hK K)))
  (refine bu [] ?_;try simp only[go_sem])
 ·have Vm:1<=(c.node a).l.length/\cF (c.node (c.aC a 0)).kind/\∀i,i<(c.node a).l.length->1<=i->(c.node (nth (c.node a).l i)).kind=18:=by
   have fin:∀{x y:Int},(c.node a).l=[x,y]->cF (bT c.aa.nodes x)->bT c.aa.nodes y=18->1<=(c.node a).l.length/\cF (c.node (c.aC a 0)).kind/\∀i,i<(c.node a).l.length->1<=i->(c.node (nth (c.node a).l i)).kind=18:=fun{x y} e hx hy=>by
    refine⟨by rw[e];simp,by have:c.aC a 0=x:=(by unfold Ck.aC;rw[e];rfl);rw[this];exact hx,fun i hi h1=>?_⟩;rw[e]at hi ⊢;obtain rfl:i=1:=by simp at hi;omega
    exact hy
   rcases k with k|k
   ·obtain⟨x,y,Vq,Ye,Wt⟩:=sh.lC k;rcases Wt with Wt|⟨d,Wt,hd⟩
    ·exact fin Wt Vq Ye
    ·refine⟨by rw[Wt];simp,by have:c.aC a 0=x:=(by unfold Ck.aC;rw[Wt];rfl);rw[this];exact Vq,fun i hi h1=>?_⟩;rw[Wt]at hi ⊢;rcases(show i=1\/i=2 by simp at hi;omega)with rfl|rfl
     ·exact Ye
     ·exact hd
   ·obtain⟨x,y,Wt,Vq,Ye⟩:=sh.dP k;exact fin Wt Vq Ye
  obtain⟨WB,Vq,Zv⟩:=Vm;have Wv:1<=(nth c.aa.nodes a.toNat).l.length:=WB;obtain⟨g0a,g0b,g0c⟩:=VO 0 jB;have hex:=hx (c.af a) (c.aC a 0) hq g0b g0c g0a (.inl Vq);have eM:Ev c ((ay n (c.af a) (c.aC a 0)).1.ao (decide ((ay n (c.af a) (c.aC a 0)).2=2)) a):=(ev.trans (fa n _ _)).trans (jd _ _ _);have hM:=h.ev eM;have VP:=o7 (ay n (c.af a) (c.aC a 0)).1 (decide ((ay n (c.af a) (c.aC a 0)).2=2)) a;rcases k with k|k
  ·have Vn:(nth c.aa.nodes a.toNat).kind=15:=k;have k0:((c.af a).node a).kind=15:=k;rw[show bF (n+1) c a=dh (eH (bF n)) ((ay n (c.af a) (c.aC a 0)).1.ao (decide ((ay n (c.af a) (c.aC a 0)).2=2)) a) ((c.node a).l.drop 1) from by unfold bF;simp only;rw[k0];rfl];generalize hY:dh (eH (bF n)) ((ay n (c.af a) (c.aC a 0)).1.ao (decide ((ay n (c.af a) (c.aC a 0)).2=2)) a) ((c.node a).l.drop 1)=Y;refine aK func197 ntmps197 ?_;refine S ?_
   (have W:=Vn;repeat' (first|refine au fun K hK=>?_|refine aq ?_|(with_reducible refine gR 1 ?_);refine dE 1 (bf 0 12) mixed ?_|(refine hK _ _ ?_;clear hK K)|(refine ar ?_ ?_<;>intro hc<;>try exact jz)|refine cm (hex) ?_|refine cm (VP) ?_|refine av ?_|exact jI|(clear hK K)))
   refine dw (S:=Nat×Ck) [(12,1),(46,21)] (fun s=>s.1<=(c.node a).l.length/\1<=s.1/\bz s.2/\s.2.aa=c.aa/\dh (eH (bF n)) s.2 ((c.node a).l.drop s.1)=Y) (fun s=>[(12,rI s.1)]) (fun s=>⟨[0,1,2,3,4,5],fB s.2++[(6,.var 116 (eF (c.node a)))]⟩) (fun s=>(c.node a).l.length-s.1) (1,(ay n (c.af a) (c.aC a 0)).1.ao (decide ((ay n (c.af a) (c.aC a 0)).2=2)) a) ⟨jJ,Nat.le_refl _,hM,eM.aa,hY⟩ (dx jU bS) ?_;rintro⟨i,z⟩ ⟨hi,Xm,hz,Zw,hA⟩ Kr U8;simp only at hi Xm hz Zw hA;have Wx:i<=(nth c.aa.nodes a.toNat).l.length:=hi
   (refine S ?_;try exact jI)
   by_cases Wf:i<(c.node a).l.length/\z.e=0
   ·obtain⟨VF,Wy⟩:=Wf;have haM:i<(nth c.aa.nodes a.toNat).l.length:=VF;rw[kX VF,dh,if_pos Wy]at hA;have hm:nth (c.node a).l i∈(c.node a).l:=cV VF;have hb:=Ws _ hm;have hbc:=hbl z (nth (c.node a).l i) hz hb.1 (by rw[Zw];omega) jB (by
     have:z.node (nth (c.node a).l i)=c.node (nth (c.node a).l i):=by unfold Ck.node;rw[Zw]
     rw[this];exact Zv i VF Xm)
    have sz:=(pE (fun q b hq he=>mD n q b hq he) hz (nth (c.node a).l i)).1
    (have W:=Wy;repeat' (first|refine au fun K hK=>?_|refine aq ?_|(refine hK _ _ ?_;clear hK K)|(refine ar ?_ ?_<;>intro hc<;>try exact jz)|refine cm (hbc) ?_|refine av ?_|exact jI|(clear hK K)))
    refine U8 _ _ (dO (i+1,eH (bF n) z (nth (c.node a).l i)) ⟨jJ,jJ,sz.inv,sz.aa.trans Zw,hA⟩ jJ jU bS)
   ·have hz2:z=Y:=by
     by_cases VF:i<(c.node a).l.length
     ·rw[kX VF,dh,if_neg fun e=>Wf ⟨VF,e⟩]at hA;exact hA
     ·rw[List.drop_eq_nil_of_le jB,dh]at hA;exact hA
    have Y0:¬(i<(nth c.aa.nodes a.toNat).l.length/\z.e=0):=Wf
    (repeat' (first|refine au fun K hK=>?_|refine aq ?_|(refine hK _ _ ?_;clear hK K)|(refine ar ?_ ?_<;>intro hc<;>try exact jz)|refine av ?_|exact jI|(clear hK K)))
    all_goals first|(exact absurd ⟨by have:=hc.1;omega,hc.2⟩ Y0)|skip
    rw[<-hz2]
    (refine bu [] ?_;try simp only[go_sem])
  ·have Vn:(nth c.aa.nodes a.toNat).kind=16:=k;have k0:((c.af a).node a).kind=16:=k;rw[show bF (n+1) c a=dh (eH (bF n)) ((ay n (c.af a) (c.aC a 0)).1.ao (decide ((ay n (c.af a) (c.aC a 0)).2=2)) a) ((c.node a).l.drop 1) from by unfold bF;simp only;rw[k0];rfl];generalize hY:dh (eH (bF n)) ((ay n (c.af a) (c.aC a 0)).1.ao (decide ((ay n (c.af a) (c.aC a 0)).2=2)) a) ((c.node a).l.drop 1)=Y;refine aK func197 ntmps197 ?_;refine S ?_
   (have W:=Vn;repeat' (first|refine au fun K hK=>?_|refine aq ?_|(with_reducible refine gR 1 ?_);refine dE 1 (bf 0 12) mixed ?_|(refine hK _ _ ?_;clear hK K)|(refine ar ?_ ?_<;>intro hc<;>try exact jz)|refine cm (hex) ?_|refine cm (VP) ?_|refine av ?_|exact jI|(clear hK K)))
   refine dw (S:=Nat×Ck) [(12,1),(46,21)] (fun s=>s.1<=(c.node a).l.length/\1<=s.1/\bz s.2/\s.2.aa=c.aa/\dh (eH (bF n)) s.2 ((c.node a).l.drop s.1)=Y) (fun s=>[(12,rI s.1)]) (fun s=>⟨[0,1,2,3,4,5],fB s.2++[(6,.var 116 (eF (c.node a)))]⟩) (fun s=>(c.node a).l.length-s.1) (1,(ay n (c.af a) (c.aC a 0)).1.ao (decide ((ay n (c.af a) (c.aC a 0)).2=2)) a) ⟨jJ,Nat.le_refl _,hM,eM.aa,hY⟩ (dx jU bS) ?_;rintro⟨i,z⟩ ⟨hi,Xm,hz,Zw,hA⟩ Kr U8;simp only at hi Xm hz Zw hA;have Wx:i<=(nth c.aa.nodes a.toNat).l.length:=hi
   (refine S ?_;try exact jI)
   by_cases Wf:i<(c.node a).l.length/\z.e=0
   ·obtain⟨VF,Wy⟩:=Wf;have haM:i<(nth c.aa.nodes a.toNat).l.length:=VF;rw[kX VF,dh,if_pos Wy]at hA;have hm:nth (c.node a).l i∈(c.node a).l:=cV VF;have hb:=Ws _ hm;have hbc:=hbl z (nth (c.node a).l i) hz hb.1 (by rw[Zw];omega) jB (by
     have:z.node (nth (c.node a).l i)=c.node (nth (c.node a).l i):=by unfold Ck.node;rw[Zw]
     rw[this];exact Zv i VF Xm)
    have sz:=(pE (fun q b hq he=>mD n q b hq he) hz (nth (c.node a).l i)).1
    (have W:=Wy;repeat' (first|refine au fun K hK=>?_|refine aq ?_|(refine hK _ _ ?_;clear hK K)|(refine ar ?_ ?_<;>intro hc<;>try exact jz)|refine cm (hbc) ?_|refine av ?_|exact jI|(clear hK K)))
    refine U8 _ _ (dO (i+1,eH (bF n) z (nth (c.node a).l i)) ⟨jJ,jJ,sz.inv,sz.aa.trans Zw,hA⟩ jJ jU bS)
   ·have hz2:z=Y:=by
     by_cases VF:i<(c.node a).l.length
     ·rw[kX VF,dh,if_neg fun e=>Wf ⟨VF,e⟩]at hA;exact hA
     ·rw[List.drop_eq_nil_of_le jB,dh]at hA;exact hA
    have Y0:¬(i<(nth c.aa.nodes a.toNat).l.length/\z.e=0):=Wf
    (repeat' (first|refine au fun K hK=>?_|refine aq ?_|(refine hK _ _ ?_;clear hK K)|(refine ar ?_ ?_<;>intro hc<;>try exact jz)|refine av ?_|exact jI|(clear hK K)))
    all_goals first|(exact absurd ⟨by have:=hc.1;omega,hc.2⟩ Y0)|skip
    rw[<-hz2]
    (refine bu [] ?_;try simp only[go_sem])
theorem xt:∀n,ui n
 |0=>fun c a h h0 h1 hn=>by omega
 |n+1=>P6 n (SM n (xt n) (Lo n (xt n)))
theorem Eh:∀n,DC n
 |0=>fun c a h he h0 h1 hn=>by omega
 |n+1=>Mc n (xt n) (fun c a h he h0 h1 hn hk=>Nx n (xt n) c a h he h0 h1 hn hk) (fun c a h h0 h1 hn hk=>Mp n (xt n) c a h h0 h1 hn hk) (HA n (Eh n))
def yJ(c:Ck):US:=[aO eF 5 c.aa.nodes,aO fW 5 c.aa.ak,.rs 1 c.types.length 1 c.types.length,.rs 2 c.slots.length 1 c.slots.length,.rs 3 c.ak.length 1 c.ak.length,.rs 4 c.aJ.length 1 c.aJ.length,rI c.fn,.any,rI c.size,rI c.e,rI c.at_]
def oh(c:Ck):UR:=[(0,.var 186 (yJ c)),(1,.aD 3 1 (c.types.map eI)),(2,.aD 3 1 (c.slots.map eI)),(3,.aD 3 1 (c.ak.map eI)),(4,.aD 3 1 (c.aJ.map eI))]
attribute [go_sem] oh yJ
structure fM(c:Ck):Prop where
 aa:aM c.aa
 types:c.types.length=c.aa.nodes.length
 slots:c.slots.length=c.aa.nodes.length
 ak:c.ak.length=c.aa.nodes.length
def mN(c:Ck)(v:ba):Ck:={ c with vars:=c.vars++[v],more:=c.more.drop 1,size:=c.size+1 }
attribute [go_sem] mN
def DB{c:Ck}(h:bz c)(v:ba)(hs:c.size<=20):bz (mN c v):=⟨h.aa,h.types,h.slots,h.ak,h.aJ,h.vX,h.vp,by have:=h.vars;show((c.vars++[v]).length:Int)<=c.size+1;simp;omega,by show c.size+1<=25;omega,fun _=>by show c.size+1<=24;omega⟩
def O3(c:Ck)(k:Nat)(h:fM c)(hk:k<c.aa.ak.length)(Vb:c.aJ.length<6):ab prog 105 [pR,rI k] (oh c) (fun v l=>v=.aY []/\l=oh (gf c k)):=by
 have hff:=h.aa.ak;have VB:=h.aa.fn _ (cV hk);have hp3:=VB.2;have X2:=h.aa.body _ (cV hk);have hbm:=h.aa.chain.mem (nth c.aa.ak k).body (List.mem_map.2 ⟨_,cV hk,rfl⟩);refine aK func105 ntmps105 ?_;refine S ?_
 (repeat' (first|refine au fun K hK=>?_|refine aq ?_|(refine hK _ _ ?_;clear hK K)|(refine ar ?_ ?_<;>intro hc<;>try exact jz)|refine al 6 ?_|refine av ?_|exact jI|(clear hK K)))
 have U6:=hK;clear hK;refine iQ (dM.fz 5 0 7 258 3 rfl jC rfl rfl) ?_
 (refine S ?_;try exact jI)
 generalize Zq:({ c with fn:=(k:Int),vars:=[],more:=[],size:=0 }:Ck)=c0;have Xi:bz c0:=by subst Zq;exact⟨h.aa,h.types,h.slots,h.ak,by show c.aJ.length<=6;omega,by show(0:Int)<=k;omega,by show(k:Int)<(c.aa.ak.length:Int);omega,by show((0:Nat):Int)<=0;omega,by show(0:Int)<=25;omega,fun _=>by show(0:Int)<=24;omega⟩
 have VC:gf c k=(fun c2:Ck=>{ c2 with aJ:=c2.aJ++[c2.size],vars:=[],more:=[] }) (if(eD (nth c.aa.ak k).body c0 (nth c.aa.ak k).params 0).e=0 then eH (bF c.aa.nodes.length) (eD (nth c.aa.ak k).body c0 (nth c.aa.ak k).params 0) (nth c.aa.ak k).body else eD (nth c.aa.ak k).body c0 (nth c.aa.ak k).params 0):=by subst Zq;rfl
 refine iQ (dM.perm (fB c0++[(6,.var 181 (fW (nth c.aa.ak k)))]) (fun i=>by subst Zq;simp only[go_sem,az];(repeat' split)<;>first|rfl|omega)) ?_;refine dw (S:=Nat×Ck) [(5,1),(25,50)] (fun s=>s.1<=(nth c.aa.ak k).params.length/\bz s.2/\s.2.size=s.1/\s.2.vars.length=s.1/\s.2.aa=c.aa/\s.2.aJ=c.aJ/\eD (nth c.aa.ak k).body s.2 ((nth c.aa.ak k).params.drop s.1) s.1=eD (nth c.aa.ak k).body c0 (nth c.aa.ak k).params 0) (fun s=>[(5,rI s.1)]) (fun s=>⟨[0,1,2,3,4],fB s.2++[(6,.var 181 (fW (nth c.aa.ak k)))]⟩) (fun s=>(nth c.aa.ak k).params.length-s.1) (0,c0) ⟨jJ,Xi,by subst Zq;rfl,by subst Zq;rfl,by subst Zq;rfl,by subst Zq;rfl,rfl⟩ (dx rfl bS) ?_;rintro⟨i,q⟩ ⟨hi,hq,hqs,hqv,YI,hqz,hA⟩ Kr U8;simp only at hi hq hqs hqv YI hqz hA
 (refine S ?_;try exact jI)
 by_cases I':i<(nth c.aa.ak k).params.length
 ·rw[kX I',eD]at hA;have V6:=CH q (nth (nth c.aa.ak k).params i).name hq;have YY:=tF q 41 (nth c.aa.ak k).body;by_cases hf:0<=q.find (nth (nth c.aa.ak k).params i).name
  ·rw[if_pos hf]at hA;have ef:=nR q (e:=41) jC (nth c.aa.ak k).body;have Zg:=ef.vars;have VT:=ef.size;have Xm:=hq.ev ef;have Ym:(q.aA 41 (nth c.aa.ak k).body).vars.length=i:=by rw[Zg,hqv]
   (repeat' (first|refine au fun K hK=>?_|refine aq ?_|(with_reducible refine gR 9 ?_);refine dE 9 (bf 0 24) mixed ?_|(refine hK _ _ ?_;clear hK K)|(refine ar ?_ ?_<;>intro hc<;>try exact jz)|refine cm (V6) ?_|refine cm (YY) ?_|refine sj (q.aA 41 (nth c.aa.ak k).body).vars (q.aA 41 (nth c.aa.ak k).body).more [⟨(nth (nth c.aa.ak k).params i).name,(nth (nth c.aa.ak k).params i).ty,(i:Int)⟩] ?_|refine av ?_|exact jI|(clear hK K)))
   refine U8 _ _ (dO (i+1,mN (q.aA 41 (nth c.aa.ak k).body) ⟨(nth (nth c.aa.ak k).params i).name,(nth (nth c.aa.ak k).params i).ty,(i:Int)⟩) ⟨jJ,DB Xm _ jB,by show(q.aA 41 (nth c.aa.ak k).body).size+1=_;omega,by show((q.aA 41 (nth c.aa.ak k).body).vars++[_]).length=i+1;rw[List.length_append,Ym];rfl,ef.aa.trans YI,ef.aJ.trans hqz,hA⟩ jJ jU bS)
  ·rw[if_neg hf]at hA
   (repeat' (first|refine au fun K hK=>?_|refine aq ?_|(with_reducible refine gR 9 ?_);refine dE 9 (bf 0 24) mixed ?_|(refine hK _ _ ?_;clear hK K)|(refine ar ?_ ?_<;>intro hc<;>try exact jz)|refine cm (V6) ?_|refine sj q.vars q.more [⟨(nth (nth c.aa.ak k).params i).name,(nth (nth c.aa.ak k).params i).ty,(i:Int)⟩] ?_|refine av ?_|exact jI|(clear hK K)))
   refine U8 _ _ (dO (i+1,mN q ⟨(nth (nth c.aa.ak k).params i).name,(nth (nth c.aa.ak k).params i).ty,(i:Int)⟩) ⟨jJ,DB hq _ jB,by show q.size+1=_;omega,by show(q.vars++[_]).length=i+1;rw[List.length_append,hqv];rfl,YI,hqz,hA⟩ jJ jU bS)
 ·have hz:q=eD (nth c.aa.ak k).body c0 (nth c.aa.ak k).params 0:=by
   rw[List.drop_eq_nil_of_le jB]at hA;exact hA
  rw[<-hz]at VC;by_cases he:q.e=0
  ·rw[if_pos he]at VC;have sb:=(pE (fun q b hq he=>mD c.aa.nodes.length q b hq he) hq (nth c.aa.ak k).body).1;have hbc:=HA c.aa.nodes.length (Eh _) q (nth c.aa.ak k).body hq hbm.1 (by rw[YI];omega) jB (by unfold Ck.node;rw[YI];exact X2);have XV:(eH (bF c.aa.nodes.length) q (nth c.aa.ak k).body).aJ.length<6:=by rw[sb.aJ,hqz];exact Vb
   (have W:=he;repeat' (first|refine JX (id:=13) 0 7 ?_|refine au fun K hK=>?_|refine aq ?_|(with_reducible refine gR 13 ?_);refine dE 13 (bf 0 16) mixed ?_|(refine hK _ _ ?_;clear hK K)|(refine ar ?_ ?_<;>intro hc<;>try exact jz)|refine U6 _ _ ?_|refine cm (hbc) ?_|refine av ?_|exact jI|(clear hK K)))
   rw[VC]
   (refine bu [] ?_;try simp only[go_sem])
  ·rw[if_neg he]at VC;have XV:q.aJ.length<6:=by rw[hqz];exact Vb
   (have W:=he;repeat' (first|refine JX (id:=13) 0 7 ?_|refine au fun K hK=>?_|refine aq ?_|(with_reducible refine gR 13 ?_);refine dE 13 (bf 0 16) mixed ?_|(refine hK _ _ ?_;clear hK K)|(refine ar ?_ ?_<;>intro hc<;>try exact jz)|refine U6 _ _ ?_|refine av ?_|exact jI|(clear hK K)))
   rw[VC]
   (refine bu [] ?_;try simp only[go_sem])
def HK(c:Ck)(e a:Int):ab prog 150 [pR,rI e,rI a] (oh c) (fun v l=>v=.aY []/\l=oh (c.aA e a)):=by
 refine aK func150 ntmps150 ?_;refine S ?_
 (repeat' (first|refine au fun K hK=>?_|refine aq ?_|(refine hK _ _ ?_;clear hK K)|(refine ar ?_ ?_<;>intro hc<;>try exact jz)|refine av ?_|exact jI|(clear hK K)))
 ·(refine bL [] ?_ ?_<;>(try simp only[go_sem]))
  simp only[Ck.aA,if_pos hc,oh,yJ]
 ·(refine bL [] ?_ ?_<;>(try simp only[go_sem]))
  simp only[Ck.aA,if_neg hc,oh,yJ]
theorem A6(x:aV):∀(l:List aV) (c:Ck),Ev c (kY x c l)
 |[],c=>by unfold kY;exact .refl c
 |f::l,c=>by
  unfold kY;refine Ev.trans ?_ (A6 x l _);split
  ·exact nR c jC _
  ·exact .refl c
theorem DL(ak:List aV):∀(n:Nat) (c:Ck) (m:Bool) (i:Nat),Ev c (j9 ak c m i n).1
 |0,c,m,i=>by unfold j9;exact .refl c
 |n+1,c,m,i=>by unfold j9;exact(A6 _ _ _).trans (DL ak n _ _ _)
def Jf(c:Ck):Ev c (iV c):=by
 unfold iV;simp only;split
 ·exact DL _ _ _ _ _
 ·exact(DL _ _ _ _ _).trans (nR _ jC _)
def Lx(c:Ck)(h:c.aa.ak.length<=6):ab prog 104 [pR] (oh c) (fun v l=>v=.aY []/\l=oh (iV c)):=by
 refine aK func104 ntmps104 ?_;refine S ?_
 (repeat' (first|refine au fun K hK=>?_|refine aq ?_|(refine hK _ _ ?_;clear hK K)|(refine ar ?_ ?_<;>intro hc<;>try exact jz)|refine av ?_|exact jI|(clear hK K)))
 have U6:=hK;clear hK;refine dw (S:=Nat×Ck×Bool) [(3,3),(12,55)] (fun s=>s.1<=c.aa.ak.length/\j9 c.aa.ak s.2.1 s.2.2 s.1 (c.aa.ak.length-s.1)=j9 c.aa.ak c false 0 c.aa.ak.length/\s.2.1.aa=c.aa) (fun s=>[(4,rI s.1),(3,rB s.2.2)]) (fun s=>⟨[0,1,2,3,4],oh s.2.1⟩) (fun s=>c.aa.ak.length-s.1) (0,c,false) ⟨jJ,rfl,rfl⟩ (dx jU bS) ?_;rintro⟨i,q,m⟩ ⟨hi,hA,YI⟩ Kr U8;simp only at hi hA YI
 (refine S ?_;try exact jI)
 by_cases I':i<c.aa.ak.length
 ·rw[show c.aa.ak.length-i=(c.aa.ak.length-(i+1))+1 from jB,j9]at hA
  (repeat' (first|refine au fun K hK=>?_|refine aq ?_|(refine hK _ _ ?_;clear hK K)|(refine ar ?_ ?_<;>intro hc<;>try exact jz)|refine av ?_|exact jI|(clear hK K)))
  have hKi:=hK;clear hK;have Zh:=hK;clear hK;refine dw (S:=Nat×Ck) [(5,1),(18,23)] (fun s=>s.1<=i/\kY (nth c.aa.ak i) s.2 ((c.aa.ak.take i).drop s.1)=kY (nth c.aa.ak i) q (c.aa.ak.take i)) (fun s=>[(5,rI s.1)]) (fun s=>⟨[0,1,2,3,4],oh s.2⟩) (fun s=>i-s.1) (0,q) ⟨jJ,rfl⟩ (dx jU bS) ?_;rintro⟨k,z⟩ ⟨hk,hB⟩ Kj hKj;simp only at hk hB
  (refine S ?_;try exact jI)
  by_cases Wc:k<i
  ·have ZU:k<(c.aa.ak.take i).length:=by rw[List.length_take];omega
   have hnt:nth (c.aa.ak.take i) k=nth c.aa.ak k:=by simp[nth,List.getD_eq_getElem?_getD,List.getElem?_take,Wc]
   rw[kX ZU,hnt,kY]at hB;have YY:=HK z 41 (nth c.aa.ak i).body
   (repeat' (first|refine au fun K hK=>?_|refine aq ?_|(with_reducible refine gR 8 ?_);refine dE 8 (bf 0 11) mixed ?_|(refine hK _ _ ?_;clear hK K)|(refine ar ?_ ?_<;>intro hc<;>try exact jz)|refine cm (YY) ?_|refine av ?_|exact jI|(clear hK K)))
   ·rw[if_pos hc]at hB;refine hKj _ _ (dO (k+1,z.aA 41 (nth c.aa.ak i).body) ⟨jJ,hB⟩ jJ jU bS)
   ·rw[if_neg hc]at hB;refine hKj _ _ (dO (k+1,z) ⟨jJ,hB⟩ jJ jU bS)
  ·rw[List.drop_eq_nil_of_le (by rw[List.length_take];omega),kY]at hB
   (repeat' (first|refine au fun K hK=>?_|refine aq ?_|(refine hK _ _ ?_;clear hK K)|(refine ar ?_ ?_<;>intro hc<;>try exact jz)|refine hKi _ _ ?_|refine Zh _ _ ?_|refine av ?_|exact jI|(clear hK K)))
   refine U8 _ _ (dO (i+1,z,m || ws (nth c.aa.ak i)) ⟨jJ,by rw[<-hB]at hA;exact hA,by rw[hB];exact(A6 _ _ _).aa.trans YI⟩ jJ jU (by simp only[go_sem,kS,Nat.reduceAdd,AV.raw.injEq,Value.int.injEq,Value.slice.injEq,Value.pointer.injEq,AV.rs.injEq,ws];try omega))
 ·rw[show c.aa.ak.length-i=0 from jB,j9]at hA;have hz:iV c=if m=true then q else q.aA 44 0:=by unfold iV;rw[<-hA]
  have YY:=HK q 44 0;cases m
  ·rw[if_neg jC]at hz
   (repeat' (first|refine au fun K hK=>?_|refine aq ?_|(refine hK _ _ ?_;clear hK K)|(refine ar ?_ ?_<;>intro hc<;>try exact jz)|refine U6 _ _ ?_|refine cm (YY) ?_|refine av ?_|exact jI|(clear hK K)))
   rw[hz]
   (refine bL [] ?_ ?_<;>(try simp only[go_sem]))
  ·rw[if_pos rfl]at hz
   (repeat' (first|refine au fun K hK=>?_|refine aq ?_|(refine hK _ _ ?_;clear hK K)|(refine ar ?_ ?_<;>intro hc<;>try exact jz)|refine U6 _ _ ?_|refine av ?_|exact jI|(clear hK K)))
   rw[hz]
   (refine bL [] ?_ ?_<;>(try simp only[go_sem]))
theorem xN(body:Int):∀(ps:List bp) (c:Ck) (i:Int),bz c->c.size+ps.length<=20->bz (eD body c ps i)/\(eD body c ps i).aa=c.aa/\(eD body c ps i).aJ=c.aJ
 |[],c,i,h,hs=>by unfold eD;exact⟨h,rfl,rfl⟩
 |p::ps,c,i,h,hs=>by
  unfold eD;simp only[List.length_cons]at hs;have fin:∀c1:Ck,Ev c c1->bz (eD body (mN c1 ⟨p.name,p.ty,i⟩) ps (i+1))/\(eD body (mN c1 ⟨p.name,p.ty,i⟩) ps (i+1)).aa=c.aa/\(eD body (mN c1 ⟨p.name,p.ty,i⟩) ps (i+1)).aJ=c.aJ:=fun c1 s=>by have h1:=h.ev s;have hz:=s.size;obtain⟨a,b,d⟩:=xN body ps (mN c1 ⟨p.name,p.ty,i⟩) (i+1) (DB h1 _ jB) (by show c1.size+1+_<=20;omega);exact⟨a,b.trans s.aa,d.trans s.aJ⟩
  simp only;split
  ·exact fin _ (nR c jC body)
  ·exact fin _ (.refl c)
def Ac{c:Ck}(h:fM c)(hk:k<c.aa.ak.length)(Vb:c.aJ.length<6):fM (gf c k)/\(gf c k).aa=c.aa/\(gf c k).aJ.length=c.aJ.length+1:=by
 have hp3:=(h.aa.fn _ (cV hk)).2;have Xi:bz { c with fn:=(k:Int),vars:=[],more:=[],size:=0 }:=⟨h.aa,h.types,h.slots,h.ak,by show c.aJ.length<=6;omega,by show(0:Int)<=k;omega,by show(k:Int)<(c.aa.ak.length:Int);omega,by show((0:Nat):Int)<=0;omega,by show(0:Int)<=25;omega,fun _=>by show(0:Int)<=24;omega⟩;obtain⟨a,b,d⟩:=xN (nth c.aa.ak k).body (nth c.aa.ak k).params _ 0 Xi (by show(0:Int)+_<=20;omega);unfold gf;simp only;split
 ·have s:=(pE (fun q b hq he=>mD c.aa.nodes.length q b hq he) a (nth c.aa.ak k).body).1;have hi:=s.inv;refine⟨⟨hi.aa,hi.types,hi.slots,hi.ak⟩,s.aa.trans b,?_⟩;show((eH (bF c.aa.nodes.length) _ _).aJ++[_]).length=_;rw[List.length_append,s.aJ,d];rfl
 ·refine⟨⟨a.aa,a.types,a.slots,a.ak⟩,b,?_⟩;show((eD _ _ _ _).aJ++[_]).length=_;rw[List.length_append,d];rfl
def nQ(t:aB)(n:Nat):Ck:=⟨t,(t.nodes.take n).map fun _=>0,(t.nodes.take n).map fun _=>-1,(t.nodes.take n).map fun _=>0,[],0,[],[],0,0,0⟩
variable{n:Nat}
def K2(t:aB)(h:t.nodes.length<=n):nQ t n=jM t:=by simp[nQ,jM,List.take_of_length_le h]
def Pj(t:aB)(h:n<t.nodes.length):nQ t (n+1)={ nQ t n with types:=(nQ t n).types++[0],slots:=(nQ t n).slots++[-1],ak:=(nQ t n).ak++[0] }:=by simp[nQ,nA h]
def Ld(t:aB)(h:n<=t.nodes.length):(nQ t n).types.length=n/\(nQ t n).slots.length=n/\(nQ t n).ak.length=n:=by simp[nQ];omega
@[go_sem] def j2K(t:aB)(l:US):l6 t++l=aO eF 5 t.nodes::aO fW 5 t.ak::l:=rfl
def R7(t:aB)(h:aM t):aL prog 53 [.agg (l6 t)] (.aY [.agg (dj (gm t).1),rI (gm t).2.1,rI (gm t).2.2]):=by
 have hf:=h.ak;have hm:=h.many;refine dG func53 ntmps53 ?_
 (repeat' (first|refine au fun K hK=>?_|refine aq ?_|(refine hK _ _ ?_;clear hK K)|(refine ar ?_ ?_<;>intro hc<;>try exact jz)|refine bx 10 ?_|refine al 11 ?_|refine bx 0 ?_|refine av ?_|exact jI|(clear hK K)))
 have U6:=hK;clear hK;refine iQ (dM.fz 1 0 2 3 1 rfl jC rfl rfl) ?_
 (refine S ?_;try exact jI)
 refine iQ (dM.fz 2 0 3 3 1 rfl jC rfl rfl) ?_
 (refine S ?_;try exact jI)
 refine iQ (dM.fz 3 0 4 3 1 rfl jC rfl rfl) ?_
 (refine S ?_;try exact jI)
 refine iQ (dM.fz 4 0 5 3 1 rfl jC rfl rfl) ?_
 (refine S ?_;try exact jI)
 refine iQ (dM.sL 0 7 rfl) ?_
 (refine S ?_;try exact jI)
 refine iQ (dM.perm (oh (nQ t 0)++[(10,.var 30 (l6 t)),(11,.var 32 [.raw (.slice none 0 0),.raw (.slice none 0 0),.raw (.slice none 0 0),.raw (.slice none 0 0),.raw (.slice none 0 0),.raw (.slice none 0 0)])]) (fun i=>by simp only[go_sem,az,nQ];(repeat' split)<;>first|rfl|omega)) ?_;refine dw (S:=Nat) [(6,1),(12,40)] (fun k=>k<=t.nodes.length) (fun k=>[(6,rI k)]) (fun k=>⟨[],oh (nQ t k)++[(10,.var 30 (l6 t)),(11,.var 32 [.raw (.slice none 0 0),.raw (.slice none 0 0),.raw (.slice none 0 0),.raw (.slice none 0 0),.raw (.slice none 0 0),.raw (.slice none 0 0)])]⟩) (fun k=>t.nodes.length-k) 0 (Nat.zero_le _) (dx rfl bS) ?_;rintro k hk Kr U8;obtain⟨l1,l2,l3⟩:=Ld t hk
 (refine S ?_;try exact jI)
 by_cases I':k<t.nodes.length
 ·(repeat' (first|refine au fun K hK=>?_|refine aq ?_|(refine hK _ _ ?_;clear hK K)|(refine ar ?_ ?_<;>intro hc<;>try exact jz)|refine av ?_|exact jI|(clear hK K)))
  refine U8 _ _ (dO (k+1) jB jB (by rw[Pj t I'];exact jU) bS)
 ·have Vm:=K2 t (n:=k) jB;rw[Vm]at*;have hh:=Lx (jM t) hf
  (repeat' (first|refine au fun K hK=>?_|refine aq ?_|(refine hK _ _ ?_;clear hK K)|(refine ar ?_ ?_<;>intro hc<;>try exact jz)|refine U6 _ _ ?_|refine cm (hh) ?_|refine av ?_|exact jI|(clear hK K)))
  have YZ:=hK;clear hK;have eh:=Jf (jM t);have Xi:fM (iV (jM t)):=⟨by rw[eh.aa];exact h,by rw[eh.types,eh.aa];simp[jM],by rw[eh.slots,eh.aa];simp[jM],by rw[eh.ak,eh.aa];simp[jM]⟩;refine dw (S:=Nat×Ck) [(7,1),(54,17)] (fun s=>s.1<=t.ak.length/\fM s.2/\s.2.aa=t/\s.2.aJ.length=s.1/\fS s.2 s.1 (t.ak.length-s.1)=ik t) (fun s=>[(7,rI s.1)]) (fun s=>⟨[],oh s.2++[(10,.var 30 (l6 t)),(11,.var 32 [.raw (.slice none 0 0),.raw (.slice none 0 0),.raw (.slice none 0 0),.raw (.slice none 0 0),.raw (.slice none 0 0),.raw (.slice none 0 0)])]⟩) (fun s=>t.ak.length-s.1) (0,iV (jM t)) ⟨Nat.zero_le _,Xi,eh.aa,by rw[eh.aJ];rfl,rfl⟩ (dx jU bS) ?_;rintro⟨i,q⟩ ⟨hi,hq,YI,hqz,hA⟩ Kr2 Ys;simp only at hi hq YI hqz hA
  (refine S ?_;try exact jI)
  by_cases Wf:i<t.ak.length/\q.e=0
  ·obtain⟨VF,Wy⟩:=Wf;rw[show t.ak.length-i=(t.ak.length-(i+1))+1 from jB,fS,if_pos Wy]at hA;have hkf:i<q.aa.ak.length:=by rw[YI];exact VF
   have Xl:=O3 q i hq hkf jB;obtain⟨f1,f2,f3⟩:=Ac hq hkf jB
   (have W:=Wy;repeat' (first|refine au fun K hK=>?_|refine aq ?_|(refine hK _ _ ?_;clear hK K)|(refine ar ?_ ?_<;>intro hc<;>try exact jz)|refine cm (Xl) ?_|refine av ?_|exact jI|(clear hK K)))
   refine Ys _ _ (dO (i+1,gf q i) ⟨jJ,f1,f2.trans YI,jJ,hA⟩ jJ jU bS)
  ·have hz:q=ik t:=by
    rw[<-hA];by_cases VF:i<t.ak.length
    ·rw[show t.ak.length-i=(t.ak.length-(i+1))+1 from jB,fS,if_neg fun e=>Wf ⟨VF,e⟩]
    ·rw[show t.ak.length-i=0 from jB,fS]
   by_cases he:q.e=0
   ·have hr:gm t=(q.prog,0,0):=by unfold gm;rw[<-hz,if_neg (fun h=>h he)]
    have J':¬i<t.ak.length:=fun h=>Wf ⟨h,he⟩
    (have W:=he;repeat' (first|refine au fun K hK=>?_|refine aq ?_|(refine hK _ _ ?_;clear hK K)|(refine ar ?_ ?_<;>intro hc<;>try exact jz)|(refine YZ _ _ ?_)|refine av ?_|exact jI|(clear hK K)))
    rw[hr];refine iM [.cell 2 32,.tmp 3,.tmp 4] ?_;refine cn.aY (ds:=[.agg (dj q.prog),rI 0,rI 0]) ?_;refine jA (cn.agg (ds:=dj q.prog) ?_) (jA (.same _ rfl) (jA (.same _ rfl) trivial));simp only[dj,Ck.prog];exact ie
   ·have hr:gm t=(lE,q.at_,q.e):=by unfold gm;rw[<-hz,if_pos he]
    (have W:=he;repeat' (first|refine au fun K hK=>?_|refine aq ?_|(with_reducible refine gR 14 ?_);refine dA 14 [11] (bf 0 12) mixed ?_|(refine hK _ _ ?_;clear hK K)|(refine ar ?_ ?_<;>intro hc<;>try exact jz)|(refine YZ _ _ ?_)|refine av ?_|exact jI|(clear hK K)))
    rw[hr];refine iM [.cell 2 32,.tmp 3,.tmp 4] ?_;refine cn.aY (ds:=[.agg (dj lE),rI _,rI _]) ?_;refine jA (cn.agg (ds:=dj lE) ?_) (jA (.same _ rfl) (jA (.same _ rfl) trivial));simp only[dj,lE];exact ie
end Go.Proofs.YtjpcgmjaipfgdaaGreatDoor
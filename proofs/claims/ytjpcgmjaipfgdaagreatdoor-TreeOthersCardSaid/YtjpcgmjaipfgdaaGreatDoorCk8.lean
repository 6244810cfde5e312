/- Lemmas. No conditions. -/
import Derived.Test.YtjpcgmjaipfgdaaGreatDoorP2
import Derived.Test.YtjpcgmjaipfgdaaGreatDoorShelf
set_option linter.all false
set_option maxHeartbeats 8000000
set_option maxRecDepth 10000
namespace Go.Gd
open Go
def G7{P:TO}{f:FuncId}{args:TE}{r:AV}(cC:TM)(v:Value)(ha:args=cC.map .raw)(hr:∀w:NW,ax w r v)(h:∀w:World,Calls P f cC.toArray w fun e w'=>e=.returned v/\RowKit.Below w.heap.size w w'):aB P f args r:=by
 intro w vs h1 h2;have V2:vs=cC.toArray:=by
  apply Array.ext';apply List.ext_getElem?;intro i;obtain⟨hl,hv⟩:=h2;subst ha;by_cases hi:i<cC.length
  ·have Vt:i<vs.size:=by rw[<-hl];simpa using hi
   have:=dc (hv i (.raw cC[i]) vs[i] (by simp[hi]) (by simp[Vt]));simp[hi,Vt,this]
  ·have Vt:¬i<vs.size:=by rw[<-hl];simpa using hi
   rw[List.getElem?_eq_none (by simpa using Vt),List.getElem?_eq_none (by simpa using hi)]
 subst V2;refine(h w.toWorld).mono ?_;rintro e W ⟨rfl,hb⟩;have ex:Ext w (entry []) (w.to W) (entry []):={ size:=hb.size,free:=fun b Uq hO=>⟨hb.block b Uq,hO⟩,names:=fun _ _ _ _ h=>h,os:=hb.os,tape:=hb.tape,output:=hb.output,rest:=fun b Uq hO TS=>⟨hb.block b Uq,hO,TS⟩,base:=rfl };refine⟨v,r,entry [],w.to W,rfl,rfl,⟨rfl,rfl⟩,{ rows:=fun i row hi=>(by cases hi),df:=h1.df,inj:=h1.inj,own:=h1.own,bX:=h1.bX.aZ ex.toKeep,fin:=fun b Uq=>Nat.lt_of_lt_of_le (h1.fin b Uq) hb.size },hr _,ex.pG⟩
variable{H:Hp}{t:TJ}{cs:TE}
def Cz{w:NW}(r:aJ w H){j:Nat}{cs':TE}(hj:H.get j=some (.var t cs))(hl:cs'.length=cs.length)(h:∀(k:Nat) a a' v,cs[k]?=some a->cs'[k]?=some a'->ax w a v->ax w a' v):aJ w (H.put j (.var t cs'))/\Ext w H w (H.put j (.var t cs')):=by
 have ex:Ext w H w (H.put j (.var t cs')):={ ExtQ.refl _ w with base:=rfl };refine⟨{ rows:=fun i s hi=>?_,df:=fun i m z hz=>?_,inj:=r.inj,own:=r.own,fin:=r.fin,bX:=r.bX.aZ ex.toKeep },ex⟩
 ·rw[Hp.bj]at hi;split at hi
  ·rename_i e;subst e;cases hi;obtain⟨h1,z,h2,h3⟩:=r.rows _ _ hj;refine⟨trivial,z,h2,?_⟩;cases z with
   |nil=>obtain⟨e,sz,h4⟩:=h3;cases h4
   |«at» b u s=>
    obtain⟨g1,cur,g2,⟨g3,g4⟩,g5⟩:=h3;refine⟨g1,cur,g2,⟨g3,by show cs'.length<=u;rw[hl];exact g4⟩,fun k a v ha hv=>?_⟩;have ha:cs'[k]?=some a:=ha;have hk:k<cs.length:=by rw[<-hl];exact(List.getElem?_eq_some_iff.1 ha).1
    exact h k cs[k] a v (List.getElem?_eq_getElem hk) ha (g5 k cs[k] v (List.getElem?_eq_getElem hk) hv)
  ·exact r.rows i s hi
 ·obtain⟨s,h1,h2⟩:=r.df i m z hz;rw[Hp.bj];split
  ·rename_i e;subst e;rw[hj]at h1;cases h1;exact⟨_,rfl,h2⟩
  ·exact⟨s,h1,h2⟩
variable{F:TE}
def dL.gb(i j k:Nat)(e:TJ)(sz:Nat)(hi:H.get i=none)(h0:0<sz)(hj:H.get j=some (.var t cs))(hk:cs[k]?=some (.raw (.slice none 0 0))):dL F H F ((H.put i (.aG e sz [])).put j (.var t (cs.set k (.rs i 0 sz 0)))):=fun w tm h1 h2=>by
 obtain⟨a,b⟩:=xD h1 hi e h0;have ZM:j≠i:=fun e=>by subst e;rw[hi]at hj;cases hj
 obtain⟨a',b'⟩:=Cz (cs':=cs.set k (.rs i 0 sz 0)) a (j:=j) (t:=t) (cs:=cs) (by rw[Hp.bj,if_neg ZM];exact hj) jE fun n x x' v hx Ug hv=>by
  rw[List.getElem?_set]at Ug;by_cases hn:k=n
  ·subst hn;rw[if_pos rfl]at Ug;split at Ug
   ·cases Ug;rw[hk]at hx;cases hx;cases hv;exact .iE _ _ _ _ (NW.cw _ _ _ _)
   ·cases Ug
  ·rw[if_neg hn,hx]at Ug;cases Ug;exact hv
 exact⟨w.name i 0 .nil,rfl,a',h2.ext b,(b.trans b').pG⟩
def dL.rT(j k:Nat)(hj:H.get j=some (.var t cs)):dL F H F (H.put j (.var t (cs.set k .any))):=fun w tm h1 h2=>by
 obtain⟨a',b'⟩:=Cz (cs':=cs.set k .any) h1 (j:=j) (t:=t) (cs:=cs) hj jE fun n x x' v hx Ug hv=>by
  rw[List.getElem?_set]at Ug;by_cases hn:k=n
  ·subst hn;rw[if_pos rfl]at Ug;split at Ug
   ·cases Ug;exact .any _
   ·cases Ug
  ·rw[if_neg hn]at Ug;rw[hx]at Ug;cases Ug;exact hv
 exact⟨w,rfl,a',h2,b'.pG⟩
def FE{P:TO}{id:Nat}{l:List Oper}{b:Bool}{Q:Exit->TA}{q:Prop}(j k:Nat){i m sz n:Nat}(h:q)(hj:H.get j=some (.var t cs):=by rfl)(hc:cs[k]?=some (.rs i m sz n):=by rfl)(e:dF P (.region id l.toArray b) Q F (H.put j (.var t (cs.set k .any)))=q:=by first|(simp only[go_sem];rfl)|rfl):dF P (.region id l.toArray b) Q F H:=jq (dL.rT j k hj) (e ▸ h)
end Go.Gd
namespace Go.Proofs.YtjpcgmjaipfgdaaGreatDoor
open Go Go.Gd Tryz
def CA(s:TI)(k:Nat):eG s k=((s.data.toList.getD k 0).toNat:Int):=by unfold eG;simp
def ku:List UInt8->Nat->Nat
 |[],a=>a
 |c::l,a=>ku l (a*10+(c.toNat-48))
theorem E7:∀(l:List UInt8) (a:Nat),a<=ku l a
 |[],a=>Nat.le_refl _
 |c::l,a=>Nat.le_trans jB (E7 l _)
theorem Jd:∀(l:List UInt8) (a:Nat),(∀c∈l,48<=c.toNat/\c.toNat<=57)->ku l a<=9223372036854775807->Lib.parseUint10 a l=.ok (ku l a)
 |[],a,_,_=>rfl
 |c::l,a,h,hm=>by have hc:=h c jE;have h1:=E7 l (a*10+(c.toNat-48));simp only[ku]at hm ⊢;unfold Lib.parseUint10;rw[if_pos hc,jN,jN];exact Jd l _ (fun x hx=>h x (by simp[hx])) hm
theorem Ie:∀(l:List UInt8) (c:UInt8) (a:Nat),ku (l++[c]) a=ku l a*10+(c.toNat-48)
 |[],_,_=>rfl
 |_::l,c,_=>Ie l c _
theorem Ae:∀(l:List UInt8) (a:Nat),(∀c∈l,48<=c.toNat/\c.toNat<=57)->ku l a+1<=(a+1)*10 ^ l.length
 |[],a,_=>by simp[ku]
 |c::l,a,h=>by have hc:=h c jE;have ih:=Ae l (a*10+(c.toNat-48)) (fun x hx=>h x (by simp[hx]));simp only[ku,List.length_cons,Nat.pow_succ];refine Nat.le_trans ih ?_;rw[Nat.mul_comm (10 ^ l.length) 10,<-Nat.mul_assoc];exact Nat.mul_le_mul_right _ jB
theorem DO:∀(l:List UInt8) (a:Nat),a*10 ^ l.length<=ku l a
 |[],a=>by simp[ku]
 |c::l,a=>by have ih:=DO l (a*10+(c.toNat-48));simp only[ku,List.length_cons,Nat.pow_succ];refine Nat.le_trans ?_ ih;rw[Nat.mul_comm (10 ^ l.length) 10,<-Nat.mul_assoc];exact Nat.mul_le_mul_right _ jB
theorem Ja:∀(l m:List UInt8) (a:Nat),l.length=m.length->(∀c∈l,48<=c.toNat/\c.toNat<=57)->(∀c∈m,48<=c.toNat/\c.toNat<=57)->Op.bytesLess l m=true->ku l a<ku m a
 |[],[],_,_,_,_,h=>by simp[Op.bytesLess]at h
 |[],_::_,_,hl,_,_,_=>by simp at hl
 |_::_,[],_,hl,_,_,_=>by simp at hl
 |x::l,y::m,a,hl,h1,h2,h=>by
  have hx:=h1 x jE;have hy:=h2 y jE;simp only[Op.bytesLess,Bool.or_eq_true,decide_eq_true_eq,Bool.and_eq_true,beq_iff_eq]at h;simp only[ku];rcases h with h|⟨rfl,h⟩
  ·have h:x.toNat<y.toNat:=h;have e1:=Ae l (a*10+(x.toNat-48)) (fun c hc=>h1 c (by simp[hc]));have e2:=DO m (a*10+(y.toNat-48));have e3:(a*10+(x.toNat-48)+1)*10 ^ l.length<=(a*10+(y.toNat-48))*10 ^ m.length:=by
    rw[show l.length=m.length by simpa using hl];exact Nat.mul_le_mul_right _ jB
   omega
  ·exact Ja l m _ (by simpa using hl) (fun c hc=>h1 c (by simp[hc])) (fun c hc=>h2 c (by simp[hc])) h
theorem AO(s:TI)(hd:∀j,j<s.size->j7 (eG s j)=true):∀k,k<=s.size->wm s k=(ku (s.data.toList.take k) 0:Nat)
 |0,_=>by simp[wm,ku]
 |k+1,hk=>by
  have T4:k<s.data.toList.length:=by simp;omega
  have h1:=hd k jB;simp only[j7,Bool.and_eq_true,decide_eq_true_eq]at h1;rw[CA]at h1;rw[wm,AO s hd k jB,List.take_succ_eq_append_getElem T4,Ie,CA];have:s.data.toList.getD k 0=s.data.toList[k]:=by rw[List.getD_eq_getElem?_getD,List.getElem?_eq_getElem T4];rfl
  rw[this]at h1 ⊢;omega
variable{s:TI}
def DQ(h:rj s):∀c∈s.data.toList,48<=c.toNat/\c.toNat<=57:=fun c hc=>by obtain⟨k,hk,rfl⟩:=List.getElem_of_mem hc;have:=h.2.2 k (by simpa using hk);simp only[j7,Bool.and_eq_true,decide_eq_true_eq]at this;rw[CA,List.getD_eq_getElem?_getD,List.getElem?_eq_getElem hk]at this;simp only[Option.getD_some]at this;omega
def HV(h:rj s):ku s.data.toList 0<=9223372036854775807:=by
 have hd:=DQ h;have hn:=h.2.1;have hl:=Ae s.data.toList 0 hd;have I':s.data.toList.length=s.size:=jE;unfold ww at hn;simp only[Bool.or_eq_true,decide_eq_true_eq,Bool.and_eq_true]at hn;rcases hn with hn|⟨hn,h2|h2⟩
 ·have:10 ^ s.data.toList.length<=10 ^ 18:=Nat.pow_le_pow_right jB (by rw[I'];omega);simp only[Nat.zero_add,Nat.one_mul]at hl;omega
 ·have e:s.toList=s.data.toList:=ByteArray.toList_eq s;have:=Ja s.data.toList [57,50,50,51,51,55,50,48,51,54,56,53,52,55,55,53,56,48,55] 0 (by rw[I'];simp;omega) hd jC (by rw[<-e,show[57,50,50,51,51,55,50,48,51,54,56,53,52,55,55,53,56,48,55]=(⟨#[57,50,50,51,51,55,50,48,51,54,56,53,52,55,55,53,56,48,55]⟩:TI).toList by rw[ByteArray.toList_eq]];exact h2);have e2:ku [57,50,50,51,51,55,50,48,51,54,56,53,52,55,55,53,56,48,55] 0=9223372036854775807:=jC;omega
 ·subst h2;decide
def K7(h:rj s):Lib.atoiAll s.data.toList=.ok (pw s):=by
 have hd:=DQ h;have T3:=HV h;have Yd:pw s=(ku s.data.toList 0:Nat):=by unfold pw;rw[AO s h.2.2 _ jl,List.take_of_length_le jE]
 have hp:=Jd s.data.toList 0 hd T3;have U2:=h.1;cases hs:s.data.toList with
 |nil=> have:s.data.toList.length=s.size:=jE;rw[hs]at this;simp at this;omega
 |cons c l=> rw[hs]at hd hp Yd T3;have hc:=hd c jE;simp only[Lib.atoiAll];rw[jN];simp only[Lib.parseMag,List.cons_ne_nil,if_false,hp,reduceCtorEq];rw[jN,jN,jN,Yd]
def SV(s:TI)(h:rj s):aB prog 280 [rS s] (.aQ [rI (pw s),.raw .nilIface]):=by
 have hs:s.size<=9223372036854775806:=by have hn:=h.2.1;unfold ww at hn;simp only[Bool.or_eq_true,decide_eq_true_eq,Bool.and_eq_true]at hn;omega
 refine G7 [.string s] (.tuple #[.int .i64 (pw s),.nilIface]) rfl (fun w=>?_) fun w=>?_
 ·exact .aQ _ _ rfl fun i a v ha hv=>by
   match i with
   |0=>simp at ha hv;subst ha hv;exact .raw _
   |1=>simp at ha hv;subst ha hv;exact .raw _
   |i+2=>simp at ha
 ·refine(Tryz.strconv_Atoi_ok s hs (pw s) (K7 h) w).mono ?_;rintro e W ⟨rfl,hW⟩;refine⟨rfl,?_⟩;rcases hW with rfl|⟨t,rfl⟩
  ·exact RowKit.Below.refl _ _
  ·exact Lib.bytesWorld_below _ _ _
def Nt(n:Nat)(hc:zA n):C0 (n+1):=by
 intro r h hn;have Vh:=h.lt;have hip:=h.pos;have UW:=h.len;have hin':(r.l.length:Int)<=2000:=jB;have Tv:∀q:Rd,q.Inv->8*q.rem+8<=n->ab prog 232 [pR] (cA q) (fun v l=>v=rI (dO n 0 q).2/\l=cA (dO n 0 q).1):=fun q hq hm=>by
  have:=hc 0 q jB hq jB;refine aM func232 ntmps232 ?_;refine S ?_
  (repeat' (first|refine aq fun K hK=>?_|refine ap ?_|(refine hK _ _ ?_;clear hK K)|(refine ao ?_ ?_<;>intro hc<;>try exact jz)|refine cm (this) ?_|refine ar ?_|exact jI|(clear hK K)))
  (refine bV [.tmp 2] ?_ ?_<;>(try simp only[go_sem]))
 have deeper:∀(q:Rd) (t u:TI),q.Inv->q.e=0->q.down.Inv/\(q.down.av t).Inv/\(dO n 0 (q.down.av t)).1.Inv/\((dO n 0 (q.down.av t)).1.av u).Inv/\((dO n 0 (q.down.av t)).1.av u).up.Inv/\(q.down.av t).rem<=q.rem:=fun q t u hq he=>by have h1:=(Rd.bL hq he).1;have s1:=Rd.aK h1 t;have h2:=s1.inv h1;have s2:=(si n).2.2.1 0 _ h2;have h3:=s2.inv h2;have s3:=Rd.aK h3 u;refine⟨h1,h2,h3,s3.inv h3,(Rd.fx hq he ((s1.trans s2).trans s3)).inv hq,Nat.le_trans s1.rem ?_⟩;have hd:=Rd.bL hq he;unfold Rd.rem;rw[if_pos he,hd.2.2.1,hd.2.2.2.1];split<;>omega
 rw[qf];by_cases he:r.e≠0
 ·rw[if_pos he];refine aM func276 ntmps276 ?_;refine S ?_
  (repeat' (first|refine aq fun K hK=>?_|refine ap ?_|(with_reducible refine gR 2 ?_);refine dE 2 (aW 0 12) mixed ?_|(refine hK _ _ ?_;clear hK K)|(refine ao ?_ ?_<;>intro hc<;>try exact jz)|refine cm (gY r (bz h)) ?_|refine ar ?_|exact jI|(clear hK K)))
  (refine aY [.tmp 2] ?_;try simp only[go_sem])
 rw[if_neg he];have he:r.e=0:=jB;have VU:r.tok.kind≠0->r.inc.Inv/\r.inc.rem+1<=r.rem/\r.i+1<r.l.length:=fun hk=>⟨(Rd.bt h hk).1.inv h,Rd.de h ⟨he,hk⟩,Rd.behind h hk⟩
 by_cases Ue:r.tok.kind=1
 ·rw[if_pos Ue];obtain⟨hi,_,hb⟩:=VU jB;have ZX:=h.num r.i.toNat jB Ue;have VH:(nth r.l r.i.toNat).kind=1:=Ue;refine aM func276 ntmps276 ?_;refine S ?_
  (have W:=jA he (VH);repeat' (first|refine aq fun K hK=>?_|refine ap ?_|(with_reducible refine gR 2 ?_);refine dE 2 (aW 0 12) mixed ?_|(refine hK _ _ ?_;clear hK K)|(refine ao ?_ ?_<;>intro hc<;>try exact jz)|refine cm (gY r (bz h)) ?_|refine cp (SV _ ZX) ?_|refine cm (kY r.inc _ _ _ _ [] _ gF.nil (bz hi)) ?_|refine ar ?_|exact jI|(clear hK K)))
  (refine aY [.tmp 2] ?_;try simp only[go_sem])
  all_goals rfl
 rw[if_neg Ue];have VH:¬(nth r.l r.i.toNat).kind=1:=Ue;by_cases TY:r.tok.kind=2
 ·rw[if_pos TY];obtain⟨hi,_,hb⟩:=VU jB;have Wh:(nth r.l r.i.toNat).kind=2:=TY;refine aM func276 ntmps276 ?_;refine S ?_
  (have W:=jA he (Wh);repeat' (first|refine aq fun K hK=>?_|refine ap ?_|(with_reducible refine gR 2 ?_);refine dE 2 (aW 0 12) mixed ?_|(refine hK _ _ ?_;clear hK K)|(refine ao ?_ ?_<;>intro hc<;>try exact jz)|refine cm (gY r (bz h)) ?_|refine cm (kY r.inc _ _ _ _ [] _ gF.nil (bz hi)) ?_|refine ar ?_|exact jI|(clear hK K)))
  (refine aY [.tmp 2] ?_;try simp only[go_sem])
  all_goals rfl
 rw[if_neg TY];have Wh:¬(nth r.l r.i.toNat).kind=2:=TY;by_cases WM:r.tok.kind=3
 ·rw[if_pos WM];obtain⟨hi,hr,hb⟩:=VU jB;have V7:(nth r.l r.i.toNat).kind=3:=WM;by_cases hx:r.inc.is (⟨#[91]⟩:TI)=true
  ·rw[if_pos hx];obtain⟨d1,d2,d3,d4,d5,d6⟩:=deeper r.inc (⟨#[91]⟩:TI) (⟨#[93]⟩:TI) hi he;have d4l:=d4.oZ;have d4h:=d4.pW;refine aM func276 ntmps276 ?_;refine S ?_
   (have W:=jA he (jA V7 (hx));repeat' (first|refine aq fun K hK=>?_|refine ap ?_|(with_reducible refine gR 2 ?_);refine dE 2 (aW 0 12) mixed ?_|(refine hK _ _ ?_;clear hK K)|(refine ao ?_ ?_<;>intro hc<;>try exact jz)|refine cm (gY r (bz h)) ?_|refine cm (gA r.inc _ (bz hi)) ?_|refine cm (uu r.inc (bz hi)) ?_|refine cm (iL r.inc.down _ (bz d1)) ?_|refine cm (Tv (r.inc.down.av (⟨#[91]⟩:TI)) d2 jB) ?_|refine cm (iL (dO n 0 (r.inc.down.av (⟨#[91]⟩:TI))).1 _ (bz d3)) ?_|refine cm (kY ((dO n 0 (r.inc.down.av (⟨#[91]⟩:TI))).1.av (⟨#[93]⟩:TI)).up _ _ _ _ [(dO n 0 (r.inc.down.av (⟨#[91]⟩:TI))).2] _ gF.sl (bz d5)) ?_|refine ar ?_|exact jI|(clear hK K)))
   (refine aY [.tmp 2] ?_;try simp only[go_sem])
   all_goals rfl
  ·rw[if_neg hx];have Ug:r.inc.is (⟨#[91]⟩:TI)=false:=by simpa using hx
   refine aM func276 ntmps276 ?_;refine S ?_
   (have W:=jA he (jA V7 (Ug));repeat' (first|refine aq fun K hK=>?_|refine ap ?_|(with_reducible refine gR 2 ?_);refine dE 2 (aW 0 12) mixed ?_|(refine hK _ _ ?_;clear hK K)|(refine ao ?_ ?_<;>intro hc<;>try exact jz)|refine cm (gY r (bz h)) ?_|refine cm (gA r.inc _ (bz hi)) ?_|refine cm (kY r.inc _ _ _ _ [] _ gF.nil (bz hi)) ?_|refine ar ?_|exact jI|(clear hK K)))
   (refine aY [.tmp 2] ?_;try simp only[go_sem])
   all_goals rfl
 rw[if_neg WM];have V7:¬(nth r.l r.i.toNat).kind=3:=WM;by_cases ht:r.is (⟨#[116,114,117,101]⟩:TI)=true
 ·rw[if_pos ht];obtain⟨hi,hr,hb⟩:=VU (Rd.ba ht).2;refine aM func276 ntmps276 ?_;refine S ?_
  (have W:=jA he (jA ht (jA VH (jA Wh (V7))));repeat' (first|refine aq fun K hK=>?_|refine ap ?_|(with_reducible refine gR 2 ?_);refine dE 2 (aW 0 12) mixed ?_|(refine hK _ _ ?_;clear hK K)|(refine ao ?_ ?_<;>intro hc<;>try exact jz)|refine cm (gY r (bz h)) ?_|refine cm (gA r _ (bz h)) ?_|refine cm (kY r.inc _ _ _ _ [] _ gF.nil (bz hi)) ?_|refine ar ?_|exact jI|(clear hK K)))
  (refine aY [.tmp 2] ?_;try simp only[go_sem])
 rw[if_neg ht];have WY:r.is (⟨#[116,114,117,101]⟩:TI)=false:=by simpa using ht
 by_cases hf:r.is (⟨#[102,97,108,115,101]⟩:TI)=true
 ·rw[if_pos hf];obtain⟨hi,hr,hb⟩:=VU (Rd.ba hf).2;refine aM func276 ntmps276 ?_;refine S ?_
  (have W:=jA he (jA WY (jA hf (jA VH (jA Wh (V7)))));repeat' (first|refine aq fun K hK=>?_|refine ap ?_|(with_reducible refine gR 2 ?_);refine dE 2 (aW 0 12) mixed ?_|(refine hK _ _ ?_;clear hK K)|(refine ao ?_ ?_<;>intro hc<;>try exact jz)|refine cm (gY r (bz h)) ?_|refine cm (gA r _ (bz h)) ?_|refine cm (kY r.inc _ _ _ _ [] _ gF.nil (bz hi)) ?_|refine ar ?_|exact jI|(clear hK K)))
  (refine aY [.tmp 2] ?_;try simp only[go_sem])
 rw[if_neg hf];have Yx:r.is (⟨#[102,97,108,115,101]⟩:TI)=false:=by simpa using hf
 by_cases hl:r.is (⟨#[108,101,110]⟩:TI)=true
 ·rw[if_pos hl];obtain⟨hi,hr,hb⟩:=VU (Rd.ba hl).2;by_cases hx:r.inc.is (⟨#[40]⟩:TI)=true
  ·rw[if_pos hx];obtain⟨d1,d2,d3,d4,d5,d6⟩:=deeper r.inc (⟨#[40]⟩:TI) (⟨#[41]⟩:TI) hi he;have d4l:=d4.oZ;have d4h:=d4.pW;refine aM func276 ntmps276 ?_;refine S ?_
   (have W:=jA he (jA WY (jA Yx (jA hl (jA VH (jA Wh (jA V7 (hx)))))));repeat' (first|refine aq fun K hK=>?_|refine ap ?_|(with_reducible refine gR 2 ?_);refine dE 2 (aW 0 12) mixed ?_|(refine hK _ _ ?_;clear hK K)|(refine ao ?_ ?_<;>intro hc<;>try exact jz)|refine cm (gY r (bz h)) ?_|refine cm (gA r _ (bz h)) ?_|refine cm (gA r.inc _ (bz hi)) ?_|refine cm (uu r.inc (bz hi)) ?_|refine cm (iL r.inc.down _ (bz d1)) ?_|refine cm (Tv (r.inc.down.av (⟨#[40]⟩:TI)) d2 jB) ?_|refine cm (iL (dO n 0 (r.inc.down.av (⟨#[40]⟩:TI))).1 _ (bz d3)) ?_|refine cm (kY ((dO n 0 (r.inc.down.av (⟨#[40]⟩:TI))).1.av (⟨#[41]⟩:TI)).up _ _ _ _ [(dO n 0 (r.inc.down.av (⟨#[40]⟩:TI))).2] _ gF.sl (bz d5)) ?_|refine ar ?_|exact jI|(clear hK K)))
   (refine aY [.tmp 2] ?_;try simp only[go_sem])
  ·rw[if_neg hx];have Ug:r.inc.is (⟨#[40]⟩:TI)=false:=by simpa using hx
   refine aM func276 ntmps276 ?_;refine S ?_
   (have W:=jA he (jA WY (jA Yx (jA hl (jA VH (jA Wh (jA V7 (Ug)))))));repeat' (first|refine aq fun K hK=>?_|refine ap ?_|(with_reducible refine gR 2 ?_);refine dE 2 (aW 0 12) mixed ?_|(refine hK _ _ ?_;clear hK K)|(refine ao ?_ ?_<;>intro hc<;>try exact jz)|refine cm (gY r (bz h)) ?_|refine cm (gA r _ (bz h)) ?_|refine cm (gA r.inc _ (bz hi)) ?_|refine cm (ua r.inc _ (bz hi)) ?_|refine ar ?_|exact jI|(clear hK K)))
   (refine aY [.tmp 2] ?_;try simp only[go_sem])
 rw[if_neg hl];have U6:r.is (⟨#[108,101,110]⟩:TI)=false:=by simpa using hl
 by_cases hx:r.is (⟨#[40]⟩:TI)=true
 ·rw[if_pos hx];obtain⟨hi,hr,hb⟩:=VU (Rd.ba hx).2;obtain⟨d1,d2,d3,d4,d5,d6⟩:=deeper r (⟨#[40]⟩:TI) (⟨#[41]⟩:TI) h he;have d4l:=d4.oZ;have d4h:=d4.pW;have d7:(r.down.av (⟨#[40]⟩:TI)).rem+1<=r.rem:=by
   have hdn:=Rd.bL h he;unfold Rd.rem;rw[if_pos he];have Tz:(r.down.av (⟨#[40]⟩:TI)).l=r.l:=(Rd.aK d1 _).l.trans hdn.2.2.2.1;rw[Tz];by_cases hq:r.down.is (⟨#[40]⟩:TI)=true
   ·have:r.down.av (⟨#[40]⟩:TI)=r.down.inc:=by unfold Rd.av;rw[if_pos hq]
    rw[this];have:r.down.inc.i=r.i+1:=by show r.down.i+1=_;rw[hdn.2.2.1]
    rw[this];split<;>omega
   ·have hm:r.down.av (⟨#[40]⟩:TI)=r.down.aE 20:=by unfold Rd.av;rw[if_neg hq]
    rw[hm];have:(r.down.aE 20).e≠0:=by
     unfold Rd.aE;split
     ·show(20:Int)≠0;decide
     ·assumption
    rw[if_neg this];omega
  refine aM func276 ntmps276 ?_;refine S ?_
  (have W:=jA he (jA WY (jA Yx (jA U6 (jA VH (jA Wh (jA V7 (hx)))))));repeat' (first|refine aq fun K hK=>?_|refine ap ?_|(with_reducible refine gR 2 ?_);refine dE 2 (aW 0 12) mixed ?_|(refine hK _ _ ?_;clear hK K)|(refine ao ?_ ?_<;>intro hc<;>try exact jz)|refine cm (gY r (bz h)) ?_|refine cm (gA r _ (bz h)) ?_|refine cm (uu r (bz h)) ?_|refine cm (iL r.down _ (bz d1)) ?_|refine cm (Tv (r.down.av (⟨#[40]⟩:TI)) d2 jB) ?_|refine cm (iL (dO n 0 (r.down.av (⟨#[40]⟩:TI))).1 _ (bz d3)) ?_|refine ar ?_|exact jI|(clear hK K)))
  (refine aY [.tmp 2] ?_;try simp only[go_sem])
 rw[if_neg hx];have Ug:r.is (⟨#[40]⟩:TI)=false:=by simpa using hx
 refine aM func276 ntmps276 ?_;refine S ?_
 (have W:=jA he (jA WY (jA Yx (jA U6 (jA VH (jA Wh (jA V7 (Ug)))))));repeat' (first|refine aq fun K hK=>?_|refine ap ?_|(with_reducible refine gR 2 ?_);refine dE 2 (aW 0 12) mixed ?_|(refine hK _ _ ?_;clear hK K)|(refine ao ?_ ?_<;>intro hc<;>try exact jz)|refine cm (gY r (bz h)) ?_|refine cm (gA r _ (bz h)) ?_|refine cm (ua r _ (bz h)) ?_|refine ar ?_|exact jI|(clear hK K)))
 (refine aY [.tmp 2] ?_;try simp only[go_sem])
theorem C1:∀m n,n<=m->C0 n/\x9 n/\zA n
 |0,0,_=>⟨fun r h hn=>by omega,fun r h hn=>by omega,fun lv r hl h hn=>by omega⟩
 |m+1,0,_=>⟨fun r h hn=>jB,fun r h hn=>jB,fun lv r hl h hn=>jB⟩
 |m+1,n+1,hm=>by obtain⟨ha,hf,hc⟩:=C1 m n jB;exact⟨Nt n hc,PG n ha hf,MU n hf fun k hk=>(C1 m k jB).2.2⟩
def Lr(n:Nat)(r:Rd)(h:r.Inv)(hn:8*r.rem+8<=n):ab prog 232 [pR] (cA r) (fun v l=>v=rI (dO n 0 r).2/\l=cA (dO n 0 r).1):=by
 have:=(C1 n n jl).2.2 0 r jB h jB;refine aM func232 ntmps232 ?_;refine S ?_
 (repeat' (first|refine aq fun K hK=>?_|refine ap ?_|(refine hK _ _ ?_;clear hK K)|(refine ao ?_ ?_<;>intro hc<;>try exact jz)|refine cm (this) ?_|refine ar ?_|exact jI|(clear hK K)))
 (refine bV [.tmp 2] ?_ ?_<;>(try simp only[go_sem]))
variable{r:Rd}
def qv(h:r.Inv):ab prog 232 [pR] (cA r) (fun v l=>v=rI (db r).2/\l=cA (db r).1):=Lr _ r h jl
def Fu(h:r.Inv):ab prog 255 [pR] (cA r) (fun v l=>v=rI (mJ r).2/\l=cA (mJ r).1):=by
 have h1:=(Rd.dq h).inv h;have h2:=(yO h).inv h;have h3:=(BM h).inv h;have h4:=(PU h).inv h;have YM:(o3 r).rem<=2000:=by have:=h2.pos;have:=h2.len;unfold Rd.rem;split<;>omega
 have hm:ab prog 145 [pR,rS (⟨#[40]⟩:TI)] (cA r.name.1) (fun v l=>v=.aQ []/\l=cA (o3 r)):=iL r.name.1 _ (bz h1);refine aM func255 ntmps255 ?_;refine S ?_
 (repeat' (first|refine aq fun K hK=>?_|refine ap ?_|(refine hK _ _ ?_;clear hK K)|(refine ao ?_ ?_<;>intro hc<;>try exact jz)|refine cm (gY r (bz h)) ?_|refine cm (vY r (bz h)) ?_|refine cm (hm) ?_|refine cm (gA (o3 r) _ (bz h2)) ?_|refine ar ?_|exact jI|(clear hK K)))
 have TX:=hK;clear hK;refine jq (dL.nil 2 5 3 (sz:=1) rfl jC (Or.inr ⟨_,_,_,rfl,rfl⟩)) ?_
 (refine S ?_;try exact jI)
 refine dV (S:=Nat×Bool×Rd×TG) [(5,1),(7,2),(27,17)] (fun s=>s.2.2.1.Inv/\(s.2.1=true->s.2.2.1.rem+2<=s.1)/\1<=s.1/\s.2.2.2.length+s.1<=5000/\mU s.1 s.2.1 s.2.2.1 s.2.2.2=nI r) (fun s=>[(5,.rs 2 s.2.2.2.length 1 s.2.2.2.length),(7,rB s.2.1)]) (fun s=>⟨[0,1],cA s.2.2.1++[(2,.aG 3 1 (s.2.2.2.map eI))]⟩) (fun s=>s.1) ((o3 r).rem+2,more (o3 r),o3 r,[]) ⟨h2,fun _=>Nat.le_refl _,jJ,by(try simp only[List.length_nil]);omega,rfl⟩ (dS rfl (by simp only[go_sem,lb,Nat.reduceAdd,AV.raw.injEq,Value.int.injEq,Value.slice.injEq,Value.pointer.injEq,AV.rs.injEq,more,List.length_nil];try omega)) ?_;rintro⟨n,b,q,L⟩ ⟨hq,UB,VM,WB,hA⟩ Kr TR;simp only at hq UB VM WB hA;have hqi:=hq.lt;have hqp:=hq.pos;have XY:=hq.len;obtain⟨n,rfl⟩:∃k,n=k+1:=⟨n-1,jB⟩;cases b with
 |false=>
  rw[mU]at hA;have e1:q=(nI r).1:=by rw[<-hA]
  have e2:L=(nI r).2:=by rw[<-hA]
  rw[<-e1]at h4;refine S ?_
  (repeat' (first|refine aq fun K hK=>?_|refine ap ?_|(refine hK _ _ ?_;clear hK K)|(refine ao ?_ ?_<;>intro hc<;>try exact jz)|refine ar ?_|exact jI|(clear hK K)))
  refine TX _ _ ?_;refine Ho [2] 5 (aO eI 1 L) Sd Sd iF ?_;refine S ?_
  (repeat' (first|refine aq fun K hK=>?_|refine ap ?_|(refine hK _ _ ?_;clear hK K)|(refine ao ?_ ?_<;>intro hc<;>try exact jz)|refine cm (iL q _ (bz hq)) ?_|refine cm (wY (q.av (⟨#[41]⟩:TI)) _ _ _ _ L (bz h4)) ?_|refine ar ?_|exact jI|(clear hK K)))
  (refine bV [.tmp 2] ?_ ?_<;>(try simp only[go_sem]))
  ·unfold mJ;rw[<-e1,<-e2]
  ·unfold mJ;rw[<-e1,<-e2]
 |true=>
  have s1:=ki hq;have hx:=s1.inv hq;have VT:=s1.rem;have hxi:=hx.lt;have hxp:=hx.pos;have XW:=hx.len;have UB:=UB rfl;rw[mU]at hA;refine S ?_
  (repeat' (first|refine aq fun K hK=>?_|refine ap ?_|(refine hK _ _ ?_;clear hK K)|(refine ao ?_ ?_<;>intro hc<;>try exact jz)|refine cm (qv hq) ?_|refine cm (gA (db q).1 _ (bz hx)) ?_|refine ar ?_|exact jI|(clear hK K)))
  ·rw[if_pos hc]at hA;have hk:=Rd.ba hc;have Xb:=Rd.de hx hk;refine TR _ _ (eu (n,true,(db q).1.inc,L++[(db q).2]) ⟨(Rd.bt hx hk.2).1.inv hx,fun _=>jJ,jJ,by(try simp only[List.length_append,List.length_cons,List.length_nil]);omega,hA⟩ jJ (by simp only[go_sem,cA,ii,List.map_append,List.map_cons,List.map_nil,List.cons_append,List.nil_append];(try rfl)) (by simp only[go_sem,lb,Nat.reduceAdd,AV.raw.injEq,Value.int.injEq,Value.slice.injEq,Value.pointer.injEq,AV.rs.injEq,hc,List.length_append,List.length_cons,List.length_nil];try omega))
  ·rw[if_neg (by rw[hc];decide)]at hA;refine TR _ _ (eu (n,false,(db q).1,L++[(db q).2]) ⟨hx,(by intro h;cases h),jJ,by(try simp only[List.length_append,List.length_cons,List.length_nil]);omega,?_⟩ jJ (by simp only[go_sem,cA,ii,List.map_append,List.map_cons,List.map_nil,List.cons_append,List.nil_append];(try rfl)) (by simp only[go_sem,lb,Nat.reduceAdd,AV.raw.injEq,Value.int.injEq,Value.slice.injEq,Value.pointer.injEq,AV.rs.injEq,hc,List.length_append,List.length_cons,List.length_nil];try omega));rw[<-hA];obtain⟨n,rfl⟩:∃k,n=k+1:=⟨n-1,jB⟩;rw[mU]
def wM(h:r.Inv):ab prog 254 [pR] (cA r) (fun v l=>v=rB r.calls/\l=cA r):=KY r (bz h) (fun hk=>Rd.behind h (Rd.dH hk jC).2)
def Gz(h:r.Inv):ab prog 231 [pR] (cA r) (fun v l=>v=rI (lG r).2/\l=cA (lG r).1):=by
 have hri:=h.lt;have hrp:=h.pos;have Vy:=h.len;have VU:r.tok.kind≠0->r.inc.Inv:=fun hk=>(Rd.bt h hk).1.inv h
 by_cases hx:r.is (⟨#[105,110,112,117,116]⟩:TI)=true
 ·have hi:=VU (Rd.ba hx).2;rw[lG,if_pos hx];refine aM func231 ntmps231 ?_;refine S ?_
  (have W:=hx;repeat' (first|refine aq fun K hK=>?_|refine ap ?_|(refine hK _ _ ?_;clear hK K)|(refine ao ?_ ?_<;>intro hc<;>try exact jz)|refine cm (gY r (bz h)) ?_|refine cm (gA r _ (bz h)) ?_|refine cm (kY r.inc _ _ _ _ [] _ gF.nil (bz hi)) ?_|refine ar ?_|exact jI|(clear hK K)))
  (refine bV [.tmp 2] ?_ ?_<;>(try simp only[go_sem]))
 rw[lG,if_neg hx];have Ug:r.is (⟨#[105,110,112,117,116]⟩:TI)=false:=by simpa using hx
 by_cases hy:r.is (⟨#[110,101,119]⟩:TI)=true
 ·have hi:=VU (Rd.ba hy).2;have h1:=(Rd.aK hi (⟨#[40]⟩:TI)).inv hi;have h2:=(ki h1).inv h1;have h3:=(Rd.aK h2 (⟨#[41]⟩:TI)).inv h2;rw[if_pos hy];refine aM func231 ntmps231 ?_;refine S ?_
  (have W:=jA Ug hy;repeat' (first|refine aq fun K hK=>?_|refine ap ?_|(refine hK _ _ ?_;clear hK K)|(refine ao ?_ ?_<;>intro hc<;>try exact jz)|refine cm (gY r (bz h)) ?_|refine cm (gA r _ (bz h)) ?_|refine cm (iL r.inc _ (bz hi)) ?_|refine cm (qv h1) ?_|refine cm (iL (db (r.inc.av (⟨#[40]⟩:TI))).1 _ (bz h2)) ?_|refine cm (kY ((db (r.inc.av (⟨#[40]⟩:TI))).1.av (⟨#[41]⟩:TI)) _ _ _ _ [(db (r.inc.av (⟨#[40]⟩:TI))).2] _ gF.sl (bz h3)) ?_|refine ar ?_|exact jI|(clear hK K)))
  (refine bV [.tmp 2] ?_ ?_<;>(try simp only[go_sem]))
 rw[if_neg hy];have Ye:r.is (⟨#[110,101,119]⟩:TI)=false:=by simpa using hy
 by_cases Tx:r.calls=true
 ·rw[if_pos Tx];refine aM func231 ntmps231 ?_;refine S ?_
  (have W:=jA Ug (jA Ye (Tx));repeat' (first|refine aq fun K hK=>?_|refine ap ?_|(refine hK _ _ ?_;clear hK K)|(refine ao ?_ ?_<;>intro hc<;>try exact jz)|refine cm (gY r (bz h)) ?_|refine cm (gA r _ (bz h)) ?_|refine cm (wM h) ?_|refine cm (Fu h) ?_|refine ar ?_|exact jI|(clear hK K)))
  (refine bV [.tmp 2] ?_ ?_<;>(try simp only[go_sem]))
 ·rw[if_neg Tx];have UT:r.calls=false:=by simpa using Tx
  refine aM func231 ntmps231 ?_;refine S ?_
  (have W:=jA Ug (jA Ye (UT));repeat' (first|refine aq fun K hK=>?_|refine ap ?_|(refine hK _ _ ?_;clear hK K)|(refine ao ?_ ?_<;>intro hc<;>try exact jz)|refine cm (gY r (bz h)) ?_|refine cm (gA r _ (bz h)) ?_|refine cm (wM h) ?_|refine cm (qv h) ?_|refine ar ?_|exact jI|(clear hK K)))
  (refine bV [.tmp 2] ?_ ?_<;>(try simp only[go_sem]))
def Qt(h:r.Inv)(he:r.e=0)(ln:Int):ab prog 233 [pR,rI ln] (cA r) (fun v l=>v=rI (pO r ln).2/\l=cA (pO r ln).1):=by
 have hri:=h.lt;have hrp:=h.pos;have Vy:=h.len;by_cases Tx:r.calls=true
 ·have h1:=(BX h Tx).1.inv h;have h2:=(Rd.aK h1 (⟨#[59]⟩:TI)).inv h1;rw[pO,if_pos Tx];refine aM func233 ntmps233 ?_;refine S ?_
  (have W:=Tx;repeat' (first|refine aq fun K hK=>?_|refine ap ?_|(refine hK _ _ ?_;clear hK K)|(refine ao ?_ ?_<;>intro hc<;>try exact jz)|refine cm (wM h) ?_|refine cm (Fu h) ?_|refine cm (iL (mJ r).1 _ (bz h1)) ?_|refine cm (kY ((mJ r).1.av (⟨#[59]⟩:TI)) _ _ _ _ [(mJ r).2] _ gF.sl (bz h2)) ?_|refine ar ?_|exact jI|(clear hK K)))
  (refine bV [.tmp 4] ?_ ?_<;>(try simp only[go_sem]))
 rw[pO,if_neg Tx];have UT:r.calls=false:=by simpa using Tx
 have h0:=(Rd.dq h).inv h;by_cases hx:r.name.1.is (⟨#[91]⟩:TI)=true
 ·rw[if_pos hx];have d0:=(Rd.bL h0 (Rd.ba hx).1).1;have d1:=(Rd.aK d0 (⟨#[91]⟩:TI)).inv d0;have d2:=(ki d1).inv d1;have d3:=(Rd.aK d2 (⟨#[93]⟩:TI)).inv d2;have d4:=(A1 h0 hx).2.inv h0;have d5:=(zW h0 hx).1.inv h0;have d6:=(zW h0 hx).2.inv h0;have d7:=(Rd.aK d6 (⟨#[59]⟩:TI)).inv d6;have d3l:=d3.oZ;have d3h:=d3.pW;unfold uG o4 at*;refine aM func233 ntmps233 ?_;refine S ?_
  (have W:=jA UT hx;repeat' (first|refine aq fun K hK=>?_|refine ap ?_|(refine hK _ _ ?_;clear hK K)|(refine ao ?_ ?_<;>intro hc<;>try exact jz)|refine cm (wM h) ?_|refine cm (vY r (bz h)) ?_|refine cm (gA r.name.1 _ (bz h0)) ?_|refine cm (uu r.name.1 (bz h0)) ?_|refine cm (iL r.name.1.down _ (bz d0)) ?_|refine cm (qv d1) ?_|refine cm (iL (db (r.name.1.down.av (⟨#[91]⟩:TI))).1 _ (bz d2)) ?_|refine cm (iL ((db (r.name.1.down.av (⟨#[91]⟩:TI))).1.av (⟨#[93]⟩:TI)).up _ (bz d4)) ?_|refine cm (qv d5) ?_|refine cm (iL (db (((db (r.name.1.down.av (⟨#[91]⟩:TI))).1.av (⟨#[93]⟩:TI)).up.av (⟨#[61]⟩:TI))).1 _ (bz d6)) ?_|refine cm (kY ((db (((db (r.name.1.down.av (⟨#[91]⟩:TI))).1.av (⟨#[93]⟩:TI)).up.av (⟨#[61]⟩:TI))).1.av (⟨#[59]⟩:TI)) _ _ _ _ [(db (r.name.1.down.av (⟨#[91]⟩:TI))).2,(db (((db (r.name.1.down.av (⟨#[91]⟩:TI))).1.av (⟨#[93]⟩:TI)).up.av (⟨#[61]⟩:TI))).2] _ gF.sl (bz d7)) ?_|refine ar ?_|exact jI|(clear hK K)))
  (refine bV [.tmp 4] ?_ ?_<;>(try simp only[go_sem]))
 ·rw[if_neg hx];have Ug:r.name.1.is (⟨#[91]⟩:TI)=false:=by simpa using hx
  have d1:=(Rd.aK h0 (⟨#[61]⟩:TI)).inv h0;have d2:=(y9 d1).inv d1;have d3:=(Rd.aK d2 (⟨#[59]⟩:TI)).inv d2;refine aM func233 ntmps233 ?_;refine S ?_
  (have W:=jA UT (Ug);repeat' (first|refine aq fun K hK=>?_|refine ap ?_|(refine hK _ _ ?_;clear hK K)|(refine ao ?_ ?_<;>intro hc<;>try exact jz)|refine cm (wM h) ?_|refine cm (vY r (bz h)) ?_|refine cm (gA r.name.1 _ (bz h0)) ?_|refine cm (iL r.name.1 _ (bz h0)) ?_|refine cm (Gz d1) ?_|refine cm (iL (lG (r.name.1.av (⟨#[61]⟩:TI))).1 _ (bz d2)) ?_|refine cm (kY ((lG (r.name.1.av (⟨#[61]⟩:TI))).1.av (⟨#[59]⟩:TI)) _ _ _ _ [(lG (r.name.1.av (⟨#[61]⟩:TI))).2] _ gF.sl (bz d3)) ?_|refine ar ?_|exact jI|(clear hK K)))
  (refine bV [.tmp 4] ?_ ?_<;>(try simp only[go_sem]))
def QE(w:TI):aB prog 193 [rS w] (rI (sN w)):=by
 refine bG func193 ntmps193 ?_
 (repeat' (first|refine aq fun K hK=>?_|refine ap ?_|(refine hK _ _ ?_;clear hK K)|(refine ao ?_ ?_<;>intro hc<;>try exact jz)|refine ar ?_|exact jI|(clear hK K)))
 all_goals(refine bV [.tmp 2] ?_ ?_<;>(try simp only[go_sem]))
 all_goals unfold sN
 all_goals repeat' split
 all_goals first|rfl|(exfalso;simp_all;done)
def Hk(h:r.Inv):ab prog 148 [pR] (cA r) (fun v l=>v=rI (iP r).2/\l=cA (iP r).1):=by
 have hri:=h.lt;have hrp:=h.pos;have Vy:=h.len;refine aM func148 ntmps148 ?_;refine S ?_
 (repeat' (first|refine aq fun K hK=>?_|refine ap ?_|(refine hK _ _ ?_;clear hK K)|(refine ao ?_ ?_<;>intro hc<;>try exact jz)|refine cm (qH r (bz h)) ?_|refine cp (QE r.word) ?_|refine cm (ua r _ (bz h)) ?_|refine ar ?_|exact jI|(clear hK K)))
 ·(refine bV [.tmp 2] ?_ ?_<;>(try simp only[go_sem]))
  ·simp only[iP,if_pos hc]
  ·simp only[iP,if_pos hc,go_sem]
 ·(refine bV [.tmp 2] ?_ ?_<;>(try simp only[go_sem]))
  ·simp only[iP,if_neg hc]
  ·simp only[iP,if_neg hc];rfl
def Cn(n:Nat):Prop:=∀r:Rd,r.Inv->4*r.rem+1<=n->ab prog 149 [pR] (cA r) (fun v l=>v=rI (fZ n r).2/\l=cA (fZ n r).1)
def Bm(n:Nat):Prop:=∀r:Rd,r.Inv->r.e=0->4*r.rem+2<=n->ab prog 195 [pR] (cA r) (fun v l=>v=rI (nL n r).2/\l=cA (nL n r).1)
def Tp(n:Nat)(hs:∀m,m<=n->Bm m):Cn (n+1):=by
 intro r h hn;by_cases hx:r.is (⟨#[123]⟩:TI)=true
 ·have he:=(Rd.ba hx).1;have hd:=(Rd.bL h he).1;have s1:=Rd.aK hd (⟨#[123]⟩:TI);have h1:=s1.inv hd;have s2:=(rY n).2.1 _ [] h1;have h2:=s2.inv h1;have s3:=Rd.aK h2 (⟨#[125]⟩:TI);have h3:=s3.inv h2;have h4:=(Rd.fx h he ((s1.trans s2).trans s3)).inv h;have h3l:=h3.oZ;have h3h:=h3.pW;have hr:=(Rd.gK h hx).1;have YM:r.rem<=2000:=by
   have:=h.pos;have:=h.len;unfold Rd.rem;split<;>omega
  rw[fZ,if_pos hx];refine aM func149 ntmps149 ?_;refine S ?_
  (have W:=hx;repeat' (first|refine aq fun K hK=>?_|refine ap ?_|(refine hK _ _ ?_;clear hK K)|(refine ao ?_ ?_<;>intro hc<;>try exact jz)|refine cm (gY r (bz h)) ?_|refine cm (gA r _ (bz h)) ?_|refine cm (uu r (bz h)) ?_|refine cm (iL r.down _ (bz hd)) ?_|refine ar ?_|exact jI|(clear hK K)))
  have TX:=hK;clear hK;refine jq (dL.nil 2 5 3 (sz:=1) rfl jC (Or.inr ⟨_,_,_,rfl,rfl⟩)) ?_
  (refine S ?_;try exact jI)
  refine dV (S:=Nat×Rd×TG) [(5,3),(21,14)] (fun s=>s.2.1.Inv/\4*s.2.1.rem+3<=s.1/\s.1<=n/\s.2.2.length+s.2.1.rem<=2000/\mF s.1 s.2.1 s.2.2=mF n (r.down.av (⟨#[123]⟩:TI)) []) (fun s=>[(5,.rs 2 s.2.2.length 1 s.2.2.length)]) (fun s=>⟨[0,1],cA s.2.1++[(2,.aG 3 1 (s.2.2.map eI))]⟩) (fun s=>s.1) (n,r.down.av (⟨#[123]⟩:TI),[]) ⟨h1,jJ,Nat.le_refl _,by(try simp only[List.length_nil]);omega,rfl⟩ (dS rfl cv) ?_;rintro⟨m,q,L⟩ ⟨hq,V9,VA,UZ,hA⟩ Kr TR;simp only at hq V9 VA UZ hA;have hqi:=hq.lt;have hqp:=hq.pos;have XY:=hq.len;obtain⟨m,rfl⟩:∃k,m=k+1:=⟨m-1,jB⟩;rw[mF]at hA;by_cases T9:q.e=0/\q.is (⟨#[125]⟩:TI)=false
  ·rw[if_pos T9]at hA;obtain⟨V',Wy⟩:=T9;obtain⟨t1,t2⟩:=(rY m).2.2 q hq V' jB;have hj:=t1.inv hq;refine S ?_
   (have W:=jA V' Wy;repeat' (first|refine aq fun K hK=>?_|refine ap ?_|(refine hK _ _ ?_;clear hK K)|(refine ao ?_ ?_<;>intro hc<;>try exact jz)|refine cm (gA q _ (bz hq)) ?_|refine cm (hs m jB q hq V' jB) ?_|refine ar ?_|exact jI|(clear hK K)))
   refine TR _ _ (eu (m,(nL m q).1,L++[(nL m q).2]) ⟨hj,jJ,jJ,by(try simp only[List.length_append,List.length_cons,List.length_nil]);omega,hA⟩ jJ (by simp only[go_sem,cA,ii,List.map_append,List.map_cons,List.map_nil,List.cons_append,List.nil_append];(try rfl)) cv)
  ·rw[if_neg T9]at hA;have e1:q=(mF n (r.down.av (⟨#[123]⟩:TI)) []).1:=by rw[<-hA]
   have e2:L=(mF n (r.down.av (⟨#[123]⟩:TI)) []).2:=by rw[<-hA]
   rw[<-e1]at h3 h4 h3l h3h;refine S ?_
   (repeat' (first|refine aq fun K hK=>?_|refine ap ?_|(refine hK _ _ ?_;clear hK K)|(refine ao ?_ ?_<;>intro hc<;>try exact jz)|refine cm (gA q _ (bz hq)) ?_|refine ar ?_|exact jI|(clear hK K)))
   all_goals first|(exact absurd ⟨by assumption,by assumption⟩ T9)|skip
   all_goals refine TX _ _ ?_
   all_goals refine Ho [2] 5 (aO eI 1 L) Sd Sd iF ?_
   all_goals(
    refine S ?_
    (repeat' (first|refine aq fun K hK=>?_|refine ap ?_|(refine hK _ _ ?_;clear hK K)|(refine ao ?_ ?_<;>intro hc<;>try exact jz)|refine cm (iL q _ (bz hq)) ?_|refine cm (wY (q.av (⟨#[125]⟩:TI)).up _ _ _ _ L (bz h4)) ?_|refine ar ?_|exact jI|(clear hK K)))
    (refine bV [.tmp 2] ?_ ?_<;>(try simp only[go_sem]))
    all_goals simp only[<-e1,<-e2])
 ·rw[fZ,if_neg hx];have Ug:r.is (⟨#[123]⟩:TI)=false:=by simpa using hx
  refine aM func149 ntmps149 ?_;refine S ?_
  (have W:=Ug;repeat' (first|refine aq fun K hK=>?_|refine ap ?_|(refine hK _ _ ?_;clear hK K)|(refine ao ?_ ?_<;>intro hc<;>try exact jz)|refine cm (gY r (bz h)) ?_|refine cm (gA r _ (bz h)) ?_|refine cm (ua r _ (bz h)) ?_|refine ar ?_|exact jI|(clear hK K)))
  (refine bV [.tmp 2] ?_ ?_<;>(try simp only[go_sem]))
def Mu(n:Nat)(hb:Cn n):Bm (n+1):=by
 intro r h he hn;have hri:=h.lt;have hrp:=h.pos;have Vy:=h.len;have word:∀w:TI,w≠⟨#[]⟩->r.word=w->r.inc.Inv/\r.inc.rem+1<=r.rem:=fun w h0 hw=>by have hk:=Rd.dH (Rd.gI hw h0) jC;exact⟨(Rd.bt h hk.2).1.inv h,Rd.de h hk⟩
 rw[nL];by_cases w1:r.word=(⟨#[108,101,116]⟩:TI)
 ·rw[if_pos w1];have w1':=eq_true w1;obtain⟨hi,hr⟩:=word _ jC w1;have h1:=(Rd.dq hi).inv hi;have h2:=(Rd.aK h1 (⟨#[61]⟩:TI)).inv h1;have h3:=(y9 h2).inv h2;have h4:=(Rd.aK h3 (⟨#[59]⟩:TI)).inv h3;refine aM func195 ntmps195 ?_;refine S ?_
  (have W:=w1';repeat' (first|refine aq fun K hK=>?_|refine ap ?_|(refine hK _ _ ?_;clear hK K)|(refine ao ?_ ?_<;>intro hc<;>try exact jz)|refine cm (gY r (bz h)) ?_|refine cm (qH r (bz h)) ?_|refine cm (vY r.inc (bz hi)) ?_|refine cm (iL r.inc.name.1 _ (bz h1)) ?_|refine cm (Gz h2) ?_|refine cm (iL (lG (r.inc.name.1.av (⟨#[61]⟩:TI))).1 _ (bz h3)) ?_|refine cm (kY ((lG (r.inc.name.1.av (⟨#[61]⟩:TI))).1.av (⟨#[59]⟩:TI)) _ _ _ _ [(lG (r.inc.name.1.av (⟨#[61]⟩:TI))).2] _ gF.sl (bz h4)) ?_|refine ar ?_|exact jI|(clear hK K)))
  (refine bV [.tmp 2] ?_ ?_<;>(try simp only[go_sem]))
 rw[if_neg w1];by_cases w2:r.word=(⟨#[112,114,105,110,116]⟩:TI)
 ·rw[if_pos w2];have w2':=eq_true w2;obtain⟨hi,hr⟩:=word _ jC w2;have h1:=(ki hi).inv hi;have h2:=(Rd.aK h1 (⟨#[59]⟩:TI)).inv h1;refine aM func195 ntmps195 ?_;refine S ?_
  (have W:=jA w1 (w2');repeat' (first|refine aq fun K hK=>?_|refine ap ?_|(refine hK _ _ ?_;clear hK K)|(refine ao ?_ ?_<;>intro hc<;>try exact jz)|refine cm (gY r (bz h)) ?_|refine cm (qH r (bz h)) ?_|refine cm (qv hi) ?_|refine cm (iL (db r.inc).1 _ (bz h1)) ?_|refine cm (kY ((db r.inc).1.av (⟨#[59]⟩:TI)) _ _ _ _ [(db r.inc).2] _ gF.sl (bz h2)) ?_|refine ar ?_|exact jI|(clear hK K)))
  (refine bV [.tmp 2] ?_ ?_<;>(try simp only[go_sem]))
 rw[if_neg w2];by_cases w3:r.word=(⟨#[119,104,105,108,101]⟩:TI)
 ·rw[if_pos w3];have w3':=eq_true w3;obtain⟨hi,hr⟩:=word _ jC w3;have h1:=(ki hi).inv hi;have VT:=(ki hi).rem;have h2:=((rY n).1 _ h1).inv h1;refine aM func195 ntmps195 ?_;refine S ?_
  (have W:=jA w1 (jA w2 (w3'));repeat' (first|refine aq fun K hK=>?_|refine ap ?_|(refine hK _ _ ?_;clear hK K)|(refine ao ?_ ?_<;>intro hc<;>try exact jz)|refine cm (gY r (bz h)) ?_|refine cm (qH r (bz h)) ?_|refine cm (qv hi) ?_|refine cm (hb _ h1 jB) ?_|refine cm (kY (fZ n (db r.inc).1).1 _ _ _ _ [(db r.inc).2,(fZ n (db r.inc).1).2] _ gF.sl (bz h2)) ?_|refine ar ?_|exact jI|(clear hK K)))
  (refine bV [.tmp 2] ?_ ?_<;>(try simp only[go_sem]))
 rw[if_neg w3];by_cases w4:r.word=(⟨#[105,102]⟩:TI)
 ·rw[if_pos w4];have w4':=eq_true w4;obtain⟨hi,hr⟩:=word _ jC w4;have h1:=(ki hi).inv hi;have VT:=(ki hi).rem;have s2:=(rY n).1 _ h1;have h2:=s2.inv h1;have Xb:=s2.rem;have h2i:=h2.lt;have h2p:=h2.pos;have h2l:=h2.len;by_cases hx:(fZ n (db r.inc).1).1.is (⟨#[101,108,115,101]⟩:TI)=true
  ·rw[if_pos hx];have hk:=Rd.ba hx;have h3:=(Rd.bt h2 hk.2).1.inv h2;have hr3:=Rd.de h2 hk;have h4:=((rY n).1 _ h3).inv h3;refine aM func195 ntmps195 ?_;refine S ?_
   (have W:=jA w1 (jA w2 (jA w3 (jA w4' (hx))));repeat' (first|refine GY (id:=31) [2] [(13,135)] [(12,aO eI 1 [(db r.inc).2,(fZ n (db r.inc).1).2,(fZ n (fZ n (db r.inc).1).1.inc).2])] ?_|refine aq fun K hK=>?_|refine ap ?_|(refine hK _ _ ?_;clear hK K)|(refine ao ?_ ?_<;>intro hc<;>try exact jz)|refine cm (gY r (bz h)) ?_|refine cm (qH r (bz h)) ?_|refine cm (qv hi) ?_|refine cm (hb _ h1 jB) ?_|refine cm (gA (fZ n (db r.inc).1).1 _ (bz h2)) ?_|refine cm (hb _ h3 jB) ?_|refine cm (wY (fZ n (fZ n (db r.inc).1).1.inc).1 _ _ _ _ [(db r.inc).2,(fZ n (db r.inc).1).2,(fZ n (fZ n (db r.inc).1).1.inc).2] (bz h4)) ?_|refine ar ?_|exact jI|(clear hK K)))
   (refine bV [.tmp 2] ?_ ?_<;>(try simp only[go_sem]))
  ·rw[if_neg hx];have Ug:(fZ n (db r.inc).1).1.is (⟨#[101,108,115,101]⟩:TI)=false:=by simpa using hx
   refine aM func195 ntmps195 ?_;refine S ?_
   (have W:=jA w1 (jA w2 (jA w3 (jA w4' (Ug))));repeat' (first|refine aq fun K hK=>?_|refine ap ?_|(refine hK _ _ ?_;clear hK K)|(refine ao ?_ ?_<;>intro hc<;>try exact jz)|refine cm (gY r (bz h)) ?_|refine cm (qH r (bz h)) ?_|refine cm (qv hi) ?_|refine cm (hb _ h1 jB) ?_|refine cm (gA (fZ n (db r.inc).1).1 _ (bz h2)) ?_|refine cm (kY (fZ n (db r.inc).1).1 _ _ _ _ [(db r.inc).2,(fZ n (db r.inc).1).2] _ gF.sl (bz h2)) ?_|refine ar ?_|exact jI|(clear hK K)))
   (refine bV [.tmp 2] ?_ ?_<;>(try simp only[go_sem]))
 rw[if_neg w4];by_cases w5:r.word=(⟨#[114,101,116,117,114,110]⟩:TI)
 ·rw[if_pos w5];have w5':=eq_true w5;obtain⟨hi,hr⟩:=word _ jC w5;by_cases hx:r.inc.is (⟨#[59]⟩:TI)=true
  ·rw[if_pos hx];have h1:=(Rd.aK hi (⟨#[59]⟩:TI)).inv hi;refine aM func195 ntmps195 ?_;refine S ?_
   (have W:=jA w1 (jA w2 (jA w3 (jA w4 (jA w5' (hx)))));repeat' (first|refine aq fun K hK=>?_|refine ap ?_|(refine hK _ _ ?_;clear hK K)|(refine ao ?_ ?_<;>intro hc<;>try exact jz)|refine cm (gY r (bz h)) ?_|refine cm (qH r (bz h)) ?_|refine cm (gA r.inc _ (bz hi)) ?_|refine cm (iL r.inc _ (bz hi)) ?_|refine cm (kY (r.inc.av (⟨#[59]⟩:TI)) _ _ _ _ [] _ gF.sl (bz h1)) ?_|refine ar ?_|exact jI|(clear hK K)))
   (refine bV [.tmp 2] ?_ ?_<;>(try simp only[go_sem]))
  ·rw[if_neg hx];have Ug:r.inc.is (⟨#[59]⟩:TI)=false:=by simpa using hx
   have h1:=(ki hi).inv hi;have h2:=(Rd.aK h1 (⟨#[59]⟩:TI)).inv h1;refine aM func195 ntmps195 ?_;refine S ?_
   (have W:=jA w1 (jA w2 (jA w3 (jA w4 (jA w5' (Ug)))));repeat' (first|refine GY (id:=40) [2] [(16,132)] [(15,aO eI 1 [(db r.inc).2])] ?_|refine aq fun K hK=>?_|refine ap ?_|(refine hK _ _ ?_;clear hK K)|(refine ao ?_ ?_<;>intro hc<;>try exact jz)|refine cm (gY r (bz h)) ?_|refine cm (qH r (bz h)) ?_|refine cm (gA r.inc _ (bz hi)) ?_|refine cm (qv hi) ?_|refine cm (iL (db r.inc).1 _ (bz h1)) ?_|refine cm (wY ((db r.inc).1.av (⟨#[59]⟩:TI)) _ _ _ _ [(db r.inc).2] (bz h2)) ?_|refine ar ?_|exact jI|(clear hK K)))
   (refine bV [.tmp 2] ?_ ?_<;>(try simp only[go_sem]))
 rw[if_neg w5];refine aM func195 ntmps195 ?_;refine S ?_
 (have W:=jA w1 (jA w2 (jA w3 (jA w4 (w5))));repeat' (first|refine aq fun K hK=>?_|refine ap ?_|(refine hK _ _ ?_;clear hK K)|(refine ao ?_ ?_<;>intro hc<;>try exact jz)|refine cm (gY r (bz h)) ?_|refine cm (qH r (bz h)) ?_|refine cm (Qt h he r.cM) ?_|refine ar ?_|exact jI|(clear hK K)))
 (refine bV [.tmp 2] ?_ ?_<;>(try simp only[go_sem]))
theorem F0:∀m n,n<=m->Cn n/\Bm n
 |0,0,_=>⟨fun r h hn=>by omega,fun r h he hn=>by omega⟩
 |m+1,0,_=>⟨fun r h hn=>jB,fun r h he hn=>jB⟩
 |m+1,n+1,hm=>by
  have ih:=fun k (hk:k<=n)=>F0 m k jB
  exact⟨Tp n fun k hk=>(ih k hk).2,Mu n (ih n jl).1⟩
def D7(h:r.Inv):ab prog 149 [pR] (cA r) (fun v l=>v=rI (oi r).2/\l=cA (oi r).1):=(F0 _ _ jl).1 r h jB
def Rt(h:r.Inv):ab prog 103 [pR] (cA r) (fun v l=>v=.agg (fV (mz r).2)/\l=cA (mz r).1):=by
 have h1:=(qp h).1.inv h;have h2:=(qp h).2.1.inv h;have h3:=(qp h).2.2.1.inv h;have h4:=(Bg h).inv h1;have h5:=(yN h).inv h1;have h6:=(zb h).inv h1;have h7:=(Cu h6).inv h6;have YM:(mR r).rem<=2000:=by have:=h3.pos;have:=h3.len;unfold Rd.rem;split<;>omega
 have hm:ab prog 145 [pR,rS (⟨#[40]⟩:TI)] (cA (r.av (⟨#[102,110]⟩:TI)).name.1) (fun v l=>v=.aQ []/\l=cA (mR r)):=iL (r.av (⟨#[102,110]⟩:TI)).name.1 _ (bz h2);refine aM func103 ntmps103 ?_;refine S ?_
 (repeat' (first|refine aq fun K hK=>?_|refine ap ?_|(refine hK _ _ ?_;clear hK K)|(refine ao ?_ ?_<;>intro hc<;>try exact jz)|refine cm (gY r (bz h)) ?_|refine cm (hm) ?_|refine cm (iL r _ (bz h)) ?_|refine cm (vY (r.av (⟨#[102,110]⟩:TI)) (bz h1)) ?_|refine cm (gA (mR r) _ (bz h3)) ?_|refine ar ?_|exact jI|(clear hK K)))
 have TX:=hK;clear hK;refine jq (dL.gb 4 3 2 254 2 rfl jC rfl rfl) ?_
 (refine S ?_;try exact jI)
 refine dV (S:=Nat×Bool×Rd×List bK) [(5,3),(30,23)] (fun s=>s.2.2.1.Inv/\(s.2.1=true->s.2.2.1.rem+2<=s.1)/\1<=s.1/\s.2.2.2.length+s.1<=5000/\mq s.1 s.2.1 s.2.2.1 s.2.2.2=rW r) (fun s=>[(5,rB s.2.1)]) (fun s=>⟨[0,1],cA s.2.2.1++[(2,.var 181 [rS ⟨#[]⟩,rI 0,.raw (.slice none 0 0),rI 0,rI 0]),(3,.var 181 [rS (r.av (⟨#[102,110]⟩:TI)).name.2,rI r.cM,.rs 4 s.2.2.2.length 2 s.2.2.2.length,rI 0,rI 0]),(4,.aG 254 2 (s.2.2.2.map mG))]⟩) (fun s=>s.1) ((mR r).rem+2,more (mR r),mR r,[]) ⟨h3,fun _=>Nat.le_refl _,jJ,by(try simp only[List.length_nil]);omega,rfl⟩ (dS rfl (by simp only[go_sem,lb,Nat.reduceAdd,AV.raw.injEq,Value.int.injEq,Value.slice.injEq,Value.pointer.injEq,AV.rs.injEq,more,List.length_nil];try omega)) ?_;rintro⟨n,b,q,L⟩ ⟨hq,UB,VM,WB,hA⟩ Kr TR;simp only at hq UB VM WB hA;have hqi:=hq.lt;have hqp:=hq.pos;have XY:=hq.len;obtain⟨n,rfl⟩:∃k,n=k+1:=⟨n-1,jB⟩;cases b with
 |false=>
  rw[mq]at hA;have e1:q=(rW r).1:=by rw[<-hA]
  have e2:L=(rW r).2:=by rw[<-hA]
  have hmm:ab prog 145 [pR,rS (⟨#[41]⟩:TI)] (cA q) (fun v l=>v=.aQ []/\l=cA (lA r)):=by rw[e1];exact iL (rW r).1 _ (bz h4)
  by_cases hx:(lA r).is (⟨#[123]⟩:TI)=true
  ·have ed:l6 r=(lA r,0):=by unfold l6;rw[if_pos hx]
   have ef:mz r=((oi (lA r)).1,⟨(r.av (⟨#[102,110]⟩:TI)).name.2,r.cM,L,0,(oi (lA r)).2⟩):=by unfold mz;rw[ed,<-e2]
   rw[ef]at TX;refine S ?_
   (have W:=hx;repeat' (first|refine aq fun K hK=>?_|refine ap ?_|(refine hK _ _ ?_;clear hK K)|(refine ao ?_ ?_<;>intro hc<;>try exact jz)|refine TX _ _ ?_|refine cm (hmm) ?_|refine cm (gA (lA r) _ (bz h5)) ?_|refine cm (D7 h5) ?_|refine ar ?_|exact jI|(clear hK K)))
   refine fA [.cell 2 181] ?_;refine bu.agg (ds:=[rS _,rI _,aO mG 2 L,rI _,rI _]) ?_;exact jA (.same _ rfl) (jA (.same _ rfl) (jA (cW.row (enc:=mG) L rfl rfl jE) (jA (.same _ rfl) (jA (.same _ rfl) trivial))))
  ·have Ug:(lA r).is (⟨#[123]⟩:TI)=false:=by simpa using hx
   have ed:l6 r=iP (lA r):=by unfold l6;rw[if_neg hx]
   rw[ed]at h6;have ef:mz r=((oi (iP (lA r)).1).1,⟨(r.av (⟨#[102,110]⟩:TI)).name.2,r.cM,L,(iP (lA r)).2,(oi (iP (lA r)).1).2⟩):=by unfold mz;rw[ed,<-e2]
   rw[ef]at TX;refine S ?_
   (have W:=Ug;repeat' (first|refine aq fun K hK=>?_|refine ap ?_|(refine hK _ _ ?_;clear hK K)|(refine ao ?_ ?_<;>intro hc<;>try exact jz)|refine TX _ _ ?_|refine cm (hmm) ?_|refine cm (gA (lA r) _ (bz h5)) ?_|refine cm (Hk h5) ?_|refine cm (D7 h6) ?_|refine ar ?_|exact jI|(clear hK K)))
   refine fA [.cell 2 181] ?_;refine bu.agg (ds:=[rS _,rI _,aO mG 2 L,rI _,rI _]) ?_;exact jA (.same _ rfl) (jA (.same _ rfl) (jA (cW.row (enc:=mG) L rfl rfl jE) (jA (.same _ rfl) (jA (.same _ rfl) trivial))))
 |true=>
  have s1:=ET hq;have hx:=s1.inv hq;have VT:=s1.rem;have hxi:=hx.lt;have hxp:=hx.pos;have XW:=hx.len;have UB:=UB rfl;have WC:=(Rd.dq hq).inv hq;have Wi:ab prog 148 [pR] (cA q.name.1) (fun v l=>v=rI (iP q.name.1).2/\l=cA (pz q)):=Hk WC;rw[mq]at hA;refine S ?_
  (repeat' (first|refine aq fun K hK=>?_|refine ap ?_|(refine hK _ _ ?_;clear hK K)|(refine ao ?_ ?_<;>intro hc<;>try exact jz)|refine cm (vY q (bz hq)) ?_|refine cm (Wi) ?_|refine cm (gA (pz q) _ (bz hx)) ?_|refine ar ?_|exact jI|(clear hK K)))
  ·rw[if_pos hc]at hA;have hk:=Rd.ba hc;have Xb:=Rd.de hx hk;refine TR _ _ (eu (n,true,(pz q).inc,L++[⟨q.name.2,(iP q.name.1).2⟩]) ⟨(Rd.bt hx hk.2).1.inv hx,fun _=>jJ,jJ,by(try simp only[List.length_append,List.length_cons,List.length_nil]);omega,hA⟩ jJ (by simp only[go_sem,cA,ii,List.map_append,List.map_cons,List.map_nil,List.cons_append,List.nil_append,List.length_append,List.length_cons,List.length_nil,Nat.reduceAdd];(try rfl)) (by simp only[go_sem,lb,Nat.reduceAdd,AV.raw.injEq,Value.int.injEq,Value.slice.injEq,Value.pointer.injEq,AV.rs.injEq,hc,List.length_append,List.length_cons,List.length_nil];try omega))
  ·rw[if_neg (by rw[hc];decide)]at hA;refine TR _ _ (eu (n,false,pz q,L++[⟨q.name.2,(iP q.name.1).2⟩]) ⟨hx,(by intro h;cases h),jJ,by(try simp only[List.length_append,List.length_cons,List.length_nil]);omega,?_⟩ jJ (by simp only[go_sem,cA,ii,List.map_append,List.map_cons,List.map_nil,List.cons_append,List.nil_append,List.length_append,List.length_cons,List.length_nil,Nat.reduceAdd];(try rfl)) (by simp only[go_sem,lb,Nat.reduceAdd,AV.raw.injEq,Value.int.injEq,Value.slice.injEq,Value.pointer.injEq,AV.rs.injEq,hc,List.length_append,List.length_cons,List.length_nil];try omega));rw[<-hA];obtain⟨n,rfl⟩:∃k,n=k+1:=⟨n-1,jB⟩;rw[mq]
def Mg{α:Type}[Inhabited α](p:α->Bool)(l:List α){k:Nat}(h:k<l.length):(l.take (k+1)).any p=((l.take k).any p || p (nth l k)):=by rw[List.take_succ_eq_append_getElem h,List.any_append,fP h];simp
def sW(t:List br)(L:List bg)(k:Nat):Bool:=decide (300<(t.length:Int)) || decide (6<(L.length:Int)) || (L.take k).any fun f=>decide (3<(f.params.length:Int))
def N0(t:List br)(L:List bg){k:Nat}(h:k<L.length):sW t L (k+1)=(sW t L k || decide (3<((nth L k).params.length:Int))):=by unfold sW;rw[Mg _ _ h];simp only[Bool.or_assoc]
def M0(t:List br)(L:List bg){k:Nat}(h:L.length<=k):sW t L k=tW t L:=by
 unfold sW tW;rw[List.take_of_length_le h];have e1:∀n:Nat,decide (300<(n:Int))=decide (300<n):=fun n=>decide_eq_decide.2 jB
 have e2:∀n:Nat,decide (6<(n:Int))=decide (6<n):=fun n=>decide_eq_decide.2 jB
 have e3:∀n:Nat,decide (3<(n:Int))=decide (3<n):=fun n=>decide_eq_decide.2 jB
 simp only[e1,e2,e3]
def RJ(s:TI)(hs:s.size<=1000000):aB prog 52 [rS s] (.aQ [.agg (lz (gQ s).1),rI (gQ s).2.1,rI (gQ s).2.2]):=by
 by_cases he:(kR s).2.2=0
 ·have hi:=II he;have YM:(od s).rem<=2000:=by
   have:=hi.pos;have:=hi.len;unfold Rd.rem;split<;>omega
  refine bG func52 ntmps52 ?_
  (have W:=he;repeat' (first|refine aq fun K hK=>?_|refine ap ?_|(refine hK _ _ ?_;clear hK K)|(refine ao ?_ ?_<;>intro hc<;>try exact jz)|refine cp (Ih s hs) ?_|(refine xR (t:=30) 10 (by simp only[go_sem];rfl) rfl ?_;refine S ?_)|(refine yX 0 jD rfl ?_;refine S ?_)|refine ar ?_|exact jI|(clear hK K)))
  have TX:=hK;clear hK;refine jq (dL.gb 1 0 3 116 5 rfl jC rfl rfl) ?_
  (refine S ?_;try exact jI)
  refine jq (dL.gb 12 11 1 181 5 rfl jC rfl rfl) ?_
  (refine S ?_;try exact jI)
  refine dV (S:=Nat×Rd×List bg) [(10,2),(30,16)] (fun p=>p.2.1.Inv/\p.2.1.rem+1<=p.1/\p.2.2.length+p.1<=5000/\p6 p.1 p.2.1 p.2.2=nG s) (fun _=>[]) (fun p=>⟨[],[(10,.var 30 [.raw (.slice none 0 0),.raw (.slice none 0 0)]),(0,.var 177 (ii p.2.1)),(11,.var 30 [.raw (.slice none 0 0),.rs 12 p.2.2.length 5 p.2.2.length]),(1,.aG 116 5 (p.2.1.nodes.map eF)),(12,.aG 181 5 (p.2.2.map fV))]⟩) (fun p=>p.1) ((od s).rem+1,od s,[]) ⟨hi,Nat.le_refl _,by(try simp only[List.length_nil]);omega,rfl⟩ (dS rfl cv) ?_;rintro⟨n,q,L⟩ ⟨hq,UB,VM,hA⟩ Kr TR;simp only at hq UB VM hA;have hqi:=hq.lt;have hqp:=hq.pos;have XY:=hq.len;obtain⟨n,rfl⟩:∃k,n=k+1:=⟨n-1,jB⟩;rw[p6]at hA;by_cases T9:q.e=0/\q.kind 0=false
  ·rw[if_pos T9]at hA;obtain⟨V',Wy⟩:=T9;obtain⟨t1,t2⟩:=F8 hq;have t2:=t2 V';have hj:=t1.inv hq;refine S ?_
   (have W:=jA V' Wy;repeat' (first|refine aq fun K hK=>?_|refine ap ?_|(refine hK _ _ ?_;clear hK K)|(refine ao ?_ ?_<;>intro hc<;>try exact jz)|refine cm (wS q _ (bz hq)) ?_|refine cm (Rt hq) ?_|refine ar ?_|exact jI|(clear hK K)))
   refine TR _ _ (mV [13] (n,(mz q).1,L++[(mz q).2]) ⟨hj,jJ,by(try simp only[List.length_append,List.length_cons,List.length_nil]);omega,hA⟩ jJ rfl Sd (by simp only[go_sem,ii,List.map_append,List.map_cons,List.map_nil,List.length_append,List.length_cons,List.length_nil,Nat.reduceAdd];(try rfl)) iF)
  ·rw[if_neg T9]at hA;have e1:q=(nG s).1:=by rw[<-hA]
   have e2:L=(nG s).2:=by rw[<-hA]
   refine S ?_
   (repeat' (first|refine aq fun K hK=>?_|refine ap ?_|(refine hK _ _ ?_;clear hK K)|(refine ao ?_ ?_<;>intro hc<;>try exact jz)|refine cm (wS q _ (bz hq)) ?_|refine ar ?_|exact jI|(clear hK K)))
   all_goals first|(exact absurd ⟨by assumption,by assumption⟩ T9)|skip
   ·have V':q.e=0:=by assumption
    have hee:¬(nG s).1.e≠0:=by rw[<-e1];simp[V']
    refine TX _ _ ?_;clear TX
    (have W:=V';repeat' (first|refine aq fun K hK=>?_|refine ap ?_|(refine hK _ _ ?_;clear hK K)|(refine ao ?_ ?_<;>intro hc<;>try exact jz)|refine ar ?_|exact jI|(clear hK K)))
    have TX:=hK;clear hK;refine dV (S:=Nat) [(12,2),(75,18)] (fun k=>k<=L.length) (fun k=>[(12,rB (sW q.nodes L k)),(13,rI k)]) (fun _=>⟨[],[(10,.var 30 [.raw (.slice none 0 0),.raw (.slice none 0 0)]),(0,.var 177 (ii q)),(11,.var 30 [.rs 1 q.nodes.length 5 q.nodes.length,.rs 12 L.length 5 L.length]),(1,.aG 116 5 (q.nodes.map eF)),(12,.aG 181 5 (L.map fV))]⟩) (fun k=>L.length-k) 0 (Nat.zero_le _) (dS (by simp only[ii,V']) (by simp only[go_sem,lb,Nat.reduceAdd,AV.raw.injEq,Value.int.injEq,Value.slice.injEq,Value.pointer.injEq,AV.rs.injEq,sW,List.take_zero,List.any_nil,Bool.or_false];try omega)) ?_;intro k hk Kr TR;refine S ?_
    (repeat' (first|refine aq fun K hK=>?_|refine ap ?_|(refine hK _ _ ?_;clear hK K)|(refine ao ?_ ?_<;>intro hc<;>try exact jz)|refine ar ?_|exact jI|(clear hK K)))
    ·have Vf:k<L.length:=jB;refine TR _ _ (eu (k+1) jJ jJ (by simp only[ii,V']) (by simp only[go_sem,lb,Nat.reduceAdd,AV.raw.injEq,Value.int.injEq,Value.slice.injEq,Value.pointer.injEq,AV.rs.injEq,N0 _ _ Vf];try omega))
    ·have hbu:sW q.nodes L k=tW q.nodes L:=M0 _ _ jB;by_cases Vo:tW q.nodes L=true
     ·have ep:gQ s=(⟨[],[]⟩,0,4):=by unfold gQ;rw[if_neg (by simp[he]),if_neg hee,<-e1,<-e2,if_pos Vo]
      rw[ep]at TX;refine TX _ _ ?_
      (have W:=jA hbu Vo;repeat' (first|refine aq fun K hK=>?_|refine ap ?_|(refine hK _ _ ?_;clear hK K)|(refine ao ?_ ?_<;>intro hc<;>try exact jz)|refine ar ?_|exact jI|(clear hK K)))
      refine fA [.cell 2 30,.tmp 3,.tmp 4] ?_;refine bu.aQ (ds:=[.agg (lz ⟨[],[]⟩),rI _,rI _]) ?_;exact jA (bu.agg (ds:=[aO eF 5 [],aO fV 5 []]) (jA (cW.nil _ _) (jA (cW.nil _ _) trivial))) (jA (.same _ rfl) (jA (.same _ rfl) trivial))
     ·have hbf:tW q.nodes L=false:=by simpa using Vo
      have ep:gQ s=(⟨q.nodes,L⟩,0,0):=by unfold gQ;rw[if_neg (by simp[he]),if_neg hee,<-e1,<-e2,if_neg Vo]
      rw[ep]at TX;refine TX _ _ ?_
      (have W:=jA hbu hbf;repeat' (first|refine aq fun K hK=>?_|refine ap ?_|(refine hK _ _ ?_;clear hK K)|(refine ao ?_ ?_<;>intro hc<;>try exact jz)|refine ar ?_|exact jI|(clear hK K)))
      refine fA [.cell 2 30,.tmp 3,.tmp 4] ?_;refine bu.aQ (ds:=[.agg (lz ⟨q.nodes,L⟩),rI _,rI _]) ?_;exact jA (bu.agg (ds:=[aO eF 5 q.nodes,aO fV 5 L]) (jA (cW.row (enc:=eF) q.nodes rfl rfl jE) (jA (cW.row (enc:=fV) L rfl rfl jE) trivial))) (jA (.same _ rfl) (jA (.same _ rfl) trivial))
   ·have V':¬q.e=0:=by assumption
    have ep:gQ s=(⟨[],[]⟩,q.at_,q.e):=by unfold gQ;rw[if_neg (by simp[he]),<-e1,if_pos V']
    rw[ep]at TX;refine TX _ _ ?_
    (have W:=V';repeat' (first|refine aq fun K hK=>?_|refine ap ?_|(with_reducible refine gR 12 ?_);refine dA 12 [10] (aW 0 12) mixed ?_|(refine hK _ _ ?_;clear hK K)|(refine ao ?_ ?_<;>intro hc<;>try exact jz)|refine ar ?_|exact jI|(clear hK K)))
    refine fA [.cell 2 30,.tmp 3,.tmp 4] ?_;refine bu.aQ (ds:=[.agg (lz ⟨[],[]⟩),rI _,rI _]) ?_;exact jA (bu.agg (ds:=[aO eF 5 [],aO fV 5 []]) (jA (cW.nil _ _) (jA (cW.nil _ _) trivial))) (jA (.same _ rfl) (jA (.same _ rfl) trivial))
 ·have ep:gQ s=(⟨[],[]⟩,(kR s).2.1,(kR s).2.2):=by unfold gQ;rw[if_pos he]
  rw[ep];refine bG func52 ntmps52 ?_
  (have W:=he;repeat' (first|refine aq fun K hK=>?_|refine ap ?_|(refine hK _ _ ?_;clear hK K)|(refine ao ?_ ?_<;>intro hc<;>try exact jz)|refine cp (Ih s hs) ?_|refine ar ?_|exact jI|(clear hK K)))
  refine fA [.cell 2 30,.tmp 3,.tmp 4] ?_;refine bu.aQ (ds:=[.agg (lz ⟨[],[]⟩),rI _,rI _]) ?_;exact jA (bu.agg (ds:=[aO eF 5 [],aO fV 5 []]) (jA (cW.nil _ _) (jA (cW.nil _ _) trivial))) (jA (.same _ rfl) (jA (.same _ rfl) trivial))
def uZ(c:Ck):TE:=[aO eF 5 c.aa.nodes,aO fV 5 c.aa.aw,.rs 1 c.types.length 1 c.types.length,.rs 2 c.slots.length 1 c.slots.length,.rs 3 c.aw.length 1 c.aw.length,.rs 4 c.aP.length 1 c.aP.length,rI c.fn,.rs 5 (c.vars.length+c.more.length) 3 c.vars.length,rI c.size,rI c.e,rI c.at_]
def fG(c:Ck):TD:=[(0,.var 186 (uZ c)),(1,.aG 3 1 (c.types.map eI)),(2,.aG 3 1 (c.slots.map eI)),(3,.aG 3 1 (c.aw.map eI)),(4,.aG 3 1 (c.aP.map eI)),(5,.aG 258 3 ((c.vars++c.more).map lh))]
attribute [go_sem] fG uZ Ck.slot Ck.note Ck.ai
structure bE(c:Ck):Prop where
 aa:aR c.aa
 types:c.types.length=c.aa.nodes.length
 slots:c.slots.length=c.aa.nodes.length
 aw:c.aw.length=c.aa.nodes.length
 aP:c.aP.length<=6
 uR:0<=c.fn
 vA:c.fn<c.aa.aw.length
 vars:(c.vars.length:Int)<=c.size
 size:c.size<=25
 room:c.e=0->c.size<=24
theorem zx{α:Type}(f:α->TI)(nm:TI):∀(l:List α) (i:Int),0<=i->(je f nm l i=-1/\∀v∈l,f v≠nm)\/(i<=je f nm l i/\je f nm l i<i+l.length)
 |[],i,_=>.inl ⟨rfl,fun v hv=>by simp at hv⟩
 |v::l,i,hi=>by
  unfold je;by_cases h:f v=nm
  ·rw[if_pos h];exact .inr jF
  ·rw[if_neg h];rcases zx f nm l (i+1) jB with⟨h1,h2⟩|h1
   ·exact .inl ⟨h1,fun u hu=>by
     rcases List.mem_cons.1 hu with rfl|hu
     ·exact h
     ·exact h2 u hu⟩
   ·exact .inr jF
def kP{α:Type}[Inhabited α]{l:List α}{i:Nat}(h:i<l.length):l.drop i=nth l i::l.drop (i+1):=by rw[fP h];exact List.drop_eq_getElem_cons h
def su(c:Ck)(e a:Int):ab prog 150 [pR,rI e,rI a] (fG c) (fun v l=>v=.aQ []/\l=fG (c.aE e a)):=by
 refine aM func150 ntmps150 ?_;refine S ?_
 (repeat' (first|refine aq fun K hK=>?_|refine ap ?_|(refine hK _ _ ?_;clear hK K)|(refine ao ?_ ?_<;>intro hc<;>try exact jz)|refine ar ?_|exact jI|(clear hK K)))
 ·(refine bV [] ?_ ?_<;>(try simp only[go_sem]))
  simp only[Ck.aE,if_pos hc,fG,uZ]
 ·(refine bV [] ?_ ?_<;>(try simp only[go_sem]))
  simp only[Ck.aE,if_neg hc,fG,uZ]
def CZ(c:Ck)(nm:TI)(h:bE c):ab prog 151 [pR,rS nm] (fG c) (fun v l=>v=rI (c.find nm)/\l=fG c):=by
 have h1:=h.vars;have h2:=h.size;refine aM func151 ntmps151 ?_;refine S ?_
 (repeat' (first|refine aq fun K hK=>?_|refine ap ?_|(refine hK _ _ ?_;clear hK K)|(refine ao ?_ ?_<;>intro hc<;>try exact jz)|refine ar ?_|exact jI|(clear hK K)))
 have TX:=hK;clear hK;refine dV (S:=Nat) [(4,22)] (fun k=>k<=c.vars.length/\je bD.name nm (c.vars.drop k) k=c.find nm) (fun k=>[(5,rI k)]) (fun _=>⟨[0,1,2,3,4,5],fG c⟩) (fun k=>c.vars.length-k) 0 ⟨jB,rfl⟩ (dS jD cv) ?_;rintro k ⟨Ue,TY⟩ Kr TR
 (refine S ?_;try exact jI)
 by_cases hk:k<c.vars.length
 ·rw[kP hk]at TY;unfold je at TY;have YA:nth (c.vars++c.more) k=nth c.vars k:=pS hk
  (have W:=YA;repeat' (first|refine aq fun K hK=>?_|refine ap ?_|(refine hK _ _ ?_;clear hK K)|(refine ao ?_ ?_<;>intro hc<;>try exact jz)|refine ar ?_|exact jI|(clear hK K)))
  ·(refine bV [.tmp 4] ?_ ?_<;>(try simp only[go_sem]))
   rw[if_pos hc]at TY;rw[<-TY]
  ·rw[if_neg hc]at TY;refine TR _ _ (eu (k+1) ⟨jB,by rw[<-TY];rfl⟩ jJ jD cv)
 ·rw[List.drop_eq_nil_of_le jB]at TY
  (repeat' (first|refine aq fun K hK=>?_|refine ap ?_|(refine hK _ _ ?_;clear hK K)|(refine ao ?_ ?_<;>intro hc<;>try exact jz)|refine TX _ _ ?_|refine ar ?_|exact jI|(clear hK K)))
  (refine bV [.tmp 4] ?_ ?_<;>(try simp only[go_sem]))
  rw[<-TY];rfl
def oo(c:Ck)(b:Bool)(a:Int):ab prog 237 [pR,rB b,rI a] (fG c) (fun v l=>v=.aQ []/\l=fG (c.av b a)):=by
 refine aM func237 ntmps237 ?_;refine S ?_
 (repeat' (first|refine aq fun K hK=>?_|refine ap ?_|(refine hK _ _ ?_;clear hK K)|(refine ao ?_ ?_<;>intro hc<;>try exact jz)|refine cm (su c 42 a) ?_|refine ar ?_|exact jI|(clear hK K)))
 ·(refine bV [] ?_ ?_<;>(try simp only[go_sem]))
  simp only[Ck.av,hc,Bool.false_eq_true,if_false,fG,uZ]
 ·(refine bV [] ?_ ?_<;>(try simp only[go_sem]))
  simp only[Ck.av,hc,if_true,fG,uZ]
variable{a:Int}
def vK{c:Ck}(h:bE c)(h0:0<=a)(h1:a<c.aa.nodes.length):Shape c.aa.nodes (c.node a)/\∀x∈(c.node a).l,0<=x/\x.toNat<a.toNat:=by have:=h.aa.shape a.toNat jB;exact⟨this.1,this.2.1⟩
def yR{c:Ck}(h:bE c)(h0:0<=a)(h1:a<c.aa.nodes.length):(c.node a).l.length<=300:=by obtain⟨_,_,lo,hc⟩:=h.aa.shape a.toNat jB;have:=hc.len;have:=h.aa.many;show(nth c.aa.nodes a.toNat).l.length<=300;omega
def Hj(c:Ck)(a:Int)(h:bE c)(h0:0<=a)(h1:a<c.aa.nodes.length):ab prog 235 [pR,rI a] (fG c) (fun v l=>v=rI (c.named a).2/\l=fG (c.named a).1):=by
 have hv:=h.vars;have hz:=h.size;have UM:=h.slots;have hfd:=zx bD.name (c.node a).name c.vars 0 jB;have V8:=CZ c (c.node a).name h;have XI:=su c 40 a;have YA:0<=c.find (c.node a).name->nth (c.vars++c.more) (c.find (c.node a).name).toNat=nth c.vars (c.find (c.node a).name).toNat:=fun h=>pS (by have hfd:(c.find (c.node a).name=-1/\_)\/(0<=c.find (c.node a).name/\c.find (c.node a).name<0+c.vars.length):=hfd;omega)
 have hfd:(c.find (c.node a).name=-1/\_)\/(0<=c.find (c.node a).name/\c.find (c.node a).name<0+c.vars.length):=hfd;unfold Ck.named;by_cases hf:c.find (c.node a).name<0
 ·rw[if_pos hf];refine aM func235 ntmps235 ?_;refine S ?_
  (repeat' (first|refine aq fun K hK=>?_|refine ap ?_|(refine hK _ _ ?_;clear hK K)|(refine ao ?_ ?_<;>intro hc<;>try exact jz)|refine cm (V8) ?_|refine cm (XI) ?_|refine ar ?_|exact jI|(clear hK K)))
  (refine bV [.tmp 4] ?_ ?_<;>(try simp only[go_sem]))
 ·rw[if_neg hf];have YA:=YA jB;refine aM func235 ntmps235 ?_;refine S ?_
  (have W:=YA;repeat' (first|refine aq fun K hK=>?_|refine ap ?_|(with_reducible refine gR 5 ?_);refine dE 5 (aW 0 16) mixed ?_|(refine hK _ _ ?_;clear hK K)|(refine ao ?_ ?_<;>intro hc<;>try exact jz)|refine cm (V8) ?_|refine ar ?_|exact jI|(clear hK K)))
  (refine bV [.tmp 4] ?_ ?_<;>(try simp only[go_sem]))
structure Ev(c c':Ck):Prop where
 aa:c'.aa=c.aa
 fn:c'.fn=c.fn
 vars:c'.vars=c.vars
 more:c'.more=c.more
 size:c'.size=c.size
 aP:c'.aP=c.aP
 types:c'.types.length=c.types.length
 slots:c'.slots.length=c.slots.length
 aw:c'.aw.length=c.aw.length
 err:c.e≠0->c'.e≠0
def Ev.refl(c:Ck):Ev c c:=⟨rfl,rfl,rfl,rfl,rfl,rfl,rfl,rfl,rfl,id⟩
theorem Ev.trans{a b c:Ck}(h:Ev a b)(k:Ev b c):Ev a c:=⟨k.aa.trans h.aa,k.fn.trans h.fn,k.vars.trans h.vars,k.more.trans h.more,k.size.trans h.size,k.aP.trans h.aP,k.types.trans h.types,k.slots.trans h.slots,k.aw.trans h.aw,fun e=>k.err (h.err e)⟩
def bE.ev{c c':Ck}(h:bE c)(s:Ev c c'):bE c' where
 aa:=by rw[s.aa];exact h.aa
 types:=by rw[s.types,s.aa];exact h.types
 slots:=by rw[s.slots,s.aa];exact h.slots
 aw:=by rw[s.aw,s.aa];exact h.aw
 aP:=by rw[s.aP];exact h.aP
 uR:=by rw[s.fn];exact h.uR
 vA:=by rw[s.fn,s.aa];exact h.vA
 vars:=by rw[s.vars,s.size];exact h.vars
 size:=by rw[s.size];exact h.size
 room:=fun e=>by rw[s.size];exact h.room (Classical.byContradiction fun h=>s.err h e)
theorem Ev.node{c c':Ck}(s:Ev c c')(a:Int):c'.node a=c.node a:=by unfold Ck.node;rw[s.aa]
def n8(c:Ck){e:Int}(he:e≠0)(a:Int):Ev c (c.aE e a):=by
 unfold Ck.aE;split
 ·exact⟨rfl,rfl,rfl,rfl,rfl,rfl,rfl,rfl,rfl,fun _=>he⟩
 ·exact .refl c
def ky(c:Ck)(b:Bool)(a:Int):Ev c (c.av b a):=by
 unfold Ck.av;split
 ·exact .refl c
 ·exact n8 c jC a
def MQ(c:Ck)(a s:Int):Ev c (c.slot a s):=⟨rfl,rfl,rfl,rfl,rfl,rfl,rfl,by simp[Ck.slot],rfl,id⟩
def KZ(c:Ck)(a t:Int):Ev c (c.note a t):=⟨rfl,rfl,rfl,rfl,rfl,rfl,by simp[Ck.note],rfl,by simp[Ck.note],id⟩
def ri(c:Ck)(a:Int):Ev c (c.ai a):=⟨rfl,rfl,rfl,rfl,rfl,rfl,rfl,rfl,by simp[Ck.ai],id⟩
def nE(c:Ck)(a:Int):Ev c (c.named a).1:=by
 unfold Ck.named;split
 ·exact n8 c jC a
 ·exact MQ c a _
theorem tC{ex:Ck->Int->Ck×Int}(hex:∀c a,Ev c (ex c a).1):∀(l:TG) (c:Ck) (ts:TG),Ev c (gv ex c l ts).1
 |[],c,ts=>by unfold gv;exact .refl c
 |a::l,c,ts=>by
  unfold gv;split
  ·exact(hex c a).trans (tC hex l _ _)
  ·exact .refl c
theorem zm(a:Int):∀(ts:TG) (ps:List bK) (c:Ck),Ev c (iv a c ts ps)
 |[],_,c=>by unfold iv;exact .refl c
 |_::_,[],c=>by unfold iv;exact .refl c
 |t::ts,p::ps,c=>by
  unfold iv;split
  ·exact(ky c _ a).trans (zm a ts ps _)
  ·exact .refl c
variable{ex:Ck->Int->Ck×Int}
def Pp(hex:∀c a,Ev c (ex c a).1)(c:Ck)(a:Int):Ev c (iS ex c a).1:=by
 unfold iS;split
 ·exact n8 c jC a
 ·refine Ev.trans ?_ (zm _ _ _ _);split
  ·exact(tC hex _ _ _).trans (n8 _ jC a)
  ·exact tC hex _ _ _
def Br(hex:∀c a,Ev c (ex c a).1)(c:Ck)(a:Int):Ev c (cr ex c a).1:=by
 unfold cr;simp only;repeat' split
 all_goals first
  |exact .refl c
  |exact nE c a
  |exact Pp hex c a
  |exact((nE c a).trans (hex _ _)).trans (ky _ _ _)
  |exact((hex c _).trans (hex _ _)).trans (ky _ _ _)
  |exact(hex c _).trans (ky _ _ _)
theorem fk:∀(n:Nat) (c:Ck) (a:Int),Ev c (az n c a).1
 |0,c,a=>by unfold az;exact .refl c
 |n+1,c,a=>by
  unfold az;split
  ·exact .refl c
  ·exact(Br (fk n) c a).trans (KZ _ _ _)
def tN(n:Nat):Prop:=∀(c:Ck) (a:Int),bE c->0<=a->a<c.aa.nodes.length->a.toNat<n->fq (c.node a).kind->ab prog 236 [pR,rI a] (fG c) (fun v l=>v=rI (az n c a).2/\l=fG (az n c a).1)
def FD(n:Nat):Prop:=∀(c:Ck) (a:Int),bE c->c.e=0->0<=a->a<c.aa.nodes.length->a.toNat<=n->fq (c.node a).kind->ab prog 257 [pR,rI a] (fG c) (fun v l=>v=rI (cr (az n) c a).2/\l=fG (cr (az n) c a).1)
def DF(n:Nat):Prop:=∀(c:Ck) (a:Int),bE c->0<=a->a<c.aa.nodes.length->a.toNat<=n->(c.node a).kind=21->ab prog 271 [pR,rI a] (fG c) (fun v l=>v=rI (iS (az n) c a).2/\l=fG (iS (az n) c a).1)
def QI(s:TI)(a b:Int):aB prog 272 [rS s,rI a,rI b] (rI (lO s a b)):=by
 refine bG func272 ntmps272 ?_
 (repeat' (first|refine aq fun K hK=>?_|refine ap ?_|(refine hK _ _ ?_;clear hK K)|(refine ao ?_ ?_<;>intro hc<;>try exact jz)|refine ar ?_|exact jI|(clear hK K)))
 all_goals(refine bV [.tmp 6] ?_ ?_<;>(try simp only[go_sem]))
 all_goals simp_all [lO]
 all_goals omega
def Mr(n:Nat)(ht:FD n):tN (n+1):=by
 intro c a h h0 h1 hn hk;have hz:=h.size;have hv:=h.vars;by_cases he:c.e=0
 ·have htc:=ht c a h he h0 h1 jB hk;have s:=Br (fk n) c a;have h2:=h.ev s;have l1:=h2.types;have l2:=h2.aw;rw[s.aa]at l1 l2;rw[az,jN];refine aM func236 ntmps236 ?_;refine S ?_
  (repeat' (first|refine aq fun K hK=>?_|refine ap ?_|(with_reducible refine gR 5 ?_);refine dE 5 (aW 0 12) mixed ?_|(refine hK _ _ ?_;clear hK K)|(refine ao ?_ ?_<;>intro hc<;>try exact jz)|refine cm (htc) ?_|refine ar ?_|exact jI|(clear hK K)))
  (refine bV [.tmp 4] ?_ ?_<;>(try simp only[go_sem]))
 ·rw[az,if_pos he];refine aM func236 ntmps236 ?_;refine S ?_
  (repeat' (first|refine aq fun K hK=>?_|refine ap ?_|(refine hK _ _ ?_;clear hK K)|(refine ao ?_ ?_<;>intro hc<;>try exact jz)|refine ar ?_|exact jI|(clear hK K)))
  (refine bV [.tmp 4] ?_ ?_<;>(try simp only[go_sem]))
def SS(n:Nat)(hx:tN n)(Ui:DF n):FD n:=by
 intro c a h he h0 h1 hn hk;have hz:=h.size;have hv:=h.vars;obtain⟨sh,Vc⟩:=vK h h0 h1;have Ux:∀i,i<(c.node a).l.length->(c.aF a i).toNat<n/\0<=c.aF a i/\c.aF a i<c.aa.nodes.length:=fun i hi=>by have hm:c.aF a i∈(c.node a).l:=fg hi;have:=Vc _ hm;omega
 have ev0:=nE c a;have Xp:=h.ev ev0;have TV:=Hj c a h h0 h1;unfold fq cQ at hk;have e19:(c.node a).kind=1\/(c.node a).kind=19\/(c.node a).kind=2\/(c.node a).kind=3\/(c.node a).kind=4\/(c.node a).kind=21\/(c.node a).kind=5\/(c.node a).kind=9\/(c.node a).kind=6\/(c.node a).kind=7\/(c.node a).kind=8\/(c.node a).kind=20:=jB;rcases e19 with k|k|k|k|k|k|k|k|k|k|k|k
 ·have T4:(nth c.aa.nodes a.toNat).kind=1:=k;rw[show cr (az n) c a=(c,1) from by unfold cr;rw[k];rfl];refine aM func257 ntmps257 ?_;refine S ?_
  (have W:=T4;repeat' (first|refine aq fun K hK=>?_|refine ap ?_|(refine hK _ _ ?_;clear hK K)|(refine ao ?_ ?_<;>intro hc<;>try exact jz)|refine ar ?_|exact jI|(clear hK K)))
  (refine aY [.tmp 4] ?_;try simp only[go_sem])
 ·have T4:(nth c.aa.nodes a.toNat).kind=19:=k;rw[show cr (az n) c a=(c,1) from by unfold cr;rw[k];rfl];refine aM func257 ntmps257 ?_;refine S ?_
  (have W:=T4;repeat' (first|refine aq fun K hK=>?_|refine ap ?_|(refine hK _ _ ?_;clear hK K)|(refine ao ?_ ?_<;>intro hc<;>try exact jz)|refine ar ?_|exact jI|(clear hK K)))
  (refine aY [.tmp 4] ?_;try simp only[go_sem])
 ·have T4:(nth c.aa.nodes a.toNat).kind=2:=k;rw[show cr (az n) c a=(c,2) from by unfold cr;rw[k];rfl];refine aM func257 ntmps257 ?_;refine S ?_
  (have W:=T4;repeat' (first|refine aq fun K hK=>?_|refine ap ?_|(refine hK _ _ ?_;clear hK K)|(refine ao ?_ ?_<;>intro hc<;>try exact jz)|refine ar ?_|exact jI|(clear hK K)))
  (refine aY [.tmp 4] ?_;try simp only[go_sem])
 ·have T4:(nth c.aa.nodes a.toNat).kind=3:=k;rw[show cr (az n) c a=(c,3) from by unfold cr;rw[k];rfl];refine aM func257 ntmps257 ?_;refine S ?_
  (have W:=T4;repeat' (first|refine aq fun K hK=>?_|refine ap ?_|(refine hK _ _ ?_;clear hK K)|(refine ao ?_ ?_<;>intro hc<;>try exact jz)|refine ar ?_|exact jI|(clear hK K)))
  (refine aY [.tmp 4] ?_;try simp only[go_sem])
 ·have T4:(nth c.aa.nodes a.toNat).kind=4:=k;rw[show cr (az n) c a=c.named a from by unfold cr;rw[k];rfl];refine aM func257 ntmps257 ?_;refine S ?_
  (have W:=T4;repeat' (first|refine aq fun K hK=>?_|refine ap ?_|(refine hK _ _ ?_;clear hK K)|(refine ao ?_ ?_<;>intro hc<;>try exact jz)|refine cm (TV) ?_|refine ar ?_|exact jI|(clear hK K)))
  (refine aY [.tmp 4] ?_;try simp only[go_sem])
 ·have T4:(nth c.aa.nodes a.toNat).kind=21:=k;rw[show cr (az n) c a=iS (az n) c a from by unfold cr;rw[k];rfl];have Tx:=Ui c a h h0 h1 hn k;refine aM func257 ntmps257 ?_;refine S ?_
  (have W:=T4;repeat' (first|refine aq fun K hK=>?_|refine ap ?_|(refine hK _ _ ?_;clear hK K)|(refine ao ?_ ?_<;>intro hc<;>try exact jz)|refine cm (Tx) ?_|refine ar ?_|exact jI|(clear hK K)))
  (refine aY [.tmp 4] ?_;try simp only[go_sem])
 ·have T4:(nth c.aa.nodes a.toNat).kind=5:=k;obtain⟨x,hl,Ua⟩:=sh.one jB;have Vp:(c.node a).l.length=1:=by rw[hl];rfl
  have U6:(nth c.aa.nodes a.toNat).l.length=1:=Vp;obtain⟨g1,g2,g3⟩:=Ux 0 jB;have WD:fq (c.node (c.aF a 0)).kind:=by
   have:c.aF a 0=x:=by unfold Ck.aF;rw[hl];rfl
   rw[this];exact .inl Ua
  have hex:=hx (c.named a).1 (c.aF a 0) Xp g2 (by rw[ev0.aa];exact g3) g1 (by rw[ev0.node];exact WD);have hm:=oo (az n (c.named a).1 (c.aF a 0)).1 (decide ((c.named a).2=4) && decide ((az n (c.named a).1 (c.aF a 0)).2=1)) a;rw[show cr (az n) c a=((az n (c.named a).1 (c.aF a 0)).1.av (decide ((c.named a).2=4) && decide ((az n (c.named a).1 (c.aF a 0)).2=1)) a,1) from by unfold cr;rw[k];rfl];refine aM func257 ntmps257 ?_;refine S ?_
  (have W:=T4;repeat' (first|refine aq fun K hK=>?_|refine ap ?_|(refine hK _ _ ?_;clear hK K)|(refine ao ?_ ?_<;>intro hc<;>try exact jz)|refine cm (TV) ?_|refine cm (hex) ?_|refine cm (hm) ?_|refine ar ?_|exact jI|(clear hK K)))
  (refine aY [.tmp 4] ?_;try simp only[go_sem])
 ·have T4:(nth c.aa.nodes a.toNat).kind=9:=k;obtain⟨x,y,hl,Ua,WT⟩:=sh.two jB;have Vp:(c.node a).l.length=2:=by rw[hl];rfl
  have U6:(nth c.aa.nodes a.toNat).l.length=2:=Vp;obtain⟨g1,g2,g3⟩:=Ux 0 jB;obtain⟨g4,g5,g6⟩:=Ux 1 jB;have WD:fq (c.node (c.aF a 0)).kind:=by
   have:c.aF a 0=x:=by unfold Ck.aF;rw[hl];rfl
   rw[this];exact .inl Ua
  have hky:fq (c.node (c.aF a 1)).kind:=by
   have:c.aF a 1=y:=by unfold Ck.aF;rw[hl];rfl
   rw[this];exact .inl WT
  have ev1:=fk n c (c.aF a 0);have hex:=hx c (c.aF a 0) h g2 g3 g1 WD;have hey:=hx (az n c (c.aF a 0)).1 (c.aF a 1) (h.ev ev1) g5 (by rw[ev1.aa];exact g6) g4 (by rw[ev1.node];exact hky);have hb:=QI (c.node a).name (az n c (c.aF a 0)).2 (az n (az n c (c.aF a 0)).1 (c.aF a 1)).2;have hm:=oo (az n (az n c (c.aF a 0)).1 (c.aF a 1)).1 (!decide (lO (c.node a).name (az n c (c.aF a 0)).2 (az n (az n c (c.aF a 0)).1 (c.aF a 1)).2=0)) a;rw[show cr (az n) c a=((az n (az n c (c.aF a 0)).1 (c.aF a 1)).1.av (!decide (lO (c.node a).name (az n c (c.aF a 0)).2 (az n (az n c (c.aF a 0)).1 (c.aF a 1)).2=0)) a,lO (c.node a).name (az n c (c.aF a 0)).2 (az n (az n c (c.aF a 0)).1 (c.aF a 1)).2) from by unfold cr;rw[k];rfl];refine aM func257 ntmps257 ?_;refine S ?_
  (have W:=T4;repeat' (first|refine aq fun K hK=>?_|refine ap ?_|(refine hK _ _ ?_;clear hK K)|(refine ao ?_ ?_<;>intro hc<;>try exact jz)|refine cm (hex) ?_|refine cm (hey) ?_|refine cp (hb) ?_|refine cm (hm) ?_|refine ar ?_|exact jI|(clear hK K)))
  (refine aY [.tmp 4] ?_;try simp only[go_sem])
 ·have T4:(nth c.aa.nodes a.toNat).kind=6:=k;obtain⟨x,hl,Ua⟩:=sh.one jB;have Vp:(c.node a).l.length=1:=by rw[hl];rfl
  have U6:(nth c.aa.nodes a.toNat).l.length=1:=Vp;obtain⟨g1,g2,g3⟩:=Ux 0 jB;have WD:fq (c.node (c.aF a 0)).kind:=by
   have:c.aF a 0=x:=by unfold Ck.aF;rw[hl];rfl
   rw[this];exact .inl Ua
  have hex:=hx c (c.aF a 0) h g2 g3 g1 WD;have hm:=oo (az n c (c.aF a 0)).1 (decide ((az n c (c.aF a 0)).2=3) || decide ((az n c (c.aF a 0)).2=4)) a;rw[show cr (az n) c a=((az n c (c.aF a 0)).1.av (decide ((az n c (c.aF a 0)).2=3) || decide ((az n c (c.aF a 0)).2=4)) a,1) from by unfold cr;rw[k];rfl];refine aM func257 ntmps257 ?_;refine S ?_
  (have W:=T4;repeat' (first|refine aq fun K hK=>?_|refine ap ?_|(refine hK _ _ ?_;clear hK K)|(refine ao ?_ ?_<;>intro hc<;>try exact jz)|refine cm (hex) ?_|refine cm (hm) ?_|refine ar ?_|exact jI|(clear hK K)))
  (refine aY [.tmp 4] ?_;try simp only[go_sem])
 ·have T4:(nth c.aa.nodes a.toNat).kind=7:=k;obtain⟨x,hl,Ua⟩:=sh.one jB;have Vp:(c.node a).l.length=1:=by rw[hl];rfl
  have U6:(nth c.aa.nodes a.toNat).l.length=1:=Vp;obtain⟨g1,g2,g3⟩:=Ux 0 jB;have WD:fq (c.node (c.aF a 0)).kind:=by
   have:c.aF a 0=x:=by unfold Ck.aF;rw[hl];rfl
   rw[this];exact .inl Ua
  have hex:=hx c (c.aF a 0) h g2 g3 g1 WD;have hm:=oo (az n c (c.aF a 0)).1 (decide ((az n c (c.aF a 0)).2=1)) a;rw[show cr (az n) c a=((az n c (c.aF a 0)).1.av (decide ((az n c (c.aF a 0)).2=1)) a,1) from by unfold cr;rw[k];rfl];refine aM func257 ntmps257 ?_;refine S ?_
  (have W:=T4;repeat' (first|refine aq fun K hK=>?_|refine ap ?_|(refine hK _ _ ?_;clear hK K)|(refine ao ?_ ?_<;>intro hc<;>try exact jz)|refine cm (hex) ?_|refine cm (hm) ?_|refine ar ?_|exact jI|(clear hK K)))
  (refine aY [.tmp 4] ?_;try simp only[go_sem])
 ·have T4:(nth c.aa.nodes a.toNat).kind=8:=k;obtain⟨x,hl,Ua⟩:=sh.one jB;have Vp:(c.node a).l.length=1:=by rw[hl];rfl
  have U6:(nth c.aa.nodes a.toNat).l.length=1:=Vp;obtain⟨g1,g2,g3⟩:=Ux 0 jB;have WD:fq (c.node (c.aF a 0)).kind:=by
   have:c.aF a 0=x:=by unfold Ck.aF;rw[hl];rfl
   rw[this];exact .inl Ua
  have hex:=hx c (c.aF a 0) h g2 g3 g1 WD;have hm:=oo (az n c (c.aF a 0)).1 (decide ((az n c (c.aF a 0)).2=2)) a;rw[show cr (az n) c a=((az n c (c.aF a 0)).1.av (decide ((az n c (c.aF a 0)).2=2)) a,2) from by unfold cr;rw[k];rfl];refine aM func257 ntmps257 ?_;refine S ?_
  (have W:=T4;repeat' (first|refine aq fun K hK=>?_|refine ap ?_|(refine hK _ _ ?_;clear hK K)|(refine ao ?_ ?_<;>intro hc<;>try exact jz)|refine cm (hex) ?_|refine cm (hm) ?_|refine ar ?_|exact jI|(clear hK K)))
  (refine aY [.tmp 4] ?_;try simp only[go_sem])
 ·have T4:(nth c.aa.nodes a.toNat).kind=20:=k;obtain⟨x,hl,Ua⟩:=sh.one jB;have Vp:(c.node a).l.length=1:=by rw[hl];rfl
  have U6:(nth c.aa.nodes a.toNat).l.length=1:=Vp;obtain⟨g1,g2,g3⟩:=Ux 0 jB;have WD:fq (c.node (c.aF a 0)).kind:=by
   have:c.aF a 0=x:=by unfold Ck.aF;rw[hl];rfl
   rw[this];exact .inl Ua
  have hex:=hx c (c.aF a 0) h g2 g3 g1 WD;have hm:=oo (az n c (c.aF a 0)).1 (decide ((az n c (c.aF a 0)).2=1)) a;rw[show cr (az n) c a=((az n c (c.aF a 0)).1.av (decide ((az n c (c.aF a 0)).2=1)) a,4) from by unfold cr;rw[k];rfl];refine aM func257 ntmps257 ?_;refine S ?_
  (have W:=T4;repeat' (first|refine aq fun K hK=>?_|refine ap ?_|(refine hK _ _ ?_;clear hK K)|(refine ao ?_ ?_<;>intro hc<;>try exact jz)|refine cm (hex) ?_|refine cm (hm) ?_|refine ar ?_|exact jI|(clear hK K)))
  (refine aY [.tmp 4] ?_;try simp only[go_sem])
def ub(a:Int)(c:Ck)(ps:List bK):iv a c [] ps=c:=by cases ps<;>rfl
def tJ(a:Int)(c:Ck)(ts:TG):iv a c ts []=c:=by cases ts<;>rfl
theorem Ik{α:Type}(f:α->TI)(nm:TI):∀(l:List α) (i k:Int),0<=i->(jt f nm l i k=k\/i<=jt f nm l i k)/\(jt f nm l i k=k\/jt f nm l i k<i+l.length)
 |[],i,k,_=>by unfold jt;exact⟨.inl rfl,.inl rfl⟩
 |v::l,i,k,hi=>by
  unfold jt;obtain⟨h1,h2⟩:=Ik f nm l (i+1) (if f v=nm then i else k) jB;simp only[List.length_cons];split at h1<;>rename_i hv
  ·rw[if_pos hv]at h2 ⊢;omega
  ·rw[if_neg hv]at h2 ⊢;omega
def Oq(n:Nat)(hx:tN n):DF n:=by
 intro c a h h0 h1 hn hk;have hz:=h.size;have hv:=h.vars;have htf:=h.aa.aw;have WU:=h.aa.many;obtain⟨sh,Vc⟩:=vK h h0 h1;have hck:=h.aa.chain;have I':(nth c.aa.nodes a.toNat).l.length<=300:=yR h h0 h1;have Xa:∀i,i<(c.node a).l.length->fq (c.node (nth (c.node a).l i)).kind/\(nth (c.node a).l i).toNat<n/\0<=nth (c.node a).l i/\nth (c.node a).l i<c.aa.nodes.length:=fun i hi=>by have hm:nth (c.node a).l i∈(c.node a).l:=fg hi;have:=Vc _ hm;exact⟨.inl (sh.call hk _ hm),jB,this.1,jB⟩
 obtain⟨lg1,lg2⟩:=Ik bg.name (c.node a).name c.aa.aw 0 (-1) jB;have lg1:fK c a=-1\/0<=fK c a:=lg1;have lg2:fK c a=-1\/fK c a<0+c.aa.aw.length:=lg2;refine aM func271 ntmps271 ?_;refine S ?_
 (repeat' (first|refine aq fun K hK=>?_|refine ap ?_|(refine hK _ _ ?_;clear hK K)|(refine ao ?_ ?_<;>intro hc<;>try exact jz)|refine ar ?_|exact jI|(clear hK K)))
 have TX:=hK;clear hK;refine dV (S:=Nat×Int) [(6,2),(22,25)] (fun s=>s.1<=c.aa.aw.length/\jt bg.name (c.node a).name (c.aa.aw.drop s.1) s.1 s.2=fK c a) (fun s=>[(7,rI s.1),(6,rI s.2)]) (fun _=>⟨[0,1,2,3,4,5],fG c++[(6,.var 116 (eF (c.node a)))]⟩) (fun s=>c.aa.aw.length-s.1) (0,-1) ⟨jJ,rfl⟩ (dS jy cv) ?_;rintro⟨k,j⟩ ⟨Ue,TY⟩ Kr TR;simp only at Ue TY
 (refine S ?_;try exact jI)
 by_cases O':k<c.aa.aw.length
 ·rw[kP O']at TY;unfold jt at TY
  (repeat' (first|refine aq fun K hK=>?_|refine ap ?_|(with_reducible refine gR 6 ?_);refine dE 6 (aW 0 13) mixed ?_|(refine hK _ _ ?_;clear hK K)|(refine ao ?_ ?_<;>intro hc<;>try exact jz)|refine ar ?_|exact jI|(clear hK K)))
  ·rw[if_pos hc]at TY;refine TR _ _ (eu (k+1,(k:Int)) ⟨jJ,by rw[<-TY];rfl⟩ jJ jy cv)
  ·rw[if_neg hc]at TY;refine TR _ _ (eu (k+1,j) ⟨jJ,by rw[<-TY];rfl⟩ jJ jy cv)
 ·rw[List.drop_eq_nil_of_le jB]at TY;have TY:j=fK c a:=TY;subst TY;by_cases ZY:fK c a<0
  ·rw[iS,if_pos ZY]at*
   (repeat' (first|refine aq fun K hK=>?_|refine ap ?_|(refine hK _ _ ?_;clear hK K)|(refine ao ?_ ?_<;>intro hc<;>try exact jz)|refine TX _ _ ?_|refine cm (su c 40 a) ?_|refine ar ?_|exact jI|(clear hK K)))
   (refine aY [.tmp 4] ?_;try simp only[go_sem])
  ·have Xo:0<=fK c a:=jB;have Xm:(fK c a).toNat<c.aa.aw.length:=jB;have hfp:=(h.aa.fn _ (fg Xm)).2;have e0:iS (az n) c a=(iv a (if(c.node a).l.length≠(nth c.aa.aw (fK c a).toNat).params.length then(gv (az n) c (c.node a).l []).1.aE 43 a else(gv (az n) c (c.node a).l []).1) (gv (az n) c (c.node a).l []).2 (nth c.aa.aw (fK c a).toNat).params,(nth c.aa.aw (fK c a).toNat).ret):=by
    rw[iS,if_neg ZY]
   (repeat' (first|refine aq fun K hK=>?_|refine ap ?_|(refine hK _ _ ?_;clear hK K)|(refine ao ?_ ?_<;>intro hc<;>try exact jz)|refine TX _ _ ?_|refine ar ?_|exact jI|(clear hK K)))
   have XJ:=hK;clear hK;refine jq (dL.nil 8 9 3 (sz:=1) rfl jC (Or.inr ⟨_,_,_,rfl,rfl⟩)) ?_
   (refine S ?_;try exact jI)
   refine dV (S:=Nat×Ck×TG) [(9,3),(62,25)] (fun s=>s.1<=(c.node a).l.length/\Ev c s.2.1/\s.2.2.length=s.1/\gv (az n) s.2.1 ((c.node a).l.drop s.1) s.2.2=gv (az n) c (c.node a).l []) (fun s=>[(10,rI s.1),(9,.rs 8 s.2.2.length 1 s.2.2.length)]) (fun s=>⟨[0,1,2,3,4,5],fG s.2.1++[(6,.var 116 (eF (c.node a))),(7,.var 181 (fV (nth c.aa.aw (fK c a).toNat))),(8,.aG 3 1 (s.2.2.map eI))]⟩) (fun s=>(c.node a).l.length-s.1) (0,c,[]) ⟨jJ,.refl c,rfl,rfl⟩ (dS jy cv) ?_;rintro⟨i,q,ts⟩ ⟨Wc,ev,hts,hA⟩ Kr2 Xc;simp only at Wc ev hts hA;have hq:=h.ev ev;have lt1:=hq.types;have lt2:=hq.slots;have lt3:=hq.aw;have lt4:=hq.vars;have lt5:=hq.size;have hlq:(c.node a).l.length<=300:=I'
   (refine S ?_;try exact jI)
   by_cases UR:i<(c.node a).l.length/\q.e=0
   ·obtain⟨Uo,Vd⟩:=UR;rw[kP Uo,gv,if_pos Vd]at hA;obtain⟨g1,g2,g3,g4⟩:=Xa i Uo;have hxc:=hx q (nth (c.node a).l i) hq g3 (by rw[ev.aa];exact g4) g2 (by rw[ev.node];exact g1)
    (have W:=Vd;repeat' (first|refine aq fun K hK=>?_|refine ap ?_|(refine hK _ _ ?_;clear hK K)|(refine ao ?_ ?_<;>intro hc<;>try exact jz)|refine cm (hxc) ?_|refine ar ?_|exact jI|(clear hK K)))
    refine Xc _ _ (eu (i+1,(az n q (nth (c.node a).l i)).1,ts++[(az n q (nth (c.node a).l i)).2]) ⟨jJ,ev.trans (fk _ _ _),by simp[hts],hA⟩ jJ jy cv)
   have hA2:gv (az n) c (c.node a).l []=(q,ts):=by
    rw[<-hA];by_cases Uo:i<(c.node a).l.length
    ·rw[kP Uo,gv,if_neg fun e=>UR ⟨Uo,e⟩]
    ·rw[List.drop_eq_nil_of_le jB,gv]
   have WC:q=(gv (az n) c (c.node a).l []).1:=by rw[hA2]
   have ZZ:ts=(gv (az n) c (c.node a).l []).2:=by rw[hA2]
   by_cases UK:(c.node a).l.length≠(nth c.aa.aw (fK c a).toNat).params.length
   ·have Y8:(((c.node a).l.length:Int)=((nth c.aa.aw (fK c a).toNat).params.length:Int))=False:=eq_false jB;have WV:(q.aE 43 a).e≠0:=by unfold Ck.aE;split;(exact fun h=>by cases h);assumption
    have evx:Ev c (q.aE 43 a):=ev.trans (n8 q jC a);have hb:((q.aE 43 a)).e=0->ts.length<=(nth c.aa.aw (fK c a).toNat).params.length:=fun h=>(WV h).elim
    (have W:=Y8;repeat' (first|refine aq fun K hK=>?_|refine ap ?_|(refine hK _ _ ?_;clear hK K)|(refine ao ?_ ?_<;>intro hc<;>try exact jz)|(refine XJ _ _ ?_)|refine cm (su q 43 a) ?_|refine ar ?_|exact jI|(clear hK K)))
    have Y9:=hK;clear hK;refine dV (S:=Nat×Ck) [(12,1),(97,27)] (fun s=>s.1<=ts.length/\Ev (q.aE 43 a) s.2/\iv a s.2 (ts.drop s.1) ((nth c.aa.aw (fK c a).toNat).params.drop s.1)=iv a (q.aE 43 a) ts (nth c.aa.aw (fK c a).toNat).params) (fun s=>[(12,rI s.1)]) (fun s=>⟨[0,1,2,3,4,5],fG s.2++[(6,.var 116 (eF (c.node a))),(7,.var 181 (fV (nth c.aa.aw (fK c a).toNat))),(8,.aG 3 1 (ts.map eI))]⟩) (fun s=>ts.length-s.1) (0,(q.aE 43 a)) ⟨jJ,.refl _,rfl⟩ (dS jy cv) ?_;rintro⟨m,z⟩ ⟨V9,VA,UZ⟩ Kr3 Z0;simp only at V9 VA UZ
    (refine S ?_;try exact jI)
    by_cases UR:m<ts.length/\z.e=0
    ·obtain⟨Uo,Vd⟩:=UR;have Wn:((q.aE 43 a)).e=0:=Classical.byContradiction fun h=>VA.err h Vd
     exact(WV Wn).elim
    ·have hz:z=iv a (q.aE 43 a) ts (nth c.aa.aw (fK c a).toNat).params:=by
      by_cases Uo:m<ts.length
      ·have Vd:z.e≠0:=fun e=>UR ⟨Uo,e⟩
       rw[kP Uo]at UZ;cases hp:(nth c.aa.aw (fK c a).toNat).params.drop m with
       |nil=>rw[hp,tJ]at UZ;exact UZ
       |cons x y=>rw[hp,iv,if_neg Vd]at UZ;exact UZ
      ·rw[List.drop_eq_nil_of_le jB,ub]at UZ;exact UZ
     (repeat' (first|refine aq fun K hK=>?_|refine ap ?_|(refine hK _ _ ?_;clear hK K)|(refine ao ?_ ?_<;>intro hc<;>try exact jz)|(refine Y9 _ _ ?_)|refine ar ?_|exact jI|(clear hK K)))
     all_goals first|(exact absurd ⟨jB,by assumption⟩ UR)|skip
     have e1:iS (az n) c a=(z,(nth c.aa.aw (fK c a).toNat).ret):=by rw[e0,if_pos UK,<-WC,<-ZZ,hz]
     all_goals(
      rw[e1]
      (refine aY [.tmp 4] ?_;try simp only[go_sem]))
   ·have Y8:((c.node a).l.length:Int)=((nth c.aa.aw (fK c a).toNat).params.length:Int):=jB;have WV:True:=trivial;have evx:Ev c q:=ev;have hb:(q).e=0->ts.length<=(nth c.aa.aw (fK c a).toNat).params.length:=fun _=>jB
    (have W:=Y8;repeat' (first|refine aq fun K hK=>?_|refine ap ?_|(refine hK _ _ ?_;clear hK K)|(refine ao ?_ ?_<;>intro hc<;>try exact jz)|(refine XJ _ _ ?_)|refine ar ?_|exact jI|(clear hK K)))
    have Y9:=hK;clear hK;refine dV (S:=Nat×Ck) [(12,1),(97,27)] (fun s=>s.1<=ts.length/\Ev q s.2/\iv a s.2 (ts.drop s.1) ((nth c.aa.aw (fK c a).toNat).params.drop s.1)=iv a q ts (nth c.aa.aw (fK c a).toNat).params) (fun s=>[(12,rI s.1)]) (fun s=>⟨[0,1,2,3,4,5],fG s.2++[(6,.var 116 (eF (c.node a))),(7,.var 181 (fV (nth c.aa.aw (fK c a).toNat))),(8,.aG 3 1 (ts.map eI))]⟩) (fun s=>ts.length-s.1) (0,q) ⟨jJ,.refl _,rfl⟩ (dS jy cv) ?_;rintro⟨m,z⟩ ⟨V9,VA,UZ⟩ Kr3 Z0;simp only at V9 VA UZ
    (refine S ?_;try exact jI)
    by_cases UR:m<ts.length/\z.e=0
    ·obtain⟨Uo,Vd⟩:=UR;have Wn:(q).e=0:=Classical.byContradiction fun h=>VA.err h Vd
     have hmp:m<(nth c.aa.aw (fK c a).toNat).params.length:=by have:=hb Wn;omega
     rw[kP Uo,kP hmp,iv,if_pos Vd]at UZ
     (have W:=Vd;repeat' (first|refine aq fun K hK=>?_|refine ap ?_|(with_reducible refine gR 23 ?_);refine dE 23 (aW 0 14) mixed ?_|(refine hK _ _ ?_;clear hK K)|(refine ao ?_ ?_<;>intro hc<;>try exact jz)|refine cm (oo z (decide (nth ts m=(nth (nth c.aa.aw (fK c a).toNat).params m).ty)) a) ?_|refine ar ?_|exact jI|(clear hK K)))
     refine Z0 _ _ (eu (m+1,z.av (decide (nth ts m=(nth (nth c.aa.aw (fK c a).toNat).params m).ty)) a) ⟨jJ,VA.trans (ky _ _ _),UZ⟩ jJ jy cv)
    ·have hz:z=iv a q ts (nth c.aa.aw (fK c a).toNat).params:=by
      by_cases Uo:m<ts.length
      ·have Vd:z.e≠0:=fun e=>UR ⟨Uo,e⟩
       rw[kP Uo]at UZ;cases hp:(nth c.aa.aw (fK c a).toNat).params.drop m with
       |nil=>rw[hp,tJ]at UZ;exact UZ
       |cons x y=>rw[hp,iv,if_neg Vd]at UZ;exact UZ
      ·rw[List.drop_eq_nil_of_le jB,ub]at UZ;exact UZ
     (repeat' (first|refine aq fun K hK=>?_|refine ap ?_|(refine hK _ _ ?_;clear hK K)|(refine ao ?_ ?_<;>intro hc<;>try exact jz)|(refine Y9 _ _ ?_)|refine ar ?_|exact jI|(clear hK K)))
     all_goals first|(exact absurd ⟨jB,by assumption⟩ UR)|skip
     have e1:iS (az n) c a=(z,(nth c.aa.aw (fK c a).toNat).ret):=by rw[e0,if_neg UK,<-WC,<-ZZ,hz]
     all_goals(
      rw[e1]
      (refine aY [.tmp 4] ?_;try simp only[go_sem]))
structure Sv(c c':Ck):Prop where
 aa:c'.aa=c.aa
 fn:c'.fn=c.fn
 aP:c'.aP=c.aP
 err:c.e≠0->c'.e≠0
 inv:bE c'
 pre:∃u,c'.vars=c.vars++u
def Sv.refl{c:Ck}(h:bE c):Sv c c:=⟨rfl,rfl,rfl,id,h,[],jE⟩
def Sv.iz{c c':Ck}(h:bE c)(s:Ev c c'):Sv c c':=⟨s.aa,s.fn,s.aP,s.err,h.ev s,[],by rw[s.vars];simp⟩
theorem Sv.trans{a b c:Ck}(h:Sv a b)(k:Sv b c):Sv a c:=⟨k.aa.trans h.aa,k.fn.trans h.fn,k.aP.trans h.aP,fun e=>k.err (h.err e),k.inv,by obtain⟨u,hu⟩:=h.pre;obtain⟨v,hv⟩:=k.pre;exact⟨u++v,by rw[hv,hu,List.append_assoc]⟩⟩
def iD(ex:Ck->Int->Ck×Int)(c:Ck)(a:Int):Ck:=(ex c (c.aF a 0)).1.av (!decide ((ex c (c.aF a 0)).2=0)) a
def js(ex:Ck->Int->Ck×Int)(c:Ck)(a:Int):Ck:=if 0<=(iD ex c a).find (c.node a).name then(iD ex c a).aE 41 a else iD ex c a
def eH(ex:Ck->Int->Ck×Int)(c:Ck)(a:Int):Ck:=if 24<=(js ex c a).size then(js ex c a).aE 4 a else js ex c a
def Cr(c:Ck)(a:Int)(v:bD):Ck:={ (c.slot a c.size)with vars:=c.vars++[v],more:=c.more.drop 1,size:=c.size+1 }
def tT(ex:Ck->Int->Ck×Int)(c:Ck)(a:Int):o5 ex c a=Cr (eH ex c a) a ⟨(c.node a).name,(ex c (c.aF a 0)).2,(eH ex c a).size⟩:=rfl
def Aa(hex:∀c a,Ev c (ex c a).1)(c:Ck)(a:Int):Ev c (iD ex c a):=(hex c _).trans (ky _ _ _)
def AN(hex:∀c a,Ev c (ex c a).1)(c:Ck)(a:Int):Ev c (js ex c a):=by
 unfold js;split
 ·exact(Aa hex c a).trans (n8 _ jC a)
 ·exact Aa hex c a
def yo(hex:∀c a,Ev c (ex c a).1)(c:Ck)(a:Int):Ev c (eH ex c a):=by
 unfold eH;split
 ·exact(AN hex c a).trans (n8 _ jC a)
 ·exact AN hex c a
def Sz{c:Ck}(h:(eH ex c a).e=0):(eH ex c a).size<24:=by
 unfold eH at h ⊢;split
 ·rename_i hs;rw[if_pos hs]at h;exfalso;unfold Ck.aE at h;split at h
  ·cases h
  ·contradiction
 ·omega
def Ms{c:Ck}(h:bE c)(a:Int)(v:bD)(h24:c.size<=24)(hr:c.e=0->c.size<24):Sv c (Cr c a v):=by refine⟨rfl,rfl,rfl,id,⟨h.aa,h.types,by show(c.slots.set _ _).length=_;rw[List.length_set];exact h.slots,h.aw,h.aP,h.uR,h.vA,?_,by show c.size+1<=25;omega,fun e=>by show c.size+1<=24;have:=hr e;omega⟩,[v],rfl⟩;show((c.vars++[v]).length:Int)<=c.size+1;have:=h.vars;simp;omega
def Ov(hex:∀c a,Ev c (ex c a).1){c:Ck}(h:bE c)(he:c.e=0)(a:Int):Sv c (o5 ex c a):=by rw[tT];have s:=yo hex c a;refine(Sv.iz h s).trans (Ms (h.ev s) a _ ?_ Sz);rw[s.size];exact h.room he
def RQ(hex:∀c a,Ev c (ex c a).1){c:Ck}(h:bE c)(a:Int):Sv c (kH ex c a):=by
 refine Sv.iz h ?_;unfold kH;simp only;split
 ·exact n8 c jC a
 split
 ·exact(hex c _).trans (ky _ _ _)
 ·exact .refl c
theorem qQ{st:Ck->Int->Ck}(P':∀c a,bE c->c.e=0->Sv c (st c a)):∀(l:TG) (c:Ck),bE c->Sv c (dK st c l)
 |[],c,h=>by unfold dK;exact .refl h
 |a::l,c,h=>by
  unfold dK;split
  ·rename_i he;have s:=P' c a h he;exact s.trans (qQ P' l _ s.inv)
  ·exact .refl h
def qs{st:Ck->Int->Ck}(P':∀c a,bE c->c.e=0->Sv c (st c a)){c:Ck}(h:bE c)(a:Int):Sv c (fl st c a)/\(fl st c a).vars=c.vars:=by
 have s:=(Sv.iz h (ri c a)).trans (qQ P' (c.node a).l _ (h.ev (ri c a)));obtain⟨u,hu⟩:=s.pre;have hv:(dK st (c.ai a) (c.node a).l).vars.take (min c.vars.length (dK st (c.ai a) (c.node a).l).vars.length)=c.vars:=by rw[hu,Nat.min_eq_left jE,List.take_left'];rfl
 have hi:=s.inv;refine⟨⟨s.aa,s.fn,s.aP,s.err,⟨hi.aa,hi.types,hi.slots,hi.aw,hi.aP,hi.uR,hi.vA,?_,hi.size,hi.room⟩,[],by rw[List.append_nil];exact hv⟩,hv⟩;have:=hi.vars;show(((dK st (c.ai a) (c.node a).l).vars.take _).length:Int)<=_;rw[List.length_take];show _<=(dK st (c.ai a) (c.node a).l).size;omega
theorem ot:∀(n:Nat) (c:Ck) (a:Int),bE c->c.e=0->Sv c (bP n c a)
 |0,c,a,h,he=>by unfold bP;exact .refl h
 |n+1,c,a,h,he=>by
  have e0:=ri c a;have h0:=h.ev e0;have s0:=Sv.iz h e0;have hx:=fk n;unfold bP;simp only;repeat' split
  ·exact s0.trans (Ov hx h0 he a)
  ·exact s0.trans (Sv.iz h0 (((nE _ a).trans (hx _ _)).trans (ky _ _ _)))
  ·exact s0.trans (Sv.iz h0 ((((nE _ a).trans (hx _ _)).trans (hx _ _)).trans (ky _ _ _)))
  ·exact s0.trans (Sv.iz h0 (hx _ _))
  ·exact s0.trans (Sv.iz h0 ((hx _ _).trans (ky _ _ _)))
  ·exact s0.trans (RQ hx h0 a)
  ·have s1:=s0.trans (Sv.iz h0 ((hx (c.ai a) ((c.ai a).aF a 0)).trans (ky _ (decide ((az n (c.ai a) ((c.ai a).aF a 0)).2=2)) a)));exact s1.trans (qQ (fun q b hq _=>(qs (ot n) hq b).1) _ _ s1.inv)
def A8(n:Nat):Prop:=∀(c:Ck) (a:Int),bE c->c.e=0->0<=a->a<c.aa.nodes.length->a.toNat<n->fw (c.node a).kind->ab prog 197 [pR,rI a] (fG c) (fun v l=>v=.aQ []/\l=fG (bP n c a))
def Hm(n:Nat):Prop:=∀(c:Ck) (a:Int),bE c->0<=a->a<c.aa.nodes.length->a.toNat<=n->(c.node a).kind=18->ab prog 152 [pR,rI a] (fG c) (fun v l=>v=.aQ []/\l=fG (fl (bP n) c a))
attribute [go_sem] Cr List.length_drop
def O9(n:Nat)(hx:tN n)(c:Ck)(a:Int)(h:bE c)(he:c.e=0)(h0:0<=a)(h1:a<c.aa.nodes.length)(hn:a.toNat<=n)(hk:(c.node a).kind=10):ab prog 234 [pR,rI a] (fG c) (fun v l=>v=.aQ []/\l=fG (o5 (az n) c a)):=by
 obtain⟨sh,Vc⟩:=vK h h0 h1;obtain⟨x,hl,Ua⟩:=sh.right jB;have U6:(nth c.aa.nodes a.toNat).l.length=1:=by
  have:(c.node a).l.length=1:=by rw[hl];rfl
  exact this
 have WD:c.aF a 0=x:=by unfold Ck.aF;rw[hl];rfl
 have hm:=Vc x (by rw[hl];simp);have hex:=hx c (c.aF a 0) h jB jB jB (by rw[WD];exact Ua);have Uy:ab prog 237 _ _ (fun v l=>v=.aQ []/\l=fG (iD (az n) c a)):=oo (az n c (c.aF a 0)).1 (!decide ((az n c (c.aF a 0)).2=0)) a;have eA:=Aa (fk n) c a;have eB:=AN (fk n) c a;have eC:=yo (fk n) c a;have hA:=h.ev eA;have hC:=h.ev eC;have UI:=CZ (iD (az n) c a) (c.node a).name hA;have XI:=su (iD (az n) c a) 41 a;have Yf:=su (js (az n) c a) 4 a;have UM:=hC.slots;have hcz:=hC.size;have Xk:=hC.vars;have WH:=eC.size;have hc24:=h.room he;rw[eC.aa]at UM;rw[tT];refine aM func234 ntmps234 ?_
 (refine S ?_;try exact jI)
 by_cases c1:0<=(iD (az n) c a).find (c.node a).name
 ·have e1:js (az n) c a=(iD (az n) c a).aE 41 a:=if_pos c1;rw[<-e1]at XI;by_cases c2:24<=(js (az n) c a).size
  ·have e2:eH (az n) c a=(js (az n) c a).aE 4 a:=if_pos c2;rw[<-e2]at Yf
   (repeat' (first|refine aq fun K hK=>?_|refine ap ?_|(with_reducible refine gR 7 ?_);refine dE 7 (aW 0 12) mixed ?_|(with_reducible refine gR 8 ?_);refine dE 8 (aW 0 18) mixed ?_|(refine hK _ _ ?_;clear hK K)|(refine ao ?_ ?_<;>intro hc<;>try exact jz)|refine cm (hex) ?_|refine cm (Uy) ?_|refine cm (UI) ?_|refine cm (XI) ?_|refine cm (Yf) ?_|refine qG (eH (az n) c a).vars (eH (az n) c a).more [⟨(c.node a).name,(az n c (c.aF a 0)).2,(eH (az n) c a).size⟩] ?_|refine ar ?_|exact jI|(clear hK K)))
   (refine aY [] ?_;try simp only[go_sem])
  ·have e2:eH (az n) c a=js (az n) c a:=if_neg c2;rw[e2]at UM hcz Xk WH;rw[e2]
   (repeat' (first|refine aq fun K hK=>?_|refine ap ?_|(with_reducible refine gR 7 ?_);refine dE 7 (aW 0 12) mixed ?_|(with_reducible refine gR 8 ?_);refine dE 8 (aW 0 18) mixed ?_|(refine hK _ _ ?_;clear hK K)|(refine ao ?_ ?_<;>intro hc<;>try exact jz)|refine cm (hex) ?_|refine cm (Uy) ?_|refine cm (UI) ?_|refine cm (XI) ?_|refine qG (js (az n) c a).vars (js (az n) c a).more [⟨(c.node a).name,(az n c (c.aF a 0)).2,(js (az n) c a).size⟩] ?_|refine ar ?_|exact jI|(clear hK K)))
   (refine aY [] ?_;try simp only[go_sem])
 ·have e1:js (az n) c a=iD (az n) c a:=if_neg c1;rw[e1]at Yf;by_cases c2:24<=(iD (az n) c a).size
  ·have e2:eH (az n) c a=(iD (az n) c a).aE 4 a:=by unfold eH;rw[e1];exact if_pos c2
   rw[<-e2]at Yf
   (repeat' (first|refine aq fun K hK=>?_|refine ap ?_|(with_reducible refine gR 7 ?_);refine dE 7 (aW 0 12) mixed ?_|(with_reducible refine gR 8 ?_);refine dE 8 (aW 0 18) mixed ?_|(refine hK _ _ ?_;clear hK K)|(refine ao ?_ ?_<;>intro hc<;>try exact jz)|refine cm (hex) ?_|refine cm (Uy) ?_|refine cm (UI) ?_|refine cm (Yf) ?_|refine qG (eH (az n) c a).vars (eH (az n) c a).more [⟨(c.node a).name,(az n c (c.aF a 0)).2,(eH (az n) c a).size⟩] ?_|refine ar ?_|exact jI|(clear hK K)))
   (refine aY [] ?_;try simp only[go_sem])
  ·have e2:eH (az n) c a=iD (az n) c a:=by unfold eH;rw[e1];exact if_neg c2
   rw[e2]at UM hcz Xk WH;rw[e2]
   (repeat' (first|refine aq fun K hK=>?_|refine ap ?_|(with_reducible refine gR 7 ?_);refine dE 7 (aW 0 12) mixed ?_|(with_reducible refine gR 8 ?_);refine dE 8 (aW 0 18) mixed ?_|(refine hK _ _ ?_;clear hK K)|(refine ao ?_ ?_<;>intro hc<;>try exact jz)|refine cm (hex) ?_|refine cm (Uy) ?_|refine cm (UI) ?_|refine qG (iD (az n) c a).vars (iD (az n) c a).more [⟨(c.node a).name,(az n c (c.aF a 0)).2,(iD (az n) c a).size⟩] ?_|refine ar ?_|exact jI|(clear hK K)))
   (refine aY [] ?_;try simp only[go_sem])
def HZ(n:Nat)(hs:A8 n):Hm n:=by
 intro c a h h0 h1 hn hk;obtain⟨sh,Vc⟩:=vK h h0 h1;have I':(nth c.aa.nodes a.toNat).l.length<=300:=yR h h0 h1;have e0:=ri c a;have hq0:=h.ev e0;have UU:=h.aw;have hvz:=h.vars;have TU:=h.size;refine aM func152 ntmps152 ?_;refine S ?_
 (repeat' (first|refine aq fun K hK=>?_|refine ap ?_|(with_reducible refine gR 0 ?_);refine dE 0 (aW 0 12) mixed ?_|(refine hK _ _ ?_;clear hK K)|(refine ao ?_ ?_<;>intro hc<;>try exact jz)|refine ar ?_|exact jI|(clear hK K)))
 have TX:=hK;clear hK;refine dV (S:=Nat×Ck) [(6,1),(33,19)] (fun s=>s.1<=(c.node a).l.length/\Sv (c.ai a) s.2/\dK (bP n) s.2 ((c.node a).l.drop s.1)=dK (bP n) (c.ai a) (c.node a).l) (fun s=>[(6,rI s.1)]) (fun s=>⟨[0,1,2,3,4,5],fG s.2⟩) (fun s=>(c.node a).l.length-s.1) (0,c.ai a) ⟨jJ,.refl hq0,rfl⟩ (dS jy cv) ?_;rintro⟨i,q⟩ ⟨hi,hq,hA⟩ Kr TR;simp only at hi hq hA
 (refine S ?_;try exact jI)
 have lt1:=hq.inv.types;have lt3:=hq.inv.aw;have lt4:=hq.inv.vars;have lt5:=hq.inv.size;by_cases UR:i<(c.node a).l.length/\q.e=0
 ·obtain⟨Uo,Vd⟩:=UR;have Z1:i<(nth c.aa.nodes a.toNat).l.length:=Uo;rw[kP Uo,dK,if_pos Vd]at hA;have hm:nth (c.node a).l i∈(c.node a).l:=fg Uo;have hb:=Vc _ hm;have P':=hs q (nth (c.node a).l i) hq.inv Vd hb.1 (by rw[hq.aa];show _<(c.aa.nodes.length:Int);omega) jB (by
   have:q.node (nth (c.node a).l i)=c.node (nth (c.node a).l i):=by unfold Ck.node;rw[hq.aa];rfl
   rw[this];exact sh.block hk _ hm)
  (have W:=Vd;repeat' (first|refine aq fun K hK=>?_|refine ap ?_|(refine hK _ _ ?_;clear hK K)|(refine ao ?_ ?_<;>intro hc<;>try exact jz)|refine cm (P') ?_|refine ar ?_|exact jI|(clear hK K)))
  refine TR _ _ (eu (i+1,bP n q (nth (c.node a).l i)) ⟨jJ,hq.trans (ot n q _ hq.inv Vd),hA⟩ jJ jy cv)
 ·have hz:q=dK (bP n) (c.ai a) (c.node a).l:=by
   by_cases Uo:i<(c.node a).l.length
   ·rw[kP Uo,dK,if_neg fun e=>UR ⟨Uo,e⟩]at hA;exact hA
   ·rw[List.drop_eq_nil_of_le jB,dK]at hA;exact hA
  have e1:fl (bP n) c a={ q with vars:=q.vars.take (min c.vars.length q.vars.length),more:=q.vars.drop (min c.vars.length q.vars.length)++q.more }:=by unfold fl;rw[<-hz]
  obtain⟨u,hu⟩:=hq.pre;have hu:q.vars=c.vars++u:=hu;have XG:min c.vars.length q.vars.length=c.vars.length:=by rw[hu];simp
  have XK:¬(i<(nth c.aa.nodes a.toNat).l.length/\q.e=0):=UR
  (repeat' (first|refine aq fun K hK=>?_|refine ap ?_|(with_reducible refine gR 7 ?_);refine dE 7 (aW 0 16) mixed ?_|(refine hK _ _ ?_;clear hK K)|(refine ao ?_ ?_<;>intro hc<;>try exact jz)|refine TX _ _ ?_|refine ar ?_|exact jI|(clear hK K)))
  all_goals first|(exact absurd ⟨by have:=hc.1;omega,hc.2⟩ XK)|skip
  have ht:q.vars.take c.vars.length=c.vars:=by rw[hu,List.take_left' rfl]
  have hd:q.vars.drop c.vars.length=u:=by rw[hu,List.drop_left' rfl]
  rw[e1,XG,ht,hd]
  (refine bV [] ?_ ?_<;>(try simp only[go_sem]))
  simp only[hu,List.map_append,List.append_assoc,List.length_append,Nat.add_assoc];rw[jN,Int.toNat_natCast]
def Qz(n:Nat)(hx:tN n)(c:Ck)(a:Int)(h:bE c)(h0:0<=a)(h1:a<c.aa.nodes.length)(hn:a.toNat<=n)(hk:(c.node a).kind=17):ab prog 238 [pR,rI a] (fG c) (fun v l=>v=.aQ []/\l=fG (kH (az n) c a)):=by
 obtain⟨sh,Vc⟩:=vK h h0 h1;have UX:=h.uR;have hfh:=h.vA;have I':(nth c.aa.nodes a.toNat).l.length<=300:=yR h h0 h1;have Z2:=su c 43 a;have XL:decide (((c.node a).l.length:Int)=1)=decide ((c.node a).l.length=1):=by rw[decide_eq_decide];omega
 by_cases b:decide ((c.node a).l.length=1)≠(!decide ((nth c.aa.aw c.fn.toNat).ret=0))
 ·have e1:kH (az n) c a=c.aE 43 a:=if_pos b;have hb:(decide (((nth c.aa.nodes a.toNat).l.length:Int)=1) == !decide ((nth c.aa.aw c.fn.toNat).ret=0))=false:=by
   rw[show((nth c.aa.nodes a.toNat).l.length)=(c.node a).l.length from rfl,XL];simpa using b
  rw[e1];refine aM func238 ntmps238 ?_;refine S ?_
  (have W:=hb;repeat' (first|refine aq fun K hK=>?_|refine ap ?_|(with_reducible refine gR 1 ?_);refine dE 1 (aW 0 14) mixed ?_|(refine hK _ _ ?_;clear hK K)|(refine ao ?_ ?_<;>intro hc<;>try exact jz)|refine cm (Z2) ?_|refine ar ?_|exact jI|(clear hK K)))
  (refine aY [] ?_;try simp only[go_sem])
 ·have hb:(decide (((nth c.aa.nodes a.toNat).l.length:Int)=1) == !decide ((nth c.aa.aw c.fn.toNat).ret=0))=true:=by
   rw[show((nth c.aa.nodes a.toNat).l.length)=(c.node a).l.length from rfl,XL];rw[Classical.not_not.1 b];exact beq_self_eq_true _
  by_cases hl:(c.node a).l.length=1
  ·have U6:(nth c.aa.nodes a.toNat).l.length=1:=hl;have e1:kH (az n) c a=(az n c (c.aF a 0)).1.av (decide ((az n c (c.aF a 0)).2=(nth c.aa.aw c.fn.toNat).ret)) a:=by unfold kH;simp only;rw[if_neg b,if_pos hl]
   rcases sh.ret hk with h2|⟨x,h2,h3⟩
   ·rw[h2]at hl;cases hl
   have WD:c.aF a 0=x:=by unfold Ck.aF;rw[h2];rfl
   have hm:=Vc x (by rw[h2];simp);have hex:=hx c (c.aF a 0) h jB jB jB (by rw[WD];exact .inl h3);have Uy:=oo (az n c (c.aF a 0)).1 (decide ((az n c (c.aF a 0)).2=(nth c.aa.aw c.fn.toNat).ret)) a;rw[e1];refine aM func238 ntmps238 ?_;refine S ?_
   (have W:=hb;repeat' (first|refine aq fun K hK=>?_|refine ap ?_|(with_reducible refine gR 1 ?_);refine dE 1 (aW 0 14) mixed ?_|(refine hK _ _ ?_;clear hK K)|(refine ao ?_ ?_<;>intro hc<;>try exact jz)|refine cm (hex) ?_|refine cm (Uy) ?_|refine ar ?_|exact jI|(clear hK K)))
   (refine aY [] ?_;try simp only[go_sem])
  ·have U6:¬(nth c.aa.nodes a.toNat).l.length=1:=hl;have e1:kH (az n) c a=c:=by unfold kH;simp only;rw[if_neg b,if_neg hl]
   rw[e1];refine aM func238 ntmps238 ?_;refine S ?_
   (have W:=hb;repeat' (first|refine aq fun K hK=>?_|refine ap ?_|(with_reducible refine gR 1 ?_);refine dE 1 (aW 0 14) mixed ?_|(refine hK _ _ ?_;clear hK K)|(refine ao ?_ ?_<;>intro hc<;>try exact jz)|refine ar ?_|exact jI|(clear hK K)))
   (refine aY [] ?_;try simp only[go_sem])
def Sf(n:Nat):Prop:=∀(c:Ck) (a:Int),bE c->c.e=0->0<=a->a<c.aa.nodes.length->a.toNat<=n->(c.node a).kind=10->ab prog 234 [pR,rI a] (fG c) (fun v l=>v=.aQ []/\l=fG (o5 (az n) c a))
def Ke(n:Nat):Prop:=∀(c:Ck) (a:Int),bE c->0<=a->a<c.aa.nodes.length->a.toNat<=n->(c.node a).kind=17->ab prog 238 [pR,rI a] (fG c) (fun v l=>v=.aQ []/\l=fG (kH (az n) c a))
def Ra(n:Nat)(hx:tN n)(hl:Sf n)(hr:Ke n)(ZR:Hm n):A8 (n+1):=by
 intro c a h he h0 h1 hn hk;have ev:=ri c a;have hq:=h.ev ev;obtain⟨sh,Vc⟩:=vK h h0 h1;have I':(nth c.aa.nodes a.toNat).l.length<=300:=yR h h0 h1;have UU:=h.aw;have hvz:=h.vars;have TU:=h.size;have Ux:∀i,i<(c.node a).l.length->(c.aF a i).toNat<n/\0<=c.aF a i/\c.aF a i<c.aa.nodes.length:=fun i hi=>by have hm:c.aF a i∈(c.node a).l:=fg hi;have:=Vc _ hm;omega
 have en:=nE (c.ai a) a;have hqn:=hq.ev en;have TV:=Hj (c.ai a) a hq h0 h1;have e17:(c.node a).kind=10\/(c.node a).kind=11\/(c.node a).kind=12\/(c.node a).kind=13\/(c.node a).kind=14\/(c.node a).kind=17\/((c.node a).kind=15\/(c.node a).kind=16):=by unfold fw at hk;omega
 rcases e17 with k|k|k|k|k|k|k
 ·have T4:(nth c.aa.nodes a.toNat).kind=10:=k;have k0:((c.ai a).node a).kind=10:=k;have hlc:=hl (c.ai a) a hq he h0 h1 jB k0;rw[show bP (n+1) c a=o5 (az n) (c.ai a) a from by unfold bP;simp only;rw[k0];rfl];refine aM func197 ntmps197 ?_;refine S ?_
  (have W:=T4;repeat' (first|refine aq fun K hK=>?_|refine ap ?_|(with_reducible refine gR 1 ?_);refine dE 1 (aW 0 12) mixed ?_|(refine hK _ _ ?_;clear hK K)|(refine ao ?_ ?_<;>intro hc<;>try exact jz)|refine cm (hlc) ?_|refine ar ?_|exact jI|(clear hK K)))
  (refine aY [] ?_;try simp only[go_sem])
 ·have T4:(nth c.aa.nodes a.toNat).kind=11:=k;have k0:((c.ai a).node a).kind=11:=k;obtain⟨x,Vq,UO⟩:=sh.right jB;have Vp:(c.node a).l.length=1:=by rw[Vq];rfl
  have U6:(nth c.aa.nodes a.toNat).l.length=1:=Vp;obtain⟨g0a,g0b,g0c⟩:=Ux 0 jB;have TZ:c.aF a 0=x:=by unfold Ck.aF;rw[Vq];rfl
  have hex:=hx ((c.ai a).named a).1 (c.aF a 0) hqn g0b (by rw[en.aa];exact g0c) g0a (by rw[en.node];show fq (c.node (c.aF a 0)).kind;rw[TZ];exact UO);have Uy:=oo (az n ((c.ai a).named a).1 (c.aF a 0)).1 (decide (((c.ai a).named a).2=(az n ((c.ai a).named a).1 (c.aF a 0)).2)) a;rw[show bP (n+1) c a=(az n ((c.ai a).named a).1 (c.aF a 0)).1.av (decide (((c.ai a).named a).2=(az n ((c.ai a).named a).1 (c.aF a 0)).2)) a from by unfold bP;simp only;rw[k0];rfl];refine aM func197 ntmps197 ?_;refine S ?_
  (have W:=T4;repeat' (first|refine aq fun K hK=>?_|refine ap ?_|(with_reducible refine gR 1 ?_);refine dE 1 (aW 0 12) mixed ?_|(refine hK _ _ ?_;clear hK K)|(refine ao ?_ ?_<;>intro hc<;>try exact jz)|refine cm (TV) ?_|refine cm (hex) ?_|refine cm (Uy) ?_|refine ar ?_|exact jI|(clear hK K)))
  (refine aY [] ?_;try simp only[go_sem])
 ·have T4:(nth c.aa.nodes a.toNat).kind=12:=k;have k0:((c.ai a).node a).kind=12:=k;obtain⟨x,y,Vq,UO,VN⟩:=sh.two jB;have Vp:(c.node a).l.length=2:=by rw[Vq];rfl
  have U6:(nth c.aa.nodes a.toNat).l.length=2:=Vp;obtain⟨g0a,g0b,g0c⟩:=Ux 0 jB;have TZ:c.aF a 0=x:=by unfold Ck.aF;rw[Vq];rfl
  obtain⟨g1a,g1b,g1c⟩:=Ux 1 jB;have Ue:c.aF a 1=y:=by unfold Ck.aF;rw[Vq];rfl
  have ex1:=fk n ((c.ai a).named a).1 (c.aF a 0);have hex:=hx ((c.ai a).named a).1 (c.aF a 0) hqn g0b (by rw[en.aa];exact g0c) g0a (by rw[en.node];show fq (c.node (c.aF a 0)).kind;rw[TZ];exact .inl UO);have hey:=hx (az n ((c.ai a).named a).1 (c.aF a 0)).1 (c.aF a 1) (hqn.ev ex1) g1b (by rw[ex1.aa,en.aa];exact g1c) g1a (by rw[ex1.node,en.node];show fq (c.node (c.aF a 1)).kind;rw[Ue];exact .inl VN);have Uy:=oo (az n (az n ((c.ai a).named a).1 (c.aF a 0)).1 (c.aF a 1)).1 (decide (((c.ai a).named a).2=4) && decide ((az n ((c.ai a).named a).1 (c.aF a 0)).2=1) && decide ((az n (az n ((c.ai a).named a).1 (c.aF a 0)).1 (c.aF a 1)).2=1)) a;rw[show bP (n+1) c a=(az n (az n ((c.ai a).named a).1 (c.aF a 0)).1 (c.aF a 1)).1.av (decide (((c.ai a).named a).2=4) && decide ((az n ((c.ai a).named a).1 (c.aF a 0)).2=1) && decide ((az n (az n ((c.ai a).named a).1 (c.aF a 0)).1 (c.aF a 1)).2=1)) a from by unfold bP;simp only;rw[k0];rfl];refine aM func197 ntmps197 ?_;refine S ?_
  (have W:=T4;repeat' (first|refine aq fun K hK=>?_|refine ap ?_|(with_reducible refine gR 1 ?_);refine dE 1 (aW 0 12) mixed ?_|(refine hK _ _ ?_;clear hK K)|(refine ao ?_ ?_<;>intro hc<;>try exact jz)|refine cm (TV) ?_|refine cm (hex) ?_|refine cm (hey) ?_|refine cm (Uy) ?_|refine ar ?_|exact jI|(clear hK K)))
  (refine aY [] ?_;try simp only[go_sem])
 ·have T4:(nth c.aa.nodes a.toNat).kind=13:=k;have k0:((c.ai a).node a).kind=13:=k;obtain⟨x,Vq,UO⟩:=sh.sC jB;have Vp:(c.node a).l.length=1:=by rw[Vq];rfl
  have U6:(nth c.aa.nodes a.toNat).l.length=1:=Vp;obtain⟨g0a,g0b,g0c⟩:=Ux 0 jB;have TZ:c.aF a 0=x:=by unfold Ck.aF;rw[Vq];rfl
  have hex:=hx (c.ai a) (c.aF a 0) hq g0b g0c g0a (by show fq (c.node (c.aF a 0)).kind;rw[TZ];exact .inr (.inr (.inr UO)));rw[show bP (n+1) c a=(az n (c.ai a) (c.aF a 0)).1 from by unfold bP;simp only;rw[k0];rfl];refine aM func197 ntmps197 ?_;refine S ?_
  (have W:=T4;repeat' (first|refine aq fun K hK=>?_|refine ap ?_|(with_reducible refine gR 1 ?_);refine dE 1 (aW 0 12) mixed ?_|(refine hK _ _ ?_;clear hK K)|(refine ao ?_ ?_<;>intro hc<;>try exact jz)|refine cm (hex) ?_|refine ar ?_|exact jI|(clear hK K)))
  (refine aY [] ?_;try simp only[go_sem])
 ·have T4:(nth c.aa.nodes a.toNat).kind=14:=k;have k0:((c.ai a).node a).kind=14:=k;obtain⟨x,Vq,UO⟩:=sh.one jB;have Vp:(c.node a).l.length=1:=by rw[Vq];rfl
  have U6:(nth c.aa.nodes a.toNat).l.length=1:=Vp;obtain⟨g0a,g0b,g0c⟩:=Ux 0 jB;have TZ:c.aF a 0=x:=by unfold Ck.aF;rw[Vq];rfl
  have hex:=hx (c.ai a) (c.aF a 0) hq g0b g0c g0a (by show fq (c.node (c.aF a 0)).kind;rw[TZ];exact .inl UO);have Uy:=oo (az n (c.ai a) (c.aF a 0)).1 (!decide ((az n (c.ai a) (c.aF a 0)).2=4)) a;rw[show bP (n+1) c a=(az n (c.ai a) (c.aF a 0)).1.av (!decide ((az n (c.ai a) (c.aF a 0)).2=4)) a from by unfold bP;simp only;rw[k0];rfl];refine aM func197 ntmps197 ?_;refine S ?_
  (have W:=T4;repeat' (first|refine aq fun K hK=>?_|refine ap ?_|(with_reducible refine gR 1 ?_);refine dE 1 (aW 0 12) mixed ?_|(refine hK _ _ ?_;clear hK K)|(refine ao ?_ ?_<;>intro hc<;>try exact jz)|refine cm (hex) ?_|refine cm (Uy) ?_|refine ar ?_|exact jI|(clear hK K)))
  (refine aY [] ?_;try simp only[go_sem])
 ·have T4:(nth c.aa.nodes a.toNat).kind=17:=k;have k0:((c.ai a).node a).kind=17:=k;have hrc:=hr (c.ai a) a hq h0 h1 jB k0;rw[show bP (n+1) c a=kH (az n) (c.ai a) a from by unfold bP;simp only;rw[k0];rfl];refine aM func197 ntmps197 ?_;refine S ?_
  (have W:=T4;repeat' (first|refine aq fun K hK=>?_|refine ap ?_|(with_reducible refine gR 1 ?_);refine dE 1 (aW 0 12) mixed ?_|(refine hK _ _ ?_;clear hK K)|(refine ao ?_ ?_<;>intro hc<;>try exact jz)|refine cm (hrc) ?_|refine ar ?_|exact jI|(clear hK K)))
  (refine aY [] ?_;try simp only[go_sem])
 ·have T7:1<=(c.node a).l.length/\cQ (c.node (c.aF a 0)).kind/\∀i,i<(c.node a).l.length->1<=i->(c.node (nth (c.node a).l i)).kind=18:=by
   have fin:∀{x y:Int},(c.node a).l=[x,y]->cQ (bW c.aa.nodes x)->bW c.aa.nodes y=18->1<=(c.node a).l.length/\cQ (c.node (c.aF a 0)).kind/\∀i,i<(c.node a).l.length->1<=i->(c.node (nth (c.node a).l i)).kind=18:=fun{x y} e hx hy=>by
    refine⟨by rw[e];simp,by have:c.aF a 0=x:=(by unfold Ck.aF;rw[e];rfl);rw[this];exact hx,fun i hi h1=>?_⟩;rw[e]at hi ⊢;obtain rfl:i=1:=by simp at hi;omega
    exact hy
   rcases k with k|k
   ·obtain⟨x,y,Ua,WT,Vq⟩:=sh.lw k;rcases Vq with Vq|⟨d,Vq,hd⟩
    ·exact fin Vq Ua WT
    ·refine⟨by rw[Vq];simp,by have:c.aF a 0=x:=(by unfold Ck.aF;rw[Vq];rfl);rw[this];exact Ua,fun i hi h1=>?_⟩;rw[Vq]at hi ⊢;rcases(show i=1\/i=2 by simp at hi;omega)with rfl|rfl
     ·exact WT
     ·exact hd
   ·obtain⟨x,y,Vq,Ua,WT⟩:=sh.dZ k;exact fin Vq Ua WT
  obtain⟨Vp,Ua,Yg⟩:=T7;have U6:1<=(nth c.aa.nodes a.toNat).l.length:=Vp;obtain⟨g0a,g0b,g0c⟩:=Ux 0 jB;have hex:=hx (c.ai a) (c.aF a 0) hq g0b g0c g0a (.inl Ua);have eM:Ev c ((az n (c.ai a) (c.aF a 0)).1.av (decide ((az n (c.ai a) (c.aF a 0)).2=2)) a):=(ev.trans (fk n _ _)).trans (ky _ _ _);have hM:=h.ev eM;have Uy:=oo (az n (c.ai a) (c.aF a 0)).1 (decide ((az n (c.ai a) (c.aF a 0)).2=2)) a;rcases k with k|k
  ·have T4:(nth c.aa.nodes a.toNat).kind=15:=k;have k0:((c.ai a).node a).kind=15:=k;rw[show bP (n+1) c a=dK (fl (bP n)) ((az n (c.ai a) (c.aF a 0)).1.av (decide ((az n (c.ai a) (c.aF a 0)).2=2)) a) ((c.node a).l.drop 1) from by unfold bP;simp only;rw[k0];rfl];generalize hY:dK (fl (bP n)) ((az n (c.ai a) (c.aF a 0)).1.av (decide ((az n (c.ai a) (c.aF a 0)).2=2)) a) ((c.node a).l.drop 1)=Y;refine aM func197 ntmps197 ?_;refine S ?_
   (have W:=T4;repeat' (first|refine aq fun K hK=>?_|refine ap ?_|(with_reducible refine gR 1 ?_);refine dE 1 (aW 0 12) mixed ?_|(refine hK _ _ ?_;clear hK K)|(refine ao ?_ ?_<;>intro hc<;>try exact jz)|refine cm (hex) ?_|refine cm (Uy) ?_|refine ar ?_|exact jI|(clear hK K)))
   refine dV (S:=Nat×Ck) [(12,1),(46,21)] (fun s=>s.1<=(c.node a).l.length/\1<=s.1/\bE s.2/\s.2.aa=c.aa/\dK (fl (bP n)) s.2 ((c.node a).l.drop s.1)=Y) (fun s=>[(12,rI s.1)]) (fun s=>⟨[0,1,2,3,4,5],fG s.2++[(6,.var 116 (eF (c.node a)))]⟩) (fun s=>(c.node a).l.length-s.1) (1,(az n (c.ai a) (c.aF a 0)).1.av (decide ((az n (c.ai a) (c.aF a 0)).2=2)) a) ⟨jJ,Nat.le_refl _,hM,eM.aa,hY⟩ (dS jy cv) ?_;rintro⟨i,z⟩ ⟨hi,Wc,hz,Yh,hA⟩ Kr TR;simp only at hi Wc hz Yh hA;have Vt:i<=(nth c.aa.nodes a.toNat).l.length:=hi
   (refine S ?_;try exact jI)
   by_cases UR:i<(c.node a).l.length/\z.e=0
   ·obtain⟨Uo,Vd⟩:=UR;have Z1:i<(nth c.aa.nodes a.toNat).l.length:=Uo;rw[kP Uo,dK,if_pos Vd]at hA;have hm:nth (c.node a).l i∈(c.node a).l:=fg Uo;have hb:=Vc _ hm;have Z3:=ZR z (nth (c.node a).l i) hz hb.1 (by rw[Yh];omega) jB (by
     have:z.node (nth (c.node a).l i)=c.node (nth (c.node a).l i):=by unfold Ck.node;rw[Yh]
     rw[this];exact Yg i Uo Wc)
    have sz:=(qs (fun q b hq he=>ot n q b hq he) hz (nth (c.node a).l i)).1
    (have W:=Vd;repeat' (first|refine aq fun K hK=>?_|refine ap ?_|(refine hK _ _ ?_;clear hK K)|(refine ao ?_ ?_<;>intro hc<;>try exact jz)|refine cm (Z3) ?_|refine ar ?_|exact jI|(clear hK K)))
    refine TR _ _ (eu (i+1,fl (bP n) z (nth (c.node a).l i)) ⟨jJ,jJ,sz.inv,sz.aa.trans Yh,hA⟩ jJ jy cv)
   ·have YR:z=Y:=by
     by_cases Uo:i<(c.node a).l.length
     ·rw[kP Uo,dK,if_neg fun e=>UR ⟨Uo,e⟩]at hA;exact hA
     ·rw[List.drop_eq_nil_of_le jB,dK]at hA;exact hA
    have XK:¬(i<(nth c.aa.nodes a.toNat).l.length/\z.e=0):=UR
    (repeat' (first|refine aq fun K hK=>?_|refine ap ?_|(refine hK _ _ ?_;clear hK K)|(refine ao ?_ ?_<;>intro hc<;>try exact jz)|refine ar ?_|exact jI|(clear hK K)))
    all_goals first|(exact absurd ⟨by have:=hc.1;omega,hc.2⟩ XK)|skip
    rw[<-YR]
    (refine aY [] ?_;try simp only[go_sem])
  ·have T4:(nth c.aa.nodes a.toNat).kind=16:=k;have k0:((c.ai a).node a).kind=16:=k;rw[show bP (n+1) c a=dK (fl (bP n)) ((az n (c.ai a) (c.aF a 0)).1.av (decide ((az n (c.ai a) (c.aF a 0)).2=2)) a) ((c.node a).l.drop 1) from by unfold bP;simp only;rw[k0];rfl];generalize hY:dK (fl (bP n)) ((az n (c.ai a) (c.aF a 0)).1.av (decide ((az n (c.ai a) (c.aF a 0)).2=2)) a) ((c.node a).l.drop 1)=Y;refine aM func197 ntmps197 ?_;refine S ?_
   (have W:=T4;repeat' (first|refine aq fun K hK=>?_|refine ap ?_|(with_reducible refine gR 1 ?_);refine dE 1 (aW 0 12) mixed ?_|(refine hK _ _ ?_;clear hK K)|(refine ao ?_ ?_<;>intro hc<;>try exact jz)|refine cm (hex) ?_|refine cm (Uy) ?_|refine ar ?_|exact jI|(clear hK K)))
   refine dV (S:=Nat×Ck) [(12,1),(46,21)] (fun s=>s.1<=(c.node a).l.length/\1<=s.1/\bE s.2/\s.2.aa=c.aa/\dK (fl (bP n)) s.2 ((c.node a).l.drop s.1)=Y) (fun s=>[(12,rI s.1)]) (fun s=>⟨[0,1,2,3,4,5],fG s.2++[(6,.var 116 (eF (c.node a)))]⟩) (fun s=>(c.node a).l.length-s.1) (1,(az n (c.ai a) (c.aF a 0)).1.av (decide ((az n (c.ai a) (c.aF a 0)).2=2)) a) ⟨jJ,Nat.le_refl _,hM,eM.aa,hY⟩ (dS jy cv) ?_;rintro⟨i,z⟩ ⟨hi,Wc,hz,Yh,hA⟩ Kr TR;simp only at hi Wc hz Yh hA;have Vt:i<=(nth c.aa.nodes a.toNat).l.length:=hi
   (refine S ?_;try exact jI)
   by_cases UR:i<(c.node a).l.length/\z.e=0
   ·obtain⟨Uo,Vd⟩:=UR;have Z1:i<(nth c.aa.nodes a.toNat).l.length:=Uo;rw[kP Uo,dK,if_pos Vd]at hA;have hm:nth (c.node a).l i∈(c.node a).l:=fg Uo;have hb:=Vc _ hm;have Z3:=ZR z (nth (c.node a).l i) hz hb.1 (by rw[Yh];omega) jB (by
     have:z.node (nth (c.node a).l i)=c.node (nth (c.node a).l i):=by unfold Ck.node;rw[Yh]
     rw[this];exact Yg i Uo Wc)
    have sz:=(qs (fun q b hq he=>ot n q b hq he) hz (nth (c.node a).l i)).1
    (have W:=Vd;repeat' (first|refine aq fun K hK=>?_|refine ap ?_|(refine hK _ _ ?_;clear hK K)|(refine ao ?_ ?_<;>intro hc<;>try exact jz)|refine cm (Z3) ?_|refine ar ?_|exact jI|(clear hK K)))
    refine TR _ _ (eu (i+1,fl (bP n) z (nth (c.node a).l i)) ⟨jJ,jJ,sz.inv,sz.aa.trans Yh,hA⟩ jJ jy cv)
   ·have YR:z=Y:=by
     by_cases Uo:i<(c.node a).l.length
     ·rw[kP Uo,dK,if_neg fun e=>UR ⟨Uo,e⟩]at hA;exact hA
     ·rw[List.drop_eq_nil_of_le jB,dK]at hA;exact hA
    have XK:¬(i<(nth c.aa.nodes a.toNat).l.length/\z.e=0):=UR
    (repeat' (first|refine aq fun K hK=>?_|refine ap ?_|(refine hK _ _ ?_;clear hK K)|(refine ao ?_ ?_<;>intro hc<;>try exact jz)|refine ar ?_|exact jI|(clear hK K)))
    all_goals first|(exact absurd ⟨by have:=hc.1;omega,hc.2⟩ XK)|skip
    rw[<-YR]
    (refine aY [] ?_;try simp only[go_sem])
theorem xL:∀n,tN n
 |0=>fun c a h h0 h1 hn=>by omega
 |n+1=>Mr n (SS n (xL n) (Oq n (xL n)))
theorem Iw:∀n,A8 n
 |0=>fun c a h he h0 h1 hn=>by omega
 |n+1=>Ra n (xL n) (fun c a h he h0 h1 hn hk=>O9 n (xL n) c a h he h0 h1 hn hk) (fun c a h h0 h1 hn hk=>Qz n (xL n) c a h h0 h1 hn hk) (HZ n (Iw n))
def yb(c:Ck):TE:=[aO eF 5 c.aa.nodes,aO fV 5 c.aa.aw,.rs 1 c.types.length 1 c.types.length,.rs 2 c.slots.length 1 c.slots.length,.rs 3 c.aw.length 1 c.aw.length,.rs 4 c.aP.length 1 c.aP.length,rI c.fn,.any,rI c.size,rI c.e,rI c.at_]
def nP(c:Ck):TD:=[(0,.var 186 (yb c)),(1,.aG 3 1 (c.types.map eI)),(2,.aG 3 1 (c.slots.map eI)),(3,.aG 3 1 (c.aw.map eI)),(4,.aG 3 1 (c.aP.map eI))]
attribute [go_sem] nP yb
structure gy(c:Ck):Prop where
 aa:aR c.aa
 types:c.types.length=c.aa.nodes.length
 slots:c.slots.length=c.aa.nodes.length
 aw:c.aw.length=c.aa.nodes.length
def mB(c:Ck)(v:bD):Ck:={ c with vars:=c.vars++[v],more:=c.more.drop 1,size:=c.size+1 }
attribute [go_sem] mB
def As{c:Ck}(h:bE c)(v:bD)(hs:c.size<=20):bE (mB c v):=⟨h.aa,h.types,h.slots,h.aw,h.aP,h.uR,h.vA,by have:=h.vars;show((c.vars++[v]).length:Int)<=c.size+1;simp;omega,by show c.size+1<=25;omega,fun _=>by show c.size+1<=24;omega⟩
def Qy(c:Ck)(k:Nat)(h:gy c)(hk:k<c.aa.aw.length)(TU:c.aP.length<6):ab prog 105 [pR,rI k] (nP c) (fun v l=>v=.aQ []/\l=nP (gM c k)):=by
 have hff:=h.aa.aw;have UX:=h.aa.fn _ (fg hk);have Zw:=UX.2;have WE:=h.aa.body _ (fg hk);have hbm:=h.aa.chain.mem (nth c.aa.aw k).body (List.mem_map.2 ⟨_,fg hk,rfl⟩);refine aM func105 ntmps105 ?_;refine S ?_
 (repeat' (first|refine aq fun K hK=>?_|refine ap ?_|(refine hK _ _ ?_;clear hK K)|(refine ao ?_ ?_<;>intro hc<;>try exact jz)|refine al 6 ?_|refine ar ?_|exact jI|(clear hK K)))
 have TX:=hK;clear hK;refine jq (dL.gb 5 0 7 258 3 rfl jC rfl rfl) ?_
 (refine S ?_;try exact jI)
 generalize Vk:({ c with fn:=(k:Int),vars:=[],more:=[],size:=0 }:Ck)=c0;have VY:bE c0:=by subst Vk;exact⟨h.aa,h.types,h.slots,h.aw,by show c.aP.length<=6;omega,by show(0:Int)<=k;omega,by show(k:Int)<(c.aa.aw.length:Int);omega,by show((0:Nat):Int)<=0;omega,by show(0:Int)<=25;omega,fun _=>by show(0:Int)<=24;omega⟩
 have T9:gM c k=(fun c2:Ck=>{ c2 with aP:=c2.aP++[c2.size],vars:=[],more:=[] }) (if(fy (nth c.aa.aw k).body c0 (nth c.aa.aw k).params 0).e=0 then fl (bP c.aa.nodes.length) (fy (nth c.aa.aw k).body c0 (nth c.aa.aw k).params 0) (nth c.aa.aw k).body else fy (nth c.aa.aw k).body c0 (nth c.aa.aw k).params 0):=by subst Vk;rfl
 refine jq (dL.perm (fG c0++[(6,.var 181 (fV (nth c.aa.aw k)))]) (fun i=>by subst Vk;simp only[go_sem,aA];(repeat' split)<;>first|rfl|omega)) ?_;refine dV (S:=Nat×Ck) [(5,1),(25,50)] (fun s=>s.1<=(nth c.aa.aw k).params.length/\bE s.2/\s.2.size=s.1/\s.2.vars.length=s.1/\s.2.aa=c.aa/\s.2.aP=c.aP/\fy (nth c.aa.aw k).body s.2 ((nth c.aa.aw k).params.drop s.1) s.1=fy (nth c.aa.aw k).body c0 (nth c.aa.aw k).params 0) (fun s=>[(5,rI s.1)]) (fun s=>⟨[0,1,2,3,4],fG s.2++[(6,.var 181 (fV (nth c.aa.aw k)))]⟩) (fun s=>(nth c.aa.aw k).params.length-s.1) (0,c0) ⟨jJ,VY,by subst Vk;rfl,by subst Vk;rfl,by subst Vk;rfl,by subst Vk;rfl,rfl⟩ (dS rfl cv) ?_;rintro⟨i,q⟩ ⟨hi,hq,hqs,YU,Xr,Za,hA⟩ Kr TR;simp only at hi hq hqs YU Xr Za hA
 (refine S ?_;try exact jI)
 by_cases O':i<(nth c.aa.aw k).params.length
 ·rw[kP O',fy]at hA;have UI:=CZ q (nth (nth c.aa.aw k).params i).name hq;have XI:=su q 41 (nth c.aa.aw k).body;by_cases hf:0<=q.find (nth (nth c.aa.aw k).params i).name
  ·rw[if_pos hf]at hA;have ef:=n8 q (e:=41) jC (nth c.aa.aw k).body;have X1:=ef.vars;have Uv:=ef.size;have Wc:=hq.ev ef;have X7:(q.aE 41 (nth c.aa.aw k).body).vars.length=i:=by rw[X1,YU]
   (repeat' (first|refine aq fun K hK=>?_|refine ap ?_|(with_reducible refine gR 9 ?_);refine dE 9 (aW 0 24) mixed ?_|(refine hK _ _ ?_;clear hK K)|(refine ao ?_ ?_<;>intro hc<;>try exact jz)|refine cm (UI) ?_|refine cm (XI) ?_|refine qG (q.aE 41 (nth c.aa.aw k).body).vars (q.aE 41 (nth c.aa.aw k).body).more [⟨(nth (nth c.aa.aw k).params i).name,(nth (nth c.aa.aw k).params i).ty,(i:Int)⟩] ?_|refine ar ?_|exact jI|(clear hK K)))
   refine TR _ _ (eu (i+1,mB (q.aE 41 (nth c.aa.aw k).body) ⟨(nth (nth c.aa.aw k).params i).name,(nth (nth c.aa.aw k).params i).ty,(i:Int)⟩) ⟨jJ,As Wc _ jB,by show(q.aE 41 (nth c.aa.aw k).body).size+1=_;omega,by show((q.aE 41 (nth c.aa.aw k).body).vars++[_]).length=i+1;rw[List.length_append,X7];rfl,ef.aa.trans Xr,ef.aP.trans Za,hA⟩ jJ jy cv)
  ·rw[if_neg hf]at hA
   (repeat' (first|refine aq fun K hK=>?_|refine ap ?_|(with_reducible refine gR 9 ?_);refine dE 9 (aW 0 24) mixed ?_|(refine hK _ _ ?_;clear hK K)|(refine ao ?_ ?_<;>intro hc<;>try exact jz)|refine cm (UI) ?_|refine qG q.vars q.more [⟨(nth (nth c.aa.aw k).params i).name,(nth (nth c.aa.aw k).params i).ty,(i:Int)⟩] ?_|refine ar ?_|exact jI|(clear hK K)))
   refine TR _ _ (eu (i+1,mB q ⟨(nth (nth c.aa.aw k).params i).name,(nth (nth c.aa.aw k).params i).ty,(i:Int)⟩) ⟨jJ,As hq _ jB,by show q.size+1=_;omega,by show(q.vars++[_]).length=i+1;rw[List.length_append,YU];rfl,Xr,Za,hA⟩ jJ jy cv)
 ·have hz:q=fy (nth c.aa.aw k).body c0 (nth c.aa.aw k).params 0:=by
   rw[List.drop_eq_nil_of_le jB]at hA;exact hA
  rw[<-hz]at T9;by_cases he:q.e=0
  ·rw[if_pos he]at T9;have sb:=(qs (fun q b hq he=>ot c.aa.nodes.length q b hq he) hq (nth c.aa.aw k).body).1;have Z3:=HZ c.aa.nodes.length (Iw _) q (nth c.aa.aw k).body hq hbm.1 (by rw[Xr];omega) jB (by unfold Ck.node;rw[Xr];exact WE);have VX:(fl (bP c.aa.nodes.length) q (nth c.aa.aw k).body).aP.length<6:=by rw[sb.aP,Za];exact TU
   (have W:=he;repeat' (first|refine FE (id:=13) 0 7 ?_|refine aq fun K hK=>?_|refine ap ?_|(with_reducible refine gR 13 ?_);refine dE 13 (aW 0 16) mixed ?_|(refine hK _ _ ?_;clear hK K)|(refine ao ?_ ?_<;>intro hc<;>try exact jz)|refine TX _ _ ?_|refine cm (Z3) ?_|refine ar ?_|exact jI|(clear hK K)))
   rw[T9]
   (refine aY [] ?_;try simp only[go_sem])
  ·rw[if_neg he]at T9;have VX:q.aP.length<6:=by rw[Za];exact TU
   (have W:=he;repeat' (first|refine FE (id:=13) 0 7 ?_|refine aq fun K hK=>?_|refine ap ?_|(with_reducible refine gR 13 ?_);refine dE 13 (aW 0 16) mixed ?_|(refine hK _ _ ?_;clear hK K)|(refine ao ?_ ?_<;>intro hc<;>try exact jz)|refine TX _ _ ?_|refine ar ?_|exact jI|(clear hK K)))
   rw[T9]
   (refine aY [] ?_;try simp only[go_sem])
def D4(c:Ck)(e a:Int):ab prog 150 [pR,rI e,rI a] (nP c) (fun v l=>v=.aQ []/\l=nP (c.aE e a)):=by
 refine aM func150 ntmps150 ?_;refine S ?_
 (repeat' (first|refine aq fun K hK=>?_|refine ap ?_|(refine hK _ _ ?_;clear hK K)|(refine ao ?_ ?_<;>intro hc<;>try exact jz)|refine ar ?_|exact jI|(clear hK K)))
 ·(refine bV [] ?_ ?_<;>(try simp only[go_sem]))
  simp only[Ck.aE,if_pos hc,nP,yb]
 ·(refine bV [] ?_ ?_<;>(try simp only[go_sem]))
  simp only[Ck.aE,if_neg hc,nP,yb]
theorem C9(x:bg):∀(l:List bg) (c:Ck),Ev c (kN x c l)
 |[],c=>by unfold kN;exact .refl c
 |f::l,c=>by
  unfold kN;refine Ev.trans ?_ (C9 x l _);split
  ·exact n8 c jC _
  ·exact .refl c
theorem BK(aw:List bg):∀(n:Nat) (c:Ck) (m:Bool) (i:Nat),Ev c (j8 aw c m i n).1
 |0,c,m,i=>by unfold j8;exact .refl c
 |n+1,c,m,i=>by unfold j8;exact(C9 _ _ _).trans (BK aw n _ _ _)
def Fm(c:Ck):Ev c (iZ c):=by
 unfold iZ;simp only;split
 ·exact BK _ _ _ _ _
 ·exact(BK _ _ _ _ _).trans (n8 _ jC _)
def Lk(c:Ck)(h:c.aa.aw.length<=6):ab prog 104 [pR] (nP c) (fun v l=>v=.aQ []/\l=nP (iZ c)):=by
 refine aM func104 ntmps104 ?_;refine S ?_
 (repeat' (first|refine aq fun K hK=>?_|refine ap ?_|(refine hK _ _ ?_;clear hK K)|(refine ao ?_ ?_<;>intro hc<;>try exact jz)|refine ar ?_|exact jI|(clear hK K)))
 have TX:=hK;clear hK;refine dV (S:=Nat×Ck×Bool) [(3,3),(12,55)] (fun s=>s.1<=c.aa.aw.length/\j8 c.aa.aw s.2.1 s.2.2 s.1 (c.aa.aw.length-s.1)=j8 c.aa.aw c false 0 c.aa.aw.length/\s.2.1.aa=c.aa) (fun s=>[(4,rI s.1),(3,rB s.2.2)]) (fun s=>⟨[0,1,2,3,4],nP s.2.1⟩) (fun s=>c.aa.aw.length-s.1) (0,c,false) ⟨jJ,rfl,rfl⟩ (dS jy cv) ?_;rintro⟨i,q,m⟩ ⟨hi,hA,Xr⟩ Kr TR;simp only at hi hA Xr
 (refine S ?_;try exact jI)
 by_cases O':i<c.aa.aw.length
 ·rw[show c.aa.aw.length-i=(c.aa.aw.length-(i+1))+1 from jB,j8]at hA
  (repeat' (first|refine aq fun K hK=>?_|refine ap ?_|(refine hK _ _ ?_;clear hK K)|(refine ao ?_ ?_<;>intro hc<;>try exact jz)|refine ar ?_|exact jI|(clear hK K)))
  have hKi:=hK;clear hK;have X2:=hK;clear hK;refine dV (S:=Nat×Ck) [(5,1),(18,23)] (fun s=>s.1<=i/\kN (nth c.aa.aw i) s.2 ((c.aa.aw.take i).drop s.1)=kN (nth c.aa.aw i) q (c.aa.aw.take i)) (fun s=>[(5,rI s.1)]) (fun s=>⟨[0,1,2,3,4],nP s.2⟩) (fun s=>i-s.1) (0,q) ⟨jJ,rfl⟩ (dS jy cv) ?_;rintro⟨k,z⟩ ⟨hk,hB⟩ Kj Zv;simp only at hk hB
  (refine S ?_;try exact jI)
  by_cases Vf:k<i
  ·have YB:k<(c.aa.aw.take i).length:=by rw[List.length_take];omega
   have ZX:nth (c.aa.aw.take i) k=nth c.aa.aw k:=by simp[nth,List.getD_eq_getElem?_getD,List.getElem?_take,Vf]
   rw[kP YB,ZX,kN]at hB;have XI:=D4 z 41 (nth c.aa.aw i).body
   (repeat' (first|refine aq fun K hK=>?_|refine ap ?_|(with_reducible refine gR 8 ?_);refine dE 8 (aW 0 11) mixed ?_|(refine hK _ _ ?_;clear hK K)|(refine ao ?_ ?_<;>intro hc<;>try exact jz)|refine cm (XI) ?_|refine ar ?_|exact jI|(clear hK K)))
   ·rw[if_pos hc]at hB;refine Zv _ _ (eu (k+1,z.aE 41 (nth c.aa.aw i).body) ⟨jJ,hB⟩ jJ jy cv)
   ·rw[if_neg hc]at hB;refine Zv _ _ (eu (k+1,z) ⟨jJ,hB⟩ jJ jy cv)
  ·rw[List.drop_eq_nil_of_le (by rw[List.length_take];omega),kN]at hB
   (repeat' (first|refine aq fun K hK=>?_|refine ap ?_|(refine hK _ _ ?_;clear hK K)|(refine ao ?_ ?_<;>intro hc<;>try exact jz)|refine hKi _ _ ?_|refine X2 _ _ ?_|refine ar ?_|exact jI|(clear hK K)))
   refine TR _ _ (eu (i+1,z,m || wc (nth c.aa.aw i)) ⟨jJ,by rw[<-hB]at hA;exact hA,by rw[hB];exact(C9 _ _ _).aa.trans Xr⟩ jJ jy (by simp only[go_sem,lb,Nat.reduceAdd,AV.raw.injEq,Value.int.injEq,Value.slice.injEq,Value.pointer.injEq,AV.rs.injEq,wc];try omega))
 ·rw[show c.aa.aw.length-i=0 from jB,j8]at hA;have hz:iZ c=if m=true then q else q.aE 44 0:=by unfold iZ;rw[<-hA]
  have XI:=D4 q 44 0;cases m
  ·rw[if_neg jC]at hz
   (repeat' (first|refine aq fun K hK=>?_|refine ap ?_|(refine hK _ _ ?_;clear hK K)|(refine ao ?_ ?_<;>intro hc<;>try exact jz)|refine TX _ _ ?_|refine cm (XI) ?_|refine ar ?_|exact jI|(clear hK K)))
   rw[hz]
   (refine bV [] ?_ ?_<;>(try simp only[go_sem]))
  ·rw[if_pos rfl]at hz
   (repeat' (first|refine aq fun K hK=>?_|refine ap ?_|(refine hK _ _ ?_;clear hK K)|(refine ao ?_ ?_<;>intro hc<;>try exact jz)|refine TX _ _ ?_|refine ar ?_|exact jI|(clear hK K)))
   rw[hz]
   (refine bV [] ?_ ?_<;>(try simp only[go_sem]))
theorem yQ(body:Int):∀(ps:List bK) (c:Ck) (i:Int),bE c->c.size+ps.length<=20->bE (fy body c ps i)/\(fy body c ps i).aa=c.aa/\(fy body c ps i).aP=c.aP
 |[],c,i,h,hs=>by unfold fy;exact⟨h,rfl,rfl⟩
 |p::ps,c,i,h,hs=>by
  unfold fy;simp only[List.length_cons]at hs;have fin:∀c1:Ck,Ev c c1->bE (fy body (mB c1 ⟨p.name,p.ty,i⟩) ps (i+1))/\(fy body (mB c1 ⟨p.name,p.ty,i⟩) ps (i+1)).aa=c.aa/\(fy body (mB c1 ⟨p.name,p.ty,i⟩) ps (i+1)).aP=c.aP:=fun c1 s=>by have h1:=h.ev s;have hz:=s.size;obtain⟨a,b,d⟩:=yQ body ps (mB c1 ⟨p.name,p.ty,i⟩) (i+1) (As h1 _ jB) (by show c1.size+1+_<=20;omega);exact⟨a,b.trans s.aa,d.trans s.aP⟩
  simp only;split
  ·exact fin _ (n8 c jC body)
  ·exact fin _ (.refl c)
def Bl{c:Ck}(h:gy c){k:Nat}(hk:k<c.aa.aw.length)(TU:c.aP.length<6):gy (gM c k)/\(gM c k).aa=c.aa/\(gM c k).aP.length=c.aP.length+1:=by
 have Zw:=(h.aa.fn _ (fg hk)).2;have VY:bE { c with fn:=(k:Int),vars:=[],more:=[],size:=0 }:=⟨h.aa,h.types,h.slots,h.aw,by show c.aP.length<=6;omega,by show(0:Int)<=k;omega,by show(k:Int)<(c.aa.aw.length:Int);omega,by show((0:Nat):Int)<=0;omega,by show(0:Int)<=25;omega,fun _=>by show(0:Int)<=24;omega⟩;obtain⟨a,b,d⟩:=yQ (nth c.aa.aw k).body (nth c.aa.aw k).params _ 0 VY (by show(0:Int)+_<=20;omega);unfold gM;simp only;split
 ·have s:=(qs (fun q b hq he=>ot c.aa.nodes.length q b hq he) a (nth c.aa.aw k).body).1;have hi:=s.inv;refine⟨⟨hi.aa,hi.types,hi.slots,hi.aw⟩,s.aa.trans b,?_⟩;show((fl (bP c.aa.nodes.length) _ _).aP++[_]).length=_;rw[List.length_append,s.aP,d];rfl
 ·refine⟨⟨a.aa,a.types,a.slots,a.aw⟩,b,?_⟩;show((fy _ _ _ _).aP++[_]).length=_;rw[List.length_append,d];rfl
def nt(t:aH)(n:Nat):Ck:=⟨t,(t.nodes.take n).map fun _=>0,(t.nodes.take n).map fun _=>-1,(t.nodes.take n).map fun _=>0,[],0,[],[],0,0,0⟩
variable{n:Nat}
def O0(t:aH)(h:t.nodes.length<=n):nt t n=jr t:=by simp[nt,jr,List.take_of_length_le h]
def PS(t:aH)(h:n<t.nodes.length):nt t (n+1)={ nt t n with types:=(nt t n).types++[0],slots:=(nt t n).slots++[-1],aw:=(nt t n).aw++[0] }:=by simp[nt,tK h]
def OF(t:aH)(h:n<=t.nodes.length):(nt t n).types.length=n/\(nt t n).slots.length=n/\(nt t n).aw.length=n:=by simp[nt];omega
@[go_sem] def j1a(t:aH)(l:TE):lz t++l=aO eF 5 t.nodes::aO fV 5 t.aw::l:=rfl
def RN(t:aH)(h:aR t):aB prog 53 [.agg (lz t)] (.aQ [.agg (cd (iq t).1),rI (iq t).2.1,rI (iq t).2.2]):=by
 have hf:=h.aw;have hm:=h.many;refine bG func53 ntmps53 ?_
 (repeat' (first|refine aq fun K hK=>?_|refine ap ?_|(refine hK _ _ ?_;clear hK K)|(refine ao ?_ ?_<;>intro hc<;>try exact jz)|refine bx 10 ?_|refine al 11 ?_|refine bx 0 ?_|refine ar ?_|exact jI|(clear hK K)))
 have TX:=hK;clear hK;refine jq (dL.gb 1 0 2 3 1 rfl jC rfl rfl) ?_
 (refine S ?_;try exact jI)
 refine jq (dL.gb 2 0 3 3 1 rfl jC rfl rfl) ?_
 (refine S ?_;try exact jI)
 refine jq (dL.gb 3 0 4 3 1 rfl jC rfl rfl) ?_
 (refine S ?_;try exact jI)
 refine jq (dL.gb 4 0 5 3 1 rfl jC rfl rfl) ?_
 (refine S ?_;try exact jI)
 refine jq (dL.rT 0 7 rfl) ?_
 (refine S ?_;try exact jI)
 refine jq (dL.perm (nP (nt t 0)++[(10,.var 30 (lz t)),(11,.var 32 [.raw (.slice none 0 0),.raw (.slice none 0 0),.raw (.slice none 0 0),.raw (.slice none 0 0),.raw (.slice none 0 0),.raw (.slice none 0 0)])]) (fun i=>by simp only[go_sem,aA,nt];(repeat' split)<;>first|rfl|omega)) ?_;refine dV (S:=Nat) [(6,1),(12,40)] (fun k=>k<=t.nodes.length) (fun k=>[(6,rI k)]) (fun k=>⟨[],nP (nt t k)++[(10,.var 30 (lz t)),(11,.var 32 [.raw (.slice none 0 0),.raw (.slice none 0 0),.raw (.slice none 0 0),.raw (.slice none 0 0),.raw (.slice none 0 0),.raw (.slice none 0 0)])]⟩) (fun k=>t.nodes.length-k) 0 (Nat.zero_le _) (dS rfl cv) ?_;rintro k hk Kr TR;obtain⟨l1,l2,l3⟩:=OF t hk
 (refine S ?_;try exact jI)
 by_cases O':k<t.nodes.length
 ·(repeat' (first|refine aq fun K hK=>?_|refine ap ?_|(refine hK _ _ ?_;clear hK K)|(refine ao ?_ ?_<;>intro hc<;>try exact jz)|refine ar ?_|exact jI|(clear hK K)))
  refine TR _ _ (eu (k+1) jB jB (by rw[PS t O'];exact jy) cv)
 ·have T7:=O0 t (n:=k) jB;rw[T7]at*;have hh:=Lk (jr t) hf
  (repeat' (first|refine aq fun K hK=>?_|refine ap ?_|(refine hK _ _ ?_;clear hK K)|(refine ao ?_ ?_<;>intro hc<;>try exact jz)|refine TX _ _ ?_|refine cm (hh) ?_|refine ar ?_|exact jI|(clear hK K)))
  have XJ:=hK;clear hK;have eh:=Fm (jr t);have VY:gy (iZ (jr t)):=⟨by rw[eh.aa];exact h,by rw[eh.types,eh.aa];simp[jr],by rw[eh.slots,eh.aa];simp[jr],by rw[eh.aw,eh.aa];simp[jr]⟩;refine dV (S:=Nat×Ck) [(7,1),(54,17)] (fun s=>s.1<=t.aw.length/\gy s.2/\s.2.aa=t/\s.2.aP.length=s.1/\gB s.2 s.1 (t.aw.length-s.1)=ja t) (fun s=>[(7,rI s.1)]) (fun s=>⟨[],nP s.2++[(10,.var 30 (lz t)),(11,.var 32 [.raw (.slice none 0 0),.raw (.slice none 0 0),.raw (.slice none 0 0),.raw (.slice none 0 0),.raw (.slice none 0 0),.raw (.slice none 0 0)])]⟩) (fun s=>t.aw.length-s.1) (0,iZ (jr t)) ⟨Nat.zero_le _,VY,eh.aa,by rw[eh.aP];rfl,rfl⟩ (dS jy cv) ?_;rintro⟨i,q⟩ ⟨hi,hq,Xr,Za,hA⟩ Kr2 Xc;simp only at hi hq Xr Za hA
  (refine S ?_;try exact jI)
  by_cases UR:i<t.aw.length/\q.e=0
  ·obtain⟨Uo,Vd⟩:=UR;rw[show t.aw.length-i=(t.aw.length-(i+1))+1 from jB,gB,if_pos Vd]at hA;have hkf:i<q.aa.aw.length:=by rw[Xr];exact Uo
   have V8:=Qy q i hq hkf jB;obtain⟨f1,f2,f3⟩:=Bl hq hkf jB
   (have W:=Vd;repeat' (first|refine aq fun K hK=>?_|refine ap ?_|(refine hK _ _ ?_;clear hK K)|(refine ao ?_ ?_<;>intro hc<;>try exact jz)|refine cm (V8) ?_|refine ar ?_|exact jI|(clear hK K)))
   refine Xc _ _ (eu (i+1,gM q i) ⟨jJ,f1,f2.trans Xr,jJ,hA⟩ jJ jy cv)
  ·have hz:q=ja t:=by
    rw[<-hA];by_cases Uo:i<t.aw.length
    ·rw[show t.aw.length-i=(t.aw.length-(i+1))+1 from jB,gB,if_neg fun e=>UR ⟨Uo,e⟩]
    ·rw[show t.aw.length-i=0 from jB,gB]
   by_cases he:q.e=0
   ·have hr:iq t=(q.prog,0,0):=by unfold iq;rw[<-hz,if_neg (fun h=>h he)]
    have I':¬i<t.aw.length:=fun h=>UR ⟨h,he⟩
    (have W:=he;repeat' (first|refine aq fun K hK=>?_|refine ap ?_|(refine hK _ _ ?_;clear hK K)|(refine ao ?_ ?_<;>intro hc<;>try exact jz)|(refine XJ _ _ ?_)|refine ar ?_|exact jI|(clear hK K)))
    rw[hr];refine fA [.cell 2 32,.tmp 3,.tmp 4] ?_;refine bu.aQ (ds:=[.agg (cd q.prog),rI 0,rI 0]) ?_;refine jA (bu.agg (ds:=cd q.prog) ?_) (jA (.same _ rfl) (jA (.same _ rfl) trivial));simp only[cd,Ck.prog];exact iF
   ·have hr:iq t=(lc,q.at_,q.e):=by unfold iq;rw[<-hz,if_pos he]
    (have W:=he;repeat' (first|refine aq fun K hK=>?_|refine ap ?_|(with_reducible refine gR 14 ?_);refine dA 14 [11] (aW 0 12) mixed ?_|(refine hK _ _ ?_;clear hK K)|(refine ao ?_ ?_<;>intro hc<;>try exact jz)|(refine XJ _ _ ?_)|refine ar ?_|exact jI|(clear hK K)))
    rw[hr];refine fA [.cell 2 32,.tmp 3,.tmp 4] ?_;refine bu.aQ (ds:=[.agg (cd lc),rI _,rI _]) ?_;refine jA (bu.agg (ds:=cd lc) ?_) (jA (.same _ rfl) (jA (.same _ rfl) trivial));simp only[cd,lc];exact iF
end Go.Proofs.YtjpcgmjaipfgdaaGreatDoor
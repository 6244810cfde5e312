/- Lemmas. No conditions. -/
import Derived.Test.YtbjookcdpondlaaGreatDoorP2
import Derived.Test.YtbjookcdpondlaaGreatDoorShelf
set_option linter.all false
set_option maxHeartbeats 8000000
set_option maxRecDepth 10000
namespace Go.Gd
open Go
def Fs{P:SQ}{f:FuncId}{args:SG}{r:AV}(cS:SO)(v:Value)(ha:args=cS.map .raw)(hr:∀w:NW,aB w r v)(h:∀w:World,Calls P f cS.toArray w fun e w'=>e=.returned v/\RowKit.Below w.heap.size w w'):aP P f args r:=by
 intro w vs h1 h2;have Y7:vs=cS.toArray:=by
  apply Array.ext';apply List.ext_getElem?;intro i;obtain⟨hl,hv⟩:=h2;subst ha;by_cases hi:i<cS.length
  ·have UN:i<vs.size:=by rw[<-hl];simpa using hi
   have:=dH (hv i (.raw cS[i]) vs[i] (by simp[hi]) (by simp[UN]));simp[hi,UN,this]
  ·have UN:¬i<vs.size:=by rw[<-hl];simpa using hi
   rw[List.getElem?_eq_none (by simpa using UN),List.getElem?_eq_none (by simpa using hi)]
 subst Y7;refine(h w.toWorld).mono ?_;rintro e W ⟨rfl,hb⟩;have ex:Ext w (entry []) (w.to W) (entry []):={ size:=hb.size,free:=fun b Ul hO=>⟨hb.block b Ul,hO⟩,names:=fun _ _ _ _ h=>h,os:=hb.os,tape:=hb.tape,output:=hb.output,rest:=fun b Ul hO Td=>⟨hb.block b Ul,hO,Td⟩,base:=rfl };refine⟨v,r,entry [],w.to W,rfl,rfl,⟨rfl,rfl⟩,{ rows:=fun i row hi=>(by cases hi),dZ:=h1.dZ,inj:=h1.inj,own:=h1.own,cv:=h1.cv.bj ex.toKeep,fin:=fun b Ul=>Nat.lt_of_lt_of_le (h1.fin b Ul) hb.size },hr _,ex.qC⟩
variable{H:Hp}{t:SL}{cs:SG}
def A4{w:NW}(r:aT w H){j:Nat}{cs':SG}(hj:H.get j=some (.var t cs))(hl:cs'.length=cs.length)(h:∀(k:Nat) a a' v,cs[k]?=some a->cs'[k]?=some a'->aB w a v->aB w a' v):aT w (H.put j (.var t cs'))/\Ext w H w (H.put j (.var t cs')):=by
 have ex:Ext w H w (H.put j (.var t cs')):={ ExtQ.refl _ w with base:=rfl };refine⟨{ rows:=fun i s hi=>?_,dZ:=fun i m z hz=>?_,inj:=r.inj,own:=r.own,fin:=r.fin,cv:=r.cv.bj ex.toKeep },ex⟩
 ·rw[Hp.bs]at hi;split at hi
  ·rename_i e;subst e;cases hi;obtain⟨h1,z,h2,h3⟩:=r.rows _ _ hj;refine⟨trivial,z,h2,?_⟩;cases z with
   |nil=>obtain⟨e,sz,h4⟩:=h3;cases h4
   |«at» b u s=>
    obtain⟨g1,cur,g2,⟨g3,g4⟩,g5⟩:=h3;refine⟨g1,cur,g2,⟨g3,by show cs'.length<=u;rw[hl];exact g4⟩,fun k a v ha hv=>?_⟩;have ha:cs'[k]?=some a:=ha;have hk:k<cs.length:=by rw[<-hl];exact(List.getElem?_eq_some_iff.1 ha).1
    exact h k cs[k] a v (List.getElem?_eq_getElem hk) ha (g5 k cs[k] v (List.getElem?_eq_getElem hk) hv)
  ·exact r.rows i s hi
 ·obtain⟨s,h1,h2⟩:=r.dZ i m z hz;rw[Hp.bs];split
  ·rename_i e;subst e;rw[hj]at h1;cases h1;exact⟨_,rfl,h2⟩
  ·exact⟨s,h1,h2⟩
variable{F:SG}
def dJ.fB(i j k:Nat)(e:SL)(sz:Nat)(hi:H.get i=none)(h0:0<sz)(hj:H.get j=some (.var t cs))(hk:cs[k]?=some (.raw (.slice none 0 0))):dJ F H F ((H.put i (.aK e sz [])).put j (.var t (cs.set k (.rs i 0 sz 0)))):=fun w tm h1 h2=>by
 obtain⟨a,b⟩:=xY h1 hi e h0;have Zd:j≠i:=fun e=>by subst e;rw[hi]at hj;cases hj
 obtain⟨a',b'⟩:=A4 (cs':=cs.set k (.rs i 0 sz 0)) a (j:=j) (t:=t) (cs:=cs) (by rw[Hp.bs,if_neg Zd];exact hj) jE fun n x x' v hx Tg hv=>by
  rw[List.getElem?_set]at Tg;by_cases hn:k=n
  ·subst hn;rw[if_pos rfl]at Tg;split at Tg
   ·cases Tg;rw[hk]at hx;cases hx;cases hv;exact .iV _ _ _ _ (NW.cw _ _ _ _)
   ·cases Tg
  ·rw[if_neg hn,hx]at Tg;cases Tg;exact hv
 exact⟨w.name i 0 .nil,rfl,a',h2.ext b,(b.trans b').qC⟩
def dJ.sI(j k:Nat)(hj:H.get j=some (.var t cs)):dJ F H F (H.put j (.var t (cs.set k .any))):=fun w tm h1 h2=>by
 obtain⟨a',b'⟩:=A4 (cs':=cs.set k .any) h1 (j:=j) (t:=t) (cs:=cs) hj jE fun n x x' v hx Tg hv=>by
  rw[List.getElem?_set]at Tg;by_cases hn:k=n
  ·subst hn;rw[if_pos rfl]at Tg;split at Tg
   ·cases Tg;exact .any _
   ·cases Tg
  ·rw[if_neg hn]at Tg;rw[hx]at Tg;cases Tg;exact hv
 exact⟨w,rfl,a',h2,b'.qC⟩
def Gu{P:SQ}{id:Nat}{l:List Oper}{b:Bool}{Q:Exit->SC}{q:Prop}(j k:Nat){i m sz n:Nat}(h:q)(hj:H.get j=some (.var t cs):=by rfl)(hc:cs[k]?=some (.rs i m sz n):=by rfl)(e:dw P (.region id l.toArray b) Q F (H.put j (.var t (cs.set k .any)))=q:=by first|(simp only[go_sem];rfl)|rfl):dw P (.region id l.toArray b) Q F H:=iJ (dJ.sI j k hj) (e ▸ h)
end Go.Gd
namespace Go.Proofs.YtbjookcdpondlaaGreatDoor
open Go Go.Gd Tryz
def Br(s:SK)(k:Nat):eZ s k=((s.data.toList.getD k 0).toNat:Int):=by unfold eZ;simp
def kK:List UInt8->Nat->Nat
 |[],a=>a
 |c::l,a=>kK l (a*10+(c.toNat-48))
theorem F8:∀(l:List UInt8) (a:Nat),a<=kK l a
 |[],a=>Nat.le_refl _
 |c::l,a=>Nat.le_trans jB (F8 l _)
theorem HE:∀(l:List UInt8) (a:Nat),(∀c∈l,48<=c.toNat/\c.toNat<=57)->kK l a<=9223372036854775807->Lib.parseUint10 a l=.ok (kK l a)
 |[],a,_,_=>rfl
 |c::l,a,h,hm=>by have hc:=h c jE;have h1:=F8 l (a*10+(c.toNat-48));simp only[kK]at hm ⊢;unfold Lib.parseUint10;rw[if_pos hc,jN,jN];exact HE l _ (fun x hx=>h x (by simp[hx])) hm
theorem Fu:∀(l:List UInt8) (c:UInt8) (a:Nat),kK (l++[c]) a=kK l a*10+(c.toNat-48)
 |[],_,_=>rfl
 |_::l,c,_=>Fu l c _
theorem BM:∀(l:List UInt8) (a:Nat),(∀c∈l,48<=c.toNat/\c.toNat<=57)->kK l a+1<=(a+1)*10 ^ l.length
 |[],a,_=>by simp[kK]
 |c::l,a,h=>by have hc:=h c jE;have ih:=BM l (a*10+(c.toNat-48)) (fun x hx=>h x (by simp[hx]));simp only[kK,List.length_cons,Nat.pow_succ];refine Nat.le_trans ih ?_;rw[Nat.mul_comm (10 ^ l.length) 10,<-Nat.mul_assoc];exact Nat.mul_le_mul_right _ jB
theorem IJ:∀(l:List UInt8) (a:Nat),a*10 ^ l.length<=kK l a
 |[],a=>by simp[kK]
 |c::l,a=>by have ih:=IJ l (a*10+(c.toNat-48));simp only[kK,List.length_cons,Nat.pow_succ];refine Nat.le_trans ?_ ih;rw[Nat.mul_comm (10 ^ l.length) 10,<-Nat.mul_assoc];exact Nat.mul_le_mul_right _ jB
theorem HA:∀(l m:List UInt8) (a:Nat),l.length=m.length->(∀c∈l,48<=c.toNat/\c.toNat<=57)->(∀c∈m,48<=c.toNat/\c.toNat<=57)->Op.bytesLess l m=true->kK l a<kK m a
 |[],[],_,_,_,_,h=>by simp[Op.bytesLess]at h
 |[],_::_,_,hl,_,_,_=>by simp at hl
 |_::_,[],_,hl,_,_,_=>by simp at hl
 |x::l,y::m,a,hl,h1,h2,h=>by
  have hx:=h1 x jE;have hy:=h2 y jE;simp only[Op.bytesLess,Bool.or_eq_true,decide_eq_true_eq,Bool.and_eq_true,beq_iff_eq]at h;simp only[kK];rcases h with h|⟨rfl,h⟩
  ·have h:x.toNat<y.toNat:=h;have e1:=BM l (a*10+(x.toNat-48)) (fun c hc=>h1 c (by simp[hc]));have e2:=IJ m (a*10+(y.toNat-48));have e3:(a*10+(x.toNat-48)+1)*10 ^ l.length<=(a*10+(y.toNat-48))*10 ^ m.length:=by
    rw[show l.length=m.length by simpa using hl];exact Nat.mul_le_mul_right _ jB
   omega
  ·exact HA l m _ (by simpa using hl) (fun c hc=>h1 c (by simp[hc])) (fun c hc=>h2 c (by simp[hc])) h
theorem BK(s:SK)(hd:∀j,j<s.size->j8 (eZ s j)=true):∀k,k<=s.size->wI s k=(kK (s.data.toList.take k) 0:Nat)
 |0,_=>by simp[wI,kK]
 |k+1,hk=>by
  have SW:k<s.data.toList.length:=by simp;omega
  have h1:=hd k jB;simp only[j8,Bool.and_eq_true,decide_eq_true_eq]at h1;rw[Br]at h1;rw[wI,BK s hd k jB,List.take_succ_eq_append_getElem SW,Fu,Br];have:s.data.toList.getD k 0=s.data.toList[k]:=by rw[List.getD_eq_getElem?_getD,List.getElem?_eq_getElem SW];rfl
  rw[this]at h1 ⊢;omega
variable{s:SK}
def ID(h:rC s):∀c∈s.data.toList,48<=c.toNat/\c.toNat<=57:=fun c hc=>by obtain⟨k,hk,rfl⟩:=List.getElem_of_mem hc;have:=h.2.2 k (by simpa using hk);simp only[j8,Bool.and_eq_true,decide_eq_true_eq]at this;rw[Br,List.getD_eq_getElem?_getD,List.getElem?_eq_getElem hk]at this;simp only[Option.getD_some]at this;omega
def He(h:rC s):kK s.data.toList 0<=9223372036854775807:=by
 have hd:=ID h;have hn:=h.2.1;have hl:=BM s.data.toList 0 hd;have D':s.data.toList.length=s.size:=jE;unfold wU at hn;simp only[Bool.or_eq_true,decide_eq_true_eq,Bool.and_eq_true]at hn;rcases hn with hn|⟨hn,h2|h2⟩
 ·have:10 ^ s.data.toList.length<=10 ^ 18:=Nat.pow_le_pow_right jB (by rw[D'];omega);simp only[Nat.zero_add,Nat.one_mul]at hl;omega
 ·have e:s.toList=s.data.toList:=ByteArray.toList_eq s;have:=HA s.data.toList [57,50,50,51,51,55,50,48,51,54,56,53,52,55,55,53,56,48,55] 0 (by rw[D'];simp;omega) hd jC (by rw[<-e,show[57,50,50,51,51,55,50,48,51,54,56,53,52,55,55,53,56,48,55]=(⟨#[57,50,50,51,51,55,50,48,51,54,56,53,52,55,55,53,56,48,55]⟩:SK).toList by rw[ByteArray.toList_eq]];exact h2);have e2:kK [57,50,50,51,51,55,50,48,51,54,56,53,52,55,55,53,56,48,55] 0=9223372036854775807:=jC;omega
 ·subst h2;decide
def Na(h:rC s):Lib.atoiAll s.data.toList=.ok (qo s):=by
 have hd:=ID h;have Ta:=He h;have XB:qo s=(kK s.data.toList 0:Nat):=by unfold qo;rw[BK s h.2.2 _ jl,List.take_of_length_le jE]
 have hp:=HE s.data.toList 0 hd Ta;have Tk:=h.1;cases hs:s.data.toList with
 |nil=> have:s.data.toList.length=s.size:=jE;rw[hs]at this;simp at this;omega
 |cons c l=> rw[hs]at hd hp XB Ta;have hc:=hd c jE;simp only[Lib.atoiAll];rw[jN];simp only[Lib.parseMag,List.cons_ne_nil,if_false,hp,reduceCtorEq];rw[jN,jN,jN,XB]
def P8(s:SK)(h:rC s):aP prog 167 [rS s] (.bf [rI (qo s),.raw .nilIface]):=by
 have hs:s.size<=9223372036854775806:=by have hn:=h.2.1;unfold wU at hn;simp only[Bool.or_eq_true,decide_eq_true_eq,Bool.and_eq_true]at hn;omega
 refine Fs [.string s] (.tuple #[.int .i64 (qo s),.nilIface]) rfl (fun w=>?_) fun w=>?_
 ·exact .bf _ _ rfl fun i a v ha hv=>by
   match i with
   |0=>simp at ha hv;subst ha hv;exact .raw _
   |1=>simp at ha hv;subst ha hv;exact .raw _
   |i+2=>simp at ha
 ·refine(Tryz.strconv_Atoi_ok s hs (qo s) (Na h) w).mono ?_;rintro e W ⟨rfl,hW⟩;refine⟨rfl,?_⟩;rcases hW with rfl|⟨t,rfl⟩
  ·exact RowKit.Below.refl _ _
  ·exact Lib.bytesWorld_below _ _ _
def RF(n:Nat)(hc:zE n):A2 (n+1):=by
 intro r h hn;have UT:=h.lt;have hip:=h.pos;have TP:=h.len;have hin':(r.l.length:Int)<=2000:=jB;have O':∀q:Rd,q.Inv->8*q.rem+8<=n->ai prog 129 [pR] (cF q) (fun v l=>v=rI (eH n 0 q).2/\l=cF (eH n 0 q).1):=fun q hq hm=>by
  have:=hc 0 q jB hq jB;refine aU func129 ntmps129 ?_;refine S ?_
  (repeat' (first|refine aA fun K hK=>?_|refine ax ?_|(refine hK _ _ ?_;clear hK K)|(refine az ?_ ?_<;>intro hc<;>try exact jz)|refine cm (this) ?_|refine ay ?_|exact jI|(clear hK K)))
  (refine cr [.tmp 2] ?_ ?_<;>(try simp only[go_sem]))
 have aX:∀(q:Rd) (t u:SK),q.Inv->q.e=0->q.down.Inv/\(q.down.ar t).Inv/\(eH n 0 (q.down.ar t)).1.Inv/\((eH n 0 (q.down.ar t)).1.ar u).Inv/\((eH n 0 (q.down.ar t)).1.ar u).up.Inv/\(q.down.ar t).rem<=q.rem:=fun q t u hq he=>by have h1:=(Rd.bS hq he).1;have s1:=Rd.aQ h1 t;have h2:=s1.inv h1;have s2:=(sH n).2.2.1 0 _ h2;have h3:=s2.inv h2;have s3:=Rd.aQ h3 u;refine⟨h1,h2,h3,s3.inv h3,(Rd.fE hq he ((s1.trans s2).trans s3)).inv hq,Nat.le_trans s1.rem ?_⟩;have hd:=Rd.bS hq he;unfold Rd.rem;rw[if_pos he,hd.2.2.1,hd.2.2.2.1];split<;>omega
 rw[qv];by_cases he:r.e≠0
 ·rw[if_pos he];refine aU func163 ntmps163 ?_;refine S ?_
  (repeat' (first|refine aA fun K hK=>?_|refine ax ?_|(with_reducible refine gR 2 ?_);refine dE 2 (bo 0 12) mixed ?_|(refine hK _ _ ?_;clear hK K)|(refine az ?_ ?_<;>intro hc<;>try exact jz)|refine cm (ii r (bI h)) ?_|refine ay ?_|exact jI|(clear hK K)))
  (refine bG [.tmp 2] ?_;try simp only[go_sem])
 rw[if_neg he];have he:r.e=0:=jB;have Vi:r.tok.kind≠0->r.inc.Inv/\r.inc.rem+1<=r.rem/\r.i+1<r.l.length:=fun hk=>⟨(Rd.bv h hk).1.inv h,Rd.dj h ⟨he,hk⟩,Rd.behind h hk⟩
 by_cases Te:r.tok.kind=1
 ·rw[if_pos Te];obtain⟨hi,_,hb⟩:=Vi jB;have hnt:=h.num r.i.toNat jB Te;have VM:(nth r.l r.i.toNat).kind=1:=Te;refine aU func163 ntmps163 ?_;refine S ?_
  (have W:=jA he (VM);repeat' (first|refine aA fun K hK=>?_|refine ax ?_|(with_reducible refine gR 2 ?_);refine dE 2 (bo 0 12) mixed ?_|(refine hK _ _ ?_;clear hK K)|(refine az ?_ ?_<;>intro hc<;>try exact jz)|refine cm (ii r (bI h)) ?_|refine cp (P8 _ hnt) ?_|refine cm (lz r.inc _ _ _ _ [] _ gm.nil (bI hi)) ?_|refine ay ?_|exact jI|(clear hK K)))
  (refine bG [.tmp 2] ?_;try simp only[go_sem])
  all_goals rfl
 rw[if_neg Te];have VM:¬(nth r.l r.i.toNat).kind=1:=Te;by_cases S5:r.tok.kind=2
 ·rw[if_pos S5];obtain⟨hi,_,hb⟩:=Vi jB;have VN:(nth r.l r.i.toNat).kind=2:=S5;refine aU func163 ntmps163 ?_;refine S ?_
  (have W:=jA he (VN);repeat' (first|refine aA fun K hK=>?_|refine ax ?_|(with_reducible refine gR 2 ?_);refine dE 2 (bo 0 12) mixed ?_|(refine hK _ _ ?_;clear hK K)|(refine az ?_ ?_<;>intro hc<;>try exact jz)|refine cm (ii r (bI h)) ?_|refine cm (lz r.inc _ _ _ _ [] _ gm.nil (bI hi)) ?_|refine ay ?_|exact jI|(clear hK K)))
  (refine bG [.tmp 2] ?_;try simp only[go_sem])
  all_goals rfl
 rw[if_neg S5];have VN:¬(nth r.l r.i.toNat).kind=2:=S5;by_cases Vp:r.tok.kind=3
 ·rw[if_pos Vp];obtain⟨hi,hr,hb⟩:=Vi jB;have VA:(nth r.l r.i.toNat).kind=3:=Vp;by_cases hx:r.inc.is (⟨#[91]⟩:SK)=true
  ·rw[if_pos hx];obtain⟨d1,d2,d3,d4,d5,d6⟩:=aX r.inc (⟨#[91]⟩:SK) (⟨#[93]⟩:SK) hi he;have d4l:=d4.pv;have d4h:=d4.qf;refine aU func163 ntmps163 ?_;refine S ?_
   (have W:=jA he (jA VA (hx));repeat' (first|refine aA fun K hK=>?_|refine ax ?_|(with_reducible refine gR 2 ?_);refine dE 2 (bo 0 12) mixed ?_|(refine hK _ _ ?_;clear hK K)|(refine az ?_ ?_<;>intro hc<;>try exact jz)|refine cm (ii r (bI h)) ?_|refine cm (gv r.inc _ (bI hi)) ?_|refine cm (uw r.inc (bI hi)) ?_|refine cm (iP r.inc.down _ (bI d1)) ?_|refine cm (O' (r.inc.down.ar (⟨#[91]⟩:SK)) d2 jB) ?_|refine cm (iP (eH n 0 (r.inc.down.ar (⟨#[91]⟩:SK))).1 _ (bI d3)) ?_|refine cm (lz ((eH n 0 (r.inc.down.ar (⟨#[91]⟩:SK))).1.ar (⟨#[93]⟩:SK)).up _ _ _ _ [(eH n 0 (r.inc.down.ar (⟨#[91]⟩:SK))).2] _ gm.sl (bI d5)) ?_|refine ay ?_|exact jI|(clear hK K)))
   (refine bG [.tmp 2] ?_;try simp only[go_sem])
   all_goals rfl
  ·rw[if_neg hx];have Tg:r.inc.is (⟨#[91]⟩:SK)=false:=by simpa using hx
   refine aU func163 ntmps163 ?_;refine S ?_
   (have W:=jA he (jA VA (Tg));repeat' (first|refine aA fun K hK=>?_|refine ax ?_|(with_reducible refine gR 2 ?_);refine dE 2 (bo 0 12) mixed ?_|(refine hK _ _ ?_;clear hK K)|(refine az ?_ ?_<;>intro hc<;>try exact jz)|refine cm (ii r (bI h)) ?_|refine cm (gv r.inc _ (bI hi)) ?_|refine cm (lz r.inc _ _ _ _ [] _ gm.nil (bI hi)) ?_|refine ay ?_|exact jI|(clear hK K)))
   (refine bG [.tmp 2] ?_;try simp only[go_sem])
   all_goals rfl
 rw[if_neg Vp];have VA:¬(nth r.l r.i.toNat).kind=3:=Vp;by_cases ht:r.is (⟨#[116,114,117,101]⟩:SK)=true
 ·rw[if_pos ht];obtain⟨hi,hr,hb⟩:=Vi (Rd.aZ ht).2;refine aU func163 ntmps163 ?_;refine S ?_
  (have W:=jA he (jA ht (jA VM (jA VN (VA))));repeat' (first|refine aA fun K hK=>?_|refine ax ?_|(with_reducible refine gR 2 ?_);refine dE 2 (bo 0 12) mixed ?_|(refine hK _ _ ?_;clear hK K)|(refine az ?_ ?_<;>intro hc<;>try exact jz)|refine cm (ii r (bI h)) ?_|refine cm (gv r _ (bI h)) ?_|refine cm (lz r.inc _ _ _ _ [] _ gm.nil (bI hi)) ?_|refine ay ?_|exact jI|(clear hK K)))
  (refine bG [.tmp 2] ?_;try simp only[go_sem])
 rw[if_neg ht];have Wm:r.is (⟨#[116,114,117,101]⟩:SK)=false:=by simpa using ht
 by_cases hf:r.is (⟨#[102,97,108,115,101]⟩:SK)=true
 ·rw[if_pos hf];obtain⟨hi,hr,hb⟩:=Vi (Rd.aZ hf).2;refine aU func163 ntmps163 ?_;refine S ?_
  (have W:=jA he (jA Wm (jA hf (jA VM (jA VN (VA)))));repeat' (first|refine aA fun K hK=>?_|refine ax ?_|(with_reducible refine gR 2 ?_);refine dE 2 (bo 0 12) mixed ?_|(refine hK _ _ ?_;clear hK K)|(refine az ?_ ?_<;>intro hc<;>try exact jz)|refine cm (ii r (bI h)) ?_|refine cm (gv r _ (bI h)) ?_|refine cm (lz r.inc _ _ _ _ [] _ gm.nil (bI hi)) ?_|refine ay ?_|exact jI|(clear hK K)))
  (refine bG [.tmp 2] ?_;try simp only[go_sem])
 rw[if_neg hf];have WW:r.is (⟨#[102,97,108,115,101]⟩:SK)=false:=by simpa using hf
 by_cases hl:r.is (⟨#[108,101,110]⟩:SK)=true
 ·rw[if_pos hl];obtain⟨hi,hr,hb⟩:=Vi (Rd.aZ hl).2;by_cases hx:r.inc.is (⟨#[40]⟩:SK)=true
  ·rw[if_pos hx];obtain⟨d1,d2,d3,d4,d5,d6⟩:=aX r.inc (⟨#[40]⟩:SK) (⟨#[41]⟩:SK) hi he;have d4l:=d4.pv;have d4h:=d4.qf;refine aU func163 ntmps163 ?_;refine S ?_
   (have W:=jA he (jA Wm (jA WW (jA hl (jA VM (jA VN (jA VA (hx)))))));repeat' (first|refine aA fun K hK=>?_|refine ax ?_|(with_reducible refine gR 2 ?_);refine dE 2 (bo 0 12) mixed ?_|(refine hK _ _ ?_;clear hK K)|(refine az ?_ ?_<;>intro hc<;>try exact jz)|refine cm (ii r (bI h)) ?_|refine cm (gv r _ (bI h)) ?_|refine cm (gv r.inc _ (bI hi)) ?_|refine cm (uw r.inc (bI hi)) ?_|refine cm (iP r.inc.down _ (bI d1)) ?_|refine cm (O' (r.inc.down.ar (⟨#[40]⟩:SK)) d2 jB) ?_|refine cm (iP (eH n 0 (r.inc.down.ar (⟨#[40]⟩:SK))).1 _ (bI d3)) ?_|refine cm (lz ((eH n 0 (r.inc.down.ar (⟨#[40]⟩:SK))).1.ar (⟨#[41]⟩:SK)).up _ _ _ _ [(eH n 0 (r.inc.down.ar (⟨#[40]⟩:SK))).2] _ gm.sl (bI d5)) ?_|refine ay ?_|exact jI|(clear hK K)))
   (refine bG [.tmp 2] ?_;try simp only[go_sem])
  ·rw[if_neg hx];have Tg:r.inc.is (⟨#[40]⟩:SK)=false:=by simpa using hx
   refine aU func163 ntmps163 ?_;refine S ?_
   (have W:=jA he (jA Wm (jA WW (jA hl (jA VM (jA VN (jA VA (Tg)))))));repeat' (first|refine aA fun K hK=>?_|refine ax ?_|(with_reducible refine gR 2 ?_);refine dE 2 (bo 0 12) mixed ?_|(refine hK _ _ ?_;clear hK K)|(refine az ?_ ?_<;>intro hc<;>try exact jz)|refine cm (ii r (bI h)) ?_|refine cm (gv r _ (bI h)) ?_|refine cm (gv r.inc _ (bI hi)) ?_|refine cm (tX r.inc _ (bI hi)) ?_|refine ay ?_|exact jI|(clear hK K)))
   (refine bG [.tmp 2] ?_;try simp only[go_sem])
 rw[if_neg hl];have Ur:r.is (⟨#[108,101,110]⟩:SK)=false:=by simpa using hl
 by_cases hx:r.is (⟨#[40]⟩:SK)=true
 ·rw[if_pos hx];obtain⟨hi,hr,hb⟩:=Vi (Rd.aZ hx).2;obtain⟨d1,d2,d3,d4,d5,d6⟩:=aX r (⟨#[40]⟩:SK) (⟨#[41]⟩:SK) h he;have d4l:=d4.pv;have d4h:=d4.qf;have d7:(r.down.ar (⟨#[40]⟩:SK)).rem+1<=r.rem:=by
   have hdn:=Rd.bS h he;unfold Rd.rem;rw[if_pos he];have TA:(r.down.ar (⟨#[40]⟩:SK)).l=r.l:=(Rd.aQ d1 _).l.trans hdn.2.2.2.1;rw[TA];by_cases hq:r.down.is (⟨#[40]⟩:SK)=true
   ·have:r.down.ar (⟨#[40]⟩:SK)=r.down.inc:=by unfold Rd.ar;rw[if_pos hq]
    rw[this];have:r.down.inc.i=r.i+1:=by show r.down.i+1=_;rw[hdn.2.2.1]
    rw[this];split<;>omega
   ·have hm:r.down.ar (⟨#[40]⟩:SK)=r.down.aG 20:=by unfold Rd.ar;rw[if_neg hq]
    rw[hm];have:(r.down.aG 20).e≠0:=by
     unfold Rd.aG;split
     ·show(20:Int)≠0;decide
     ·assumption
    rw[if_neg this];omega
  refine aU func163 ntmps163 ?_;refine S ?_
  (have W:=jA he (jA Wm (jA WW (jA Ur (jA VM (jA VN (jA VA (hx)))))));repeat' (first|refine aA fun K hK=>?_|refine ax ?_|(with_reducible refine gR 2 ?_);refine dE 2 (bo 0 12) mixed ?_|(refine hK _ _ ?_;clear hK K)|(refine az ?_ ?_<;>intro hc<;>try exact jz)|refine cm (ii r (bI h)) ?_|refine cm (gv r _ (bI h)) ?_|refine cm (uw r (bI h)) ?_|refine cm (iP r.down _ (bI d1)) ?_|refine cm (O' (r.down.ar (⟨#[40]⟩:SK)) d2 jB) ?_|refine cm (iP (eH n 0 (r.down.ar (⟨#[40]⟩:SK))).1 _ (bI d3)) ?_|refine ay ?_|exact jI|(clear hK K)))
  (refine bG [.tmp 2] ?_;try simp only[go_sem])
 rw[if_neg hx];have Tg:r.is (⟨#[40]⟩:SK)=false:=by simpa using hx
 refine aU func163 ntmps163 ?_;refine S ?_
 (have W:=jA he (jA Wm (jA WW (jA Ur (jA VM (jA VN (jA VA (Tg)))))));repeat' (first|refine aA fun K hK=>?_|refine ax ?_|(with_reducible refine gR 2 ?_);refine dE 2 (bo 0 12) mixed ?_|(refine hK _ _ ?_;clear hK K)|(refine az ?_ ?_<;>intro hc<;>try exact jz)|refine cm (ii r (bI h)) ?_|refine cm (gv r _ (bI h)) ?_|refine cm (tX r _ (bI h)) ?_|refine ay ?_|exact jI|(clear hK K)))
 (refine bG [.tmp 2] ?_;try simp only[go_sem])
theorem Cr:∀m n,n<=m->A2 n/\z8 n/\zE n
 |0,0,_=>⟨fun r h hn=>by omega,fun r h hn=>by omega,fun lv r hl h hn=>by omega⟩
 |m+1,0,_=>⟨fun r h hn=>jB,fun r h hn=>jB,fun lv r hl h hn=>jB⟩
 |m+1,n+1,hm=>by obtain⟨ha,hf,hc⟩:=Cr m n jB;exact⟨RF n hc,Sr n ha hf,Of n hf fun k hk=>(Cr m k jB).2.2⟩
def JU(n:Nat)(r:Rd)(h:r.Inv)(hn:8*r.rem+8<=n):ai prog 129 [pR] (cF r) (fun v l=>v=rI (eH n 0 r).2/\l=cF (eH n 0 r).1):=by
 have:=(Cr n n jl).2.2 0 r jB h jB;refine aU func129 ntmps129 ?_;refine S ?_
 (repeat' (first|refine aA fun K hK=>?_|refine ax ?_|(refine hK _ _ ?_;clear hK K)|(refine az ?_ ?_<;>intro hc<;>try exact jz)|refine cm (this) ?_|refine ay ?_|exact jI|(clear hK K)))
 (refine cr [.tmp 2] ?_ ?_<;>(try simp only[go_sem]))
variable{r:Rd}
def qz(h:r.Inv):ai prog 129 [pR] (cF r) (fun v l=>v=rI (dn r).2/\l=cF (dn r).1):=JU _ r h jl
def D7(h:r.Inv):ai prog 145 [pR] (cF r) (fun v l=>v=rI (mQ r).2/\l=cF (mQ r).1):=by
 have h1:=(Rd.dv h).inv h;have h2:=(zP h).inv h;have h3:=(AY h).inv h;have h4:=(KA h).inv h;have Y4:(px r).rem<=2000:=by have:=h2.pos;have:=h2.len;unfold Rd.rem;split<;>omega
 have hm:ai prog 63 [pR,rS (⟨#[40]⟩:SK)] (cF r.name.1) (fun v l=>v=.bf []/\l=cF (px r)):=iP r.name.1 _ (bI h1);refine aU func145 ntmps145 ?_;refine S ?_
 (repeat' (first|refine aA fun K hK=>?_|refine ax ?_|(refine hK _ _ ?_;clear hK K)|(refine az ?_ ?_<;>intro hc<;>try exact jz)|refine cm (ii r (bI h)) ?_|refine cm (ve r (bI h)) ?_|refine cm (hm) ?_|refine cm (gv (px r) _ (bI h2)) ?_|refine ay ?_|exact jI|(clear hK K)))
 have Tc:=hK;clear hK;refine iJ (dJ.nil 2 5 3 (sz:=1) rfl jC (Or.inr ⟨_,_,_,rfl,rfl⟩)) ?_
 (refine S ?_;try exact jI)
 refine fa (S:=Nat×Bool×Rd×SI) [(5,1),(7,2),(27,17)] (fun s=>s.2.2.1.Inv/\(s.2.1=true->s.2.2.1.rem+2<=s.1)/\1<=s.1/\s.2.2.2.length+s.1<=5000/\nM s.1 s.2.1 s.2.2.1 s.2.2.2=n8 r) (fun s=>[(5,.rs 2 s.2.2.2.length 1 s.2.2.2.length),(7,rB s.2.1)]) (fun s=>⟨[0,1],cF s.2.2.1++[(2,.aK 3 1 (s.2.2.2.map eI))]⟩) (fun s=>s.1) ((px r).rem+2,more (px r),px r,[]) ⟨h2,fun _=>Nat.le_refl _,jJ,by(try simp only[List.length_nil]);omega,rfl⟩ (fb rfl (by simp only[go_sem,jL,Nat.reduceAdd,AV.raw.injEq,Value.int.injEq,Value.slice.injEq,Value.pointer.injEq,AV.rs.injEq,more,List.length_nil];try omega)) ?_;rintro⟨n,b,q,L⟩ ⟨hq,TH,U0,Ym,hA⟩ Kr S8;simp only at hq TH U0 Ym hA;have hqi:=hq.lt;have hqp:=hq.pos;have Yf:=hq.len;obtain⟨n,rfl⟩:∃k,n=k+1:=⟨n-1,jB⟩;cases b with
 |false=>
  rw[nM]at hA;have e1:q=(n8 r).1:=by rw[<-hA]
  have e2:L=(n8 r).2:=by rw[<-hA]
  rw[<-e1]at h4;refine S ?_
  (repeat' (first|refine aA fun K hK=>?_|refine ax ?_|(refine hK _ _ ?_;clear hK K)|(refine az ?_ ?_<;>intro hc<;>try exact jz)|refine ay ?_|exact jI|(clear hK K)))
  refine Tc _ _ ?_;refine Fm [2] 5 (bh eI 1 L) Sd Sd lU ?_;refine S ?_
  (repeat' (first|refine aA fun K hK=>?_|refine ax ?_|(refine hK _ _ ?_;clear hK K)|(refine az ?_ ?_<;>intro hc<;>try exact jz)|refine cm (iP q _ (bI hq)) ?_|refine cm (wV (q.ar (⟨#[41]⟩:SK)) _ _ _ _ L (bI h4)) ?_|refine ay ?_|exact jI|(clear hK K)))
  (refine cr [.tmp 2] ?_ ?_<;>(try simp only[go_sem]))
  ·unfold mQ;rw[<-e1,<-e2]
  ·unfold mQ;rw[<-e1,<-e2]
 |true=>
  have s1:=j6 hq;have hx:=s1.inv hq;have VD:=s1.rem;have hxi:=hx.lt;have hxp:=hx.pos;have hxl:=hx.len;have TH:=TH rfl;rw[nM]at hA;refine S ?_
  (repeat' (first|refine aA fun K hK=>?_|refine ax ?_|(refine hK _ _ ?_;clear hK K)|(refine az ?_ ?_<;>intro hc<;>try exact jz)|refine cm (qz hq) ?_|refine cm (gv (dn q).1 _ (bI hx)) ?_|refine ay ?_|exact jI|(clear hK K)))
  ·rw[if_pos hc]at hA;have hk:=Rd.aZ hc;have WG:=Rd.dj hx hk;refine S8 _ _ (fc (n,true,(dn q).1.inc,L++[(dn q).2]) ⟨(Rd.bv hx hk.2).1.inv hx,fun _=>jJ,jJ,by(try simp only[List.length_append,List.length_cons,List.length_nil]);omega,hA⟩ jJ (by simp only[go_sem,cF,iq,List.map_append,List.map_cons,List.map_nil,List.cons_append,List.nil_append];(try rfl)) (by simp only[go_sem,jL,Nat.reduceAdd,AV.raw.injEq,Value.int.injEq,Value.slice.injEq,Value.pointer.injEq,AV.rs.injEq,hc,List.length_append,List.length_cons,List.length_nil];try omega))
  ·rw[if_neg (by rw[hc];decide)]at hA;refine S8 _ _ (fc (n,false,(dn q).1,L++[(dn q).2]) ⟨hx,(by intro h;cases h),jJ,by(try simp only[List.length_append,List.length_cons,List.length_nil]);omega,?_⟩ jJ (by simp only[go_sem,cF,iq,List.map_append,List.map_cons,List.map_nil,List.cons_append,List.nil_append];(try rfl)) (by simp only[go_sem,jL,Nat.reduceAdd,AV.raw.injEq,Value.int.injEq,Value.slice.injEq,Value.pointer.injEq,AV.rs.injEq,hc,List.length_append,List.length_cons,List.length_nil];try omega));rw[<-hA];obtain⟨n,rfl⟩:∃k,n=k+1:=⟨n-1,jB⟩;rw[nM]
def wo(h:r.Inv):ai prog 144 [pR] (cF r) (fun v l=>v=rB r.calls/\l=cF r):=MG r (bI h) (fun hk=>Rd.behind h (Rd.dX hk jC).2)
def DS(h:r.Inv):ai prog 128 [pR] (cF r) (fun v l=>v=rI (lP r).2/\l=cF (lP r).1):=by
 have hri:=h.lt;have hrp:=h.pos;have U6:=h.len;have Vi:r.tok.kind≠0->r.inc.Inv:=fun hk=>(Rd.bv h hk).1.inv h
 by_cases hx:r.is (⟨#[105,110,112,117,116]⟩:SK)=true
 ·have hi:=Vi (Rd.aZ hx).2;rw[lP,if_pos hx];refine aU func128 ntmps128 ?_;refine S ?_
  (have W:=hx;repeat' (first|refine aA fun K hK=>?_|refine ax ?_|(refine hK _ _ ?_;clear hK K)|(refine az ?_ ?_<;>intro hc<;>try exact jz)|refine cm (ii r (bI h)) ?_|refine cm (gv r _ (bI h)) ?_|refine cm (lz r.inc _ _ _ _ [] _ gm.nil (bI hi)) ?_|refine ay ?_|exact jI|(clear hK K)))
  (refine cr [.tmp 2] ?_ ?_<;>(try simp only[go_sem]))
 rw[lP,if_neg hx];have Tg:r.is (⟨#[105,110,112,117,116]⟩:SK)=false:=by simpa using hx
 by_cases hy:r.is (⟨#[110,101,119]⟩:SK)=true
 ·have hi:=Vi (Rd.aZ hy).2;have h1:=(Rd.aQ hi (⟨#[40]⟩:SK)).inv hi;have h2:=(j6 h1).inv h1;have h3:=(Rd.aQ h2 (⟨#[41]⟩:SK)).inv h2;rw[if_pos hy];refine aU func128 ntmps128 ?_;refine S ?_
  (have W:=jA Tg hy;repeat' (first|refine aA fun K hK=>?_|refine ax ?_|(refine hK _ _ ?_;clear hK K)|(refine az ?_ ?_<;>intro hc<;>try exact jz)|refine cm (ii r (bI h)) ?_|refine cm (gv r _ (bI h)) ?_|refine cm (iP r.inc _ (bI hi)) ?_|refine cm (qz h1) ?_|refine cm (iP (dn (r.inc.ar (⟨#[40]⟩:SK))).1 _ (bI h2)) ?_|refine cm (lz ((dn (r.inc.ar (⟨#[40]⟩:SK))).1.ar (⟨#[41]⟩:SK)) _ _ _ _ [(dn (r.inc.ar (⟨#[40]⟩:SK))).2] _ gm.sl (bI h3)) ?_|refine ay ?_|exact jI|(clear hK K)))
  (refine cr [.tmp 2] ?_ ?_<;>(try simp only[go_sem]))
 rw[if_neg hy];have XC:r.is (⟨#[110,101,119]⟩:SK)=false:=by simpa using hy
 by_cases S9:r.calls=true
 ·rw[if_pos S9];refine aU func128 ntmps128 ?_;refine S ?_
  (have W:=jA Tg (jA XC (S9));repeat' (first|refine aA fun K hK=>?_|refine ax ?_|(refine hK _ _ ?_;clear hK K)|(refine az ?_ ?_<;>intro hc<;>try exact jz)|refine cm (ii r (bI h)) ?_|refine cm (gv r _ (bI h)) ?_|refine cm (wo h) ?_|refine cm (D7 h) ?_|refine ay ?_|exact jI|(clear hK K)))
  (refine cr [.tmp 2] ?_ ?_<;>(try simp only[go_sem]))
 ·rw[if_neg S9];have TD:r.calls=false:=by simpa using S9
  refine aU func128 ntmps128 ?_;refine S ?_
  (have W:=jA Tg (jA XC (TD));repeat' (first|refine aA fun K hK=>?_|refine ax ?_|(refine hK _ _ ?_;clear hK K)|(refine az ?_ ?_<;>intro hc<;>try exact jz)|refine cm (ii r (bI h)) ?_|refine cm (gv r _ (bI h)) ?_|refine cm (wo h) ?_|refine cm (qz h) ?_|refine ay ?_|exact jI|(clear hK K)))
  (refine cr [.tmp 2] ?_ ?_<;>(try simp only[go_sem]))
def OO(h:r.Inv)(he:r.e=0)(ln:Int):ai prog 130 [pR,rI ln] (cF r) (fun v l=>v=rI (pW r ln).2/\l=cF (pW r ln).1):=by
 have hri:=h.lt;have hrp:=h.pos;have U6:=h.len;by_cases S9:r.calls=true
 ·have h1:=(Dp h S9).1.inv h;have h2:=(Rd.aQ h1 (⟨#[59]⟩:SK)).inv h1;rw[pW,if_pos S9];refine aU func130 ntmps130 ?_;refine S ?_
  (have W:=S9;repeat' (first|refine aA fun K hK=>?_|refine ax ?_|(refine hK _ _ ?_;clear hK K)|(refine az ?_ ?_<;>intro hc<;>try exact jz)|refine cm (wo h) ?_|refine cm (D7 h) ?_|refine cm (iP (mQ r).1 _ (bI h1)) ?_|refine cm (lz ((mQ r).1.ar (⟨#[59]⟩:SK)) _ _ _ _ [(mQ r).2] _ gm.sl (bI h2)) ?_|refine ay ?_|exact jI|(clear hK K)))
  (refine cr [.tmp 4] ?_ ?_<;>(try simp only[go_sem]))
 rw[pW,if_neg S9];have TD:r.calls=false:=by simpa using S9
 have h0:=(Rd.dv h).inv h;by_cases hx:r.name.1.is (⟨#[91]⟩:SK)=true
 ·rw[if_pos hx];have d0:=(Rd.bS h0 (Rd.aZ hx).1).1;have d1:=(Rd.aQ d0 (⟨#[91]⟩:SK)).inv d0;have d2:=(j6 d1).inv d1;have d3:=(Rd.aQ d2 (⟨#[93]⟩:SK)).inv d2;have d4:=(CG h0 hx).2.inv h0;have d5:=(zF h0 hx).1.inv h0;have d6:=(zF h0 hx).2.inv h0;have d7:=(Rd.aQ d6 (⟨#[59]⟩:SK)).inv d6;have d3l:=d3.pv;have d3h:=d3.qf;unfold wb o9 at*;refine aU func130 ntmps130 ?_;refine S ?_
  (have W:=jA TD hx;repeat' (first|refine aA fun K hK=>?_|refine ax ?_|(refine hK _ _ ?_;clear hK K)|(refine az ?_ ?_<;>intro hc<;>try exact jz)|refine cm (wo h) ?_|refine cm (ve r (bI h)) ?_|refine cm (gv r.name.1 _ (bI h0)) ?_|refine cm (uw r.name.1 (bI h0)) ?_|refine cm (iP r.name.1.down _ (bI d0)) ?_|refine cm (qz d1) ?_|refine cm (iP (dn (r.name.1.down.ar (⟨#[91]⟩:SK))).1 _ (bI d2)) ?_|refine cm (iP ((dn (r.name.1.down.ar (⟨#[91]⟩:SK))).1.ar (⟨#[93]⟩:SK)).up _ (bI d4)) ?_|refine cm (qz d5) ?_|refine cm (iP (dn (((dn (r.name.1.down.ar (⟨#[91]⟩:SK))).1.ar (⟨#[93]⟩:SK)).up.ar (⟨#[61]⟩:SK))).1 _ (bI d6)) ?_|refine cm (lz ((dn (((dn (r.name.1.down.ar (⟨#[91]⟩:SK))).1.ar (⟨#[93]⟩:SK)).up.ar (⟨#[61]⟩:SK))).1.ar (⟨#[59]⟩:SK)) _ _ _ _ [(dn (r.name.1.down.ar (⟨#[91]⟩:SK))).2,(dn (((dn (r.name.1.down.ar (⟨#[91]⟩:SK))).1.ar (⟨#[93]⟩:SK)).up.ar (⟨#[61]⟩:SK))).2] _ gm.sl (bI d7)) ?_|refine ay ?_|exact jI|(clear hK K)))
  (refine cr [.tmp 4] ?_ ?_<;>(try simp only[go_sem]))
 ·rw[if_neg hx];have Tg:r.name.1.is (⟨#[91]⟩:SK)=false:=by simpa using hx
  have d1:=(Rd.aQ h0 (⟨#[61]⟩:SK)).inv h0;have d2:=(yP d1).inv d1;have d3:=(Rd.aQ d2 (⟨#[59]⟩:SK)).inv d2;refine aU func130 ntmps130 ?_;refine S ?_
  (have W:=jA TD (Tg);repeat' (first|refine aA fun K hK=>?_|refine ax ?_|(refine hK _ _ ?_;clear hK K)|(refine az ?_ ?_<;>intro hc<;>try exact jz)|refine cm (wo h) ?_|refine cm (ve r (bI h)) ?_|refine cm (gv r.name.1 _ (bI h0)) ?_|refine cm (iP r.name.1 _ (bI h0)) ?_|refine cm (DS d1) ?_|refine cm (iP (lP (r.name.1.ar (⟨#[61]⟩:SK))).1 _ (bI d2)) ?_|refine cm (lz ((lP (r.name.1.ar (⟨#[61]⟩:SK))).1.ar (⟨#[59]⟩:SK)) _ _ _ _ [(lP (r.name.1.ar (⟨#[61]⟩:SK))).2] _ gm.sl (bI d3)) ?_|refine ay ?_|exact jI|(clear hK K)))
  (refine cr [.tmp 4] ?_ ?_<;>(try simp only[go_sem]))
def PZ(w:SK):aP prog 108 [rS w] (rI (sJ w)):=by
 refine df func108 ntmps108 ?_
 (repeat' (first|refine aA fun K hK=>?_|refine ax ?_|(refine hK _ _ ?_;clear hK K)|(refine az ?_ ?_<;>intro hc<;>try exact jz)|refine ay ?_|exact jI|(clear hK K)))
 all_goals(refine cr [.tmp 2] ?_ ?_<;>(try simp only[go_sem]))
 all_goals unfold sJ
 all_goals repeat' split
 all_goals first|rfl|(exfalso;simp_all;done)
def IT(h:r.Inv):ai prog 66 [pR] (cF r) (fun v l=>v=rI (iS r).2/\l=cF (iS r).1):=by
 have hri:=h.lt;have hrp:=h.pos;have U6:=h.len;refine aU func66 ntmps66 ?_;refine S ?_
 (repeat' (first|refine aA fun K hK=>?_|refine ax ?_|(refine hK _ _ ?_;clear hK K)|(refine az ?_ ?_<;>intro hc<;>try exact jz)|refine cm (sr r (bI h)) ?_|refine cp (PZ r.word) ?_|refine cm (tX r _ (bI h)) ?_|refine ay ?_|exact jI|(clear hK K)))
 ·(refine cr [.tmp 2] ?_ ?_<;>(try simp only[go_sem]))
  ·simp only[iS,if_pos hc]
  ·simp only[iS,if_pos hc,go_sem]
 ·(refine cr [.tmp 2] ?_ ?_<;>(try simp only[go_sem]))
  ·simp only[iS,if_neg hc]
  ·simp only[iS,if_neg hc];rfl
def A6(n:Nat):Prop:=∀r:Rd,r.Inv->4*r.rem+1<=n->ai prog 67 [pR] (cF r) (fun v l=>v=rI (gi n r).2/\l=cF (gi n r).1)
def Bu(n:Nat):Prop:=∀r:Rd,r.Inv->r.e=0->4*r.rem+2<=n->ai prog 110 [pR] (cF r) (fun v l=>v=rI (n7 n r).2/\l=cF (n7 n r).1)
def P0(n:Nat)(hs:∀m,m<=n->Bu m):A6 (n+1):=by
 intro r h hn;by_cases hx:r.is (⟨#[123]⟩:SK)=true
 ·have he:=(Rd.aZ hx).1;have hd:=(Rd.bS h he).1;have s1:=Rd.aQ hd (⟨#[123]⟩:SK);have h1:=s1.inv hd;have s2:=(sZ n).2.1 _ [] h1;have h2:=s2.inv h1;have s3:=Rd.aQ h2 (⟨#[125]⟩:SK);have h3:=s3.inv h2;have h4:=(Rd.fE h he ((s1.trans s2).trans s3)).inv h;have h3l:=h3.pv;have h3h:=h3.qf;have hr:=(Rd.gF h hx).1;have Y4:r.rem<=2000:=by
   have:=h.pos;have:=h.len;unfold Rd.rem;split<;>omega
  rw[gi,if_pos hx];refine aU func67 ntmps67 ?_;refine S ?_
  (have W:=hx;repeat' (first|refine aA fun K hK=>?_|refine ax ?_|(refine hK _ _ ?_;clear hK K)|(refine az ?_ ?_<;>intro hc<;>try exact jz)|refine cm (ii r (bI h)) ?_|refine cm (gv r _ (bI h)) ?_|refine cm (uw r (bI h)) ?_|refine cm (iP r.down _ (bI hd)) ?_|refine ay ?_|exact jI|(clear hK K)))
  have Tc:=hK;clear hK;refine iJ (dJ.nil 2 5 3 (sz:=1) rfl jC (Or.inr ⟨_,_,_,rfl,rfl⟩)) ?_
  (refine S ?_;try exact jI)
  refine fa (S:=Nat×Rd×SI) [(5,3),(21,14)] (fun s=>s.2.1.Inv/\4*s.2.1.rem+3<=s.1/\s.1<=n/\s.2.2.length+s.2.1.rem<=2000/\ng s.1 s.2.1 s.2.2=ng n (r.down.ar (⟨#[123]⟩:SK)) []) (fun s=>[(5,.rs 2 s.2.2.length 1 s.2.2.length)]) (fun s=>⟨[0,1],cF s.2.1++[(2,.aK 3 1 (s.2.2.map eI))]⟩) (fun s=>s.1) (n,r.down.ar (⟨#[123]⟩:SK),[]) ⟨h1,jJ,Nat.le_refl _,by(try simp only[List.length_nil]);omega,rfl⟩ (fb rfl cI) ?_;rintro⟨m,q,L⟩ ⟨hq,VE,Un,Ue,hA⟩ Kr S8;simp only at hq VE Un Ue hA;have hqi:=hq.lt;have hqp:=hq.pos;have Yf:=hq.len;obtain⟨m,rfl⟩:∃k,m=k+1:=⟨m-1,jB⟩;rw[ng]at hA;by_cases Ty:q.e=0/\q.is (⟨#[125]⟩:SK)=false
  ·rw[if_pos Ty]at hA;obtain⟨VW,V6⟩:=Ty;obtain⟨t1,t2⟩:=(sZ m).2.2 q hq VW jB;have hj:=t1.inv hq;refine S ?_
   (have W:=jA VW V6;repeat' (first|refine aA fun K hK=>?_|refine ax ?_|(refine hK _ _ ?_;clear hK K)|(refine az ?_ ?_<;>intro hc<;>try exact jz)|refine cm (gv q _ (bI hq)) ?_|refine cm (hs m jB q hq VW jB) ?_|refine ay ?_|exact jI|(clear hK K)))
   refine S8 _ _ (fc (m,(n7 m q).1,L++[(n7 m q).2]) ⟨hj,jJ,jJ,by(try simp only[List.length_append,List.length_cons,List.length_nil]);omega,hA⟩ jJ (by simp only[go_sem,cF,iq,List.map_append,List.map_cons,List.map_nil,List.cons_append,List.nil_append];(try rfl)) cI)
  ·rw[if_neg Ty]at hA;have e1:q=(ng n (r.down.ar (⟨#[123]⟩:SK)) []).1:=by rw[<-hA]
   have e2:L=(ng n (r.down.ar (⟨#[123]⟩:SK)) []).2:=by rw[<-hA]
   rw[<-e1]at h3 h4 h3l h3h;refine S ?_
   (repeat' (first|refine aA fun K hK=>?_|refine ax ?_|(refine hK _ _ ?_;clear hK K)|(refine az ?_ ?_<;>intro hc<;>try exact jz)|refine cm (gv q _ (bI hq)) ?_|refine ay ?_|exact jI|(clear hK K)))
   all_goals first|(exact absurd ⟨by assumption,by assumption⟩ Ty)|skip
   all_goals refine Tc _ _ ?_
   all_goals refine Fm [2] 5 (bh eI 1 L) Sd Sd lU ?_
   all_goals(
    refine S ?_
    (repeat' (first|refine aA fun K hK=>?_|refine ax ?_|(refine hK _ _ ?_;clear hK K)|(refine az ?_ ?_<;>intro hc<;>try exact jz)|refine cm (iP q _ (bI hq)) ?_|refine cm (wV (q.ar (⟨#[125]⟩:SK)).up _ _ _ _ L (bI h4)) ?_|refine ay ?_|exact jI|(clear hK K)))
    (refine cr [.tmp 2] ?_ ?_<;>(try simp only[go_sem]))
    all_goals simp only[<-e1,<-e2])
 ·rw[gi,if_neg hx];have Tg:r.is (⟨#[123]⟩:SK)=false:=by simpa using hx
  refine aU func67 ntmps67 ?_;refine S ?_
  (have W:=Tg;repeat' (first|refine aA fun K hK=>?_|refine ax ?_|(refine hK _ _ ?_;clear hK K)|(refine az ?_ ?_<;>intro hc<;>try exact jz)|refine cm (ii r (bI h)) ?_|refine cm (gv r _ (bI h)) ?_|refine cm (tX r _ (bI h)) ?_|refine ay ?_|exact jI|(clear hK K)))
  (refine cr [.tmp 2] ?_ ?_<;>(try simp only[go_sem]))
def Q0(n:Nat)(hb:A6 n):Bu (n+1):=by
 intro r h he hn;have hri:=h.lt;have hrp:=h.pos;have U6:=h.len;have word:∀w:SK,w≠⟨#[]⟩->r.word=w->r.inc.Inv/\r.inc.rem+1<=r.rem:=fun w h0 hw=>by have hk:=Rd.dX (Rd.gJ hw h0) jC;exact⟨(Rd.bv h hk.2).1.inv h,Rd.dj h hk⟩
 rw[n7];by_cases w1:r.word=(⟨#[108,101,116]⟩:SK)
 ·rw[if_pos w1];have w1':=eq_true w1;obtain⟨hi,hr⟩:=word _ jC w1;have h1:=(Rd.dv hi).inv hi;have h2:=(Rd.aQ h1 (⟨#[61]⟩:SK)).inv h1;have h3:=(yP h2).inv h2;have h4:=(Rd.aQ h3 (⟨#[59]⟩:SK)).inv h3;refine aU func110 ntmps110 ?_;refine S ?_
  (have W:=w1';repeat' (first|refine aA fun K hK=>?_|refine ax ?_|(refine hK _ _ ?_;clear hK K)|(refine az ?_ ?_<;>intro hc<;>try exact jz)|refine cm (ii r (bI h)) ?_|refine cm (sr r (bI h)) ?_|refine cm (ve r.inc (bI hi)) ?_|refine cm (iP r.inc.name.1 _ (bI h1)) ?_|refine cm (DS h2) ?_|refine cm (iP (lP (r.inc.name.1.ar (⟨#[61]⟩:SK))).1 _ (bI h3)) ?_|refine cm (lz ((lP (r.inc.name.1.ar (⟨#[61]⟩:SK))).1.ar (⟨#[59]⟩:SK)) _ _ _ _ [(lP (r.inc.name.1.ar (⟨#[61]⟩:SK))).2] _ gm.sl (bI h4)) ?_|refine ay ?_|exact jI|(clear hK K)))
  (refine cr [.tmp 2] ?_ ?_<;>(try simp only[go_sem]))
 rw[if_neg w1];by_cases w2:r.word=(⟨#[112,114,105,110,116]⟩:SK)
 ·rw[if_pos w2];have w2':=eq_true w2;obtain⟨hi,hr⟩:=word _ jC w2;have h1:=(j6 hi).inv hi;have h2:=(Rd.aQ h1 (⟨#[59]⟩:SK)).inv h1;refine aU func110 ntmps110 ?_;refine S ?_
  (have W:=jA w1 (w2');repeat' (first|refine aA fun K hK=>?_|refine ax ?_|(refine hK _ _ ?_;clear hK K)|(refine az ?_ ?_<;>intro hc<;>try exact jz)|refine cm (ii r (bI h)) ?_|refine cm (sr r (bI h)) ?_|refine cm (qz hi) ?_|refine cm (iP (dn r.inc).1 _ (bI h1)) ?_|refine cm (lz ((dn r.inc).1.ar (⟨#[59]⟩:SK)) _ _ _ _ [(dn r.inc).2] _ gm.sl (bI h2)) ?_|refine ay ?_|exact jI|(clear hK K)))
  (refine cr [.tmp 2] ?_ ?_<;>(try simp only[go_sem]))
 rw[if_neg w2];by_cases w3:r.word=(⟨#[119,104,105,108,101]⟩:SK)
 ·rw[if_pos w3];have w3':=eq_true w3;obtain⟨hi,hr⟩:=word _ jC w3;have h1:=(j6 hi).inv hi;have VD:=(j6 hi).rem;have h2:=((sZ n).1 _ h1).inv h1;refine aU func110 ntmps110 ?_;refine S ?_
  (have W:=jA w1 (jA w2 (w3'));repeat' (first|refine aA fun K hK=>?_|refine ax ?_|(refine hK _ _ ?_;clear hK K)|(refine az ?_ ?_<;>intro hc<;>try exact jz)|refine cm (ii r (bI h)) ?_|refine cm (sr r (bI h)) ?_|refine cm (qz hi) ?_|refine cm (hb _ h1 jB) ?_|refine cm (lz (gi n (dn r.inc).1).1 _ _ _ _ [(dn r.inc).2,(gi n (dn r.inc).1).2] _ gm.sl (bI h2)) ?_|refine ay ?_|exact jI|(clear hK K)))
  (refine cr [.tmp 2] ?_ ?_<;>(try simp only[go_sem]))
 rw[if_neg w3];by_cases w4:r.word=(⟨#[105,102]⟩:SK)
 ·rw[if_pos w4];have w4':=eq_true w4;obtain⟨hi,hr⟩:=word _ jC w4;have h1:=(j6 hi).inv hi;have VD:=(j6 hi).rem;have s2:=(sZ n).1 _ h1;have h2:=s2.inv h1;have WG:=s2.rem;have h2i:=h2.lt;have h2p:=h2.pos;have h2l:=h2.len;by_cases hx:(gi n (dn r.inc).1).1.is (⟨#[101,108,115,101]⟩:SK)=true
  ·rw[if_pos hx];have hk:=Rd.aZ hx;have h3:=(Rd.bv h2 hk.2).1.inv h2;have hr3:=Rd.dj h2 hk;have h4:=((sZ n).1 _ h3).inv h3;refine aU func110 ntmps110 ?_;refine S ?_
   (have W:=jA w1 (jA w2 (jA w3 (jA w4' (hx))));repeat' (first|refine DG (id:=31) [2] [(13,135)] [(12,bh eI 1 [(dn r.inc).2,(gi n (dn r.inc).1).2,(gi n (gi n (dn r.inc).1).1.inc).2])] ?_|refine aA fun K hK=>?_|refine ax ?_|(refine hK _ _ ?_;clear hK K)|(refine az ?_ ?_<;>intro hc<;>try exact jz)|refine cm (ii r (bI h)) ?_|refine cm (sr r (bI h)) ?_|refine cm (qz hi) ?_|refine cm (hb _ h1 jB) ?_|refine cm (gv (gi n (dn r.inc).1).1 _ (bI h2)) ?_|refine cm (hb _ h3 jB) ?_|refine cm (wV (gi n (gi n (dn r.inc).1).1.inc).1 _ _ _ _ [(dn r.inc).2,(gi n (dn r.inc).1).2,(gi n (gi n (dn r.inc).1).1.inc).2] (bI h4)) ?_|refine ay ?_|exact jI|(clear hK K)))
   (refine cr [.tmp 2] ?_ ?_<;>(try simp only[go_sem]))
  ·rw[if_neg hx];have Tg:(gi n (dn r.inc).1).1.is (⟨#[101,108,115,101]⟩:SK)=false:=by simpa using hx
   refine aU func110 ntmps110 ?_;refine S ?_
   (have W:=jA w1 (jA w2 (jA w3 (jA w4' (Tg))));repeat' (first|refine aA fun K hK=>?_|refine ax ?_|(refine hK _ _ ?_;clear hK K)|(refine az ?_ ?_<;>intro hc<;>try exact jz)|refine cm (ii r (bI h)) ?_|refine cm (sr r (bI h)) ?_|refine cm (qz hi) ?_|refine cm (hb _ h1 jB) ?_|refine cm (gv (gi n (dn r.inc).1).1 _ (bI h2)) ?_|refine cm (lz (gi n (dn r.inc).1).1 _ _ _ _ [(dn r.inc).2,(gi n (dn r.inc).1).2] _ gm.sl (bI h2)) ?_|refine ay ?_|exact jI|(clear hK K)))
   (refine cr [.tmp 2] ?_ ?_<;>(try simp only[go_sem]))
 rw[if_neg w4];by_cases w5:r.word=(⟨#[114,101,116,117,114,110]⟩:SK)
 ·rw[if_pos w5];have w5':=eq_true w5;obtain⟨hi,hr⟩:=word _ jC w5;by_cases hx:r.inc.is (⟨#[59]⟩:SK)=true
  ·rw[if_pos hx];have h1:=(Rd.aQ hi (⟨#[59]⟩:SK)).inv hi;refine aU func110 ntmps110 ?_;refine S ?_
   (have W:=jA w1 (jA w2 (jA w3 (jA w4 (jA w5' (hx)))));repeat' (first|refine aA fun K hK=>?_|refine ax ?_|(refine hK _ _ ?_;clear hK K)|(refine az ?_ ?_<;>intro hc<;>try exact jz)|refine cm (ii r (bI h)) ?_|refine cm (sr r (bI h)) ?_|refine cm (gv r.inc _ (bI hi)) ?_|refine cm (iP r.inc _ (bI hi)) ?_|refine cm (lz (r.inc.ar (⟨#[59]⟩:SK)) _ _ _ _ [] _ gm.sl (bI h1)) ?_|refine ay ?_|exact jI|(clear hK K)))
   (refine cr [.tmp 2] ?_ ?_<;>(try simp only[go_sem]))
  ·rw[if_neg hx];have Tg:r.inc.is (⟨#[59]⟩:SK)=false:=by simpa using hx
   have h1:=(j6 hi).inv hi;have h2:=(Rd.aQ h1 (⟨#[59]⟩:SK)).inv h1;refine aU func110 ntmps110 ?_;refine S ?_
   (have W:=jA w1 (jA w2 (jA w3 (jA w4 (jA w5' (Tg)))));repeat' (first|refine DG (id:=40) [2] [(16,132)] [(15,bh eI 1 [(dn r.inc).2])] ?_|refine aA fun K hK=>?_|refine ax ?_|(refine hK _ _ ?_;clear hK K)|(refine az ?_ ?_<;>intro hc<;>try exact jz)|refine cm (ii r (bI h)) ?_|refine cm (sr r (bI h)) ?_|refine cm (gv r.inc _ (bI hi)) ?_|refine cm (qz hi) ?_|refine cm (iP (dn r.inc).1 _ (bI h1)) ?_|refine cm (wV ((dn r.inc).1.ar (⟨#[59]⟩:SK)) _ _ _ _ [(dn r.inc).2] (bI h2)) ?_|refine ay ?_|exact jI|(clear hK K)))
   (refine cr [.tmp 2] ?_ ?_<;>(try simp only[go_sem]))
 rw[if_neg w5];refine aU func110 ntmps110 ?_;refine S ?_
 (have W:=jA w1 (jA w2 (jA w3 (jA w4 (w5))));repeat' (first|refine aA fun K hK=>?_|refine ax ?_|(refine hK _ _ ?_;clear hK K)|(refine az ?_ ?_<;>intro hc<;>try exact jz)|refine cm (ii r (bI h)) ?_|refine cm (sr r (bI h)) ?_|refine cm (OO h he r.cU) ?_|refine ay ?_|exact jI|(clear hK K)))
 (refine cr [.tmp 2] ?_ ?_<;>(try simp only[go_sem]))
theorem GA:∀m n,n<=m->A6 n/\Bu n
 |0,0,_=>⟨fun r h hn=>by omega,fun r h he hn=>by omega⟩
 |m+1,0,_=>⟨fun r h hn=>jB,fun r h he hn=>jB⟩
 |m+1,n+1,hm=>by
  have ih:=fun k (hk:k<=n)=>GA m k jB
  exact⟨P0 n fun k hk=>(ih k hk).2,Q0 n (ih n jl).1⟩
def DZ(h:r.Inv):ai prog 67 [pR] (cF r) (fun v l=>v=rI (oC r).2/\l=cF (oC r).1):=(GA _ _ jl).1 r h jB
def QG(h:r.Inv):ai prog 34 [pR] (cF r) (fun v l=>v=.agg (gr (mY r).2)/\l=cF (mY r).1):=by
 have h1:=(qR h).1.inv h;have h2:=(qR h).2.1.inv h;have h3:=(qR h).2.2.1.inv h;have h4:=(C9 h).inv h1;have h5:=(Aj h).inv h1;have h6:=(yN h).inv h1;have h7:=(CH h6).inv h6;have Y4:(nt r).rem<=2000:=by have:=h3.pos;have:=h3.len;unfold Rd.rem;split<;>omega
 have hm:ai prog 63 [pR,rS (⟨#[40]⟩:SK)] (cF (r.ar (⟨#[102,110]⟩:SK)).name.1) (fun v l=>v=.bf []/\l=cF (nt r)):=iP (r.ar (⟨#[102,110]⟩:SK)).name.1 _ (bI h2);refine aU func34 ntmps34 ?_;refine S ?_
 (repeat' (first|refine aA fun K hK=>?_|refine ax ?_|(refine hK _ _ ?_;clear hK K)|(refine az ?_ ?_<;>intro hc<;>try exact jz)|refine cm (ii r (bI h)) ?_|refine cm (hm) ?_|refine cm (iP r _ (bI h)) ?_|refine cm (ve (r.ar (⟨#[102,110]⟩:SK)) (bI h1)) ?_|refine cm (gv (nt r) _ (bI h3)) ?_|refine ay ?_|exact jI|(clear hK K)))
 have Tc:=hK;clear hK;refine iJ (dJ.fB 4 3 2 142 2 rfl jC rfl rfl) ?_
 (refine S ?_;try exact jI)
 refine fa (S:=Nat×Bool×Rd×List bQ) [(5,3),(30,23)] (fun s=>s.2.2.1.Inv/\(s.2.1=true->s.2.2.1.rem+2<=s.1)/\1<=s.1/\s.2.2.2.length+s.1<=5000/\mW s.1 s.2.1 s.2.2.1 s.2.2.2=sX r) (fun s=>[(5,rB s.2.1)]) (fun s=>⟨[0,1],cF s.2.2.1++[(2,.var 73 [rS ⟨#[]⟩,rI 0,.raw (.slice none 0 0),rI 0,rI 0]),(3,.var 73 [rS (r.ar (⟨#[102,110]⟩:SK)).name.2,rI r.cU,.rs 4 s.2.2.2.length 2 s.2.2.2.length,rI 0,rI 0]),(4,.aK 142 2 (s.2.2.2.map oZ))]⟩) (fun s=>s.1) ((nt r).rem+2,more (nt r),nt r,[]) ⟨h3,fun _=>Nat.le_refl _,jJ,by(try simp only[List.length_nil]);omega,rfl⟩ (fb rfl (by simp only[go_sem,jL,Nat.reduceAdd,AV.raw.injEq,Value.int.injEq,Value.slice.injEq,Value.pointer.injEq,AV.rs.injEq,more,List.length_nil];try omega)) ?_;rintro⟨n,b,q,L⟩ ⟨hq,TH,U0,Ym,hA⟩ Kr S8;simp only at hq TH U0 Ym hA;have hqi:=hq.lt;have hqp:=hq.pos;have Yf:=hq.len;obtain⟨n,rfl⟩:∃k,n=k+1:=⟨n-1,jB⟩;cases b with
 |false=>
  rw[mW]at hA;have e1:q=(sX r).1:=by rw[<-hA]
  have e2:L=(sX r).2:=by rw[<-hA]
  have hmm:ai prog 63 [pR,rS (⟨#[41]⟩:SK)] (cF q) (fun v l=>v=.bf []/\l=cF (l6 r)):=by rw[e1];exact iP (sX r).1 _ (bI h4)
  by_cases hx:(l6 r).is (⟨#[123]⟩:SK)=true
  ·have ed:mN r=(l6 r,0):=by unfold mN;rw[if_pos hx]
   have ef:mY r=((oC (l6 r)).1,⟨(r.ar (⟨#[102,110]⟩:SK)).name.2,r.cU,L,0,(oC (l6 r)).2⟩):=by unfold mY;rw[ed,<-e2]
   rw[ef]at Tc;refine S ?_
   (have W:=hx;repeat' (first|refine aA fun K hK=>?_|refine ax ?_|(refine hK _ _ ?_;clear hK K)|(refine az ?_ ?_<;>intro hc<;>try exact jz)|refine Tc _ _ ?_|refine cm (hmm) ?_|refine cm (gv (l6 r) _ (bI h5)) ?_|refine cm (DZ h5) ?_|refine ay ?_|exact jI|(clear hK K)))
   refine lW [.cell 2 73] ?_;refine bK.agg (ds:=[rS _,rI _,bh oZ 2 L,rI _,rI _]) ?_;exact jA (.same _ rfl) (jA (.same _ rfl) (jA (dM.row (enc:=oZ) L rfl rfl jE) (jA (.same _ rfl) (jA (.same _ rfl) trivial))))
  ·have Tg:(l6 r).is (⟨#[123]⟩:SK)=false:=by simpa using hx
   have ed:mN r=iS (l6 r):=by unfold mN;rw[if_neg hx]
   rw[ed]at h6;have ef:mY r=((oC (iS (l6 r)).1).1,⟨(r.ar (⟨#[102,110]⟩:SK)).name.2,r.cU,L,(iS (l6 r)).2,(oC (iS (l6 r)).1).2⟩):=by unfold mY;rw[ed,<-e2]
   rw[ef]at Tc;refine S ?_
   (have W:=Tg;repeat' (first|refine aA fun K hK=>?_|refine ax ?_|(refine hK _ _ ?_;clear hK K)|(refine az ?_ ?_<;>intro hc<;>try exact jz)|refine Tc _ _ ?_|refine cm (hmm) ?_|refine cm (gv (l6 r) _ (bI h5)) ?_|refine cm (IT h5) ?_|refine cm (DZ h6) ?_|refine ay ?_|exact jI|(clear hK K)))
   refine lW [.cell 2 73] ?_;refine bK.agg (ds:=[rS _,rI _,bh oZ 2 L,rI _,rI _]) ?_;exact jA (.same _ rfl) (jA (.same _ rfl) (jA (dM.row (enc:=oZ) L rfl rfl jE) (jA (.same _ rfl) (jA (.same _ rfl) trivial))))
 |true=>
  have s1:=Ei hq;have hx:=s1.inv hq;have VD:=s1.rem;have hxi:=hx.lt;have hxp:=hx.pos;have hxl:=hx.len;have TH:=TH rfl;have hq1:=(Rd.dv hq).inv hq;have Uc:ai prog 66 [pR] (cF q.name.1) (fun v l=>v=rI (iS q.name.1).2/\l=cF (p6 q)):=IT hq1;rw[mW]at hA;refine S ?_
  (repeat' (first|refine aA fun K hK=>?_|refine ax ?_|(refine hK _ _ ?_;clear hK K)|(refine az ?_ ?_<;>intro hc<;>try exact jz)|refine cm (ve q (bI hq)) ?_|refine cm (Uc) ?_|refine cm (gv (p6 q) _ (bI hx)) ?_|refine ay ?_|exact jI|(clear hK K)))
  ·rw[if_pos hc]at hA;have hk:=Rd.aZ hc;have WG:=Rd.dj hx hk;refine S8 _ _ (fc (n,true,(p6 q).inc,L++[⟨q.name.2,(iS q.name.1).2⟩]) ⟨(Rd.bv hx hk.2).1.inv hx,fun _=>jJ,jJ,by(try simp only[List.length_append,List.length_cons,List.length_nil]);omega,hA⟩ jJ (by simp only[go_sem,cF,iq,List.map_append,List.map_cons,List.map_nil,List.cons_append,List.nil_append,List.length_append,List.length_cons,List.length_nil,Nat.reduceAdd];(try rfl)) (by simp only[go_sem,jL,Nat.reduceAdd,AV.raw.injEq,Value.int.injEq,Value.slice.injEq,Value.pointer.injEq,AV.rs.injEq,hc,List.length_append,List.length_cons,List.length_nil];try omega))
  ·rw[if_neg (by rw[hc];decide)]at hA;refine S8 _ _ (fc (n,false,p6 q,L++[⟨q.name.2,(iS q.name.1).2⟩]) ⟨hx,(by intro h;cases h),jJ,by(try simp only[List.length_append,List.length_cons,List.length_nil]);omega,?_⟩ jJ (by simp only[go_sem,cF,iq,List.map_append,List.map_cons,List.map_nil,List.cons_append,List.nil_append,List.length_append,List.length_cons,List.length_nil,Nat.reduceAdd];(try rfl)) (by simp only[go_sem,jL,Nat.reduceAdd,AV.raw.injEq,Value.int.injEq,Value.slice.injEq,Value.pointer.injEq,AV.rs.injEq,hc,List.length_append,List.length_cons,List.length_nil];try omega));rw[<-hA];obtain⟨n,rfl⟩:∃k,n=k+1:=⟨n-1,jB⟩;rw[mW]
variable{k:Nat}
def LG{α:Type}[Inhabited α](p:α->Bool)(l:List α)(h:k<l.length):(l.take (k+1)).any p=((l.take k).any p || p (nth l k)):=by rw[List.take_succ_eq_append_getElem h,List.any_append,dV h];simp
def s9(t:List bu)(L:List bg)(k:Nat):Bool:=decide (300<(t.length:Int)) || decide (6<(L.length:Int)) || (L.take k).any fun f=>decide (3<(f.params.length:Int))
def Ml(t:List bu)(L:List bg)(h:k<L.length):s9 t L (k+1)=(s9 t L k || decide (3<((nth L k).params.length:Int))):=by unfold s9;rw[LG _ _ h];simp only[Bool.or_assoc]
def Po(t:List bu)(L:List bg)(h:L.length<=k):s9 t L k=ug t L:=by
 unfold s9 ug;rw[List.take_of_length_le h];have e1:∀n:Nat,decide (300<(n:Int))=decide (300<n):=fun n=>decide_eq_decide.2 jB
 have e2:∀n:Nat,decide (6<(n:Int))=decide (6<n):=fun n=>decide_eq_decide.2 jB
 have e3:∀n:Nat,decide (3<(n:Int))=decide (3<n):=fun n=>decide_eq_decide.2 jB
 simp only[e1,e2,e3]
def Kx(s:SK)(hs:s.size<=1000000):aP prog 15 [rS s] (.bf [.agg (lS (gP s).1),rI (gP s).2.1,rI (gP s).2.2]):=by
 by_cases he:(kV s).2.2=0
 ·have hi:=Ek he;have Y4:(ou s).rem<=2000:=by
   have:=hi.pos;have:=hi.len;unfold Rd.rem;split<;>omega
  refine df func15 ntmps15 ?_
  (have W:=he;repeat' (first|refine aA fun K hK=>?_|refine ax ?_|(refine hK _ _ ?_;clear hK K)|(refine az ?_ ?_<;>intro hc<;>try exact jz)|refine cp (Gn s hs) ?_|(refine yX (t:=27) 10 (by simp only[go_sem];rfl) rfl ?_;refine S ?_)|(refine Ab 0 jD rfl ?_;refine S ?_)|refine ay ?_|exact jI|(clear hK K)))
  have Tc:=hK;clear hK;refine iJ (dJ.fB 1 0 3 59 5 rfl jC rfl rfl) ?_
  (refine S ?_;try exact jI)
  refine iJ (dJ.fB 12 11 1 73 5 rfl jC rfl rfl) ?_
  (refine S ?_;try exact jI)
  refine fa (S:=Nat×Rd×List bg) [(10,2),(30,16)] (fun p=>p.2.1.Inv/\p.2.1.rem+1<=p.1/\p.2.2.length+p.1<=5000/\qS p.1 p.2.1 p.2.2=nP s) (fun _=>[]) (fun p=>⟨[],[(10,.var 27 [.raw (.slice none 0 0),.raw (.slice none 0 0)]),(0,.var 104 (iq p.2.1)),(11,.var 27 [.raw (.slice none 0 0),.rs 12 p.2.2.length 5 p.2.2.length]),(1,.aK 59 5 (p.2.1.nodes.map dO)),(12,.aK 73 5 (p.2.2.map gr))]⟩) (fun p=>p.1) ((ou s).rem+1,ou s,[]) ⟨hi,Nat.le_refl _,by(try simp only[List.length_nil]);omega,rfl⟩ (fb rfl cI) ?_;rintro⟨n,q,L⟩ ⟨hq,TH,U0,hA⟩ Kr S8;simp only at hq TH U0 hA;have hqi:=hq.lt;have hqp:=hq.pos;have Yf:=hq.len;obtain⟨n,rfl⟩:∃k,n=k+1:=⟨n-1,jB⟩;rw[qS]at hA;by_cases Ty:q.e=0/\q.kind 0=false
  ·rw[if_pos Ty]at hA;obtain⟨VW,V6⟩:=Ty;obtain⟨t1,t2⟩:=H7 hq;have t2:=t2 VW;have hj:=t1.inv hq;refine S ?_
   (have W:=jA VW V6;repeat' (first|refine aA fun K hK=>?_|refine ax ?_|(refine hK _ _ ?_;clear hK K)|(refine az ?_ ?_<;>intro hc<;>try exact jz)|refine cm (yh q _ (bI hq)) ?_|refine cm (QG hq) ?_|refine ay ?_|exact jI|(clear hK K)))
   refine S8 _ _ (x8 [13] (n,(mY q).1,L++[(mY q).2]) ⟨hj,jJ,by(try simp only[List.length_append,List.length_cons,List.length_nil]);omega,hA⟩ jJ rfl Sd (by simp only[go_sem,iq,List.map_append,List.map_cons,List.map_nil,List.length_append,List.length_cons,List.length_nil,Nat.reduceAdd];(try rfl)) lU)
  ·rw[if_neg Ty]at hA;have e1:q=(nP s).1:=by rw[<-hA]
   have e2:L=(nP s).2:=by rw[<-hA]
   refine S ?_
   (repeat' (first|refine aA fun K hK=>?_|refine ax ?_|(refine hK _ _ ?_;clear hK K)|(refine az ?_ ?_<;>intro hc<;>try exact jz)|refine cm (yh q _ (bI hq)) ?_|refine ay ?_|exact jI|(clear hK K)))
   all_goals first|(exact absurd ⟨by assumption,by assumption⟩ Ty)|skip
   ·have VW:q.e=0:=by assumption
    have hee:¬(nP s).1.e≠0:=by rw[<-e1];simp[VW]
    refine Tc _ _ ?_;clear Tc
    (have W:=VW;repeat' (first|refine aA fun K hK=>?_|refine ax ?_|(refine hK _ _ ?_;clear hK K)|(refine az ?_ ?_<;>intro hc<;>try exact jz)|refine ay ?_|exact jI|(clear hK K)))
    have Tc:=hK;clear hK;refine fa (S:=Nat) [(12,2),(75,18)] (fun k=>k<=L.length) (fun k=>[(12,rB (s9 q.nodes L k)),(13,rI k)]) (fun _=>⟨[],[(10,.var 27 [.raw (.slice none 0 0),.raw (.slice none 0 0)]),(0,.var 104 (iq q)),(11,.var 27 [.rs 1 q.nodes.length 5 q.nodes.length,.rs 12 L.length 5 L.length]),(1,.aK 59 5 (q.nodes.map dO)),(12,.aK 73 5 (L.map gr))]⟩) (fun k=>L.length-k) 0 (Nat.zero_le _) (fb (by simp only[iq,VW]) (by simp only[go_sem,jL,Nat.reduceAdd,AV.raw.injEq,Value.int.injEq,Value.slice.injEq,Value.pointer.injEq,AV.rs.injEq,s9,List.take_zero,List.any_nil,Bool.or_false];try omega)) ?_;intro k hk Kr S8;refine S ?_
    (repeat' (first|refine aA fun K hK=>?_|refine ax ?_|(refine hK _ _ ?_;clear hK K)|(refine az ?_ ?_<;>intro hc<;>try exact jz)|refine ay ?_|exact jI|(clear hK K)))
    ·have Vw:k<L.length:=jB;refine S8 _ _ (fc (k+1) jJ jJ (by simp only[iq,VW]) (by simp only[go_sem,jL,Nat.reduceAdd,AV.raw.injEq,Value.int.injEq,Value.slice.injEq,Value.pointer.injEq,AV.rs.injEq,Ml _ _ Vw];try omega))
    ·have hbu:s9 q.nodes L k=ug q.nodes L:=Po _ _ jB;by_cases UH:ug q.nodes L=true
     ·have ep:gP s=(⟨[],[]⟩,0,4):=by unfold gP;rw[if_neg (by simp[he]),if_neg hee,<-e1,<-e2,if_pos UH]
      rw[ep]at Tc;refine Tc _ _ ?_
      (have W:=jA hbu UH;repeat' (first|refine aA fun K hK=>?_|refine ax ?_|(refine hK _ _ ?_;clear hK K)|(refine az ?_ ?_<;>intro hc<;>try exact jz)|refine ay ?_|exact jI|(clear hK K)))
      refine lW [.cell 2 27,.tmp 3,.tmp 4] ?_;refine bK.bf (ds:=[.agg (lS ⟨[],[]⟩),rI _,rI _]) ?_;exact jA (bK.agg (ds:=[bh dO 5 [],bh gr 5 []]) (jA (dM.nil _ _) (jA (dM.nil _ _) trivial))) (jA (.same _ rfl) (jA (.same _ rfl) trivial))
     ·have hbf:ug q.nodes L=false:=by simpa using UH
      have ep:gP s=(⟨q.nodes,L⟩,0,0):=by unfold gP;rw[if_neg (by simp[he]),if_neg hee,<-e1,<-e2,if_neg UH]
      rw[ep]at Tc;refine Tc _ _ ?_
      (have W:=jA hbu hbf;repeat' (first|refine aA fun K hK=>?_|refine ax ?_|(refine hK _ _ ?_;clear hK K)|(refine az ?_ ?_<;>intro hc<;>try exact jz)|refine ay ?_|exact jI|(clear hK K)))
      refine lW [.cell 2 27,.tmp 3,.tmp 4] ?_;refine bK.bf (ds:=[.agg (lS ⟨q.nodes,L⟩),rI _,rI _]) ?_;exact jA (bK.agg (ds:=[bh dO 5 q.nodes,bh gr 5 L]) (jA (dM.row (enc:=dO) q.nodes rfl rfl jE) (jA (dM.row (enc:=gr) L rfl rfl jE) trivial))) (jA (.same _ rfl) (jA (.same _ rfl) trivial))
   ·have VW:¬q.e=0:=by assumption
    have ep:gP s=(⟨[],[]⟩,q.at_,q.e):=by unfold gP;rw[if_neg (by simp[he]),<-e1,if_pos VW]
    rw[ep]at Tc;refine Tc _ _ ?_
    (have W:=VW;repeat' (first|refine aA fun K hK=>?_|refine ax ?_|(with_reducible refine gR 12 ?_);refine dA 12 [10] (bo 0 12) mixed ?_|(refine hK _ _ ?_;clear hK K)|(refine az ?_ ?_<;>intro hc<;>try exact jz)|refine ay ?_|exact jI|(clear hK K)))
    refine lW [.cell 2 27,.tmp 3,.tmp 4] ?_;refine bK.bf (ds:=[.agg (lS ⟨[],[]⟩),rI _,rI _]) ?_;exact jA (bK.agg (ds:=[bh dO 5 [],bh gr 5 []]) (jA (dM.nil _ _) (jA (dM.nil _ _) trivial))) (jA (.same _ rfl) (jA (.same _ rfl) trivial))
 ·have ep:gP s=(⟨[],[]⟩,(kV s).2.1,(kV s).2.2):=by unfold gP;rw[if_pos he]
  rw[ep];refine df func15 ntmps15 ?_
  (have W:=he;repeat' (first|refine aA fun K hK=>?_|refine ax ?_|(refine hK _ _ ?_;clear hK K)|(refine az ?_ ?_<;>intro hc<;>try exact jz)|refine cp (Gn s hs) ?_|refine ay ?_|exact jI|(clear hK K)))
  refine lW [.cell 2 27,.tmp 3,.tmp 4] ?_;refine bK.bf (ds:=[.agg (lS ⟨[],[]⟩),rI _,rI _]) ?_;exact jA (bK.agg (ds:=[bh dO 5 [],bh gr 5 []]) (jA (dM.nil _ _) (jA (dM.nil _ _) trivial))) (jA (.same _ rfl) (jA (.same _ rfl) trivial))
def vh(c:Ck):SG:=[bh dO 5 c.aa.nodes,bh gr 5 c.aa.aq,.rs 1 c.types.length 1 c.types.length,.rs 2 c.slots.length 1 c.slots.length,.rs 3 c.aq.length 1 c.aq.length,.rs 4 c.aR.length 1 c.aR.length,rI c.fn,.rs 5 (c.vars.length+c.more.length) 3 c.vars.length,rI c.size,rI c.e,rI c.at_]
def fP(c:Ck):SF:=[(0,.var 110 (vh c)),(1,.aK 3 1 (c.types.map eI)),(2,.aK 3 1 (c.slots.map eI)),(3,.aK 3 1 (c.aq.map eI)),(4,.aK 3 1 (c.aR.map eI)),(5,.aK 146 3 ((c.vars++c.more).map tj))]
attribute [go_sem] fP vh Ck.slot Ck.note Ck.af
structure bF(c:Ck):Prop where
 aa:aL c.aa
 types:c.types.length=c.aa.nodes.length
 slots:c.slots.length=c.aa.nodes.length
 aq:c.aq.length=c.aa.nodes.length
 aR:c.aR.length<=6
 we:0<=c.fn
 vm:c.fn<c.aa.aq.length
 vars:(c.vars.length:Int)<=c.size
 size:c.size<=25
 room:c.e=0->c.size<=24
theorem xO{α:Type}(f:α->SK)(nm:SK):∀(l:List α) (i:Int),0<=i->(gx f nm l i=-1/\∀v∈l,f v≠nm)\/(i<=gx f nm l i/\gx f nm l i<i+l.length)
 |[],i,_=>.inl ⟨rfl,fun v hv=>by simp at hv⟩
 |v::l,i,hi=>by
  unfold gx;by_cases h:f v=nm
  ·rw[if_pos h];exact .inr jF
  ·rw[if_neg h];rcases xO f nm l (i+1) jB with⟨h1,h2⟩|h1
   ·exact .inl ⟨h1,fun u hu=>by
     rcases List.mem_cons.1 hu with rfl|hu
     ·exact h
     ·exact h2 u hu⟩
   ·exact .inr jF
def lG{α:Type}[Inhabited α]{l:List α}{i:Nat}(h:i<l.length):l.drop i=nth l i::l.drop (i+1):=by rw[dV h];exact List.drop_eq_getElem_cons h
def sY(c:Ck)(e a:Int):ai prog 68 [pR,rI e,rI a] (fP c) (fun v l=>v=.bf []/\l=fP (c.aG e a)):=by
 refine aU func68 ntmps68 ?_;refine S ?_
 (repeat' (first|refine aA fun K hK=>?_|refine ax ?_|(refine hK _ _ ?_;clear hK K)|(refine az ?_ ?_<;>intro hc<;>try exact jz)|refine ay ?_|exact jI|(clear hK K)))
 ·(refine cr [] ?_ ?_<;>(try simp only[go_sem]))
  simp only[Ck.aG,if_pos hc,fP,vh]
 ·(refine cr [] ?_ ?_<;>(try simp only[go_sem]))
  simp only[Ck.aG,if_neg hc,fP,vh]
def C5(c:Ck)(nm:SK)(h:bF c):ai prog 69 [pR,rS nm] (fP c) (fun v l=>v=rI (c.find nm)/\l=fP c):=by
 have h1:=h.vars;have h2:=h.size;refine aU func69 ntmps69 ?_;refine S ?_
 (repeat' (first|refine aA fun K hK=>?_|refine ax ?_|(refine hK _ _ ?_;clear hK K)|(refine az ?_ ?_<;>intro hc<;>try exact jz)|refine ay ?_|exact jI|(clear hK K)))
 have Tc:=hK;clear hK;refine fa (S:=Nat) [(4,22)] (fun k=>k<=c.vars.length/\gx bP.name nm (c.vars.drop k) k=c.find nm) (fun k=>[(5,rI k)]) (fun _=>⟨[0,1,2,3,4,5],fP c⟩) (fun k=>c.vars.length-k) 0 ⟨jB,rfl⟩ (fb jD cI) ?_;rintro k ⟨Te,S5⟩ Kr S8
 (refine S ?_;try exact jI)
 by_cases hk:k<c.vars.length
 ·rw[lG hk]at S5;unfold gx at S5;have XQ:nth (c.vars++c.more) k=nth c.vars k:=lM hk
  (have W:=XQ;repeat' (first|refine aA fun K hK=>?_|refine ax ?_|(refine hK _ _ ?_;clear hK K)|(refine az ?_ ?_<;>intro hc<;>try exact jz)|refine ay ?_|exact jI|(clear hK K)))
  ·(refine cr [.tmp 4] ?_ ?_<;>(try simp only[go_sem]))
   rw[if_pos hc]at S5;rw[<-S5]
  ·rw[if_neg hc]at S5;refine S8 _ _ (fc (k+1) ⟨jB,by rw[<-S5];rfl⟩ jJ jD cI)
 ·rw[List.drop_eq_nil_of_le jB]at S5
  (repeat' (first|refine aA fun K hK=>?_|refine ax ?_|(refine hK _ _ ?_;clear hK K)|(refine az ?_ ?_<;>intro hc<;>try exact jz)|refine Tc _ _ ?_|refine ay ?_|exact jI|(clear hK K)))
  (refine cr [.tmp 4] ?_ ?_<;>(try simp only[go_sem]))
  rw[<-S5];rfl
def oQ(c:Ck)(b:Bool)(a:Int):ai prog 134 [pR,rB b,rI a] (fP c) (fun v l=>v=.bf []/\l=fP (c.ar b a)):=by
 refine aU func134 ntmps134 ?_;refine S ?_
 (repeat' (first|refine aA fun K hK=>?_|refine ax ?_|(refine hK _ _ ?_;clear hK K)|(refine az ?_ ?_<;>intro hc<;>try exact jz)|refine cm (sY c 42 a) ?_|refine ay ?_|exact jI|(clear hK K)))
 ·(refine cr [] ?_ ?_<;>(try simp only[go_sem]))
  simp only[Ck.ar,hc,Bool.false_eq_true,if_false,fP,vh]
 ·(refine cr [] ?_ ?_<;>(try simp only[go_sem]))
  simp only[Ck.ar,hc,if_true,fP,vh]
variable{a:Int}
def uX{c:Ck}(h:bF c)(h0:0<=a)(h1:a<c.aa.nodes.length):Shape c.aa.nodes (c.node a)/\∀x∈(c.node a).l,0<=x/\x.toNat<a.toNat:=by have:=h.aa.shape a.toNat jB;exact⟨this.1,this.2.1⟩
def zK{c:Ck}(h:bF c)(h0:0<=a)(h1:a<c.aa.nodes.length):(c.node a).l.length<=300:=by obtain⟨_,_,lo,hc⟩:=h.aa.shape a.toNat jB;have:=hc.len;have:=h.aa.many;show(nth c.aa.nodes a.toNat).l.length<=300;omega
def Gt(c:Ck)(a:Int)(h:bF c)(h0:0<=a)(h1:a<c.aa.nodes.length):ai prog 132 [pR,rI a] (fP c) (fun v l=>v=rI (c.named a).2/\l=fP (c.named a).1):=by
 have hv:=h.vars;have hz:=h.size;have Tr:=h.slots;have hfd:=xO bP.name (c.node a).name c.vars 0 jB;have Vd:=C5 c (c.node a).name h;have WX:=sY c 40 a;have XQ:0<=c.find (c.node a).name->nth (c.vars++c.more) (c.find (c.node a).name).toNat=nth c.vars (c.find (c.node a).name).toNat:=fun h=>lM (by have hfd:(c.find (c.node a).name=-1/\_)\/(0<=c.find (c.node a).name/\c.find (c.node a).name<0+c.vars.length):=hfd;omega)
 have hfd:(c.find (c.node a).name=-1/\_)\/(0<=c.find (c.node a).name/\c.find (c.node a).name<0+c.vars.length):=hfd;unfold Ck.named;by_cases hf:c.find (c.node a).name<0
 ·rw[if_pos hf];refine aU func132 ntmps132 ?_;refine S ?_
  (repeat' (first|refine aA fun K hK=>?_|refine ax ?_|(refine hK _ _ ?_;clear hK K)|(refine az ?_ ?_<;>intro hc<;>try exact jz)|refine cm (Vd) ?_|refine cm (WX) ?_|refine ay ?_|exact jI|(clear hK K)))
  (refine cr [.tmp 4] ?_ ?_<;>(try simp only[go_sem]))
 ·rw[if_neg hf];have XQ:=XQ jB;refine aU func132 ntmps132 ?_;refine S ?_
  (have W:=XQ;repeat' (first|refine aA fun K hK=>?_|refine ax ?_|(with_reducible refine gR 5 ?_);refine dE 5 (bo 0 16) mixed ?_|(refine hK _ _ ?_;clear hK K)|(refine az ?_ ?_<;>intro hc<;>try exact jz)|refine cm (Vd) ?_|refine ay ?_|exact jI|(clear hK K)))
  (refine cr [.tmp 4] ?_ ?_<;>(try simp only[go_sem]))
structure Ev(c c':Ck):Prop where
 aa:c'.aa=c.aa
 fn:c'.fn=c.fn
 vars:c'.vars=c.vars
 more:c'.more=c.more
 size:c'.size=c.size
 aR:c'.aR=c.aR
 types:c'.types.length=c.types.length
 slots:c'.slots.length=c.slots.length
 aq:c'.aq.length=c.aq.length
 err:c.e≠0->c'.e≠0
def Ev.refl(c:Ck):Ev c c:=⟨rfl,rfl,rfl,rfl,rfl,rfl,rfl,rfl,rfl,id⟩
theorem Ev.trans{a b c:Ck}(h:Ev a b)(k:Ev b c):Ev a c:=⟨k.aa.trans h.aa,k.fn.trans h.fn,k.vars.trans h.vars,k.more.trans h.more,k.size.trans h.size,k.aR.trans h.aR,k.types.trans h.types,k.slots.trans h.slots,k.aq.trans h.aq,fun e=>k.err (h.err e)⟩
def bF.ev{c c':Ck}(h:bF c)(s:Ev c c'):bF c' where
 aa:=by rw[s.aa];exact h.aa
 types:=by rw[s.types,s.aa];exact h.types
 slots:=by rw[s.slots,s.aa];exact h.slots
 aq:=by rw[s.aq,s.aa];exact h.aq
 aR:=by rw[s.aR];exact h.aR
 we:=by rw[s.fn];exact h.we
 vm:=by rw[s.fn,s.aa];exact h.vm
 vars:=by rw[s.vars,s.size];exact h.vars
 size:=by rw[s.size];exact h.size
 room:=fun e=>by rw[s.size];exact h.room (Classical.byContradiction fun h=>s.err h e)
theorem Ev.node{c c':Ck}(s:Ev c c')(a:Int):c'.node a=c.node a:=by unfold Ck.node;rw[s.aa]
theorem Ev.aE{c c':Ck}(s:Ev c c')(a:Int)(i:Nat):c'.aE a i=c.aE a i:=by unfold Ck.aE;rw[s.node]
def mX(c:Ck){e:Int}(he:e≠0)(a:Int):Ev c (c.aG e a):=by
 unfold Ck.aG;split
 ·exact⟨rfl,rfl,rfl,rfl,rfl,rfl,rfl,rfl,rfl,fun _=>he⟩
 ·exact .refl c
def iW(c:Ck)(b:Bool)(a:Int):Ev c (c.ar b a):=by
 unfold Ck.ar;split
 ·exact .refl c
 ·exact mX c jC a
def OK(c:Ck)(a s:Int):Ev c (c.slot a s):=⟨rfl,rfl,rfl,rfl,rfl,rfl,rfl,by simp[Ck.slot],rfl,id⟩
def Rk(c:Ck)(a t:Int):Ev c (c.note a t):=⟨rfl,rfl,rfl,rfl,rfl,rfl,by simp[Ck.note],rfl,by simp[Ck.note],id⟩
def qb(c:Ck)(a:Int):Ev c (c.af a):=⟨rfl,rfl,rfl,rfl,rfl,rfl,rfl,rfl,by simp[Ck.af],id⟩
def ni(c:Ck)(a:Int):Ev c (c.named a).1:=by
 unfold Ck.named;split
 ·exact mX c jC a
 ·exact OK c a _
theorem rp{ex:Ck->Int->Ck×Int}(hex:∀c a,Ev c (ex c a).1):∀(l:SI) (c:Ck) (ts:SI),Ev c (fV ex c l ts).1
 |[],c,ts=>by unfold fV;exact .refl c
 |a::l,c,ts=>by
  unfold fV;split
  ·exact(hex c a).trans (rp hex l _ _)
  ·exact .refl c
theorem Ag(a:Int):∀(ts:SI) (ps:List bQ) (c:Ck),Ev c (gY a c ts ps)
 |[],_,c=>by unfold gY;exact .refl c
 |_::_,[],c=>by unfold gY;exact .refl c
 |t::ts,p::ps,c=>by
  unfold gY;split
  ·exact(iW c _ a).trans (Ag a ts ps _)
  ·exact .refl c
variable{ex:Ck->Int->Ck×Int}
def JN(hex:∀c a,Ev c (ex c a).1)(c:Ck)(a:Int):Ev c (gM ex c a).1:=by
 unfold gM;split
 ·exact mX c jC a
 ·refine Ev.trans ?_ (Ag _ _ _ _);split
  ·exact(rp hex _ _ _).trans (mX _ jC a)
  ·exact rp hex _ _ _
def Bg(hex:∀c a,Ev c (ex c a).1)(c:Ck)(a:Int):Ev c (cn ex c a).1:=by
 unfold cn;simp only;repeat' split
 all_goals first
  |exact .refl c
  |exact ni c a
  |exact JN hex c a
  |exact((ni c a).trans (hex _ _)).trans (iW _ _ _)
  |exact((hex c _).trans (hex _ _)).trans (iW _ _ _)
  |exact(hex c _).trans (iW _ _ _)
theorem dU:∀(n:Nat) (c:Ck) (a:Int),Ev c (au n c a).1
 |0,c,a=>by unfold au;exact .refl c
 |n+1,c,a=>by
  unfold au;split
  ·exact .refl c
  ·exact(Bg (dU n) c a).trans (Rk _ _ _)
def uc(n:Nat):Prop:=∀(c:Ck) (a:Int),bF c->0<=a->a<c.aa.nodes.length->a.toNat<n->eF (c.node a).kind->ai prog 133 [pR,rI a] (fP c) (fun v l=>v=rI (au n c a).2/\l=fP (au n c a).1)
def I1(n:Nat):Prop:=∀(c:Ck) (a:Int),bF c->c.e=0->0<=a->a<c.aa.nodes.length->a.toNat<=n->eF (c.node a).kind->ai prog 147 [pR,rI a] (fP c) (fun v l=>v=rI (cn (au n) c a).2/\l=fP (cn (au n) c a).1)
def E7(n:Nat):Prop:=∀(c:Ck) (a:Int),bF c->0<=a->a<c.aa.nodes.length->a.toNat<=n->(c.node a).kind=21->ai prog 156 [pR,rI a] (fP c) (fun v l=>v=rI (gM (au n) c a).2/\l=fP (gM (au n) c a).1)
def KC(s:SK)(a b:Int):aP prog 157 [rS s,rI a,rI b] (rI (im s a b)):=by
 refine df func157 ntmps157 ?_
 (repeat' (first|refine aA fun K hK=>?_|refine ax ?_|(refine hK _ _ ?_;clear hK K)|(refine az ?_ ?_<;>intro hc<;>try exact jz)|refine ay ?_|exact jI|(clear hK K)))
 all_goals(refine cr [.tmp 6] ?_ ?_<;>(try simp only[go_sem]))
 all_goals simp_all [im]
 all_goals omega
def Ps(n:Nat)(ht:I1 n):uc (n+1):=by
 intro c a h h0 h1 hn hk;have hz:=h.size;have hv:=h.vars;by_cases he:c.e=0
 ·have htc:=ht c a h he h0 h1 jB hk;have s:=Bg (dU n) c a;have h2:=h.ev s;have l1:=h2.types;have l2:=h2.aq;rw[s.aa]at l1 l2;rw[au,jN];refine aU func133 ntmps133 ?_;refine S ?_
  (repeat' (first|refine aA fun K hK=>?_|refine ax ?_|(with_reducible refine gR 5 ?_);refine dE 5 (bo 0 12) mixed ?_|(refine hK _ _ ?_;clear hK K)|(refine az ?_ ?_<;>intro hc<;>try exact jz)|refine cm (htc) ?_|refine ay ?_|exact jI|(clear hK K)))
  (refine cr [.tmp 4] ?_ ?_<;>(try simp only[go_sem]))
 ·rw[au,if_pos he];refine aU func133 ntmps133 ?_;refine S ?_
  (repeat' (first|refine aA fun K hK=>?_|refine ax ?_|(refine hK _ _ ?_;clear hK K)|(refine az ?_ ?_<;>intro hc<;>try exact jz)|refine ay ?_|exact jI|(clear hK K)))
  (refine cr [.tmp 4] ?_ ?_<;>(try simp only[go_sem]))
def O2(n:Nat)(hx:uc n)(Tn:E7 n):I1 n:=by
 intro c a h he h0 h1 hn hk;have hz:=h.size;have hv:=h.vars;obtain⟨sh,UC⟩:=uX h h0 h1;have TM:∀i,i<(c.node a).l.length->(c.aE a i).toNat<n/\0<=c.aE a i/\c.aE a i<c.aa.nodes.length:=fun i hi=>by have hm:c.aE a i∈(c.node a).l:=er hi;have:=UC _ hm;omega
 have ev0:=ni c a;have XA:=h.ev ev0;have Tm:=Gt c a h h0 h1;unfold eF bT at hk;have e19:(c.node a).kind=1\/(c.node a).kind=19\/(c.node a).kind=2\/(c.node a).kind=3\/(c.node a).kind=4\/(c.node a).kind=21\/(c.node a).kind=5\/(c.node a).kind=9\/(c.node a).kind=6\/(c.node a).kind=7\/(c.node a).kind=8\/(c.node a).kind=20:=jB;rcases e19 with k|k|k|k|k|k|k|k|k|k|k|k
 ·have SW:(nth c.aa.nodes a.toNat).kind=1:=k;rw[show cn (au n) c a=(c,1) from by unfold cn;rw[k];rfl];refine aU func147 ntmps147 ?_;refine S ?_
  (have W:=SW;repeat' (first|refine aA fun K hK=>?_|refine ax ?_|(refine hK _ _ ?_;clear hK K)|(refine az ?_ ?_<;>intro hc<;>try exact jz)|refine ay ?_|exact jI|(clear hK K)))
  (refine bG [.tmp 4] ?_;try simp only[go_sem])
 ·have SW:(nth c.aa.nodes a.toNat).kind=19:=k;rw[show cn (au n) c a=(c,1) from by unfold cn;rw[k];rfl];refine aU func147 ntmps147 ?_;refine S ?_
  (have W:=SW;repeat' (first|refine aA fun K hK=>?_|refine ax ?_|(refine hK _ _ ?_;clear hK K)|(refine az ?_ ?_<;>intro hc<;>try exact jz)|refine ay ?_|exact jI|(clear hK K)))
  (refine bG [.tmp 4] ?_;try simp only[go_sem])
 ·have SW:(nth c.aa.nodes a.toNat).kind=2:=k;rw[show cn (au n) c a=(c,2) from by unfold cn;rw[k];rfl];refine aU func147 ntmps147 ?_;refine S ?_
  (have W:=SW;repeat' (first|refine aA fun K hK=>?_|refine ax ?_|(refine hK _ _ ?_;clear hK K)|(refine az ?_ ?_<;>intro hc<;>try exact jz)|refine ay ?_|exact jI|(clear hK K)))
  (refine bG [.tmp 4] ?_;try simp only[go_sem])
 ·have SW:(nth c.aa.nodes a.toNat).kind=3:=k;rw[show cn (au n) c a=(c,3) from by unfold cn;rw[k];rfl];refine aU func147 ntmps147 ?_;refine S ?_
  (have W:=SW;repeat' (first|refine aA fun K hK=>?_|refine ax ?_|(refine hK _ _ ?_;clear hK K)|(refine az ?_ ?_<;>intro hc<;>try exact jz)|refine ay ?_|exact jI|(clear hK K)))
  (refine bG [.tmp 4] ?_;try simp only[go_sem])
 ·have SW:(nth c.aa.nodes a.toNat).kind=4:=k;rw[show cn (au n) c a=c.named a from by unfold cn;rw[k];rfl];refine aU func147 ntmps147 ?_;refine S ?_
  (have W:=SW;repeat' (first|refine aA fun K hK=>?_|refine ax ?_|(refine hK _ _ ?_;clear hK K)|(refine az ?_ ?_<;>intro hc<;>try exact jz)|refine cm (Tm) ?_|refine ay ?_|exact jI|(clear hK K)))
  (refine bG [.tmp 4] ?_;try simp only[go_sem])
 ·have SW:(nth c.aa.nodes a.toNat).kind=21:=k;rw[show cn (au n) c a=gM (au n) c a from by unfold cn;rw[k];rfl];have S9:=Tn c a h h0 h1 hn k;refine aU func147 ntmps147 ?_;refine S ?_
  (have W:=SW;repeat' (first|refine aA fun K hK=>?_|refine ax ?_|(refine hK _ _ ?_;clear hK K)|(refine az ?_ ?_<;>intro hc<;>try exact jz)|refine cm (S9) ?_|refine ay ?_|exact jI|(clear hK K)))
  (refine bG [.tmp 4] ?_;try simp only[go_sem])
 ·have SW:(nth c.aa.nodes a.toNat).kind=5:=k;obtain⟨x,hl,S4⟩:=sh.one jB;have Uf:(c.node a).l.length=1:=by rw[hl];rfl
  have Ur:(nth c.aa.nodes a.toNat).l.length=1:=Uf;obtain⟨g1,g2,g3⟩:=TM 0 jB;have U2:eF (c.node (c.aE a 0)).kind:=by
   have:c.aE a 0=x:=by unfold Ck.aE;rw[hl];rfl
   rw[this];exact .inl S4
  have hex:=hx (c.named a).1 (c.aE a 0) XA g2 (by rw[ev0.aa];exact g3) g1 (by rw[ev0.node];exact U2);have hm:=oQ (au n (c.named a).1 (c.aE a 0)).1 (decide ((c.named a).2=4) && decide ((au n (c.named a).1 (c.aE a 0)).2=1)) a;rw[show cn (au n) c a=((au n (c.named a).1 (c.aE a 0)).1.ar (decide ((c.named a).2=4) && decide ((au n (c.named a).1 (c.aE a 0)).2=1)) a,1) from by unfold cn;rw[k];rfl];refine aU func147 ntmps147 ?_;refine S ?_
  (have W:=SW;repeat' (first|refine aA fun K hK=>?_|refine ax ?_|(refine hK _ _ ?_;clear hK K)|(refine az ?_ ?_<;>intro hc<;>try exact jz)|refine cm (Tm) ?_|refine cm (hex) ?_|refine cm (hm) ?_|refine ay ?_|exact jI|(clear hK K)))
  (refine bG [.tmp 4] ?_;try simp only[go_sem])
 ·have SW:(nth c.aa.nodes a.toNat).kind=9:=k;obtain⟨x,y,hl,S4,Vq⟩:=sh.two jB;have Uf:(c.node a).l.length=2:=by rw[hl];rfl
  have Ur:(nth c.aa.nodes a.toNat).l.length=2:=Uf;obtain⟨g1,g2,g3⟩:=TM 0 jB;obtain⟨g4,g5,g6⟩:=TM 1 jB;have U2:eF (c.node (c.aE a 0)).kind:=by
   have:c.aE a 0=x:=by unfold Ck.aE;rw[hl];rfl
   rw[this];exact .inl S4
  have hky:eF (c.node (c.aE a 1)).kind:=by
   have:c.aE a 1=y:=by unfold Ck.aE;rw[hl];rfl
   rw[this];exact .inl Vq
  have ev1:=dU n c (c.aE a 0);have hex:=hx c (c.aE a 0) h g2 g3 g1 U2;have hey:=hx (au n c (c.aE a 0)).1 (c.aE a 1) (h.ev ev1) g5 (by rw[ev1.aa];exact g6) g4 (by rw[ev1.node];exact hky);have hb:=KC (c.node a).name (au n c (c.aE a 0)).2 (au n (au n c (c.aE a 0)).1 (c.aE a 1)).2;have hm:=oQ (au n (au n c (c.aE a 0)).1 (c.aE a 1)).1 (!decide (im (c.node a).name (au n c (c.aE a 0)).2 (au n (au n c (c.aE a 0)).1 (c.aE a 1)).2=0)) a;rw[show cn (au n) c a=((au n (au n c (c.aE a 0)).1 (c.aE a 1)).1.ar (!decide (im (c.node a).name (au n c (c.aE a 0)).2 (au n (au n c (c.aE a 0)).1 (c.aE a 1)).2=0)) a,im (c.node a).name (au n c (c.aE a 0)).2 (au n (au n c (c.aE a 0)).1 (c.aE a 1)).2) from by unfold cn;rw[k];rfl];refine aU func147 ntmps147 ?_;refine S ?_
  (have W:=SW;repeat' (first|refine aA fun K hK=>?_|refine ax ?_|(refine hK _ _ ?_;clear hK K)|(refine az ?_ ?_<;>intro hc<;>try exact jz)|refine cm (hex) ?_|refine cm (hey) ?_|refine cp (hb) ?_|refine cm (hm) ?_|refine ay ?_|exact jI|(clear hK K)))
  (refine bG [.tmp 4] ?_;try simp only[go_sem])
 ·have SW:(nth c.aa.nodes a.toNat).kind=6:=k;obtain⟨x,hl,S4⟩:=sh.one jB;have Uf:(c.node a).l.length=1:=by rw[hl];rfl
  have Ur:(nth c.aa.nodes a.toNat).l.length=1:=Uf;obtain⟨g1,g2,g3⟩:=TM 0 jB;have U2:eF (c.node (c.aE a 0)).kind:=by
   have:c.aE a 0=x:=by unfold Ck.aE;rw[hl];rfl
   rw[this];exact .inl S4
  have hex:=hx c (c.aE a 0) h g2 g3 g1 U2;have hm:=oQ (au n c (c.aE a 0)).1 (decide ((au n c (c.aE a 0)).2=3) || decide ((au n c (c.aE a 0)).2=4)) a;rw[show cn (au n) c a=((au n c (c.aE a 0)).1.ar (decide ((au n c (c.aE a 0)).2=3) || decide ((au n c (c.aE a 0)).2=4)) a,1) from by unfold cn;rw[k];rfl];refine aU func147 ntmps147 ?_;refine S ?_
  (have W:=SW;repeat' (first|refine aA fun K hK=>?_|refine ax ?_|(refine hK _ _ ?_;clear hK K)|(refine az ?_ ?_<;>intro hc<;>try exact jz)|refine cm (hex) ?_|refine cm (hm) ?_|refine ay ?_|exact jI|(clear hK K)))
  (refine bG [.tmp 4] ?_;try simp only[go_sem])
 ·have SW:(nth c.aa.nodes a.toNat).kind=7:=k;obtain⟨x,hl,S4⟩:=sh.one jB;have Uf:(c.node a).l.length=1:=by rw[hl];rfl
  have Ur:(nth c.aa.nodes a.toNat).l.length=1:=Uf;obtain⟨g1,g2,g3⟩:=TM 0 jB;have U2:eF (c.node (c.aE a 0)).kind:=by
   have:c.aE a 0=x:=by unfold Ck.aE;rw[hl];rfl
   rw[this];exact .inl S4
  have hex:=hx c (c.aE a 0) h g2 g3 g1 U2;have hm:=oQ (au n c (c.aE a 0)).1 (decide ((au n c (c.aE a 0)).2=1)) a;rw[show cn (au n) c a=((au n c (c.aE a 0)).1.ar (decide ((au n c (c.aE a 0)).2=1)) a,1) from by unfold cn;rw[k];rfl];refine aU func147 ntmps147 ?_;refine S ?_
  (have W:=SW;repeat' (first|refine aA fun K hK=>?_|refine ax ?_|(refine hK _ _ ?_;clear hK K)|(refine az ?_ ?_<;>intro hc<;>try exact jz)|refine cm (hex) ?_|refine cm (hm) ?_|refine ay ?_|exact jI|(clear hK K)))
  (refine bG [.tmp 4] ?_;try simp only[go_sem])
 ·have SW:(nth c.aa.nodes a.toNat).kind=8:=k;obtain⟨x,hl,S4⟩:=sh.one jB;have Uf:(c.node a).l.length=1:=by rw[hl];rfl
  have Ur:(nth c.aa.nodes a.toNat).l.length=1:=Uf;obtain⟨g1,g2,g3⟩:=TM 0 jB;have U2:eF (c.node (c.aE a 0)).kind:=by
   have:c.aE a 0=x:=by unfold Ck.aE;rw[hl];rfl
   rw[this];exact .inl S4
  have hex:=hx c (c.aE a 0) h g2 g3 g1 U2;have hm:=oQ (au n c (c.aE a 0)).1 (decide ((au n c (c.aE a 0)).2=2)) a;rw[show cn (au n) c a=((au n c (c.aE a 0)).1.ar (decide ((au n c (c.aE a 0)).2=2)) a,2) from by unfold cn;rw[k];rfl];refine aU func147 ntmps147 ?_;refine S ?_
  (have W:=SW;repeat' (first|refine aA fun K hK=>?_|refine ax ?_|(refine hK _ _ ?_;clear hK K)|(refine az ?_ ?_<;>intro hc<;>try exact jz)|refine cm (hex) ?_|refine cm (hm) ?_|refine ay ?_|exact jI|(clear hK K)))
  (refine bG [.tmp 4] ?_;try simp only[go_sem])
 ·have SW:(nth c.aa.nodes a.toNat).kind=20:=k;obtain⟨x,hl,S4⟩:=sh.one jB;have Uf:(c.node a).l.length=1:=by rw[hl];rfl
  have Ur:(nth c.aa.nodes a.toNat).l.length=1:=Uf;obtain⟨g1,g2,g3⟩:=TM 0 jB;have U2:eF (c.node (c.aE a 0)).kind:=by
   have:c.aE a 0=x:=by unfold Ck.aE;rw[hl];rfl
   rw[this];exact .inl S4
  have hex:=hx c (c.aE a 0) h g2 g3 g1 U2;have hm:=oQ (au n c (c.aE a 0)).1 (decide ((au n c (c.aE a 0)).2=1)) a;rw[show cn (au n) c a=((au n c (c.aE a 0)).1.ar (decide ((au n c (c.aE a 0)).2=1)) a,4) from by unfold cn;rw[k];rfl];refine aU func147 ntmps147 ?_;refine S ?_
  (have W:=SW;repeat' (first|refine aA fun K hK=>?_|refine ax ?_|(refine hK _ _ ?_;clear hK K)|(refine az ?_ ?_<;>intro hc<;>try exact jz)|refine cm (hex) ?_|refine cm (hm) ?_|refine ay ?_|exact jI|(clear hK K)))
  (refine bG [.tmp 4] ?_;try simp only[go_sem])
def sR(a:Int)(c:Ck)(ps:List bQ):gY a c [] ps=c:=by cases ps<;>rfl
def sN(a:Int)(c:Ck)(ts:SI):gY a c ts []=c:=by cases ts<;>rfl
theorem Eg{α:Type}(f:α->SK)(nm:SK):∀(l:List α) (i k:Int),0<=i->(ji f nm l i k=k\/i<=ji f nm l i k)/\(ji f nm l i k=k\/ji f nm l i k<i+l.length)
 |[],i,k,_=>by unfold ji;exact⟨.inl rfl,.inl rfl⟩
 |v::l,i,k,hi=>by
  unfold ji;obtain⟨h1,h2⟩:=Eg f nm l (i+1) (if f v=nm then i else k) jB;simp only[List.length_cons];split at h1<;>rename_i hv
  ·rw[if_pos hv]at h2 ⊢;omega
  ·rw[if_neg hv]at h2 ⊢;omega
def Mm(n:Nat)(hx:uc n):E7 n:=by
 intro c a h h0 h1 hn hk;have hz:=h.size;have hv:=h.vars;have Zn:=h.aa.aq;have Zo:=h.aa.many;obtain⟨sh,UC⟩:=uX h h0 h1;have XR:=h.aa.chain;have D':(nth c.aa.nodes a.toNat).l.length<=300:=zK h h0 h1;have VU:∀i,i<(c.node a).l.length->eF (c.node (nth (c.node a).l i)).kind/\(nth (c.node a).l i).toNat<n/\0<=nth (c.node a).l i/\nth (c.node a).l i<c.aa.nodes.length:=fun i hi=>by have hm:nth (c.node a).l i∈(c.node a).l:=er hi;have:=UC _ hm;exact⟨.inl (sh.call hk _ hm),jB,this.1,jB⟩
 obtain⟨lg1,lg2⟩:=Eg bg.name (c.node a).name c.aa.aq 0 (-1) jB;have lg1:fD c a=-1\/0<=fD c a:=lg1;have lg2:fD c a=-1\/fD c a<0+c.aa.aq.length:=lg2;refine aU func156 ntmps156 ?_;refine S ?_
 (repeat' (first|refine aA fun K hK=>?_|refine ax ?_|(refine hK _ _ ?_;clear hK K)|(refine az ?_ ?_<;>intro hc<;>try exact jz)|refine ay ?_|exact jI|(clear hK K)))
 have Tc:=hK;clear hK;refine fa (S:=Nat×Int) [(6,2),(22,25)] (fun s=>s.1<=c.aa.aq.length/\ji bg.name (c.node a).name (c.aa.aq.drop s.1) s.1 s.2=fD c a) (fun s=>[(7,rI s.1),(6,rI s.2)]) (fun _=>⟨[0,1,2,3,4,5],fP c++[(6,.var 59 (dO (c.node a)))]⟩) (fun s=>c.aa.aq.length-s.1) (0,-1) ⟨jJ,rfl⟩ (fb jn cI) ?_;rintro⟨k,j⟩ ⟨Te,S5⟩ Kr S8;simp only at Te S5
 (refine S ?_;try exact jI)
 by_cases SX:k<c.aa.aq.length
 ·rw[lG SX]at S5;unfold ji at S5
  (repeat' (first|refine aA fun K hK=>?_|refine ax ?_|(with_reducible refine gR 6 ?_);refine dE 6 (bo 0 13) mixed ?_|(refine hK _ _ ?_;clear hK K)|(refine az ?_ ?_<;>intro hc<;>try exact jz)|refine ay ?_|exact jI|(clear hK K)))
  ·rw[if_pos hc]at S5;refine S8 _ _ (fc (k+1,(k:Int)) ⟨jJ,by rw[<-S5];rfl⟩ jJ jn cI)
  ·rw[if_neg hc]at S5;refine S8 _ _ (fc (k+1,j) ⟨jJ,by rw[<-S5];rfl⟩ jJ jn cI)
 ·rw[List.drop_eq_nil_of_le jB]at S5;have S5:j=fD c a:=S5;subst S5;by_cases Zp:fD c a<0
  ·rw[gM,if_pos Zp]at*
   (repeat' (first|refine aA fun K hK=>?_|refine ax ?_|(refine hK _ _ ?_;clear hK K)|(refine az ?_ ?_<;>intro hc<;>try exact jz)|refine Tc _ _ ?_|refine cm (sY c 40 a) ?_|refine ay ?_|exact jI|(clear hK K)))
   (refine bG [.tmp 4] ?_;try simp only[go_sem])
  ·have Zi:0<=fD c a:=jB;have Zb:(fD c a).toNat<c.aa.aq.length:=jB;have hfp:=(h.aa.fn _ (er Zb)).2;have e0:gM (au n) c a=(gY a (if(c.node a).l.length≠(nth c.aa.aq (fD c a).toNat).params.length then(fV (au n) c (c.node a).l []).1.aG 43 a else(fV (au n) c (c.node a).l []).1) (fV (au n) c (c.node a).l []).2 (nth c.aa.aq (fD c a).toNat).params,(nth c.aa.aq (fD c a).toNat).ret):=by
    rw[gM,if_neg Zp]
   (repeat' (first|refine aA fun K hK=>?_|refine ax ?_|(refine hK _ _ ?_;clear hK K)|(refine az ?_ ?_<;>intro hc<;>try exact jz)|refine Tc _ _ ?_|refine ay ?_|exact jI|(clear hK K)))
   have WY:=hK;clear hK;refine iJ (dJ.nil 8 9 3 (sz:=1) rfl jC (Or.inr ⟨_,_,_,rfl,rfl⟩)) ?_
   (refine S ?_;try exact jI)
   refine fa (S:=Nat×Ck×SI) [(9,3),(62,25)] (fun s=>s.1<=(c.node a).l.length/\Ev c s.2.1/\s.2.2.length=s.1/\fV (au n) s.2.1 ((c.node a).l.drop s.1) s.2.2=fV (au n) c (c.node a).l []) (fun s=>[(10,rI s.1),(9,.rs 8 s.2.2.length 1 s.2.2.length)]) (fun s=>⟨[0,1,2,3,4,5],fP s.2.1++[(6,.var 59 (dO (c.node a))),(7,.var 73 (gr (nth c.aa.aq (fD c a).toNat))),(8,.aK 3 1 (s.2.2.map eI))]⟩) (fun s=>(c.node a).l.length-s.1) (0,c,[]) ⟨jJ,.refl c,rfl,rfl⟩ (fb jn cI) ?_;rintro⟨i,q,ts⟩ ⟨VZ,ev,Z9,hA⟩ Kr2 Yp;simp only at VZ ev Z9 hA;have hq:=h.ev ev;have lt1:=hq.types;have lt2:=hq.slots;have lt3:=hq.aq;have lt4:=hq.vars;have lt5:=hq.size;have hlq:(c.node a).l.length<=300:=D'
   (refine S ?_;try exact jI)
   by_cases Uz:i<(c.node a).l.length/\q.e=0
   ·obtain⟨TU,UE⟩:=Uz;rw[lG TU,fV,if_pos UE]at hA;obtain⟨g1,g2,g3,g4⟩:=VU i TU;have hxc:=hx q (nth (c.node a).l i) hq g3 (by rw[ev.aa];exact g4) g2 (by rw[ev.node];exact g1)
    (have W:=UE;repeat' (first|refine aA fun K hK=>?_|refine ax ?_|(refine hK _ _ ?_;clear hK K)|(refine az ?_ ?_<;>intro hc<;>try exact jz)|refine cm (hxc) ?_|refine ay ?_|exact jI|(clear hK K)))
    refine Yp _ _ (fc (i+1,(au n q (nth (c.node a).l i)).1,ts++[(au n q (nth (c.node a).l i)).2]) ⟨jJ,ev.trans (dU _ _ _),by simp[Z9],hA⟩ jJ jn cI)
   have hA2:fV (au n) c (c.node a).l []=(q,ts):=by
    rw[<-hA];by_cases TU:i<(c.node a).l.length
    ·rw[lG TU,fV,if_neg fun e=>Uz ⟨TU,e⟩]
    ·rw[List.drop_eq_nil_of_le jB,fV]
   have hq1:q=(fV (au n) c (c.node a).l []).1:=by rw[hA2]
   have hq2:ts=(fV (au n) c (c.node a).l []).2:=by rw[hA2]
   by_cases Tb:(c.node a).l.length≠(nth c.aa.aq (fD c a).toNat).params.length
   ·have Yq:(((c.node a).l.length:Int)=((nth c.aa.aq (fD c a).toNat).params.length:Int))=False:=eq_false jB;have Wi:(q.aG 43 a).e≠0:=by unfold Ck.aG;split;(exact fun h=>by cases h);assumption
    have evx:Ev c (q.aG 43 a):=ev.trans (mX q jC a);have hb:((q.aG 43 a)).e=0->ts.length<=(nth c.aa.aq (fD c a).toNat).params.length:=fun h=>(Wi h).elim
    (have W:=Yq;repeat' (first|refine aA fun K hK=>?_|refine ax ?_|(refine hK _ _ ?_;clear hK K)|(refine az ?_ ?_<;>intro hc<;>try exact jz)|(refine WY _ _ ?_)|refine cm (sY q 43 a) ?_|refine ay ?_|exact jI|(clear hK K)))
    have Yr:=hK;clear hK;refine fa (S:=Nat×Ck) [(12,1),(97,27)] (fun s=>s.1<=ts.length/\Ev (q.aG 43 a) s.2/\gY a s.2 (ts.drop s.1) ((nth c.aa.aq (fD c a).toNat).params.drop s.1)=gY a (q.aG 43 a) ts (nth c.aa.aq (fD c a).toNat).params) (fun s=>[(12,rI s.1)]) (fun s=>⟨[0,1,2,3,4,5],fP s.2++[(6,.var 59 (dO (c.node a))),(7,.var 73 (gr (nth c.aa.aq (fD c a).toNat))),(8,.aK 3 1 (ts.map eI))]⟩) (fun s=>ts.length-s.1) (0,(q.aG 43 a)) ⟨jJ,.refl _,rfl⟩ (fb jn cI) ?_;rintro⟨m,z⟩ ⟨VE,Un,Ue⟩ Kr3 Zq;simp only at VE Un Ue
    (refine S ?_;try exact jI)
    by_cases Uz:m<ts.length/\z.e=0
    ·obtain⟨TU,UE⟩:=Uz;have V4:((q.aG 43 a)).e=0:=Classical.byContradiction fun h=>Un.err h UE
     exact(Wi V4).elim
    ·have hz:z=gY a (q.aG 43 a) ts (nth c.aa.aq (fD c a).toNat).params:=by
      by_cases TU:m<ts.length
      ·have UE:z.e≠0:=fun e=>Uz ⟨TU,e⟩
       rw[lG TU]at Ue;cases hp:(nth c.aa.aq (fD c a).toNat).params.drop m with
       |nil=>rw[hp,sN]at Ue;exact Ue
       |cons x y=>rw[hp,gY,if_neg UE]at Ue;exact Ue
      ·rw[List.drop_eq_nil_of_le jB,sR]at Ue;exact Ue
     (repeat' (first|refine aA fun K hK=>?_|refine ax ?_|(refine hK _ _ ?_;clear hK K)|(refine az ?_ ?_<;>intro hc<;>try exact jz)|(refine Yr _ _ ?_)|refine ay ?_|exact jI|(clear hK K)))
     all_goals first|(exact absurd ⟨jB,by assumption⟩ Uz)|skip
     have e1:gM (au n) c a=(z,(nth c.aa.aq (fD c a).toNat).ret):=by rw[e0,if_pos Tb,<-hq1,<-hq2,hz]
     all_goals(
      rw[e1]
      (refine bG [.tmp 4] ?_;try simp only[go_sem]))
   ·have Yq:((c.node a).l.length:Int)=((nth c.aa.aq (fD c a).toNat).params.length:Int):=jB;have Wi:True:=trivial;have evx:Ev c q:=ev;have hb:(q).e=0->ts.length<=(nth c.aa.aq (fD c a).toNat).params.length:=fun _=>jB
    (have W:=Yq;repeat' (first|refine aA fun K hK=>?_|refine ax ?_|(refine hK _ _ ?_;clear hK K)|(refine az ?_ ?_<;>intro hc<;>try exact jz)|(refine WY _ _ ?_)|refine ay ?_|exact jI|(clear hK K)))
    have Yr:=hK;clear hK;refine fa (S:=Nat×Ck) [(12,1),(97,27)] (fun s=>s.1<=ts.length/\Ev q s.2/\gY a s.2 (ts.drop s.1) ((nth c.aa.aq (fD c a).toNat).params.drop s.1)=gY a q ts (nth c.aa.aq (fD c a).toNat).params) (fun s=>[(12,rI s.1)]) (fun s=>⟨[0,1,2,3,4,5],fP s.2++[(6,.var 59 (dO (c.node a))),(7,.var 73 (gr (nth c.aa.aq (fD c a).toNat))),(8,.aK 3 1 (ts.map eI))]⟩) (fun s=>ts.length-s.1) (0,q) ⟨jJ,.refl _,rfl⟩ (fb jn cI) ?_;rintro⟨m,z⟩ ⟨VE,Un,Ue⟩ Kr3 Zq;simp only at VE Un Ue
    (refine S ?_;try exact jI)
    by_cases Uz:m<ts.length/\z.e=0
    ·obtain⟨TU,UE⟩:=Uz;have V4:(q).e=0:=Classical.byContradiction fun h=>Un.err h UE
     have hmp:m<(nth c.aa.aq (fD c a).toNat).params.length:=by have:=hb V4;omega
     rw[lG TU,lG hmp,gY,if_pos UE]at Ue
     (have W:=UE;repeat' (first|refine aA fun K hK=>?_|refine ax ?_|(with_reducible refine gR 23 ?_);refine dE 23 (bo 0 14) mixed ?_|(refine hK _ _ ?_;clear hK K)|(refine az ?_ ?_<;>intro hc<;>try exact jz)|refine cm (oQ z (decide (nth ts m=(nth (nth c.aa.aq (fD c a).toNat).params m).ty)) a) ?_|refine ay ?_|exact jI|(clear hK K)))
     refine Zq _ _ (fc (m+1,z.ar (decide (nth ts m=(nth (nth c.aa.aq (fD c a).toNat).params m).ty)) a) ⟨jJ,Un.trans (iW _ _ _),Ue⟩ jJ jn cI)
    ·have hz:z=gY a q ts (nth c.aa.aq (fD c a).toNat).params:=by
      by_cases TU:m<ts.length
      ·have UE:z.e≠0:=fun e=>Uz ⟨TU,e⟩
       rw[lG TU]at Ue;cases hp:(nth c.aa.aq (fD c a).toNat).params.drop m with
       |nil=>rw[hp,sN]at Ue;exact Ue
       |cons x y=>rw[hp,gY,if_neg UE]at Ue;exact Ue
      ·rw[List.drop_eq_nil_of_le jB,sR]at Ue;exact Ue
     (repeat' (first|refine aA fun K hK=>?_|refine ax ?_|(refine hK _ _ ?_;clear hK K)|(refine az ?_ ?_<;>intro hc<;>try exact jz)|(refine Yr _ _ ?_)|refine ay ?_|exact jI|(clear hK K)))
     all_goals first|(exact absurd ⟨jB,by assumption⟩ Uz)|skip
     have e1:gM (au n) c a=(z,(nth c.aa.aq (fD c a).toNat).ret):=by rw[e0,if_neg Tb,<-hq1,<-hq2,hz]
     all_goals(
      rw[e1]
      (refine bG [.tmp 4] ?_;try simp only[go_sem]))
structure Sv(c c':Ck):Prop where
 aa:c'.aa=c.aa
 fn:c'.fn=c.fn
 aR:c'.aR=c.aR
 err:c.e≠0->c'.e≠0
 inv:bF c'
 pre:∃u,c'.vars=c.vars++u
def Sv.refl{c:Ck}(h:bF c):Sv c c:=⟨rfl,rfl,rfl,id,h,[],jE⟩
def Sv.ix{c c':Ck}(h:bF c)(s:Ev c c'):Sv c c':=⟨s.aa,s.fn,s.aR,s.err,h.ev s,[],by rw[s.vars];simp⟩
theorem Sv.trans{a b c:Ck}(h:Sv a b)(k:Sv b c):Sv a c:=⟨k.aa.trans h.aa,k.fn.trans h.fn,k.aR.trans h.aR,fun e=>k.err (h.err e),k.inv,by obtain⟨u,hu⟩:=h.pre;obtain⟨v,hv⟩:=k.pre;exact⟨u++v,by rw[hv,hu,List.append_assoc]⟩⟩
def gC(ex:Ck->Int->Ck×Int)(c:Ck)(a:Int):Ck:=(ex c (c.aE a 0)).1.ar (!decide ((ex c (c.aE a 0)).2=0)) a
def jf(ex:Ck->Int->Ck×Int)(c:Ck)(a:Int):Ck:=if 0<=(gC ex c a).find (c.node a).name then(gC ex c a).aG 41 a else gC ex c a
def dP(ex:Ck->Int->Ck×Int)(c:Ck)(a:Int):Ck:=if 24<=(jf ex c a).size then(jf ex c a).aG 4 a else jf ex c a
def AZ(c:Ck)(a:Int)(v:bP):Ck:={ (c.slot a c.size)with vars:=c.vars++[v],more:=c.more.drop 1,size:=c.size+1 }
def tJ(ex:Ck->Int->Ck×Int)(c:Ck)(a:Int):o0 ex c a=AZ (dP ex c a) a ⟨(c.node a).name,(ex c (c.aE a 0)).2,(dP ex c a).size⟩:=rfl
def Am(hex:∀c a,Ev c (ex c a).1)(c:Ck)(a:Int):Ev c (gC ex c a):=(hex c _).trans (iW _ _ _)
def Av(hex:∀c a,Ev c (ex c a).1)(c:Ck)(a:Int):Ev c (jf ex c a):=by
 unfold jf;split
 ·exact(Am hex c a).trans (mX _ jC a)
 ·exact Am hex c a
def wO(hex:∀c a,Ev c (ex c a).1)(c:Ck)(a:Int):Ev c (dP ex c a):=by
 unfold dP;split
 ·exact(Av hex c a).trans (mX _ jC a)
 ·exact Av hex c a
def M8{c:Ck}(h:(dP ex c a).e=0):(dP ex c a).size<24:=by
 unfold dP at h ⊢;split
 ·rename_i hs;rw[if_pos hs]at h;exfalso;unfold Ck.aG at h;split at h
  ·cases h
  ·contradiction
 ·omega
def RL{c:Ck}(h:bF c)(a:Int)(v:bP)(h24:c.size<=24)(hr:c.e=0->c.size<24):Sv c (AZ c a v):=by refine⟨rfl,rfl,rfl,id,⟨h.aa,h.types,by show(c.slots.set _ _).length=_;rw[List.length_set];exact h.slots,h.aq,h.aR,h.we,h.vm,?_,by show c.size+1<=25;omega,fun e=>by show c.size+1<=24;have:=hr e;omega⟩,[v],rfl⟩;show((c.vars++[v]).length:Int)<=c.size+1;have:=h.vars;simp;omega
def P2(hex:∀c a,Ev c (ex c a).1){c:Ck}(h:bF c)(he:c.e=0)(a:Int):Sv c (o0 ex c a):=by rw[tJ];have s:=wO hex c a;refine(Sv.ix h s).trans (RL (h.ev s) a _ ?_ M8);rw[s.size];exact h.room he
def JQ(hex:∀c a,Ev c (ex c a).1){c:Ck}(h:bF c)(a:Int):Sv c (ki ex c a):=by
 refine Sv.ix h ?_;unfold ki;simp only;split
 ·exact mX c jC a
 split
 ·exact(hex c _).trans (iW _ _ _)
 ·exact .refl c
theorem oN{st:Ck->Int->Ck}(P':∀c a,bF c->c.e=0->Sv c (st c a)):∀(l:SI) (c:Ck),bF c->Sv c (dt st c l)
 |[],c,h=>by unfold dt;exact .refl h
 |a::l,c,h=>by
  unfold dt;split
  ·rename_i he;have s:=P' c a h he;exact s.trans (oN P' l _ s.inv)
  ·exact .refl h
def pA{st:Ck->Int->Ck}(P':∀c a,bF c->c.e=0->Sv c (st c a)){c:Ck}(h:bF c)(a:Int):Sv c (eL st c a)/\(eL st c a).vars=c.vars:=by
 have s:=(Sv.ix h (qb c a)).trans (oN P' (c.node a).l _ (h.ev (qb c a)));obtain⟨u,hu⟩:=s.pre;have hv:(dt st (c.af a) (c.node a).l).vars.take (min c.vars.length (dt st (c.af a) (c.node a).l).vars.length)=c.vars:=by rw[hu,Nat.min_eq_left jE,List.take_left'];rfl
 have hi:=s.inv;refine⟨⟨s.aa,s.fn,s.aR,s.err,⟨hi.aa,hi.types,hi.slots,hi.aq,hi.aR,hi.we,hi.vm,?_,hi.size,hi.room⟩,[],by rw[List.append_nil];exact hv⟩,hv⟩;have:=hi.vars;show(((dt st (c.af a) (c.node a).l).vars.take _).length:Int)<=_;rw[List.length_take];show _<=(dt st (c.af a) (c.node a).l).size;omega
theorem lC:∀(n:Nat) (c:Ck) (a:Int),bF c->c.e=0->Sv c (bH n c a)
 |0,c,a,h,he=>by unfold bH;exact .refl h
 |n+1,c,a,h,he=>by
  have e0:=qb c a;have h0:=h.ev e0;have s0:=Sv.ix h e0;have hx:=dU n;unfold bH;simp only;repeat' split
  ·exact s0.trans (P2 hx h0 he a)
  ·exact s0.trans (Sv.ix h0 (((ni _ a).trans (hx _ _)).trans (iW _ _ _)))
  ·exact s0.trans (Sv.ix h0 ((((ni _ a).trans (hx _ _)).trans (hx _ _)).trans (iW _ _ _)))
  ·exact s0.trans (Sv.ix h0 (hx _ _))
  ·exact s0.trans (Sv.ix h0 ((hx _ _).trans (iW _ _ _)))
  ·exact s0.trans (JQ hx h0 a)
  ·have s1:=s0.trans (Sv.ix h0 ((hx (c.af a) ((c.af a).aE a 0)).trans (iW _ (decide ((au n (c.af a) ((c.af a).aE a 0)).2=2)) a)));exact s1.trans (oN (fun q b hq _=>(pA (lC n) hq b).1) _ _ s1.inv)
def CJ(n:Nat):Prop:=∀(c:Ck) (a:Int),bF c->c.e=0->0<=a->a<c.aa.nodes.length->a.toNat<n->eo (c.node a).kind->ai prog 112 [pR,rI a] (fP c) (fun v l=>v=.bf []/\l=fP (bH n c a))
def Fp(n:Nat):Prop:=∀(c:Ck) (a:Int),bF c->0<=a->a<c.aa.nodes.length->a.toNat<=n->(c.node a).kind=18->ai prog 70 [pR,rI a] (fP c) (fun v l=>v=.bf []/\l=fP (eL (bH n) c a))
attribute [go_sem] AZ List.length_drop
def QI(n:Nat)(hx:uc n)(c:Ck)(a:Int)(h:bF c)(he:c.e=0)(h0:0<=a)(h1:a<c.aa.nodes.length)(hn:a.toNat<=n)(hk:(c.node a).kind=10):ai prog 131 [pR,rI a] (fP c) (fun v l=>v=.bf []/\l=fP (o0 (au n) c a)):=by
 obtain⟨sh,UC⟩:=uX h h0 h1;obtain⟨x,hl,S4⟩:=sh.right jB;have Ur:(nth c.aa.nodes a.toNat).l.length=1:=by
  have:(c.node a).l.length=1:=by rw[hl];rfl
  exact this
 have U2:c.aE a 0=x:=by unfold Ck.aE;rw[hl];rfl
 have hm:=UC x (by rw[hl];simp);have hex:=hx c (c.aE a 0) h jB jB jB (by rw[U2];exact S4);have TN:ai prog 134 _ _ (fun v l=>v=.bf []/\l=fP (gC (au n) c a)):=oQ (au n c (c.aE a 0)).1 (!decide ((au n c (c.aE a 0)).2=0)) a;have eA:=Am (dU n) c a;have eB:=Av (dU n) c a;have eC:=wO (dU n) c a;have hA:=h.ev eA;have hC:=h.ev eC;have T2:=C5 (gC (au n) c a) (c.node a).name hA;have WX:=sY (gC (au n) c a) 41 a;have Zr:=sY (jf (au n) c a) 4 a;have Tr:=hC.slots;have hcz:=hC.size;have WC:=hC.vars;have UU:=eC.size;have hc24:=h.room he;rw[eC.aa]at Tr;rw[tJ];refine aU func131 ntmps131 ?_
 (refine S ?_;try exact jI)
 by_cases c1:0<=(gC (au n) c a).find (c.node a).name
 ·have e1:jf (au n) c a=(gC (au n) c a).aG 41 a:=if_pos c1;rw[<-e1]at WX;by_cases c2:24<=(jf (au n) c a).size
  ·have e2:dP (au n) c a=(jf (au n) c a).aG 4 a:=if_pos c2;rw[<-e2]at Zr
   (repeat' (first|refine aA fun K hK=>?_|refine ax ?_|(with_reducible refine gR 7 ?_);refine dE 7 (bo 0 12) mixed ?_|(with_reducible refine gR 8 ?_);refine dE 8 (bo 0 18) mixed ?_|(refine hK _ _ ?_;clear hK K)|(refine az ?_ ?_<;>intro hc<;>try exact jz)|refine cm (hex) ?_|refine cm (TN) ?_|refine cm (T2) ?_|refine cm (WX) ?_|refine cm (Zr) ?_|refine sP (dP (au n) c a).vars (dP (au n) c a).more [⟨(c.node a).name,(au n c (c.aE a 0)).2,(dP (au n) c a).size⟩] ?_|refine ay ?_|exact jI|(clear hK K)))
   (refine bG [] ?_;try simp only[go_sem])
  ·have e2:dP (au n) c a=jf (au n) c a:=if_neg c2;rw[e2]at Tr hcz WC UU;rw[e2]
   (repeat' (first|refine aA fun K hK=>?_|refine ax ?_|(with_reducible refine gR 7 ?_);refine dE 7 (bo 0 12) mixed ?_|(with_reducible refine gR 8 ?_);refine dE 8 (bo 0 18) mixed ?_|(refine hK _ _ ?_;clear hK K)|(refine az ?_ ?_<;>intro hc<;>try exact jz)|refine cm (hex) ?_|refine cm (TN) ?_|refine cm (T2) ?_|refine cm (WX) ?_|refine sP (jf (au n) c a).vars (jf (au n) c a).more [⟨(c.node a).name,(au n c (c.aE a 0)).2,(jf (au n) c a).size⟩] ?_|refine ay ?_|exact jI|(clear hK K)))
   (refine bG [] ?_;try simp only[go_sem])
 ·have e1:jf (au n) c a=gC (au n) c a:=if_neg c1;rw[e1]at Zr;by_cases c2:24<=(gC (au n) c a).size
  ·have e2:dP (au n) c a=(gC (au n) c a).aG 4 a:=by unfold dP;rw[e1];exact if_pos c2
   rw[<-e2]at Zr
   (repeat' (first|refine aA fun K hK=>?_|refine ax ?_|(with_reducible refine gR 7 ?_);refine dE 7 (bo 0 12) mixed ?_|(with_reducible refine gR 8 ?_);refine dE 8 (bo 0 18) mixed ?_|(refine hK _ _ ?_;clear hK K)|(refine az ?_ ?_<;>intro hc<;>try exact jz)|refine cm (hex) ?_|refine cm (TN) ?_|refine cm (T2) ?_|refine cm (Zr) ?_|refine sP (dP (au n) c a).vars (dP (au n) c a).more [⟨(c.node a).name,(au n c (c.aE a 0)).2,(dP (au n) c a).size⟩] ?_|refine ay ?_|exact jI|(clear hK K)))
   (refine bG [] ?_;try simp only[go_sem])
  ·have e2:dP (au n) c a=gC (au n) c a:=by unfold dP;rw[e1];exact if_neg c2
   rw[e2]at Tr hcz WC UU;rw[e2]
   (repeat' (first|refine aA fun K hK=>?_|refine ax ?_|(with_reducible refine gR 7 ?_);refine dE 7 (bo 0 12) mixed ?_|(with_reducible refine gR 8 ?_);refine dE 8 (bo 0 18) mixed ?_|(refine hK _ _ ?_;clear hK K)|(refine az ?_ ?_<;>intro hc<;>try exact jz)|refine cm (hex) ?_|refine cm (TN) ?_|refine cm (T2) ?_|refine sP (gC (au n) c a).vars (gC (au n) c a).more [⟨(c.node a).name,(au n c (c.aE a 0)).2,(gC (au n) c a).size⟩] ?_|refine ay ?_|exact jI|(clear hK K)))
   (refine bG [] ?_;try simp only[go_sem])
def FC(n:Nat)(hs:CJ n):Fp n:=by
 intro c a h h0 h1 hn hk;obtain⟨sh,UC⟩:=uX h h0 h1;have D':(nth c.aa.nodes a.toNat).l.length<=300:=zK h h0 h1;have e0:=qb c a;have hq0:=h.ev e0;have Uk:=h.aq;have hvz:=h.vars;have SY:=h.size;refine aU func70 ntmps70 ?_;refine S ?_
 (repeat' (first|refine aA fun K hK=>?_|refine ax ?_|(with_reducible refine gR 0 ?_);refine dE 0 (bo 0 12) mixed ?_|(refine hK _ _ ?_;clear hK K)|(refine az ?_ ?_<;>intro hc<;>try exact jz)|refine ay ?_|exact jI|(clear hK K)))
 have Tc:=hK;clear hK;refine fa (S:=Nat×Ck) [(6,1),(33,19)] (fun s=>s.1<=(c.node a).l.length/\Sv (c.af a) s.2/\dt (bH n) s.2 ((c.node a).l.drop s.1)=dt (bH n) (c.af a) (c.node a).l) (fun s=>[(6,rI s.1)]) (fun s=>⟨[0,1,2,3,4,5],fP s.2⟩) (fun s=>(c.node a).l.length-s.1) (0,c.af a) ⟨jJ,.refl hq0,rfl⟩ (fb jn cI) ?_;rintro⟨i,q⟩ ⟨hi,hq,hA⟩ Kr S8;simp only at hi hq hA
 (refine S ?_;try exact jI)
 have lt1:=hq.inv.types;have lt3:=hq.inv.aq;have lt4:=hq.inv.vars;have lt5:=hq.inv.size;by_cases Uz:i<(c.node a).l.length/\q.e=0
 ·obtain⟨TU,UE⟩:=Uz;have Zs:i<(nth c.aa.nodes a.toNat).l.length:=TU;rw[lG TU,dt,if_pos UE]at hA;have hm:nth (c.node a).l i∈(c.node a).l:=er TU;have hb:=UC _ hm;have P':=hs q (nth (c.node a).l i) hq.inv UE hb.1 (by rw[hq.aa];show _<(c.aa.nodes.length:Int);omega) jB (by
   have:q.node (nth (c.node a).l i)=c.node (nth (c.node a).l i):=by unfold Ck.node;rw[hq.aa];rfl
   rw[this];exact sh.block hk _ hm)
  (have W:=UE;repeat' (first|refine aA fun K hK=>?_|refine ax ?_|(refine hK _ _ ?_;clear hK K)|(refine az ?_ ?_<;>intro hc<;>try exact jz)|refine cm (P') ?_|refine ay ?_|exact jI|(clear hK K)))
  refine S8 _ _ (fc (i+1,bH n q (nth (c.node a).l i)) ⟨jJ,hq.trans (lC n q _ hq.inv UE),hA⟩ jJ jn cI)
 ·have hz:q=dt (bH n) (c.af a) (c.node a).l:=by
   by_cases TU:i<(c.node a).l.length
   ·rw[lG TU,dt,if_neg fun e=>Uz ⟨TU,e⟩]at hA;exact hA
   ·rw[List.drop_eq_nil_of_le jB,dt]at hA;exact hA
  have e1:eL (bH n) c a={ q with vars:=q.vars.take (min c.vars.length q.vars.length),more:=q.vars.drop (min c.vars.length q.vars.length)++q.more }:=by unfold eL;rw[<-hz]
  obtain⟨u,hu⟩:=hq.pre;have hu:q.vars=c.vars++u:=hu;have haf:min c.vars.length q.vars.length=c.vars.length:=by rw[hu];simp
  have WZ:¬(i<(nth c.aa.nodes a.toNat).l.length/\q.e=0):=Uz
  (repeat' (first|refine aA fun K hK=>?_|refine ax ?_|(with_reducible refine gR 7 ?_);refine dE 7 (bo 0 16) mixed ?_|(refine hK _ _ ?_;clear hK K)|(refine az ?_ ?_<;>intro hc<;>try exact jz)|refine Tc _ _ ?_|refine ay ?_|exact jI|(clear hK K)))
  all_goals first|(exact absurd ⟨by have:=hc.1;omega,hc.2⟩ WZ)|skip
  have ht:q.vars.take c.vars.length=c.vars:=by rw[hu,List.take_left' rfl]
  have hd:q.vars.drop c.vars.length=u:=by rw[hu,List.drop_left' rfl]
  rw[e1,haf,ht,hd]
  (refine cr [] ?_ ?_<;>(try simp only[go_sem]))
  simp only[hu,List.map_append,List.append_assoc,List.length_append,Nat.add_assoc];rw[jN,Int.toNat_natCast]
def Rh(n:Nat)(hx:uc n)(c:Ck)(a:Int)(h:bF c)(h0:0<=a)(h1:a<c.aa.nodes.length)(hn:a.toNat<=n)(hk:(c.node a).kind=17):ai prog 135 [pR,rI a] (fP c) (fun v l=>v=.bf []/\l=fP (ki (au n) c a)):=by
 obtain⟨sh,UC⟩:=uX h h0 h1;have US:=h.we;have hfh:=h.vm;have D':(nth c.aa.nodes a.toNat).l.length<=300:=zK h h0 h1;have Zt:=sY c 43 a;have XS:decide (((c.node a).l.length:Int)=1)=decide ((c.node a).l.length=1):=by rw[decide_eq_decide];omega
 by_cases b:decide ((c.node a).l.length=1)≠(!decide ((nth c.aa.aq c.fn.toNat).ret=0))
 ·have e1:ki (au n) c a=c.aG 43 a:=if_pos b;have hb:(decide (((nth c.aa.nodes a.toNat).l.length:Int)=1) == !decide ((nth c.aa.aq c.fn.toNat).ret=0))=false:=by
   rw[show((nth c.aa.nodes a.toNat).l.length)=(c.node a).l.length from rfl,XS];simpa using b
  rw[e1];refine aU func135 ntmps135 ?_;refine S ?_
  (have W:=hb;repeat' (first|refine aA fun K hK=>?_|refine ax ?_|(with_reducible refine gR 1 ?_);refine dE 1 (bo 0 14) mixed ?_|(refine hK _ _ ?_;clear hK K)|(refine az ?_ ?_<;>intro hc<;>try exact jz)|refine cm (Zt) ?_|refine ay ?_|exact jI|(clear hK K)))
  (refine bG [] ?_;try simp only[go_sem])
 ·have hb:(decide (((nth c.aa.nodes a.toNat).l.length:Int)=1) == !decide ((nth c.aa.aq c.fn.toNat).ret=0))=true:=by
   rw[show((nth c.aa.nodes a.toNat).l.length)=(c.node a).l.length from rfl,XS];rw[Classical.not_not.1 b];exact beq_self_eq_true _
  by_cases hl:(c.node a).l.length=1
  ·have Ur:(nth c.aa.nodes a.toNat).l.length=1:=hl;have e1:ki (au n) c a=(au n c (c.aE a 0)).1.ar (decide ((au n c (c.aE a 0)).2=(nth c.aa.aq c.fn.toNat).ret)) a:=by unfold ki;simp only;rw[if_neg b,if_pos hl]
   rcases sh.ret hk with h2|⟨x,h2,h3⟩
   ·rw[h2]at hl;cases hl
   have U2:c.aE a 0=x:=by unfold Ck.aE;rw[h2];rfl
   have hm:=UC x (by rw[h2];simp);have hex:=hx c (c.aE a 0) h jB jB jB (by rw[U2];exact .inl h3);have TN:=oQ (au n c (c.aE a 0)).1 (decide ((au n c (c.aE a 0)).2=(nth c.aa.aq c.fn.toNat).ret)) a;rw[e1];refine aU func135 ntmps135 ?_;refine S ?_
   (have W:=hb;repeat' (first|refine aA fun K hK=>?_|refine ax ?_|(with_reducible refine gR 1 ?_);refine dE 1 (bo 0 14) mixed ?_|(refine hK _ _ ?_;clear hK K)|(refine az ?_ ?_<;>intro hc<;>try exact jz)|refine cm (hex) ?_|refine cm (TN) ?_|refine ay ?_|exact jI|(clear hK K)))
   (refine bG [] ?_;try simp only[go_sem])
  ·have Ur:¬(nth c.aa.nodes a.toNat).l.length=1:=hl;have e1:ki (au n) c a=c:=by unfold ki;simp only;rw[if_neg b,if_neg hl]
   rw[e1];refine aU func135 ntmps135 ?_;refine S ?_
   (have W:=hb;repeat' (first|refine aA fun K hK=>?_|refine ax ?_|(with_reducible refine gR 1 ?_);refine dE 1 (bo 0 14) mixed ?_|(refine hK _ _ ?_;clear hK K)|(refine az ?_ ?_<;>intro hc<;>try exact jz)|refine ay ?_|exact jI|(clear hK K)))
   (refine bG [] ?_;try simp only[go_sem])
def Sy(n:Nat):Prop:=∀(c:Ck) (a:Int),bF c->c.e=0->0<=a->a<c.aa.nodes.length->a.toNat<=n->(c.node a).kind=10->ai prog 131 [pR,rI a] (fP c) (fun v l=>v=.bf []/\l=fP (o0 (au n) c a))
def NR(n:Nat):Prop:=∀(c:Ck) (a:Int),bF c->0<=a->a<c.aa.nodes.length->a.toNat<=n->(c.node a).kind=17->ai prog 135 [pR,rI a] (fP c) (fun v l=>v=.bf []/\l=fP (ki (au n) c a))
def J9(n:Nat)(hx:uc n)(hl:Sy n)(hr:NR n)(Ws:Fp n):CJ (n+1):=by
 intro c a h he h0 h1 hn hk;have ev:=qb c a;have hq:=h.ev ev;obtain⟨sh,UC⟩:=uX h h0 h1;have D':(nth c.aa.nodes a.toNat).l.length<=300:=zK h h0 h1;have Uk:=h.aq;have hvz:=h.vars;have SY:=h.size;have TM:∀i,i<(c.node a).l.length->(c.aE a i).toNat<n/\0<=c.aE a i/\c.aE a i<c.aa.nodes.length:=fun i hi=>by have hm:c.aE a i∈(c.node a).l:=er hi;have:=UC _ hm;omega
 have en:=ni (c.af a) a;have hqn:=hq.ev en;have Tm:=Gt (c.af a) a hq h0 h1;have e17:(c.node a).kind=10\/(c.node a).kind=11\/(c.node a).kind=12\/(c.node a).kind=13\/(c.node a).kind=14\/(c.node a).kind=17\/((c.node a).kind=15\/(c.node a).kind=16):=by unfold eo at hk;omega
 rcases e17 with k|k|k|k|k|k|k
 ·have SW:(nth c.aa.nodes a.toNat).kind=10:=k;have k0:((c.af a).node a).kind=10:=k;have hlc:=hl (c.af a) a hq he h0 h1 jB k0;rw[show bH (n+1) c a=o0 (au n) (c.af a) a from by unfold bH;simp only;rw[k0];rfl];refine aU func112 ntmps112 ?_;refine S ?_
  (have W:=SW;repeat' (first|refine aA fun K hK=>?_|refine ax ?_|(with_reducible refine gR 1 ?_);refine dE 1 (bo 0 12) mixed ?_|(refine hK _ _ ?_;clear hK K)|(refine az ?_ ?_<;>intro hc<;>try exact jz)|refine cm (hlc) ?_|refine ay ?_|exact jI|(clear hK K)))
  (refine bG [] ?_;try simp only[go_sem])
 ·have SW:(nth c.aa.nodes a.toNat).kind=11:=k;have k0:((c.af a).node a).kind=11:=k;obtain⟨x,T3,SZ⟩:=sh.right jB;have Uf:(c.node a).l.length=1:=by rw[T3];rfl
  have Ur:(nth c.aa.nodes a.toNat).l.length=1:=Uf;obtain⟨g0a,g0b,g0c⟩:=TM 0 jB;have S3:c.aE a 0=x:=by unfold Ck.aE;rw[T3];rfl
  have hex:=hx ((c.af a).named a).1 (c.aE a 0) hqn g0b (by rw[en.aa];exact g0c) g0a (by rw[en.node];show eF (c.node (c.aE a 0)).kind;rw[S3];exact SZ);have TN:=oQ (au n ((c.af a).named a).1 (c.aE a 0)).1 (decide (((c.af a).named a).2=(au n ((c.af a).named a).1 (c.aE a 0)).2)) a;rw[show bH (n+1) c a=(au n ((c.af a).named a).1 (c.aE a 0)).1.ar (decide (((c.af a).named a).2=(au n ((c.af a).named a).1 (c.aE a 0)).2)) a from by unfold bH;simp only;rw[k0];rfl];refine aU func112 ntmps112 ?_;refine S ?_
  (have W:=SW;repeat' (first|refine aA fun K hK=>?_|refine ax ?_|(with_reducible refine gR 1 ?_);refine dE 1 (bo 0 12) mixed ?_|(refine hK _ _ ?_;clear hK K)|(refine az ?_ ?_<;>intro hc<;>try exact jz)|refine cm (Tm) ?_|refine cm (hex) ?_|refine cm (TN) ?_|refine ay ?_|exact jI|(clear hK K)))
  (refine bG [] ?_;try simp only[go_sem])
 ·have SW:(nth c.aa.nodes a.toNat).kind=12:=k;have k0:((c.af a).node a).kind=12:=k;obtain⟨x,y,T3,SZ,UD⟩:=sh.two jB;have Uf:(c.node a).l.length=2:=by rw[T3];rfl
  have Ur:(nth c.aa.nodes a.toNat).l.length=2:=Uf;obtain⟨g0a,g0b,g0c⟩:=TM 0 jB;have S3:c.aE a 0=x:=by unfold Ck.aE;rw[T3];rfl
  obtain⟨g1a,g1b,g1c⟩:=TM 1 jB;have Te:c.aE a 1=y:=by unfold Ck.aE;rw[T3];rfl
  have ex1:=dU n ((c.af a).named a).1 (c.aE a 0);have hex:=hx ((c.af a).named a).1 (c.aE a 0) hqn g0b (by rw[en.aa];exact g0c) g0a (by rw[en.node];show eF (c.node (c.aE a 0)).kind;rw[S3];exact .inl SZ);have hey:=hx (au n ((c.af a).named a).1 (c.aE a 0)).1 (c.aE a 1) (hqn.ev ex1) g1b (by rw[ex1.aa,en.aa];exact g1c) g1a (by rw[ex1.node,en.node];show eF (c.node (c.aE a 1)).kind;rw[Te];exact .inl UD);have TN:=oQ (au n (au n ((c.af a).named a).1 (c.aE a 0)).1 (c.aE a 1)).1 (decide (((c.af a).named a).2=4) && decide ((au n ((c.af a).named a).1 (c.aE a 0)).2=1) && decide ((au n (au n ((c.af a).named a).1 (c.aE a 0)).1 (c.aE a 1)).2=1)) a;rw[show bH (n+1) c a=(au n (au n ((c.af a).named a).1 (c.aE a 0)).1 (c.aE a 1)).1.ar (decide (((c.af a).named a).2=4) && decide ((au n ((c.af a).named a).1 (c.aE a 0)).2=1) && decide ((au n (au n ((c.af a).named a).1 (c.aE a 0)).1 (c.aE a 1)).2=1)) a from by unfold bH;simp only;rw[k0];rfl];refine aU func112 ntmps112 ?_;refine S ?_
  (have W:=SW;repeat' (first|refine aA fun K hK=>?_|refine ax ?_|(with_reducible refine gR 1 ?_);refine dE 1 (bo 0 12) mixed ?_|(refine hK _ _ ?_;clear hK K)|(refine az ?_ ?_<;>intro hc<;>try exact jz)|refine cm (Tm) ?_|refine cm (hex) ?_|refine cm (hey) ?_|refine cm (TN) ?_|refine ay ?_|exact jI|(clear hK K)))
  (refine bG [] ?_;try simp only[go_sem])
 ·have SW:(nth c.aa.nodes a.toNat).kind=13:=k;have k0:((c.af a).node a).kind=13:=k;obtain⟨x,T3,SZ⟩:=sh.nN jB;have Uf:(c.node a).l.length=1:=by rw[T3];rfl
  have Ur:(nth c.aa.nodes a.toNat).l.length=1:=Uf;obtain⟨g0a,g0b,g0c⟩:=TM 0 jB;have S3:c.aE a 0=x:=by unfold Ck.aE;rw[T3];rfl
  have hex:=hx (c.af a) (c.aE a 0) hq g0b g0c g0a (by show eF (c.node (c.aE a 0)).kind;rw[S3];exact .inr (.inr (.inr SZ)));rw[show bH (n+1) c a=(au n (c.af a) (c.aE a 0)).1 from by unfold bH;simp only;rw[k0];rfl];refine aU func112 ntmps112 ?_;refine S ?_
  (have W:=SW;repeat' (first|refine aA fun K hK=>?_|refine ax ?_|(with_reducible refine gR 1 ?_);refine dE 1 (bo 0 12) mixed ?_|(refine hK _ _ ?_;clear hK K)|(refine az ?_ ?_<;>intro hc<;>try exact jz)|refine cm (hex) ?_|refine ay ?_|exact jI|(clear hK K)))
  (refine bG [] ?_;try simp only[go_sem])
 ·have SW:(nth c.aa.nodes a.toNat).kind=14:=k;have k0:((c.af a).node a).kind=14:=k;obtain⟨x,T3,SZ⟩:=sh.one jB;have Uf:(c.node a).l.length=1:=by rw[T3];rfl
  have Ur:(nth c.aa.nodes a.toNat).l.length=1:=Uf;obtain⟨g0a,g0b,g0c⟩:=TM 0 jB;have S3:c.aE a 0=x:=by unfold Ck.aE;rw[T3];rfl
  have hex:=hx (c.af a) (c.aE a 0) hq g0b g0c g0a (by show eF (c.node (c.aE a 0)).kind;rw[S3];exact .inl SZ);have TN:=oQ (au n (c.af a) (c.aE a 0)).1 (!decide ((au n (c.af a) (c.aE a 0)).2=4)) a;rw[show bH (n+1) c a=(au n (c.af a) (c.aE a 0)).1.ar (!decide ((au n (c.af a) (c.aE a 0)).2=4)) a from by unfold bH;simp only;rw[k0];rfl];refine aU func112 ntmps112 ?_;refine S ?_
  (have W:=SW;repeat' (first|refine aA fun K hK=>?_|refine ax ?_|(with_reducible refine gR 1 ?_);refine dE 1 (bo 0 12) mixed ?_|(refine hK _ _ ?_;clear hK K)|(refine az ?_ ?_<;>intro hc<;>try exact jz)|refine cm (hex) ?_|refine cm (TN) ?_|refine ay ?_|exact jI|(clear hK K)))
  (refine bG [] ?_;try simp only[go_sem])
 ·have SW:(nth c.aa.nodes a.toNat).kind=17:=k;have k0:((c.af a).node a).kind=17:=k;have hrc:=hr (c.af a) a hq h0 h1 jB k0;rw[show bH (n+1) c a=ki (au n) (c.af a) a from by unfold bH;simp only;rw[k0];rfl];refine aU func112 ntmps112 ?_;refine S ?_
  (have W:=SW;repeat' (first|refine aA fun K hK=>?_|refine ax ?_|(with_reducible refine gR 1 ?_);refine dE 1 (bo 0 12) mixed ?_|(refine hK _ _ ?_;clear hK K)|(refine az ?_ ?_<;>intro hc<;>try exact jz)|refine cm (hrc) ?_|refine ay ?_|exact jI|(clear hK K)))
  (refine bG [] ?_;try simp only[go_sem])
 ·have Tv:1<=(c.node a).l.length/\bT (c.node (c.aE a 0)).kind/\∀i,i<(c.node a).l.length->1<=i->(c.node (nth (c.node a).l i)).kind=18:=by
   have fin:∀{x y:Int},(c.node a).l=[x,y]->bT (bA c.aa.nodes x)->bA c.aa.nodes y=18->1<=(c.node a).l.length/\bT (c.node (c.aE a 0)).kind/\∀i,i<(c.node a).l.length->1<=i->(c.node (nth (c.node a).l i)).kind=18:=fun{x y} e hx hy=>by
    refine⟨by rw[e];simp,by have:c.aE a 0=x:=(by unfold Ck.aE;rw[e];rfl);rw[this];exact hx,fun i hi h1=>?_⟩;rw[e]at hi ⊢;obtain rfl:i=1:=by simp at hi;omega
    exact hy
   rcases k with k|k
   ·obtain⟨x,y,S4,Vq,T3⟩:=sh.kI k;rcases T3 with T3|⟨d,T3,hd⟩
    ·exact fin T3 S4 Vq
    ·refine⟨by rw[T3];simp,by have:c.aE a 0=x:=(by unfold Ck.aE;rw[T3];rfl);rw[this];exact S4,fun i hi h1=>?_⟩;rw[T3]at hi ⊢;rcases(show i=1\/i=2 by simp at hi;omega)with rfl|rfl
     ·exact Vq
     ·exact hd
   ·obtain⟨x,y,T3,S4,Vq⟩:=sh.dS k;exact fin T3 S4 Vq
  obtain⟨Uf,S4,Wt⟩:=Tv;have Ur:1<=(nth c.aa.nodes a.toNat).l.length:=Uf;obtain⟨g0a,g0b,g0c⟩:=TM 0 jB;have hex:=hx (c.af a) (c.aE a 0) hq g0b g0c g0a (.inl S4);have eM:Ev c ((au n (c.af a) (c.aE a 0)).1.ar (decide ((au n (c.af a) (c.aE a 0)).2=2)) a):=(ev.trans (dU n _ _)).trans (iW _ _ _);have hM:=h.ev eM;have TN:=oQ (au n (c.af a) (c.aE a 0)).1 (decide ((au n (c.af a) (c.aE a 0)).2=2)) a;rcases k with k|k
  ·have SW:(nth c.aa.nodes a.toNat).kind=15:=k;have k0:((c.af a).node a).kind=15:=k;rw[show bH (n+1) c a=dt (eL (bH n)) ((au n (c.af a) (c.aE a 0)).1.ar (decide ((au n (c.af a) (c.aE a 0)).2=2)) a) ((c.node a).l.drop 1) from by unfold bH;simp only;rw[k0];rfl];generalize hY:dt (eL (bH n)) ((au n (c.af a) (c.aE a 0)).1.ar (decide ((au n (c.af a) (c.aE a 0)).2=2)) a) ((c.node a).l.drop 1)=Y;refine aU func112 ntmps112 ?_;refine S ?_
   (have W:=SW;repeat' (first|refine aA fun K hK=>?_|refine ax ?_|(with_reducible refine gR 1 ?_);refine dE 1 (bo 0 12) mixed ?_|(refine hK _ _ ?_;clear hK K)|(refine az ?_ ?_<;>intro hc<;>try exact jz)|refine cm (hex) ?_|refine cm (TN) ?_|refine ay ?_|exact jI|(clear hK K)))
   refine fa (S:=Nat×Ck) [(12,1),(46,21)] (fun s=>s.1<=(c.node a).l.length/\1<=s.1/\bF s.2/\s.2.aa=c.aa/\dt (eL (bH n)) s.2 ((c.node a).l.drop s.1)=Y) (fun s=>[(12,rI s.1)]) (fun s=>⟨[0,1,2,3,4,5],fP s.2++[(6,.var 59 (dO (c.node a)))]⟩) (fun s=>(c.node a).l.length-s.1) (1,(au n (c.af a) (c.aE a 0)).1.ar (decide ((au n (c.af a) (c.aE a 0)).2=2)) a) ⟨jJ,Nat.le_refl _,hM,eM.aa,hY⟩ (fb jn cI) ?_;rintro⟨i,z⟩ ⟨hi,VZ,hz,XD,hA⟩ Kr S8;simp only at hi VZ hz XD hA;have UN:i<=(nth c.aa.nodes a.toNat).l.length:=hi
   (refine S ?_;try exact jI)
   by_cases Uz:i<(c.node a).l.length/\z.e=0
   ·obtain⟨TU,UE⟩:=Uz;have Zs:i<(nth c.aa.nodes a.toNat).l.length:=TU;rw[lG TU,dt,if_pos UE]at hA;have hm:nth (c.node a).l i∈(c.node a).l:=er TU;have hb:=UC _ hm;have Zu:=Ws z (nth (c.node a).l i) hz hb.1 (by rw[XD];omega) jB (by
     have:z.node (nth (c.node a).l i)=c.node (nth (c.node a).l i):=by unfold Ck.node;rw[XD]
     rw[this];exact Wt i TU VZ)
    have sz:=(pA (fun q b hq he=>lC n q b hq he) hz (nth (c.node a).l i)).1
    (have W:=UE;repeat' (first|refine aA fun K hK=>?_|refine ax ?_|(refine hK _ _ ?_;clear hK K)|(refine az ?_ ?_<;>intro hc<;>try exact jz)|refine cm (Zu) ?_|refine ay ?_|exact jI|(clear hK K)))
    refine S8 _ _ (fc (i+1,eL (bH n) z (nth (c.node a).l i)) ⟨jJ,jJ,sz.inv,sz.aa.trans XD,hA⟩ jJ jn cI)
   ·have Xs:z=Y:=by
     by_cases TU:i<(c.node a).l.length
     ·rw[lG TU,dt,if_neg fun e=>Uz ⟨TU,e⟩]at hA;exact hA
     ·rw[List.drop_eq_nil_of_le jB,dt]at hA;exact hA
    have WZ:¬(i<(nth c.aa.nodes a.toNat).l.length/\z.e=0):=Uz
    (repeat' (first|refine aA fun K hK=>?_|refine ax ?_|(refine hK _ _ ?_;clear hK K)|(refine az ?_ ?_<;>intro hc<;>try exact jz)|refine ay ?_|exact jI|(clear hK K)))
    all_goals first|(exact absurd ⟨by have:=hc.1;omega,hc.2⟩ WZ)|skip
    rw[<-Xs]
    (refine bG [] ?_;try simp only[go_sem])
  ·have SW:(nth c.aa.nodes a.toNat).kind=16:=k;have k0:((c.af a).node a).kind=16:=k;rw[show bH (n+1) c a=dt (eL (bH n)) ((au n (c.af a) (c.aE a 0)).1.ar (decide ((au n (c.af a) (c.aE a 0)).2=2)) a) ((c.node a).l.drop 1) from by unfold bH;simp only;rw[k0];rfl];generalize hY:dt (eL (bH n)) ((au n (c.af a) (c.aE a 0)).1.ar (decide ((au n (c.af a) (c.aE a 0)).2=2)) a) ((c.node a).l.drop 1)=Y;refine aU func112 ntmps112 ?_;refine S ?_
   (have W:=SW;repeat' (first|refine aA fun K hK=>?_|refine ax ?_|(with_reducible refine gR 1 ?_);refine dE 1 (bo 0 12) mixed ?_|(refine hK _ _ ?_;clear hK K)|(refine az ?_ ?_<;>intro hc<;>try exact jz)|refine cm (hex) ?_|refine cm (TN) ?_|refine ay ?_|exact jI|(clear hK K)))
   refine fa (S:=Nat×Ck) [(12,1),(46,21)] (fun s=>s.1<=(c.node a).l.length/\1<=s.1/\bF s.2/\s.2.aa=c.aa/\dt (eL (bH n)) s.2 ((c.node a).l.drop s.1)=Y) (fun s=>[(12,rI s.1)]) (fun s=>⟨[0,1,2,3,4,5],fP s.2++[(6,.var 59 (dO (c.node a)))]⟩) (fun s=>(c.node a).l.length-s.1) (1,(au n (c.af a) (c.aE a 0)).1.ar (decide ((au n (c.af a) (c.aE a 0)).2=2)) a) ⟨jJ,Nat.le_refl _,hM,eM.aa,hY⟩ (fb jn cI) ?_;rintro⟨i,z⟩ ⟨hi,VZ,hz,XD,hA⟩ Kr S8;simp only at hi VZ hz XD hA;have UN:i<=(nth c.aa.nodes a.toNat).l.length:=hi
   (refine S ?_;try exact jI)
   by_cases Uz:i<(c.node a).l.length/\z.e=0
   ·obtain⟨TU,UE⟩:=Uz;have Zs:i<(nth c.aa.nodes a.toNat).l.length:=TU;rw[lG TU,dt,if_pos UE]at hA;have hm:nth (c.node a).l i∈(c.node a).l:=er TU;have hb:=UC _ hm;have Zu:=Ws z (nth (c.node a).l i) hz hb.1 (by rw[XD];omega) jB (by
     have:z.node (nth (c.node a).l i)=c.node (nth (c.node a).l i):=by unfold Ck.node;rw[XD]
     rw[this];exact Wt i TU VZ)
    have sz:=(pA (fun q b hq he=>lC n q b hq he) hz (nth (c.node a).l i)).1
    (have W:=UE;repeat' (first|refine aA fun K hK=>?_|refine ax ?_|(refine hK _ _ ?_;clear hK K)|(refine az ?_ ?_<;>intro hc<;>try exact jz)|refine cm (Zu) ?_|refine ay ?_|exact jI|(clear hK K)))
    refine S8 _ _ (fc (i+1,eL (bH n) z (nth (c.node a).l i)) ⟨jJ,jJ,sz.inv,sz.aa.trans XD,hA⟩ jJ jn cI)
   ·have Xs:z=Y:=by
     by_cases TU:i<(c.node a).l.length
     ·rw[lG TU,dt,if_neg fun e=>Uz ⟨TU,e⟩]at hA;exact hA
     ·rw[List.drop_eq_nil_of_le jB,dt]at hA;exact hA
    have WZ:¬(i<(nth c.aa.nodes a.toNat).l.length/\z.e=0):=Uz
    (repeat' (first|refine aA fun K hK=>?_|refine ax ?_|(refine hK _ _ ?_;clear hK K)|(refine az ?_ ?_<;>intro hc<;>try exact jz)|refine ay ?_|exact jI|(clear hK K)))
    all_goals first|(exact absurd ⟨by have:=hc.1;omega,hc.2⟩ WZ)|skip
    rw[<-Xs]
    (refine bG [] ?_;try simp only[go_sem])
theorem xJ:∀n,uc n
 |0=>fun c a h h0 h1 hn=>by omega
 |n+1=>Ps n (O2 n (xJ n) (Mm n (xJ n)))
theorem I9:∀n,CJ n
 |0=>fun c a h he h0 h1 hn=>by omega
 |n+1=>J9 n (xJ n) (fun c a h he h0 h1 hn hk=>QI n (xJ n) c a h he h0 h1 hn hk) (fun c a h h0 h1 hn hk=>Rh n (xJ n) c a h h0 h1 hn hk) (FC n (I9 n))
def zb(c:Ck):SG:=[bh dO 5 c.aa.nodes,bh gr 5 c.aa.aq,.rs 1 c.types.length 1 c.types.length,.rs 2 c.slots.length 1 c.slots.length,.rs 3 c.aq.length 1 c.aq.length,.rs 4 c.aR.length 1 c.aR.length,rI c.fn,.any,rI c.size,rI c.e,rI c.at_]
def nS(c:Ck):SF:=[(0,.var 110 (zb c)),(1,.aK 3 1 (c.types.map eI)),(2,.aK 3 1 (c.slots.map eI)),(3,.aK 3 1 (c.aq.map eI)),(4,.aK 3 1 (c.aR.map eI))]
attribute [go_sem] nS zb
structure fI(c:Ck):Prop where
 aa:aL c.aa
 types:c.types.length=c.aa.nodes.length
 slots:c.slots.length=c.aa.nodes.length
 aq:c.aq.length=c.aa.nodes.length
def kR(c:Ck)(v:bP):Ck:={ c with vars:=c.vars++[v],more:=c.more.drop 1,size:=c.size+1 }
attribute [go_sem] kR
def Ba{c:Ck}(h:bF c)(v:bP)(hs:c.size<=20):bF (kR c v):=⟨h.aa,h.types,h.slots,h.aq,h.aR,h.we,h.vm,by have:=h.vars;show((c.vars++[v]).length:Int)<=c.size+1;simp;omega,by show c.size+1<=25;omega,fun _=>by show c.size+1<=24;omega⟩
def Kn(c:Ck)(k:Nat)(h:fI c)(hk:k<c.aa.aq.length)(SY:c.aR.length<6):ai prog 36 [pR,rI k] (nS c) (fun v l=>v=.bf []/\l=nS (fJ c k)):=by
 have hff:=h.aa.aq;have US:=h.aa.fn _ (er hk);have XT:=US.2;have Xm:=h.aa.body _ (er hk);have hbm:=h.aa.chain.mem (nth c.aa.aq k).body (List.mem_map.2 ⟨_,er hk,rfl⟩);refine aU func36 ntmps36 ?_;refine S ?_
 (repeat' (first|refine aA fun K hK=>?_|refine ax ?_|(refine hK _ _ ?_;clear hK K)|(refine az ?_ ?_<;>intro hc<;>try exact jz)|refine al 6 ?_|refine ay ?_|exact jI|(clear hK K)))
 have Tc:=hK;clear hK;refine iJ (dJ.fB 5 0 7 146 3 rfl jC rfl rfl) ?_
 (refine S ?_;try exact jI)
 generalize Xv:({ c with fn:=(k:Int),vars:=[],more:=[],size:=0 }:Ck)=c0;have VI:bF c0:=by subst Xv;exact⟨h.aa,h.types,h.slots,h.aq,by show c.aR.length<=6;omega,by show(0:Int)<=k;omega,by show(k:Int)<(c.aa.aq.length:Int);omega,by show((0:Nat):Int)<=0;omega,by show(0:Int)<=25;omega,fun _=>by show(0:Int)<=24;omega⟩
 have Ty:fJ c k=(fun c2:Ck=>{ c2 with aR:=c2.aR++[c2.size],vars:=[],more:=[] }) (if(eJ (nth c.aa.aq k).body c0 (nth c.aa.aq k).params 0).e=0 then eL (bH c.aa.nodes.length) (eJ (nth c.aa.aq k).body c0 (nth c.aa.aq k).params 0) (nth c.aa.aq k).body else eJ (nth c.aa.aq k).body c0 (nth c.aa.aq k).params 0):=by subst Xv;rfl
 refine iJ (dJ.perm (fP c0++[(6,.var 73 (gr (nth c.aa.aq k)))]) (fun i=>by subst Xv;simp only[go_sem,aD];(repeat' split)<;>first|rfl|omega)) ?_;refine fa (S:=Nat×Ck) [(5,1),(25,50)] (fun s=>s.1<=(nth c.aa.aq k).params.length/\bF s.2/\s.2.size=s.1/\s.2.vars.length=s.1/\s.2.aa=c.aa/\s.2.aR=c.aR/\eJ (nth c.aa.aq k).body s.2 ((nth c.aa.aq k).params.drop s.1) s.1=eJ (nth c.aa.aq k).body c0 (nth c.aa.aq k).params 0) (fun s=>[(5,rI s.1)]) (fun s=>⟨[0,1,2,3,4],fP s.2++[(6,.var 73 (gr (nth c.aa.aq k)))]⟩) (fun s=>(nth c.aa.aq k).params.length-s.1) (0,c0) ⟨jJ,VI,by subst Xv;rfl,by subst Xv;rfl,by subst Xv;rfl,by subst Xv;rfl,rfl⟩ (fb rfl cI) ?_;rintro⟨i,q⟩ ⟨hi,hq,hqs,Yg,WH,Ys,hA⟩ Kr S8;simp only at hi hq hqs Yg WH Ys hA
 (refine S ?_;try exact jI)
 by_cases SX:i<(nth c.aa.aq k).params.length
 ·rw[lG SX,eJ]at hA;have T2:=C5 q (nth (nth c.aa.aq k).params i).name hq;have WX:=sY q 41 (nth c.aa.aq k).body;by_cases hf:0<=q.find (nth (nth c.aa.aq k).params i).name
  ·rw[if_pos hf]at hA;have ef:=mX q (e:=41) jC (nth c.aa.aq k).body;have UJ:=ef.vars;have XN:=ef.size;have VZ:=hq.ev ef;have Ya:(q.aG 41 (nth c.aa.aq k).body).vars.length=i:=by rw[UJ,Yg]
   (repeat' (first|refine aA fun K hK=>?_|refine ax ?_|(with_reducible refine gR 9 ?_);refine dE 9 (bo 0 24) mixed ?_|(refine hK _ _ ?_;clear hK K)|(refine az ?_ ?_<;>intro hc<;>try exact jz)|refine cm (T2) ?_|refine cm (WX) ?_|refine sP (q.aG 41 (nth c.aa.aq k).body).vars (q.aG 41 (nth c.aa.aq k).body).more [⟨(nth (nth c.aa.aq k).params i).name,(nth (nth c.aa.aq k).params i).ty,(i:Int)⟩] ?_|refine ay ?_|exact jI|(clear hK K)))
   refine S8 _ _ (fc (i+1,kR (q.aG 41 (nth c.aa.aq k).body) ⟨(nth (nth c.aa.aq k).params i).name,(nth (nth c.aa.aq k).params i).ty,(i:Int)⟩) ⟨jJ,Ba VZ _ jB,by show(q.aG 41 (nth c.aa.aq k).body).size+1=_;omega,by show((q.aG 41 (nth c.aa.aq k).body).vars++[_]).length=i+1;rw[List.length_append,Ya];rfl,ef.aa.trans WH,ef.aR.trans Ys,hA⟩ jJ jn cI)
  ·rw[if_neg hf]at hA
   (repeat' (first|refine aA fun K hK=>?_|refine ax ?_|(with_reducible refine gR 9 ?_);refine dE 9 (bo 0 24) mixed ?_|(refine hK _ _ ?_;clear hK K)|(refine az ?_ ?_<;>intro hc<;>try exact jz)|refine cm (T2) ?_|refine sP q.vars q.more [⟨(nth (nth c.aa.aq k).params i).name,(nth (nth c.aa.aq k).params i).ty,(i:Int)⟩] ?_|refine ay ?_|exact jI|(clear hK K)))
   refine S8 _ _ (fc (i+1,kR q ⟨(nth (nth c.aa.aq k).params i).name,(nth (nth c.aa.aq k).params i).ty,(i:Int)⟩) ⟨jJ,Ba hq _ jB,by show q.size+1=_;omega,by show(q.vars++[_]).length=i+1;rw[List.length_append,Yg];rfl,WH,Ys,hA⟩ jJ jn cI)
 ·have hz:q=eJ (nth c.aa.aq k).body c0 (nth c.aa.aq k).params 0:=by
   rw[List.drop_eq_nil_of_le jB]at hA;exact hA
  rw[<-hz]at Ty;by_cases he:q.e=0
  ·rw[if_pos he]at Ty;have sb:=(pA (fun q b hq he=>lC c.aa.nodes.length q b hq he) hq (nth c.aa.aq k).body).1;have Zu:=FC c.aa.nodes.length (I9 _) q (nth c.aa.aq k).body hq hbm.1 (by rw[WH];omega) jB (by unfold Ck.node;rw[WH];exact Xm);have Wc:(eL (bH c.aa.nodes.length) q (nth c.aa.aq k).body).aR.length<6:=by rw[sb.aR,Ys];exact SY
   (have W:=he;repeat' (first|refine Gu (id:=13) 0 7 ?_|refine aA fun K hK=>?_|refine ax ?_|(with_reducible refine gR 13 ?_);refine dE 13 (bo 0 16) mixed ?_|(refine hK _ _ ?_;clear hK K)|(refine az ?_ ?_<;>intro hc<;>try exact jz)|refine Tc _ _ ?_|refine cm (Zu) ?_|refine ay ?_|exact jI|(clear hK K)))
   rw[Ty]
   (refine bG [] ?_;try simp only[go_sem])
  ·rw[if_neg he]at Ty;have Wc:q.aR.length<6:=by rw[Ys];exact SY
   (have W:=he;repeat' (first|refine Gu (id:=13) 0 7 ?_|refine aA fun K hK=>?_|refine ax ?_|(with_reducible refine gR 13 ?_);refine dE 13 (bo 0 16) mixed ?_|(refine hK _ _ ?_;clear hK K)|(refine az ?_ ?_<;>intro hc<;>try exact jz)|refine Tc _ _ ?_|refine ay ?_|exact jI|(clear hK K)))
   rw[Ty]
   (refine bG [] ?_;try simp only[go_sem])
def Fg(c:Ck)(e a:Int):ai prog 68 [pR,rI e,rI a] (nS c) (fun v l=>v=.bf []/\l=nS (c.aG e a)):=by
 refine aU func68 ntmps68 ?_;refine S ?_
 (repeat' (first|refine aA fun K hK=>?_|refine ax ?_|(refine hK _ _ ?_;clear hK K)|(refine az ?_ ?_<;>intro hc<;>try exact jz)|refine ay ?_|exact jI|(clear hK K)))
 ·(refine cr [] ?_ ?_<;>(try simp only[go_sem]))
  simp only[Ck.aG,if_pos hc,nS,zb]
 ·(refine cr [] ?_ ?_<;>(try simp only[go_sem]))
  simp only[Ck.aG,if_neg hc,nS,zb]
theorem CY(x:bg):∀(l:List bg) (c:Ck),Ev c (mi x c l)
 |[],c=>by unfold mi;exact .refl c
 |f::l,c=>by
  unfold mi;refine Ev.trans ?_ (CY x l _);split
  ·exact mX c jC _
  ·exact .refl c
theorem Cv(aq:List bg):∀(n:Nat) (c:Ck) (m:Bool) (i:Nat),Ev c (lf aq c m i n).1
 |0,c,m,i=>by unfold lf;exact .refl c
 |n+1,c,m,i=>by unfold lf;exact(CY _ _ _).trans (Cv aq n _ _ _)
def Eo(c:Ck):Ev c (jh c):=by
 unfold jh;simp only;split
 ·exact Cv _ _ _ _ _
 ·exact(Cv _ _ _ _ _).trans (mX _ jC _)
def Lz(c:Ck)(h:c.aa.aq.length<=6):ai prog 35 [pR] (nS c) (fun v l=>v=.bf []/\l=nS (jh c)):=by
 refine aU func35 ntmps35 ?_;refine S ?_
 (repeat' (first|refine aA fun K hK=>?_|refine ax ?_|(refine hK _ _ ?_;clear hK K)|(refine az ?_ ?_<;>intro hc<;>try exact jz)|refine ay ?_|exact jI|(clear hK K)))
 have Tc:=hK;clear hK;refine fa (S:=Nat×Ck×Bool) [(3,3),(12,55)] (fun s=>s.1<=c.aa.aq.length/\lf c.aa.aq s.2.1 s.2.2 s.1 (c.aa.aq.length-s.1)=lf c.aa.aq c false 0 c.aa.aq.length/\s.2.1.aa=c.aa) (fun s=>[(4,rI s.1),(3,rB s.2.2)]) (fun s=>⟨[0,1,2,3,4],nS s.2.1⟩) (fun s=>c.aa.aq.length-s.1) (0,c,false) ⟨jJ,rfl,rfl⟩ (fb jn cI) ?_;rintro⟨i,q,m⟩ ⟨hi,hA,WH⟩ Kr S8;simp only at hi hA WH
 (refine S ?_;try exact jI)
 by_cases SX:i<c.aa.aq.length
 ·rw[show c.aa.aq.length-i=(c.aa.aq.length-(i+1))+1 from jB,lf]at hA
  (repeat' (first|refine aA fun K hK=>?_|refine ax ?_|(refine hK _ _ ?_;clear hK K)|(refine az ?_ ?_<;>intro hc<;>try exact jz)|refine ay ?_|exact jI|(clear hK K)))
  have hKi:=hK;clear hK;have hKb:=hK;clear hK;refine fa (S:=Nat×Ck) [(5,1),(18,23)] (fun s=>s.1<=i/\mi (nth c.aa.aq i) s.2 ((c.aa.aq.take i).drop s.1)=mi (nth c.aa.aq i) q (c.aa.aq.take i)) (fun s=>[(5,rI s.1)]) (fun s=>⟨[0,1,2,3,4],nS s.2⟩) (fun s=>i-s.1) (0,q) ⟨jJ,rfl⟩ (fb jn cI) ?_;rintro⟨k,z⟩ ⟨hk,hB⟩ Kj YR;simp only at hk hB
  (refine S ?_;try exact jI)
  by_cases Vw:k<i
  ·have hkt:k<(c.aa.aq.take i).length:=by rw[List.length_take];omega
   have hnt:nth (c.aa.aq.take i) k=nth c.aa.aq k:=by simp[nth,List.getD_eq_getElem?_getD,List.getElem?_take,Vw]
   rw[lG hkt,hnt,mi]at hB;have WX:=Fg z 41 (nth c.aa.aq i).body
   (repeat' (first|refine aA fun K hK=>?_|refine ax ?_|(with_reducible refine gR 8 ?_);refine dE 8 (bo 0 11) mixed ?_|(refine hK _ _ ?_;clear hK K)|(refine az ?_ ?_<;>intro hc<;>try exact jz)|refine cm (WX) ?_|refine ay ?_|exact jI|(clear hK K)))
   ·rw[if_pos hc]at hB;refine YR _ _ (fc (k+1,z.aG 41 (nth c.aa.aq i).body) ⟨jJ,hB⟩ jJ jn cI)
   ·rw[if_neg hc]at hB;refine YR _ _ (fc (k+1,z) ⟨jJ,hB⟩ jJ jn cI)
  ·rw[List.drop_eq_nil_of_le (by rw[List.length_take];omega),mi]at hB
   (repeat' (first|refine aA fun K hK=>?_|refine ax ?_|(refine hK _ _ ?_;clear hK K)|(refine az ?_ ?_<;>intro hc<;>try exact jz)|refine hKi _ _ ?_|refine hKb _ _ ?_|refine ay ?_|exact jI|(clear hK K)))
   refine S8 _ _ (fc (i+1,z,m || vL (nth c.aa.aq i)) ⟨jJ,by rw[<-hB]at hA;exact hA,by rw[hB];exact(CY _ _ _).aa.trans WH⟩ jJ jn (by simp only[go_sem,jL,Nat.reduceAdd,AV.raw.injEq,Value.int.injEq,Value.slice.injEq,Value.pointer.injEq,AV.rs.injEq,vL];try omega))
 ·rw[show c.aa.aq.length-i=0 from jB,lf]at hA;have hz:jh c=if m=true then q else q.aG 44 0:=by unfold jh;rw[<-hA]
  have WX:=Fg q 44 0;cases m
  ·rw[if_neg jC]at hz
   (repeat' (first|refine aA fun K hK=>?_|refine ax ?_|(refine hK _ _ ?_;clear hK K)|(refine az ?_ ?_<;>intro hc<;>try exact jz)|refine Tc _ _ ?_|refine cm (WX) ?_|refine ay ?_|exact jI|(clear hK K)))
   rw[hz]
   (refine cr [] ?_ ?_<;>(try simp only[go_sem]))
  ·rw[if_pos rfl]at hz
   (repeat' (first|refine aA fun K hK=>?_|refine ax ?_|(refine hK _ _ ?_;clear hK K)|(refine az ?_ ?_<;>intro hc<;>try exact jz)|refine Tc _ _ ?_|refine ay ?_|exact jI|(clear hK K)))
   rw[hz]
   (refine cr [] ?_ ?_<;>(try simp only[go_sem]))
theorem yi(body:Int):∀(ps:List bQ) (c:Ck) (i:Int),bF c->c.size+ps.length<=20->bF (eJ body c ps i)/\(eJ body c ps i).aa=c.aa/\(eJ body c ps i).aR=c.aR
 |[],c,i,h,hs=>by unfold eJ;exact⟨h,rfl,rfl⟩
 |p::ps,c,i,h,hs=>by
  unfold eJ;simp only[List.length_cons]at hs;have fin:∀c1:Ck,Ev c c1->bF (eJ body (kR c1 ⟨p.name,p.ty,i⟩) ps (i+1))/\(eJ body (kR c1 ⟨p.name,p.ty,i⟩) ps (i+1)).aa=c.aa/\(eJ body (kR c1 ⟨p.name,p.ty,i⟩) ps (i+1)).aR=c.aR:=fun c1 s=>by have h1:=h.ev s;have hz:=s.size;obtain⟨a,b,d⟩:=yi body ps (kR c1 ⟨p.name,p.ty,i⟩) (i+1) (Ba h1 _ jB) (by show c1.size+1+_<=20;omega);exact⟨a,b.trans s.aa,d.trans s.aR⟩
  simp only;split
  ·exact fin _ (mX c jC body)
  ·exact fin _ (.refl c)
def wN{c:Ck}(h:fI c)(hk:k<c.aa.aq.length)(SY:c.aR.length<6):fI (fJ c k)/\(fJ c k).aa=c.aa/\(fJ c k).aR.length=c.aR.length+1:=by
 have XT:=(h.aa.fn _ (er hk)).2;have VI:bF { c with fn:=(k:Int),vars:=[],more:=[],size:=0 }:=⟨h.aa,h.types,h.slots,h.aq,by show c.aR.length<=6;omega,by show(0:Int)<=k;omega,by show(k:Int)<(c.aa.aq.length:Int);omega,by show((0:Nat):Int)<=0;omega,by show(0:Int)<=25;omega,fun _=>by show(0:Int)<=24;omega⟩;obtain⟨a,b,d⟩:=yi (nth c.aa.aq k).body (nth c.aa.aq k).params _ 0 VI (by show(0:Int)+_<=20;omega);unfold fJ;simp only;split
 ·have s:=(pA (fun q b hq he=>lC c.aa.nodes.length q b hq he) a (nth c.aa.aq k).body).1;have hi:=s.inv;refine⟨⟨hi.aa,hi.types,hi.slots,hi.aq⟩,s.aa.trans b,?_⟩;show((eL (bH c.aa.nodes.length) _ _).aR++[_]).length=_;rw[List.length_append,s.aR,d];rfl
 ·refine⟨⟨a.aa,a.types,a.slots,a.aq⟩,b,?_⟩;show((eJ _ _ _ _).aR++[_]).length=_;rw[List.length_append,d];rfl
def nG(t:aF)(n:Nat):Ck:=⟨t,(t.nodes.take n).map fun _=>0,(t.nodes.take n).map fun _=>-1,(t.nodes.take n).map fun _=>0,[],0,[],[],0,0,0⟩
variable{n:Nat}
def Oo(t:aF)(h:t.nodes.length<=n):nG t n=jM t:=by simp[nG,jM,List.take_of_length_le h]
def P5(t:aF)(h:n<t.nodes.length):nG t (n+1)={ nG t n with types:=(nG t n).types++[0],slots:=(nG t n).slots++[-1],aq:=(nG t n).aq++[0] }:=by simp[nG,xM h]
def Mc(t:aF)(h:n<=t.nodes.length):(nG t n).types.length=n/\(nG t n).slots.length=n/\(nG t n).aq.length=n:=by simp[nG];omega
@[go_sem] def j0P(t:aF)(l:SG):lS t++l=bh dO 5 t.nodes::bh gr 5 t.aq::l:=rfl
def JR(t:aF)(h:aL t):aP prog 16 [.agg (lS t)] (.bf [.agg (bV (ij t).1),rI (ij t).2.1,rI (ij t).2.2]):=by
 have hf:=h.aq;have hm:=h.many;refine df func16 ntmps16 ?_
 (repeat' (first|refine aA fun K hK=>?_|refine ax ?_|(refine hK _ _ ?_;clear hK K)|(refine az ?_ ?_<;>intro hc<;>try exact jz)|refine bx 10 ?_|refine al 11 ?_|refine bx 0 ?_|refine ay ?_|exact jI|(clear hK K)))
 have Tc:=hK;clear hK;refine iJ (dJ.fB 1 0 2 3 1 rfl jC rfl rfl) ?_
 (refine S ?_;try exact jI)
 refine iJ (dJ.fB 2 0 3 3 1 rfl jC rfl rfl) ?_
 (refine S ?_;try exact jI)
 refine iJ (dJ.fB 3 0 4 3 1 rfl jC rfl rfl) ?_
 (refine S ?_;try exact jI)
 refine iJ (dJ.fB 4 0 5 3 1 rfl jC rfl rfl) ?_
 (refine S ?_;try exact jI)
 refine iJ (dJ.sI 0 7 rfl) ?_
 (refine S ?_;try exact jI)
 refine iJ (dJ.perm (nS (nG t 0)++[(10,.var 27 (lS t)),(11,.var 29 [.raw (.slice none 0 0),.raw (.slice none 0 0),.raw (.slice none 0 0),.raw (.slice none 0 0),.raw (.slice none 0 0),.raw (.slice none 0 0)])]) (fun i=>by simp only[go_sem,aD,nG];(repeat' split)<;>first|rfl|omega)) ?_;refine fa (S:=Nat) [(6,1),(12,40)] (fun k=>k<=t.nodes.length) (fun k=>[(6,rI k)]) (fun k=>⟨[],nS (nG t k)++[(10,.var 27 (lS t)),(11,.var 29 [.raw (.slice none 0 0),.raw (.slice none 0 0),.raw (.slice none 0 0),.raw (.slice none 0 0),.raw (.slice none 0 0),.raw (.slice none 0 0)])]⟩) (fun k=>t.nodes.length-k) 0 (Nat.zero_le _) (fb rfl cI) ?_;rintro k hk Kr S8;obtain⟨l1,l2,l3⟩:=Mc t hk
 (refine S ?_;try exact jI)
 by_cases SX:k<t.nodes.length
 ·(repeat' (first|refine aA fun K hK=>?_|refine ax ?_|(refine hK _ _ ?_;clear hK K)|(refine az ?_ ?_<;>intro hc<;>try exact jz)|refine ay ?_|exact jI|(clear hK K)))
  refine S8 _ _ (fc (k+1) jB jB (by rw[P5 t SX];exact jn) cI)
 ·have Tv:=Oo t (n:=k) jB;rw[Tv]at*;have hh:=Lz (jM t) hf
  (repeat' (first|refine aA fun K hK=>?_|refine ax ?_|(refine hK _ _ ?_;clear hK K)|(refine az ?_ ?_<;>intro hc<;>try exact jz)|refine Tc _ _ ?_|refine cm (hh) ?_|refine ay ?_|exact jI|(clear hK K)))
  have WY:=hK;clear hK;have eh:=Eo (jM t);have VI:fI (jh (jM t)):=⟨by rw[eh.aa];exact h,by rw[eh.types,eh.aa];simp[jM],by rw[eh.slots,eh.aa];simp[jM],by rw[eh.aq,eh.aa];simp[jM]⟩;refine fa (S:=Nat×Ck) [(7,1),(54,17)] (fun s=>s.1<=t.aq.length/\fI s.2/\s.2.aa=t/\s.2.aR.length=s.1/\fO s.2 s.1 (t.aq.length-s.1)=iu t) (fun s=>[(7,rI s.1)]) (fun s=>⟨[],nS s.2++[(10,.var 27 (lS t)),(11,.var 29 [.raw (.slice none 0 0),.raw (.slice none 0 0),.raw (.slice none 0 0),.raw (.slice none 0 0),.raw (.slice none 0 0),.raw (.slice none 0 0)])]⟩) (fun s=>t.aq.length-s.1) (0,jh (jM t)) ⟨Nat.zero_le _,VI,eh.aa,by rw[eh.aR];rfl,rfl⟩ (fb jn cI) ?_;rintro⟨i,q⟩ ⟨hi,hq,WH,Ys,hA⟩ Kr2 Yp;simp only at hi hq WH Ys hA
  (refine S ?_;try exact jI)
  by_cases Uz:i<t.aq.length/\q.e=0
  ·obtain⟨TU,UE⟩:=Uz;rw[show t.aq.length-i=(t.aq.length-(i+1))+1 from jB,fO,if_pos UE]at hA;have hkf:i<q.aa.aq.length:=by rw[WH];exact TU
   have Vd:=Kn q i hq hkf jB;obtain⟨f1,f2,f3⟩:=wN hq hkf jB
   (have W:=UE;repeat' (first|refine aA fun K hK=>?_|refine ax ?_|(refine hK _ _ ?_;clear hK K)|(refine az ?_ ?_<;>intro hc<;>try exact jz)|refine cm (Vd) ?_|refine ay ?_|exact jI|(clear hK K)))
   refine Yp _ _ (fc (i+1,fJ q i) ⟨jJ,f1,f2.trans WH,jJ,hA⟩ jJ jn cI)
  ·have hz:q=iu t:=by
    rw[<-hA];by_cases TU:i<t.aq.length
    ·rw[show t.aq.length-i=(t.aq.length-(i+1))+1 from jB,fO,if_neg fun e=>Uz ⟨TU,e⟩]
    ·rw[show t.aq.length-i=0 from jB,fO]
   by_cases he:q.e=0
   ·have hr:ij t=(q.prog,0,0):=by unfold ij;rw[<-hz,if_neg (fun h=>h he)]
    have D':¬i<t.aq.length:=fun h=>Uz ⟨h,he⟩
    (have W:=he;repeat' (first|refine aA fun K hK=>?_|refine ax ?_|(refine hK _ _ ?_;clear hK K)|(refine az ?_ ?_<;>intro hc<;>try exact jz)|(refine WY _ _ ?_)|refine ay ?_|exact jI|(clear hK K)))
    rw[hr];refine lW [.cell 2 29,.tmp 3,.tmp 4] ?_;refine bK.bf (ds:=[.agg (bV q.prog),rI 0,rI 0]) ?_;refine jA (bK.agg (ds:=bV q.prog) ?_) (jA (.same _ rfl) (jA (.same _ rfl) trivial));simp only[bV,Ck.prog];exact lU
   ·have hr:ij t=(lI,q.at_,q.e):=by unfold ij;rw[<-hz,if_pos he]
    (have W:=he;repeat' (first|refine aA fun K hK=>?_|refine ax ?_|(with_reducible refine gR 14 ?_);refine dA 14 [11] (bo 0 12) mixed ?_|(refine hK _ _ ?_;clear hK K)|(refine az ?_ ?_<;>intro hc<;>try exact jz)|(refine WY _ _ ?_)|refine ay ?_|exact jI|(clear hK K)))
    rw[hr];refine lW [.cell 2 29,.tmp 3,.tmp 4] ?_;refine bK.bf (ds:=[.agg (bV lI),rI _,rI _]) ?_;refine jA (bK.agg (ds:=bV lI) ?_) (jA (.same _ rfl) (jA (.same _ rfl) trivial));simp only[bV,lI];exact lU
end Go.Proofs.YtbjookcdpondlaaGreatDoor
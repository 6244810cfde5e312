/- Lemmas. No conditions. -/
import Derived.Test.YtghoellpinmenaaGreatDoorP2
import Derived.Test.YtghoellpinmenaaGreatDoorShelf
set_option linter.all false
set_option maxHeartbeats 8000000
set_option maxRecDepth 10000
namespace Go.Gd
open Go
def B4{P:P6}{f:FuncId}{args:PW}{r:AV}(vals:P4)(v:Value)(ha:args=vals.map .raw)(hr:∀w:NW,az w r v)(h:∀w:World,Calls P f vals.toArray w fun e w'=>e=.returned v/\RowKit.Below w.heap.size w w'):aA P f args r:=by
 intro w vs h1 h2;have TD:vs=vals.toArray:=by
  apply Array.ext';apply List.ext_getElem?;intro i;obtain⟨hl,hv⟩:=h2;subst ha;by_cases hi:i<vals.length
  ·have R8:i<vs.size:=by rw[<-hl];simpa using hi
   have:=di (hv i (.raw vals[i]) vs[i] (by simp[hi]) (by simp[R8]));simp[hi,R8,this]
  ·have R8:¬i<vs.size:=by rw[<-hl];simpa using hi
   rw[List.getElem?_eq_none (by simpa using R8),List.getElem?_eq_none (by simpa using hi)]
 subst TD;refine(h w.toWorld).mono ?_;rintro e W ⟨rfl,hb⟩;have ex:Ext w (entry []) (w.to W) (entry []):={ size:=hb.size,free:=fun b RJ hO=>⟨hb.block b RJ,hO⟩,names:=fun _ _ _ _ h=>h,os:=hb.os,tape:=hb.tape,output:=hb.output,rest:=fun b RJ hO Qe=>⟨hb.block b RJ,hO,Qe⟩,base:=rfl };refine⟨v,r,entry [],w.to W,rfl,rfl,⟨rfl,rfl⟩,{ rows:=fun i row hi=>(by cases hi),dS:=h1.dS,inj:=h1.inj,own:=h1.own,ci:=h1.ci.bS ex.toKeep,fin:=fun b RJ=>Nat.lt_of_lt_of_le (h1.fin b RJ) hb.size },hr _,ex.pm⟩
variable{H:Hp}{t:P1}{cs:PW}
def EA{w:NW}(r:aN w H){j:Nat}{cs':PW}(hj:H.get j=some (.var t cs))(hl:cs'.length=cs.length)(h:∀(k:Nat) a a' v,cs[k]?=some a->cs'[k]?=some a'->az w a v->az w a' v):aN w (H.put j (.var t cs'))/\Ext w H w (H.put j (.var t cs')):=by
 have ex:Ext w H w (H.put j (.var t cs')):={ ExtQ.refl _ w with base:=rfl };refine⟨{ rows:=fun i s hi=>?_,dS:=fun i m z hz=>?_,inj:=r.inj,own:=r.own,fin:=r.fin,ci:=r.ci.bS ex.toKeep },ex⟩
 ·rw[Hp.cf]at hi;split at hi
  ·rename_i e;subst e;cases hi;obtain⟨h1,z,h2,h3⟩:=r.rows _ _ hj;refine⟨trivial,z,h2,?_⟩;cases z with
   |nil=>obtain⟨e,sz,h4⟩:=h3;cases h4
   |«at» b u s=>
    obtain⟨g1,cur,g2,⟨g3,g4⟩,g5⟩:=h3;refine⟨g1,cur,g2,⟨g3,by show cs'.length<=u;rw[hl];exact g4⟩,fun k a v ha hv=>?_⟩;have ha:cs'[k]?=some a:=ha;have hk:k<cs.length:=by rw[<-hl];exact(List.getElem?_eq_some_iff.1 ha).1
    exact h k cs[k] a v (List.getElem?_eq_getElem hk) ha (g5 k cs[k] v (List.getElem?_eq_getElem hk) hv)
  ·exact r.rows i s hi
 ·obtain⟨s,h1,h2⟩:=r.dS i m z hz;rw[Hp.cf];split
  ·rename_i e;subst e;rw[hj]at h1;cases h1;exact⟨_,rfl,h2⟩
  ·exact⟨s,h1,h2⟩
variable{F:PW}
def cY.fL(i j k:Nat)(e:P1)(sz:Nat)(hi:H.get i=none)(h0:0<sz)(hj:H.get j=some (.var t cs))(hk:cs[k]?=some (.raw (.slice none 0 0))):cY F H F ((H.put i (.aG e sz [])).put j (.var t (cs.set k (.rs i 0 sz 0)))):=fun w tm h1 h2=>by
 obtain⟨a,b⟩:=wR h1 hi e h0;have Xn:j≠i:=fun e=>by subst e;rw[hi]at hj;cases hj
 obtain⟨a',b'⟩:=EA (cs':=cs.set k (.rs i 0 sz 0)) a (j:=j) (t:=t) (cs:=cs) (by rw[Hp.cf,if_neg Xn];exact hj) jE fun n x x' v hx Qg hv=>by
  rw[List.getElem?_set]at Qg;by_cases hn:k=n
  ·subst hn;rw[if_pos rfl]at Qg;split at Qg
   ·cases Qg;rw[hk]at hx;cases hx;cases hv;exact .kH _ _ _ _ (NW.cd _ _ _ _)
   ·cases Qg
  ·rw[if_neg hn,hx]at Qg;cases Qg;exact hv
 exact⟨w.name i 0 .nil,rfl,a',h2.ext b,(b.trans b').pm⟩
def cY.qb(j k:Nat)(hj:H.get j=some (.var t cs)):cY F H F (H.put j (.var t (cs.set k .any))):=fun w tm h1 h2=>by
 obtain⟨a',b'⟩:=EA (cs':=cs.set k .any) h1 (j:=j) (t:=t) (cs:=cs) hj jE fun n x x' v hx Qg hv=>by
  rw[List.getElem?_set]at Qg;by_cases hn:k=n
  ·subst hn;rw[if_pos rfl]at Qg;split at Qg
   ·cases Qg;exact .any _
   ·cases Qg
  ·rw[if_neg hn]at Qg;rw[hx]at Qg;cases Qg;exact hv
 exact⟨w,rfl,a',h2,b'.pm⟩
def GJ{P:P6}{id:Nat}{l:List Oper}{b:Bool}{Q:Exit->PS}{q:Prop}(j k:Nat){i m sz n:Nat}(h:q)(hj:H.get j=some (.var t cs):=by rfl)(hc:cs[k]?=some (.rs i m sz n):=by rfl)(e:cz P (.region id l.toArray b) Q F (H.put j (.var t (cs.set k .any)))=q:=by first|(simp only[go_sem];rfl)|rfl):cz P (.region id l.toArray b) Q F H:=gj (cY.qb j k hj) (e ▸ h)
end Go.Gd
namespace Go.Proofs.YtghoellpinmenaaGreatDoor
open Go Go.Gd Tryz
def zH(s:P0)(k:Nat):dV s k=((s.data.toList.getD k 0).toNat:Int):=by unfold dV;simp
def iP:List UInt8->Nat->Nat
 |[],a=>a
 |c::l,a=>iP l (a*10+(c.toNat-48))
theorem Eg:∀(l:List UInt8) (a:Nat),a<=iP l a
 |[],a=>Nat.le_refl _
 |c::l,a=>Nat.le_trans jB (Eg l _)
theorem BO:∀(l:List UInt8) (a:Nat),(∀c∈l,48<=c.toNat/\c.toNat<=57)->iP l a<=9223372036854775807->Lib.parseUint10 a l=.ok (iP l a)
 |[],a,_,_=>rfl
 |c::l,a,h,hm=>by have hc:=h c jE;have h1:=Eg l (a*10+(c.toNat-48));simp only[iP]at hm ⊢;unfold Lib.parseUint10;rw[if_pos hc,jN,jN];exact BO l _ (fun x hx=>h x (by simp[hx])) hm
theorem FU:∀(l:List UInt8) (c:UInt8) (a:Nat),iP (l++[c]) a=iP l a*10+(c.toNat-48)
 |[],_,_=>rfl
 |_::l,c,_=>FU l c _
theorem zV:∀(l:List UInt8) (a:Nat),(∀c∈l,48<=c.toNat/\c.toNat<=57)->iP l a+1<=(a+1)*10 ^ l.length
 |[],a,_=>by simp[iP]
 |c::l,a,h=>by have hc:=h c jE;have ih:=zV l (a*10+(c.toNat-48)) (fun x hx=>h x (by simp[hx]));simp only[iP,List.length_cons,Nat.pow_succ];refine Nat.le_trans ih ?_;rw[Nat.mul_comm (10 ^ l.length) 10,<-Nat.mul_assoc];exact Nat.mul_le_mul_right _ jB
theorem CT:∀(l:List UInt8) (a:Nat),a*10 ^ l.length<=iP l a
 |[],a=>by simp[iP]
 |c::l,a=>by have ih:=CT l (a*10+(c.toNat-48));simp only[iP,List.length_cons,Nat.pow_succ];refine Nat.le_trans ?_ ih;rw[Nat.mul_comm (10 ^ l.length) 10,<-Nat.mul_assoc];exact Nat.mul_le_mul_right _ jB
theorem B1:∀(l m:List UInt8) (a:Nat),l.length=m.length->(∀c∈l,48<=c.toNat/\c.toNat<=57)->(∀c∈m,48<=c.toNat/\c.toNat<=57)->Op.bytesLess l m=true->iP l a<iP m a
 |[],[],_,_,_,_,h=>by simp[Op.bytesLess]at h
 |[],_::_,_,hl,_,_,_=>by simp at hl
 |_::_,[],_,hl,_,_,_=>by simp at hl
 |x::l,y::m,a,hl,h1,h2,h=>by
  have hx:=h1 x jE;have hy:=h2 y jE;simp only[Op.bytesLess,Bool.or_eq_true,decide_eq_true_eq,Bool.and_eq_true,beq_iff_eq]at h;simp only[iP];rcases h with h|⟨rfl,h⟩
  ·have h:x.toNat<y.toNat:=h;have e1:=zV l (a*10+(x.toNat-48)) (fun c hc=>h1 c (by simp[hc]));have e2:=CT m (a*10+(y.toNat-48));have e3:(a*10+(x.toNat-48)+1)*10 ^ l.length<=(a*10+(y.toNat-48))*10 ^ m.length:=by
    rw[show l.length=m.length by simpa using hl];exact Nat.mul_le_mul_right _ jB
   omega
  ·exact B1 l m _ (by simpa using hl) (fun c hc=>h1 c (by simp[hc])) (fun c hc=>h2 c (by simp[hc])) h
theorem zJ(s:P0)(hd:∀j,j<s.size->iL (dV s j)=true):∀k,k<=s.size->uC s k=(iP (s.data.toList.take k) 0:Nat)
 |0,_=>by simp[uC,iP]
 |k+1,hk=>by
  have O':k<s.data.toList.length:=by simp;omega
  have h1:=hd k jB;simp only[iL,Bool.and_eq_true,decide_eq_true_eq]at h1;rw[zH]at h1;rw[uC,zJ s hd k jB,List.take_succ_eq_append_getElem O',FU,zH];have:s.data.toList.getD k 0=s.data.toList[k]:=by rw[List.getD_eq_getElem?_getD,List.getElem?_eq_getElem O'];rfl
  rw[this]at h1 ⊢;omega
variable{s:P0}
def BL(h:pd s):∀c∈s.data.toList,48<=c.toNat/\c.toNat<=57:=fun c hc=>by obtain⟨k,hk,rfl⟩:=List.getElem_of_mem hc;have:=h.2.2 k (by simpa using hk);simp only[iL,Bool.and_eq_true,decide_eq_true_eq]at this;rw[zH,List.getD_eq_getElem?_getD,List.getElem?_eq_getElem hk]at this;simp only[Option.getD_some]at this;omega
def EX(h:pd s):iP s.data.toList 0<=9223372036854775807:=by
 have hd:=BL h;have hn:=h.2.1;have hl:=zV s.data.toList 0 hd;have g':s.data.toList.length=s.size:=jE;unfold uk at hn;simp only[Bool.or_eq_true,decide_eq_true_eq,Bool.and_eq_true]at hn;rcases hn with hn|⟨hn,h2|h2⟩
 ·have:10 ^ s.data.toList.length<=10 ^ 18:=Nat.pow_le_pow_right jB (by rw[g'];omega);simp only[Nat.zero_add,Nat.one_mul]at hl;omega
 ·have e:s.toList=s.data.toList:=ByteArray.toList_eq s;have:=B1 s.data.toList [57,50,50,51,51,55,50,48,51,54,56,53,52,55,55,53,56,48,55] 0 (by rw[g'];simp;omega) hd jC (by rw[<-e,show[57,50,50,51,51,55,50,48,51,54,56,53,52,55,55,53,56,48,55]=(⟨#[57,50,50,51,51,55,50,48,51,54,56,53,52,55,55,53,56,48,55]⟩:P0).toList by rw[ByteArray.toList_eq]];exact h2);have e2:iP [57,50,50,51,51,55,50,48,51,54,56,53,52,55,55,53,56,48,55] 0=9223372036854775807:=jC;omega
 ·subst h2;decide
def PJ(h:pd s):Lib.atoiAll s.data.toList=.ok (nB s):=by
 have hd:=BL h;have P':=EX h;have Ux:nB s=(iP s.data.toList 0:Nat):=by unfold nB;rw[zJ s h.2.2 _ jl,List.take_of_length_le jE]
 have hp:=BO s.data.toList 0 hd P';have Rl:=h.1;cases hs:s.data.toList with
 |nil=> have:s.data.toList.length=s.size:=jE;rw[hs]at this;simp at this;omega
 |cons c l=> rw[hs]at hd hp Ux P';have hc:=hd c jE;simp only[Lib.atoiAll];rw[jN];simp only[Lib.parseMag,List.cons_ne_nil,if_false,hp,reduceCtorEq];rw[jN,jN,jN,Ux]
def Kz(s:P0)(h:pd s):aA prog 196 [rS s] (.bt [rI (nB s),.raw .nilIface]):=by
 have hs:s.size<=9223372036854775806:=by have hn:=h.2.1;unfold uk at hn;simp only[Bool.or_eq_true,decide_eq_true_eq,Bool.and_eq_true]at hn;omega
 refine B4 [.string s] (.tuple #[.int .i64 (nB s),.nilIface]) rfl (fun w=>?_) fun w=>?_
 ·exact .bt _ _ rfl fun i a v ha hv=>by
   match i with
   |0=>simp at ha hv;subst ha hv;exact .raw _
   |1=>simp at ha hv;subst ha hv;exact .raw _
   |i+2=>simp at ha
 ·refine(Tryz.strconv_Atoi_ok s hs (nB s) (PJ h) w).mono ?_;rintro e W ⟨rfl,hW⟩;refine⟨rfl,?_⟩;rcases hW with rfl|⟨t,rfl⟩
  ·exact RowKit.Below.refl _ _
  ·exact Lib.bytesWorld_below _ _ _
def MC(n:Nat)(hc:xS n):Ar (n+1):=by
 intro r h hn;have RI:=h.lt;have hip:=h.pos;have Ra:=h.len;have hin':(r.l.length:Int)<=2000:=jB;have Qb:∀q:Rd,q.Inv->8*q.rem+8<=n->af prog 158 [pR] (cc q) (fun v l=>v=rI (dG n 0 q).2/\l=cc (dG n 0 q).1):=fun q hq hm=>by
  have:=hc 0 q jB hq jB;refine aO func158 ntmps158 ?_;refine S ?_
  (repeat' (first|refine aq fun K hK=>?_|refine am ?_|(refine hK _ _ ?_;clear hK K)|(refine ao ?_ ?_<;>intro hc<;>try exact jz)|refine cm (this) ?_|refine ap ?_|exact jI|(clear hK K)))
  (refine cj [.tmp 2] ?_ ?_<;>(try simp only[go_sem]))
 have aZ:∀(q:Rd) (t u:P0),q.Inv->q.e=0->q.down.Inv/\(q.down.ar t).Inv/\(dG n 0 (q.down.ar t)).1.Inv/\((dG n 0 (q.down.ar t)).1.ar u).Inv/\((dG n 0 (q.down.ar t)).1.ar u).up.Inv/\(q.down.ar t).rem<=q.rem:=fun q t u hq he=>by have h1:=(Rd.bG hq he).1;have s1:=Rd.aH h1 t;have h2:=s1.inv h1;have s2:=(qh n).2.2.1 0 _ h2;have h3:=s2.inv h2;have s3:=Rd.aH h3 u;refine⟨h1,h2,h3,s3.inv h3,(Rd.eG hq he ((s1.trans s2).trans s3)).inv hq,Nat.le_trans s1.rem ?_⟩;have hd:=Rd.bG hq he;unfold Rd.rem;rw[if_pos he,hd.2.2.1,hd.2.2.2.1];split<;>omega
 rw[oI];by_cases he:r.e≠0
 ·rw[if_pos he];refine aO func192 ntmps192 ?_;refine S ?_
  (repeat' (first|refine aq fun K hK=>?_|refine am ?_|(with_reducible refine gR 2 ?_);refine dE 2 (au 0 12) mixed ?_|(refine hK _ _ ?_;clear hK K)|(refine ao ?_ ?_<;>intro hc<;>try exact jz)|refine cm (fU r (bu h)) ?_|refine ap ?_|exact jI|(clear hK K)))
  (refine aY [.tmp 2] ?_;try simp only[go_sem])
 rw[if_neg he];have he:r.e=0:=jB;have Se:r.tok.kind≠0->r.inc.Inv/\r.inc.rem+1<=r.rem/\r.i+1<r.l.length:=fun hk=>⟨(Rd.bm h hk).1.inv h,Rd.cK h ⟨he,hk⟩,Rd.behind h hk⟩
 by_cases Qt:r.tok.kind=1
 ·rw[if_pos Qt];obtain⟨hi,_,hb⟩:=Se jB;have Xz:=h.num r.i.toNat jB Qt;have R3:(nth r.l r.i.toNat).kind=1:=Qt;refine aO func192 ntmps192 ?_;refine S ?_
  (have W:=jA he (R3);repeat' (first|refine aq fun K hK=>?_|refine am ?_|(with_reducible refine gR 2 ?_);refine dE 2 (au 0 12) mixed ?_|(refine hK _ _ ?_;clear hK K)|(refine ao ?_ ?_<;>intro hc<;>try exact jz)|refine cm (fU r (bu h)) ?_|refine cp (Kz _ Xz) ?_|refine cm (ju r.inc _ _ _ _ [] _ eV.nil (bu hi)) ?_|refine ap ?_|exact jI|(clear hK K)))
  (refine aY [.tmp 2] ?_;try simp only[go_sem])
  all_goals rfl
 rw[if_neg Qt];have R3:¬(nth r.l r.i.toNat).kind=1:=Qt;by_cases Qf:r.tok.kind=2
 ·rw[if_pos Qf];obtain⟨hi,_,hb⟩:=Se jB;have SK:(nth r.l r.i.toNat).kind=2:=Qf;refine aO func192 ntmps192 ?_;refine S ?_
  (have W:=jA he (SK);repeat' (first|refine aq fun K hK=>?_|refine am ?_|(with_reducible refine gR 2 ?_);refine dE 2 (au 0 12) mixed ?_|(refine hK _ _ ?_;clear hK K)|(refine ao ?_ ?_<;>intro hc<;>try exact jz)|refine cm (fU r (bu h)) ?_|refine cm (ju r.inc _ _ _ _ [] _ eV.nil (bu hi)) ?_|refine ap ?_|exact jI|(clear hK K)))
  (refine aY [.tmp 2] ?_;try simp only[go_sem])
  all_goals rfl
 rw[if_neg Qf];have SK:¬(nth r.l r.i.toNat).kind=2:=Qf;by_cases Tf:r.tok.kind=3
 ·rw[if_pos Tf];obtain⟨hi,hr,hb⟩:=Se jB;have Sw:(nth r.l r.i.toNat).kind=3:=Tf;by_cases hx:r.inc.is (⟨#[91]⟩:P0)=true
  ·rw[if_pos hx];obtain⟨d1,d2,d3,d4,d5,d6⟩:=aZ r.inc (⟨#[91]⟩:P0) (⟨#[93]⟩:P0) hi he;have d4l:=d4.nr;have d4h:=d4.n7;refine aO func192 ntmps192 ?_;refine S ?_
   (have W:=jA he (jA Sw (hx));repeat' (first|refine aq fun K hK=>?_|refine am ?_|(with_reducible refine gR 2 ?_);refine dE 2 (au 0 12) mixed ?_|(refine hK _ _ ?_;clear hK K)|(refine ao ?_ ?_<;>intro hc<;>try exact jz)|refine cm (fU r (bu h)) ?_|refine cm (fx r.inc _ (bu hi)) ?_|refine cm (ru r.inc (bu hi)) ?_|refine cm (gK r.inc.down _ (bu d1)) ?_|refine cm (Qb (r.inc.down.ar (⟨#[91]⟩:P0)) d2 jB) ?_|refine cm (gK (dG n 0 (r.inc.down.ar (⟨#[91]⟩:P0))).1 _ (bu d3)) ?_|refine cm (ju ((dG n 0 (r.inc.down.ar (⟨#[91]⟩:P0))).1.ar (⟨#[93]⟩:P0)).up _ _ _ _ [(dG n 0 (r.inc.down.ar (⟨#[91]⟩:P0))).2] _ eV.sl (bu d5)) ?_|refine ap ?_|exact jI|(clear hK K)))
   (refine aY [.tmp 2] ?_;try simp only[go_sem])
   all_goals rfl
  ·rw[if_neg hx];have Qg:r.inc.is (⟨#[91]⟩:P0)=false:=by simpa using hx
   refine aO func192 ntmps192 ?_;refine S ?_
   (have W:=jA he (jA Sw (Qg));repeat' (first|refine aq fun K hK=>?_|refine am ?_|(with_reducible refine gR 2 ?_);refine dE 2 (au 0 12) mixed ?_|(refine hK _ _ ?_;clear hK K)|(refine ao ?_ ?_<;>intro hc<;>try exact jz)|refine cm (fU r (bu h)) ?_|refine cm (fx r.inc _ (bu hi)) ?_|refine cm (ju r.inc _ _ _ _ [] _ eV.nil (bu hi)) ?_|refine ap ?_|exact jI|(clear hK K)))
   (refine aY [.tmp 2] ?_;try simp only[go_sem])
   all_goals rfl
 rw[if_neg Tf];have Sw:¬(nth r.l r.i.toNat).kind=3:=Tf;by_cases ht:r.is (⟨#[116,114,117,101]⟩:P0)=true
 ·rw[if_pos ht];obtain⟨hi,hr,hb⟩:=Se (Rd.aV ht).2;refine aO func192 ntmps192 ?_;refine S ?_
  (have W:=jA he (jA ht (jA R3 (jA SK (Sw))));repeat' (first|refine aq fun K hK=>?_|refine am ?_|(with_reducible refine gR 2 ?_);refine dE 2 (au 0 12) mixed ?_|(refine hK _ _ ?_;clear hK K)|(refine ao ?_ ?_<;>intro hc<;>try exact jz)|refine cm (fU r (bu h)) ?_|refine cm (fx r _ (bu h)) ?_|refine cm (ju r.inc _ _ _ _ [] _ eV.nil (bu hi)) ?_|refine ap ?_|exact jI|(clear hK K)))
  (refine aY [.tmp 2] ?_;try simp only[go_sem])
 rw[if_neg ht];have To:r.is (⟨#[116,114,117,101]⟩:P0)=false:=by simpa using ht
 by_cases hf:r.is (⟨#[102,97,108,115,101]⟩:P0)=true
 ·rw[if_pos hf];obtain⟨hi,hr,hb⟩:=Se (Rd.aV hf).2;refine aO func192 ntmps192 ?_;refine S ?_
  (have W:=jA he (jA To (jA hf (jA R3 (jA SK (Sw)))));repeat' (first|refine aq fun K hK=>?_|refine am ?_|(with_reducible refine gR 2 ?_);refine dE 2 (au 0 12) mixed ?_|(refine hK _ _ ?_;clear hK K)|(refine ao ?_ ?_<;>intro hc<;>try exact jz)|refine cm (fU r (bu h)) ?_|refine cm (fx r _ (bu h)) ?_|refine cm (ju r.inc _ _ _ _ [] _ eV.nil (bu hi)) ?_|refine ap ?_|exact jI|(clear hK K)))
  (refine aY [.tmp 2] ?_;try simp only[go_sem])
 rw[if_neg hf];have Um:r.is (⟨#[102,97,108,115,101]⟩:P0)=false:=by simpa using hf
 by_cases hl:r.is (⟨#[108,101,110]⟩:P0)=true
 ·rw[if_pos hl];obtain⟨hi,hr,hb⟩:=Se (Rd.aV hl).2;by_cases hx:r.inc.is (⟨#[40]⟩:P0)=true
  ·rw[if_pos hx];obtain⟨d1,d2,d3,d4,d5,d6⟩:=aZ r.inc (⟨#[40]⟩:P0) (⟨#[41]⟩:P0) hi he;have d4l:=d4.nr;have d4h:=d4.n7;refine aO func192 ntmps192 ?_;refine S ?_
   (have W:=jA he (jA To (jA Um (jA hl (jA R3 (jA SK (jA Sw (hx)))))));repeat' (first|refine aq fun K hK=>?_|refine am ?_|(with_reducible refine gR 2 ?_);refine dE 2 (au 0 12) mixed ?_|(refine hK _ _ ?_;clear hK K)|(refine ao ?_ ?_<;>intro hc<;>try exact jz)|refine cm (fU r (bu h)) ?_|refine cm (fx r _ (bu h)) ?_|refine cm (fx r.inc _ (bu hi)) ?_|refine cm (ru r.inc (bu hi)) ?_|refine cm (gK r.inc.down _ (bu d1)) ?_|refine cm (Qb (r.inc.down.ar (⟨#[40]⟩:P0)) d2 jB) ?_|refine cm (gK (dG n 0 (r.inc.down.ar (⟨#[40]⟩:P0))).1 _ (bu d3)) ?_|refine cm (ju ((dG n 0 (r.inc.down.ar (⟨#[40]⟩:P0))).1.ar (⟨#[41]⟩:P0)).up _ _ _ _ [(dG n 0 (r.inc.down.ar (⟨#[40]⟩:P0))).2] _ eV.sl (bu d5)) ?_|refine ap ?_|exact jI|(clear hK K)))
   (refine aY [.tmp 2] ?_;try simp only[go_sem])
  ·rw[if_neg hx];have Qg:r.inc.is (⟨#[40]⟩:P0)=false:=by simpa using hx
   refine aO func192 ntmps192 ?_;refine S ?_
   (have W:=jA he (jA To (jA Um (jA hl (jA R3 (jA SK (jA Sw (Qg)))))));repeat' (first|refine aq fun K hK=>?_|refine am ?_|(with_reducible refine gR 2 ?_);refine dE 2 (au 0 12) mixed ?_|(refine hK _ _ ?_;clear hK K)|(refine ao ?_ ?_<;>intro hc<;>try exact jz)|refine cm (fU r (bu h)) ?_|refine cm (fx r _ (bu h)) ?_|refine cm (fx r.inc _ (bu hi)) ?_|refine cm (rj r.inc _ (bu hi)) ?_|refine ap ?_|exact jI|(clear hK K)))
   (refine aY [.tmp 2] ?_;try simp only[go_sem])
 rw[if_neg hl];have Rb:r.is (⟨#[108,101,110]⟩:P0)=false:=by simpa using hl
 by_cases hx:r.is (⟨#[40]⟩:P0)=true
 ·rw[if_pos hx];obtain⟨hi,hr,hb⟩:=Se (Rd.aV hx).2;obtain⟨d1,d2,d3,d4,d5,d6⟩:=aZ r (⟨#[40]⟩:P0) (⟨#[41]⟩:P0) h he;have d4l:=d4.nr;have d4h:=d4.n7;have d7:(r.down.ar (⟨#[40]⟩:P0)).rem+1<=r.rem:=by
   have S5:=Rd.bG h he;unfold Rd.rem;rw[if_pos he];have Q4:(r.down.ar (⟨#[40]⟩:P0)).l=r.l:=(Rd.aH d1 _).l.trans S5.2.2.2.1;rw[Q4];by_cases hq:r.down.is (⟨#[40]⟩:P0)=true
   ·have:r.down.ar (⟨#[40]⟩:P0)=r.down.inc:=by unfold Rd.ar;rw[if_pos hq]
    rw[this];have:r.down.inc.i=r.i+1:=by show r.down.i+1=_;rw[S5.2.2.1]
    rw[this];split<;>omega
   ·have hm:r.down.ar (⟨#[40]⟩:P0)=r.down.aD 20:=by unfold Rd.ar;rw[if_neg hq]
    rw[hm];have:(r.down.aD 20).e≠0:=by
     unfold Rd.aD;split
     ·show(20:Int)≠0;decide
     ·assumption
    rw[if_neg this];omega
  refine aO func192 ntmps192 ?_;refine S ?_
  (have W:=jA he (jA To (jA Um (jA Rb (jA R3 (jA SK (jA Sw (hx)))))));repeat' (first|refine aq fun K hK=>?_|refine am ?_|(with_reducible refine gR 2 ?_);refine dE 2 (au 0 12) mixed ?_|(refine hK _ _ ?_;clear hK K)|(refine ao ?_ ?_<;>intro hc<;>try exact jz)|refine cm (fU r (bu h)) ?_|refine cm (fx r _ (bu h)) ?_|refine cm (ru r (bu h)) ?_|refine cm (gK r.down _ (bu d1)) ?_|refine cm (Qb (r.down.ar (⟨#[40]⟩:P0)) d2 jB) ?_|refine cm (gK (dG n 0 (r.down.ar (⟨#[40]⟩:P0))).1 _ (bu d3)) ?_|refine ap ?_|exact jI|(clear hK K)))
  (refine aY [.tmp 2] ?_;try simp only[go_sem])
 rw[if_neg hx];have Qg:r.is (⟨#[40]⟩:P0)=false:=by simpa using hx
 refine aO func192 ntmps192 ?_;refine S ?_
 (have W:=jA he (jA To (jA Um (jA Rb (jA R3 (jA SK (jA Sw (Qg)))))));repeat' (first|refine aq fun K hK=>?_|refine am ?_|(with_reducible refine gR 2 ?_);refine dE 2 (au 0 12) mixed ?_|(refine hK _ _ ?_;clear hK K)|(refine ao ?_ ?_<;>intro hc<;>try exact jz)|refine cm (fU r (bu h)) ?_|refine cm (fx r _ (bu h)) ?_|refine cm (rj r _ (bu h)) ?_|refine ap ?_|exact jI|(clear hK K)))
 (refine aY [.tmp 2] ?_;try simp only[go_sem])
theorem Bw:∀m n,n<=m->Ar n/\xZ n/\xS n
 |0,0,_=>⟨fun r h hn=>by omega,fun r h hn=>by omega,fun lv r hl h hn=>by omega⟩
 |m+1,0,_=>⟨fun r h hn=>jB,fun r h hn=>jB,fun lv r hl h hn=>jB⟩
 |m+1,n+1,hm=>by obtain⟨ha,hf,hc⟩:=Bw m n jB;exact⟨MC n hc,Ky n ha hf,NT n hf fun k hk=>(Bw m k jB).2.2⟩
def K8(n:Nat)(r:Rd)(h:r.Inv)(hn:8*r.rem+8<=n):af prog 158 [pR] (cc r) (fun v l=>v=rI (dG n 0 r).2/\l=cc (dG n 0 r).1):=by
 have:=(Bw n n jl).2.2 0 r jB h jB;refine aO func158 ntmps158 ?_;refine S ?_
 (repeat' (first|refine aq fun K hK=>?_|refine am ?_|(refine hK _ _ ?_;clear hK K)|(refine ao ?_ ?_<;>intro hc<;>try exact jz)|refine cm (this) ?_|refine ap ?_|exact jI|(clear hK K)))
 (refine cj [.tmp 2] ?_ ?_<;>(try simp only[go_sem]))
variable{r:Rd}
def od(h:r.Inv):af prog 158 [pR] (cc r) (fun v l=>v=rI (cJ r).2/\l=cc (cJ r).1):=K8 _ r h jl
def Fq(h:r.Inv):af prog 174 [pR] (cc r) (fun v l=>v=rI (lq r).2/\l=cc (lq r).1):=by
 have h1:=(Rd.cX h).inv h;have h2:=(xI h).inv h;have h3:=(yA h).inv h;have h4:=(HG h).inv h;have VY:(nt r).rem<=2000:=by have:=h2.pos;have:=h2.len;unfold Rd.rem;split<;>omega
 have hm:af prog 86 [pR,rS (⟨#[40]⟩:P0)] (cc r.name.1) (fun v l=>v=.bt []/\l=cc (nt r)):=gK r.name.1 _ (bu h1);refine aO func174 ntmps174 ?_;refine S ?_
 (repeat' (first|refine aq fun K hK=>?_|refine am ?_|(refine hK _ _ ?_;clear hK K)|(refine ao ?_ ?_<;>intro hc<;>try exact jz)|refine cm (fU r (bu h)) ?_|refine cm (sL r (bu h)) ?_|refine cm (hm) ?_|refine cm (fx (nt r) _ (bu h2)) ?_|refine ap ?_|exact jI|(clear hK K)))
 have M':=hK;clear hK;refine gj (cY.nil 2 5 3 (sz:=1) rfl jC (Or.inr ⟨_,_,_,rfl,rfl⟩)) ?_
 (refine S ?_;try exact jI)
 refine de (S:=Nat×Bool×Rd×PY) [(5,1),(7,2),(27,17)] (fun s=>s.2.2.1.Inv/\(s.2.1=true->s.2.2.1.rem+2<=s.1)/\1<=s.1/\s.2.2.2.length+s.1<=5000/\lO s.1 s.2.1 s.2.2.1 s.2.2.2=mq r) (fun s=>[(5,.rs 2 s.2.2.2.length 1 s.2.2.2.length),(7,rB s.2.1)]) (fun s=>⟨[0,1],cc s.2.2.1++[(2,.aG 3 1 (s.2.2.2.map eI))]⟩) (fun s=>s.1) ((nt r).rem+2,more (nt r),nt r,[]) ⟨h2,fun _=>Nat.le_refl _,jJ,by(try simp only[List.length_nil]);omega,rfl⟩ (dc rfl (by simp only[go_sem,gU,Nat.reduceAdd,AV.raw.injEq,Value.int.injEq,Value.slice.injEq,Value.pointer.injEq,AV.rs.injEq,more,List.length_nil];try omega)) ?_;rintro⟨n,b,q,L⟩ ⟨hq,Rw,S3,XA,hA⟩ Kr P9;simp only at hq Rw S3 XA hA;have XB:=hq.lt;have WW:=hq.pos;have Vb:=hq.len;obtain⟨n,rfl⟩:∃k,n=k+1:=⟨n-1,jB⟩;cases b with
 |false=>
  rw[lO]at hA;have e1:q=(mq r).1:=by rw[<-hA]
  have e2:L=(mq r).2:=by rw[<-hA]
  rw[<-e1]at h4;refine S ?_
  (repeat' (first|refine aq fun K hK=>?_|refine am ?_|(refine hK _ _ ?_;clear hK K)|(refine ao ?_ ?_<;>intro hc<;>try exact jz)|refine ap ?_|exact jI|(clear hK K)))
  refine M' _ _ ?_;refine Ha [2] 5 (ax eI 1 L) Sd Sd gJ ?_;refine S ?_
  (repeat' (first|refine aq fun K hK=>?_|refine am ?_|(refine hK _ _ ?_;clear hK K)|(refine ao ?_ ?_<;>intro hc<;>try exact jz)|refine cm (gK q _ (bu hq)) ?_|refine cm (vQ (q.ar (⟨#[41]⟩:P0)) _ _ _ _ L (bu h4)) ?_|refine ap ?_|exact jI|(clear hK K)))
  (refine cj [.tmp 2] ?_ ?_<;>(try simp only[go_sem]))
  ·unfold lq;rw[<-e1,<-e2]
  ·unfold lq;rw[<-e1,<-e2]
 |true=>
  have s1:=ix hq;have hx:=s1.inv hq;have Tk:=s1.rem;have Y9:=hx.lt;have Za:=hx.pos;have Ug:=hx.len;have Rw:=Rw rfl;rw[lO]at hA;refine S ?_
  (repeat' (first|refine aq fun K hK=>?_|refine am ?_|(refine hK _ _ ?_;clear hK K)|(refine ao ?_ ?_<;>intro hc<;>try exact jz)|refine cm (od hq) ?_|refine cm (fx (cJ q).1 _ (bu hx)) ?_|refine ap ?_|exact jI|(clear hK K)))
  ·rw[if_pos hc]at hA;have hk:=Rd.aV hc;have Yt:=Rd.cK hx hk;refine P9 _ _ (dI (n,true,(cJ q).1.inc,L++[(cJ q).2]) ⟨(Rd.bm hx hk.2).1.inv hx,fun _=>jJ,jJ,by(try simp only[List.length_append,List.length_cons,List.length_nil]);omega,hA⟩ jJ (by simp only[go_sem,cc,gi,List.map_append,List.map_cons,List.map_nil,List.cons_append,List.nil_append];(try rfl)) (by simp only[go_sem,gU,Nat.reduceAdd,AV.raw.injEq,Value.int.injEq,Value.slice.injEq,Value.pointer.injEq,AV.rs.injEq,hc,List.length_append,List.length_cons,List.length_nil];try omega))
  ·rw[if_neg (by rw[hc];decide)]at hA;refine P9 _ _ (dI (n,false,(cJ q).1,L++[(cJ q).2]) ⟨hx,(by intro h;cases h),jJ,by(try simp only[List.length_append,List.length_cons,List.length_nil]);omega,?_⟩ jJ (by simp only[go_sem,cc,gi,List.map_append,List.map_cons,List.map_nil,List.cons_append,List.nil_append];(try rfl)) (by simp only[go_sem,gU,Nat.reduceAdd,AV.raw.injEq,Value.int.injEq,Value.slice.injEq,Value.pointer.injEq,AV.rs.injEq,hc,List.length_append,List.length_cons,List.length_nil];try omega));rw[<-hA];obtain⟨n,rfl⟩:∃k,n=k+1:=⟨n-1,jB⟩;rw[lO]
def uR(h:r.Inv):af prog 173 [pR] (cc r) (fun v l=>v=rB r.calls/\l=cc r):=KJ r (bu h) (fun hk=>Rd.behind h (Rd.du hk jC).2)
def FX(h:r.Inv):af prog 157 [pR] (cc r) (fun v l=>v=rI (j2 r).2/\l=cc (j2 r).1):=by
 have WY:=h.lt;have XD:=h.pos;have Ui:=h.len;have Se:r.tok.kind≠0->r.inc.Inv:=fun hk=>(Rd.bm h hk).1.inv h
 by_cases hx:r.is (⟨#[105,110,112,117,116]⟩:P0)=true
 ·have hi:=Se (Rd.aV hx).2;rw[j2,if_pos hx];refine aO func157 ntmps157 ?_;refine S ?_
  (have W:=hx;repeat' (first|refine aq fun K hK=>?_|refine am ?_|(refine hK _ _ ?_;clear hK K)|(refine ao ?_ ?_<;>intro hc<;>try exact jz)|refine cm (fU r (bu h)) ?_|refine cm (fx r _ (bu h)) ?_|refine cm (ju r.inc _ _ _ _ [] _ eV.nil (bu hi)) ?_|refine ap ?_|exact jI|(clear hK K)))
  (refine cj [.tmp 2] ?_ ?_<;>(try simp only[go_sem]))
 rw[j2,if_neg hx];have Qg:r.is (⟨#[105,110,112,117,116]⟩:P0)=false:=by simpa using hx
 by_cases hy:r.is (⟨#[110,101,119]⟩:P0)=true
 ·have hi:=Se (Rd.aV hy).2;have h1:=(Rd.aH hi (⟨#[40]⟩:P0)).inv hi;have h2:=(ix h1).inv h1;have h3:=(Rd.aH h2 (⟨#[41]⟩:P0)).inv h2;rw[if_pos hy];refine aO func157 ntmps157 ?_;refine S ?_
  (have W:=jA Qg hy;repeat' (first|refine aq fun K hK=>?_|refine am ?_|(refine hK _ _ ?_;clear hK K)|(refine ao ?_ ?_<;>intro hc<;>try exact jz)|refine cm (fU r (bu h)) ?_|refine cm (fx r _ (bu h)) ?_|refine cm (gK r.inc _ (bu hi)) ?_|refine cm (od h1) ?_|refine cm (gK (cJ (r.inc.ar (⟨#[40]⟩:P0))).1 _ (bu h2)) ?_|refine cm (ju ((cJ (r.inc.ar (⟨#[40]⟩:P0))).1.ar (⟨#[41]⟩:P0)) _ _ _ _ [(cJ (r.inc.ar (⟨#[40]⟩:P0))).2] _ eV.sl (bu h3)) ?_|refine ap ?_|exact jI|(clear hK K)))
  (refine cj [.tmp 2] ?_ ?_<;>(try simp only[go_sem]))
 rw[if_neg hy];have Sx:r.is (⟨#[110,101,119]⟩:P0)=false:=by simpa using hy
 by_cases Qi:r.calls=true
 ·rw[if_pos Qi];refine aO func157 ntmps157 ?_;refine S ?_
  (have W:=jA Qg (jA Sx (Qi));repeat' (first|refine aq fun K hK=>?_|refine am ?_|(refine hK _ _ ?_;clear hK K)|(refine ao ?_ ?_<;>intro hc<;>try exact jz)|refine cm (fU r (bu h)) ?_|refine cm (fx r _ (bu h)) ?_|refine cm (uR h) ?_|refine cm (Fq h) ?_|refine ap ?_|exact jI|(clear hK K)))
  (refine cj [.tmp 2] ?_ ?_<;>(try simp only[go_sem]))
 ·rw[if_neg Qi];have Rj:r.calls=false:=by simpa using Qi
  refine aO func157 ntmps157 ?_;refine S ?_
  (have W:=jA Qg (jA Sx (Rj));repeat' (first|refine aq fun K hK=>?_|refine am ?_|(refine hK _ _ ?_;clear hK K)|(refine ao ?_ ?_<;>intro hc<;>try exact jz)|refine cm (fU r (bu h)) ?_|refine cm (fx r _ (bu h)) ?_|refine cm (uR h) ?_|refine cm (od h) ?_|refine ap ?_|exact jI|(clear hK K)))
  (refine cj [.tmp 2] ?_ ?_<;>(try simp only[go_sem]))
def Pq(h:r.Inv)(he:r.e=0)(ln:Int):af prog 159 [pR,rI ln] (cc r) (fun v l=>v=rI (nY r ln).2/\l=cc (nY r ln).1):=by
 have WY:=h.lt;have XD:=h.pos;have Ui:=h.len;by_cases Qi:r.calls=true
 ·have h1:=(zi h Qi).1.inv h;have h2:=(Rd.aH h1 (⟨#[59]⟩:P0)).inv h1;rw[nY,if_pos Qi];refine aO func159 ntmps159 ?_;refine S ?_
  (have W:=Qi;repeat' (first|refine aq fun K hK=>?_|refine am ?_|(refine hK _ _ ?_;clear hK K)|(refine ao ?_ ?_<;>intro hc<;>try exact jz)|refine cm (uR h) ?_|refine cm (Fq h) ?_|refine cm (gK (lq r).1 _ (bu h1)) ?_|refine cm (ju ((lq r).1.ar (⟨#[59]⟩:P0)) _ _ _ _ [(lq r).2] _ eV.sl (bu h2)) ?_|refine ap ?_|exact jI|(clear hK K)))
  (refine cj [.tmp 4] ?_ ?_<;>(try simp only[go_sem]))
 rw[nY,if_neg Qi];have Rj:r.calls=false:=by simpa using Qi
 have h0:=(Rd.cX h).inv h;by_cases hx:r.name.1.is (⟨#[91]⟩:P0)=true
 ·rw[if_pos hx];have d0:=(Rd.bG h0 (Rd.aV hx).1).1;have d1:=(Rd.aH d0 (⟨#[91]⟩:P0)).inv d0;have d2:=(ix d1).inv d1;have d3:=(Rd.aH d2 (⟨#[93]⟩:P0)).inv d2;have d4:=(AR h0 hx).2.inv h0;have d5:=(wY h0 hx).1.inv h0;have d6:=(wY h0 hx).2.inv h0;have d7:=(Rd.aH d6 (⟨#[59]⟩:P0)).inv d6;have d3l:=d3.nr;have d3h:=d3.n7;unfold tS nA at*;refine aO func159 ntmps159 ?_;refine S ?_
  (have W:=jA Rj hx;repeat' (first|refine aq fun K hK=>?_|refine am ?_|(refine hK _ _ ?_;clear hK K)|(refine ao ?_ ?_<;>intro hc<;>try exact jz)|refine cm (uR h) ?_|refine cm (sL r (bu h)) ?_|refine cm (fx r.name.1 _ (bu h0)) ?_|refine cm (ru r.name.1 (bu h0)) ?_|refine cm (gK r.name.1.down _ (bu d0)) ?_|refine cm (od d1) ?_|refine cm (gK (cJ (r.name.1.down.ar (⟨#[91]⟩:P0))).1 _ (bu d2)) ?_|refine cm (gK ((cJ (r.name.1.down.ar (⟨#[91]⟩:P0))).1.ar (⟨#[93]⟩:P0)).up _ (bu d4)) ?_|refine cm (od d5) ?_|refine cm (gK (cJ (((cJ (r.name.1.down.ar (⟨#[91]⟩:P0))).1.ar (⟨#[93]⟩:P0)).up.ar (⟨#[61]⟩:P0))).1 _ (bu d6)) ?_|refine cm (ju ((cJ (((cJ (r.name.1.down.ar (⟨#[91]⟩:P0))).1.ar (⟨#[93]⟩:P0)).up.ar (⟨#[61]⟩:P0))).1.ar (⟨#[59]⟩:P0)) _ _ _ _ [(cJ (r.name.1.down.ar (⟨#[91]⟩:P0))).2,(cJ (((cJ (r.name.1.down.ar (⟨#[91]⟩:P0))).1.ar (⟨#[93]⟩:P0)).up.ar (⟨#[61]⟩:P0))).2] _ eV.sl (bu d7)) ?_|refine ap ?_|exact jI|(clear hK K)))
  (refine cj [.tmp 4] ?_ ?_<;>(try simp only[go_sem]))
 ·rw[if_neg hx];have Qg:r.name.1.is (⟨#[91]⟩:P0)=false:=by simpa using hx
  have d1:=(Rd.aH h0 (⟨#[61]⟩:P0)).inv h0;have d2:=(wP d1).inv d1;have d3:=(Rd.aH d2 (⟨#[59]⟩:P0)).inv d2;refine aO func159 ntmps159 ?_;refine S ?_
  (have W:=jA Rj (Qg);repeat' (first|refine aq fun K hK=>?_|refine am ?_|(refine hK _ _ ?_;clear hK K)|(refine ao ?_ ?_<;>intro hc<;>try exact jz)|refine cm (uR h) ?_|refine cm (sL r (bu h)) ?_|refine cm (fx r.name.1 _ (bu h0)) ?_|refine cm (gK r.name.1 _ (bu h0)) ?_|refine cm (FX d1) ?_|refine cm (gK (j2 (r.name.1.ar (⟨#[61]⟩:P0))).1 _ (bu d2)) ?_|refine cm (ju ((j2 (r.name.1.ar (⟨#[61]⟩:P0))).1.ar (⟨#[59]⟩:P0)) _ _ _ _ [(j2 (r.name.1.ar (⟨#[61]⟩:P0))).2] _ eV.sl (bu d3)) ?_|refine ap ?_|exact jI|(clear hK K)))
  (refine cj [.tmp 4] ?_ ?_<;>(try simp only[go_sem]))
def Pc(w:P0):aA prog 135 [rS w] (rI (qy w)):=by
 refine bI func135 ntmps135 ?_
 (repeat' (first|refine aq fun K hK=>?_|refine am ?_|(refine hK _ _ ?_;clear hK K)|(refine ao ?_ ?_<;>intro hc<;>try exact jz)|refine ap ?_|exact jI|(clear hK K)))
 all_goals(refine cj [.tmp 2] ?_ ?_<;>(try simp only[go_sem]))
 all_goals unfold qy
 all_goals repeat' split
 all_goals first|rfl|(exfalso;simp_all;done)
def Cx(h:r.Inv):af prog 89 [pR] (cc r) (fun v l=>v=rI (gG r).2/\l=cc (gG r).1):=by
 have WY:=h.lt;have XD:=h.pos;have Ui:=h.len;refine aO func89 ntmps89 ?_;refine S ?_
 (repeat' (first|refine aq fun K hK=>?_|refine am ?_|(refine hK _ _ ?_;clear hK K)|(refine ao ?_ ?_<;>intro hc<;>try exact jz)|refine cm (pU r (bu h)) ?_|refine cp (Pc r.word) ?_|refine cm (rj r _ (bu h)) ?_|refine ap ?_|exact jI|(clear hK K)))
 ·(refine cj [.tmp 2] ?_ ?_<;>(try simp only[go_sem]))
  ·simp only[gG,if_pos hc]
  ·simp only[gG,if_pos hc,go_sem]
 ·(refine cj [.tmp 2] ?_ ?_<;>(try simp only[go_sem]))
  ·simp only[gG,if_neg hc]
  ·simp only[gG,if_neg hc];rfl
def zB(n:Nat):Prop:=∀r:Rd,r.Inv->4*r.rem+1<=n->af prog 90 [pR] (cc r) (fun v l=>v=rI (fb n r).2/\l=cc (fb n r).1)
def Aa(n:Nat):Prop:=∀r:Rd,r.Inv->r.e=0->4*r.rem+2<=n->af prog 137 [pR] (cc r) (fun v l=>v=rI (my n r).2/\l=cc (my n r).1)
def MA(n:Nat)(hs:∀m,m<=n->Aa m):zB (n+1):=by
 intro r h hn;by_cases hx:r.is (⟨#[123]⟩:P0)=true
 ·have he:=(Rd.aV hx).1;have hd:=(Rd.bG h he).1;have s1:=Rd.aH hd (⟨#[123]⟩:P0);have h1:=s1.inv hd;have s2:=(qd n).2.1 _ [] h1;have h2:=s2.inv h1;have s3:=Rd.aH h2 (⟨#[125]⟩:P0);have h3:=s3.inv h2;have h4:=(Rd.eG h he ((s1.trans s2).trans s3)).inv h;have Zb:=h3.nr;have Zc:=h3.n7;have hr:=(Rd.fF h hx).1;have VY:r.rem<=2000:=by
   have:=h.pos;have:=h.len;unfold Rd.rem;split<;>omega
  rw[fb,if_pos hx];refine aO func90 ntmps90 ?_;refine S ?_
  (have W:=hx;repeat' (first|refine aq fun K hK=>?_|refine am ?_|(refine hK _ _ ?_;clear hK K)|(refine ao ?_ ?_<;>intro hc<;>try exact jz)|refine cm (fU r (bu h)) ?_|refine cm (fx r _ (bu h)) ?_|refine cm (ru r (bu h)) ?_|refine cm (gK r.down _ (bu hd)) ?_|refine ap ?_|exact jI|(clear hK K)))
  have M':=hK;clear hK;refine gj (cY.nil 2 5 3 (sz:=1) rfl jC (Or.inr ⟨_,_,_,rfl,rfl⟩)) ?_
  (refine S ?_;try exact jI)
  refine de (S:=Nat×Rd×PY) [(5,3),(21,14)] (fun s=>s.2.1.Inv/\4*s.2.1.rem+3<=s.1/\s.1<=n/\s.2.2.length+s.2.1.rem<=2000/\lp s.1 s.2.1 s.2.2=lp n (r.down.ar (⟨#[123]⟩:P0)) []) (fun s=>[(5,.rs 2 s.2.2.length 1 s.2.2.length)]) (fun s=>⟨[0,1],cc s.2.1++[(2,.aG 3 1 (s.2.2.map eI))]⟩) (fun s=>s.1) (n,r.down.ar (⟨#[123]⟩:P0),[]) ⟨h1,jJ,Nat.le_refl _,by(try simp only[List.length_nil]);omega,rfl⟩ (dc rfl bK) ?_;rintro⟨m,q,L⟩ ⟨hq,SU,Rh,Q2,hA⟩ Kr P9;simp only at hq SU Rh Q2 hA;have XB:=hq.lt;have WW:=hq.pos;have Vb:=hq.len;obtain⟨m,rfl⟩:∃k,m=k+1:=⟨m-1,jB⟩;rw[lp]at hA;by_cases Q6:q.e=0/\q.is (⟨#[125]⟩:P0)=false
  ·rw[if_pos Q6]at hA;obtain⟨SC,S0⟩:=Q6;obtain⟨t1,t2⟩:=(qd m).2.2 q hq SC jB;have hj:=t1.inv hq;refine S ?_
   (have W:=jA SC S0;repeat' (first|refine aq fun K hK=>?_|refine am ?_|(refine hK _ _ ?_;clear hK K)|(refine ao ?_ ?_<;>intro hc<;>try exact jz)|refine cm (fx q _ (bu hq)) ?_|refine cm (hs m jB q hq SC jB) ?_|refine ap ?_|exact jI|(clear hK K)))
   refine P9 _ _ (dI (m,(my m q).1,L++[(my m q).2]) ⟨hj,jJ,jJ,by(try simp only[List.length_append,List.length_cons,List.length_nil]);omega,hA⟩ jJ (by simp only[go_sem,cc,gi,List.map_append,List.map_cons,List.map_nil,List.cons_append,List.nil_append];(try rfl)) bK)
  ·rw[if_neg Q6]at hA;have e1:q=(lp n (r.down.ar (⟨#[123]⟩:P0)) []).1:=by rw[<-hA]
   have e2:L=(lp n (r.down.ar (⟨#[123]⟩:P0)) []).2:=by rw[<-hA]
   rw[<-e1]at h3 h4 Zb Zc;refine S ?_
   (repeat' (first|refine aq fun K hK=>?_|refine am ?_|(refine hK _ _ ?_;clear hK K)|(refine ao ?_ ?_<;>intro hc<;>try exact jz)|refine cm (fx q _ (bu hq)) ?_|refine ap ?_|exact jI|(clear hK K)))
   all_goals first|(exact absurd ⟨by assumption,by assumption⟩ Q6)|skip
   all_goals refine M' _ _ ?_
   all_goals refine Ha [2] 5 (ax eI 1 L) Sd Sd gJ ?_
   all_goals(
    refine S ?_
    (repeat' (first|refine aq fun K hK=>?_|refine am ?_|(refine hK _ _ ?_;clear hK K)|(refine ao ?_ ?_<;>intro hc<;>try exact jz)|refine cm (gK q _ (bu hq)) ?_|refine cm (vQ (q.ar (⟨#[125]⟩:P0)).up _ _ _ _ L (bu h4)) ?_|refine ap ?_|exact jI|(clear hK K)))
    (refine cj [.tmp 2] ?_ ?_<;>(try simp only[go_sem]))
    all_goals simp only[<-e1,<-e2])
 ·rw[fb,if_neg hx];have Qg:r.is (⟨#[123]⟩:P0)=false:=by simpa using hx
  refine aO func90 ntmps90 ?_;refine S ?_
  (have W:=Qg;repeat' (first|refine aq fun K hK=>?_|refine am ?_|(refine hK _ _ ?_;clear hK K)|(refine ao ?_ ?_<;>intro hc<;>try exact jz)|refine cm (fU r (bu h)) ?_|refine cm (fx r _ (bu h)) ?_|refine cm (rj r _ (bu h)) ?_|refine ap ?_|exact jI|(clear hK K)))
  (refine cj [.tmp 2] ?_ ?_<;>(try simp only[go_sem]))
def N0(n:Nat)(hb:zB n):Aa (n+1):=by
 intro r h he hn;have WY:=h.lt;have XD:=h.pos;have Ui:=h.len;have word:∀w:P0,w≠⟨#[]⟩->r.word=w->r.inc.Inv/\r.inc.rem+1<=r.rem:=fun w h0 hw=>by have hk:=Rd.du (Rd.fC hw h0) jC;exact⟨(Rd.bm h hk.2).1.inv h,Rd.cK h hk⟩
 rw[my];by_cases w1:r.word=(⟨#[108,101,116]⟩:P0)
 ·rw[if_pos w1];have w1':=eq_true w1;obtain⟨hi,hr⟩:=word _ jC w1;have h1:=(Rd.cX hi).inv hi;have h2:=(Rd.aH h1 (⟨#[61]⟩:P0)).inv h1;have h3:=(wP h2).inv h2;have h4:=(Rd.aH h3 (⟨#[59]⟩:P0)).inv h3;refine aO func137 ntmps137 ?_;refine S ?_
  (have W:=w1';repeat' (first|refine aq fun K hK=>?_|refine am ?_|(refine hK _ _ ?_;clear hK K)|(refine ao ?_ ?_<;>intro hc<;>try exact jz)|refine cm (fU r (bu h)) ?_|refine cm (pU r (bu h)) ?_|refine cm (sL r.inc (bu hi)) ?_|refine cm (gK r.inc.name.1 _ (bu h1)) ?_|refine cm (FX h2) ?_|refine cm (gK (j2 (r.inc.name.1.ar (⟨#[61]⟩:P0))).1 _ (bu h3)) ?_|refine cm (ju ((j2 (r.inc.name.1.ar (⟨#[61]⟩:P0))).1.ar (⟨#[59]⟩:P0)) _ _ _ _ [(j2 (r.inc.name.1.ar (⟨#[61]⟩:P0))).2] _ eV.sl (bu h4)) ?_|refine ap ?_|exact jI|(clear hK K)))
  (refine cj [.tmp 2] ?_ ?_<;>(try simp only[go_sem]))
 rw[if_neg w1];by_cases w2:r.word=(⟨#[112,114,105,110,116]⟩:P0)
 ·rw[if_pos w2];have w2':=eq_true w2;obtain⟨hi,hr⟩:=word _ jC w2;have h1:=(ix hi).inv hi;have h2:=(Rd.aH h1 (⟨#[59]⟩:P0)).inv h1;refine aO func137 ntmps137 ?_;refine S ?_
  (have W:=jA w1 (w2');repeat' (first|refine aq fun K hK=>?_|refine am ?_|(refine hK _ _ ?_;clear hK K)|(refine ao ?_ ?_<;>intro hc<;>try exact jz)|refine cm (fU r (bu h)) ?_|refine cm (pU r (bu h)) ?_|refine cm (od hi) ?_|refine cm (gK (cJ r.inc).1 _ (bu h1)) ?_|refine cm (ju ((cJ r.inc).1.ar (⟨#[59]⟩:P0)) _ _ _ _ [(cJ r.inc).2] _ eV.sl (bu h2)) ?_|refine ap ?_|exact jI|(clear hK K)))
  (refine cj [.tmp 2] ?_ ?_<;>(try simp only[go_sem]))
 rw[if_neg w2];by_cases w3:r.word=(⟨#[119,104,105,108,101]⟩:P0)
 ·rw[if_pos w3];have w3':=eq_true w3;obtain⟨hi,hr⟩:=word _ jC w3;have h1:=(ix hi).inv hi;have Tk:=(ix hi).rem;have h2:=((qd n).1 _ h1).inv h1;refine aO func137 ntmps137 ?_;refine S ?_
  (have W:=jA w1 (jA w2 (w3'));repeat' (first|refine aq fun K hK=>?_|refine am ?_|(refine hK _ _ ?_;clear hK K)|(refine ao ?_ ?_<;>intro hc<;>try exact jz)|refine cm (fU r (bu h)) ?_|refine cm (pU r (bu h)) ?_|refine cm (od hi) ?_|refine cm (hb _ h1 jB) ?_|refine cm (ju (fb n (cJ r.inc).1).1 _ _ _ _ [(cJ r.inc).2,(fb n (cJ r.inc).1).2] _ eV.sl (bu h2)) ?_|refine ap ?_|exact jI|(clear hK K)))
  (refine cj [.tmp 2] ?_ ?_<;>(try simp only[go_sem]))
 rw[if_neg w3];by_cases w4:r.word=(⟨#[105,102]⟩:P0)
 ·rw[if_pos w4];have w4':=eq_true w4;obtain⟨hi,hr⟩:=word _ jC w4;have h1:=(ix hi).inv hi;have Tk:=(ix hi).rem;have s2:=(qd n).1 _ h1;have h2:=s2.inv h1;have Yt:=s2.rem;have h2i:=h2.lt;have h2p:=h2.pos;have h2l:=h2.len;by_cases hx:(fb n (cJ r.inc).1).1.is (⟨#[101,108,115,101]⟩:P0)=true
  ·rw[if_pos hx];have hk:=Rd.aV hx;have h3:=(Rd.bm h2 hk.2).1.inv h2;have hr3:=Rd.cK h2 hk;have h4:=((qd n).1 _ h3).inv h3;refine aO func137 ntmps137 ?_;refine S ?_
   (have W:=jA w1 (jA w2 (jA w3 (jA w4' (hx))));repeat' (first|refine Fz (id:=31) [2] [(13,135)] [(12,ax eI 1 [(cJ r.inc).2,(fb n (cJ r.inc).1).2,(fb n (fb n (cJ r.inc).1).1.inc).2])] ?_|refine aq fun K hK=>?_|refine am ?_|(refine hK _ _ ?_;clear hK K)|(refine ao ?_ ?_<;>intro hc<;>try exact jz)|refine cm (fU r (bu h)) ?_|refine cm (pU r (bu h)) ?_|refine cm (od hi) ?_|refine cm (hb _ h1 jB) ?_|refine cm (fx (fb n (cJ r.inc).1).1 _ (bu h2)) ?_|refine cm (hb _ h3 jB) ?_|refine cm (vQ (fb n (fb n (cJ r.inc).1).1.inc).1 _ _ _ _ [(cJ r.inc).2,(fb n (cJ r.inc).1).2,(fb n (fb n (cJ r.inc).1).1.inc).2] (bu h4)) ?_|refine ap ?_|exact jI|(clear hK K)))
   (refine cj [.tmp 2] ?_ ?_<;>(try simp only[go_sem]))
  ·rw[if_neg hx];have Qg:(fb n (cJ r.inc).1).1.is (⟨#[101,108,115,101]⟩:P0)=false:=by simpa using hx
   refine aO func137 ntmps137 ?_;refine S ?_
   (have W:=jA w1 (jA w2 (jA w3 (jA w4' (Qg))));repeat' (first|refine aq fun K hK=>?_|refine am ?_|(refine hK _ _ ?_;clear hK K)|(refine ao ?_ ?_<;>intro hc<;>try exact jz)|refine cm (fU r (bu h)) ?_|refine cm (pU r (bu h)) ?_|refine cm (od hi) ?_|refine cm (hb _ h1 jB) ?_|refine cm (fx (fb n (cJ r.inc).1).1 _ (bu h2)) ?_|refine cm (ju (fb n (cJ r.inc).1).1 _ _ _ _ [(cJ r.inc).2,(fb n (cJ r.inc).1).2] _ eV.sl (bu h2)) ?_|refine ap ?_|exact jI|(clear hK K)))
   (refine cj [.tmp 2] ?_ ?_<;>(try simp only[go_sem]))
 rw[if_neg w4];by_cases w5:r.word=(⟨#[114,101,116,117,114,110]⟩:P0)
 ·rw[if_pos w5];have w5':=eq_true w5;obtain⟨hi,hr⟩:=word _ jC w5;by_cases hx:r.inc.is (⟨#[59]⟩:P0)=true
  ·rw[if_pos hx];have h1:=(Rd.aH hi (⟨#[59]⟩:P0)).inv hi;refine aO func137 ntmps137 ?_;refine S ?_
   (have W:=jA w1 (jA w2 (jA w3 (jA w4 (jA w5' (hx)))));repeat' (first|refine aq fun K hK=>?_|refine am ?_|(refine hK _ _ ?_;clear hK K)|(refine ao ?_ ?_<;>intro hc<;>try exact jz)|refine cm (fU r (bu h)) ?_|refine cm (pU r (bu h)) ?_|refine cm (fx r.inc _ (bu hi)) ?_|refine cm (gK r.inc _ (bu hi)) ?_|refine cm (ju (r.inc.ar (⟨#[59]⟩:P0)) _ _ _ _ [] _ eV.sl (bu h1)) ?_|refine ap ?_|exact jI|(clear hK K)))
   (refine cj [.tmp 2] ?_ ?_<;>(try simp only[go_sem]))
  ·rw[if_neg hx];have Qg:r.inc.is (⟨#[59]⟩:P0)=false:=by simpa using hx
   have h1:=(ix hi).inv hi;have h2:=(Rd.aH h1 (⟨#[59]⟩:P0)).inv h1;refine aO func137 ntmps137 ?_;refine S ?_
   (have W:=jA w1 (jA w2 (jA w3 (jA w4 (jA w5' (Qg)))));repeat' (first|refine Fz (id:=40) [2] [(16,132)] [(15,ax eI 1 [(cJ r.inc).2])] ?_|refine aq fun K hK=>?_|refine am ?_|(refine hK _ _ ?_;clear hK K)|(refine ao ?_ ?_<;>intro hc<;>try exact jz)|refine cm (fU r (bu h)) ?_|refine cm (pU r (bu h)) ?_|refine cm (fx r.inc _ (bu hi)) ?_|refine cm (od hi) ?_|refine cm (gK (cJ r.inc).1 _ (bu h1)) ?_|refine cm (vQ ((cJ r.inc).1.ar (⟨#[59]⟩:P0)) _ _ _ _ [(cJ r.inc).2] (bu h2)) ?_|refine ap ?_|exact jI|(clear hK K)))
   (refine cj [.tmp 2] ?_ ?_<;>(try simp only[go_sem]))
 rw[if_neg w5];refine aO func137 ntmps137 ?_;refine S ?_
 (have W:=jA w1 (jA w2 (jA w3 (jA w4 (w5))));repeat' (first|refine aq fun K hK=>?_|refine am ?_|(refine hK _ _ ?_;clear hK K)|(refine ao ?_ ?_<;>intro hc<;>try exact jz)|refine cm (fU r (bu h)) ?_|refine cm (pU r (bu h)) ?_|refine cm (Pq h he r.cv) ?_|refine ap ?_|exact jI|(clear hK K)))
 (refine cj [.tmp 2] ?_ ?_<;>(try simp only[go_sem]))
theorem CM:∀m n,n<=m->zB n/\Aa n
 |0,0,_=>⟨fun r h hn=>by omega,fun r h he hn=>by omega⟩
 |m+1,0,_=>⟨fun r h hn=>jB,fun r h he hn=>jB⟩
 |m+1,n+1,hm=>by
  have ih:=fun k (hk:k<=n)=>CM m k jB
  exact⟨MA n fun k hk=>(ih k hk).2,N0 n (ih n jl).1⟩
def G3(h:r.Inv):af prog 90 [pR] (cc r) (fun v l=>v=rI (mU r).2/\l=cc (mU r).1):=(CM _ _ jl).1 r h jB
def NR(h:r.Inv):af prog 54 [pR] (cc r) (fun v l=>v=.agg (eZ (lx r).2)/\l=cc (lx r).1):=by
 have h1:=(oC h).1.inv h;have h2:=(oC h).2.1.inv h;have h3:=(oC h).2.2.1.inv h;have h4:=(Bo h).inv h1;have h5:=(ws h).inv h1;have h6:=(wo h).inv h1;have h7:=(A0 h6).inv h6;have VY:(lP r).rem<=2000:=by have:=h3.pos;have:=h3.len;unfold Rd.rem;split<;>omega
 have hm:af prog 86 [pR,rS (⟨#[40]⟩:P0)] (cc (r.ar (⟨#[102,110]⟩:P0)).name.1) (fun v l=>v=.bt []/\l=cc (lP r)):=gK (r.ar (⟨#[102,110]⟩:P0)).name.1 _ (bu h2);refine aO func54 ntmps54 ?_;refine S ?_
 (repeat' (first|refine aq fun K hK=>?_|refine am ?_|(refine hK _ _ ?_;clear hK K)|(refine ao ?_ ?_<;>intro hc<;>try exact jz)|refine cm (fU r (bu h)) ?_|refine cm (hm) ?_|refine cm (gK r _ (bu h)) ?_|refine cm (sL (r.ar (⟨#[102,110]⟩:P0)) (bu h1)) ?_|refine cm (fx (lP r) _ (bu h3)) ?_|refine ap ?_|exact jI|(clear hK K)))
 have M':=hK;clear hK;refine gj (cY.fL 4 3 2 175 2 rfl jC rfl rfl) ?_
 (refine S ?_;try exact jI)
 refine de (S:=Nat×Bool×Rd×List bM) [(5,3),(30,23)] (fun s=>s.2.2.1.Inv/\(s.2.1=true->s.2.2.1.rem+2<=s.1)/\1<=s.1/\s.2.2.2.length+s.1<=5000/\lh s.1 s.2.1 s.2.2.1 s.2.2.2=qn r) (fun s=>[(5,rB s.2.1)]) (fun s=>⟨[0,1],cc s.2.2.1++[(2,.var 132 [rS ⟨#[]⟩,rI 0,.raw (.slice none 0 0),rI 0,rI 0]),(3,.var 132 [rS (r.ar (⟨#[102,110]⟩:P0)).name.2,rI r.cv,.rs 4 s.2.2.2.length 2 s.2.2.2.length,rI 0,rI 0]),(4,.aG 175 2 (s.2.2.2.map la))]⟩) (fun s=>s.1) ((lP r).rem+2,more (lP r),lP r,[]) ⟨h3,fun _=>Nat.le_refl _,jJ,by(try simp only[List.length_nil]);omega,rfl⟩ (dc rfl (by simp only[go_sem,gU,Nat.reduceAdd,AV.raw.injEq,Value.int.injEq,Value.slice.injEq,Value.pointer.injEq,AV.rs.injEq,more,List.length_nil];try omega)) ?_;rintro⟨n,b,q,L⟩ ⟨hq,Rw,S3,XA,hA⟩ Kr P9;simp only at hq Rw S3 XA hA;have XB:=hq.lt;have WW:=hq.pos;have Vb:=hq.len;obtain⟨n,rfl⟩:∃k,n=k+1:=⟨n-1,jB⟩;cases b with
 |false=>
  rw[lh]at hA;have e1:q=(qn r).1:=by rw[<-hA]
  have e2:L=(qn r).2:=by rw[<-hA]
  have Yu:af prog 86 [pR,rS (⟨#[41]⟩:P0)] (cc q) (fun v l=>v=.bt []/\l=cc (j9 r)):=by rw[e1];exact gK (qn r).1 _ (bu h4)
  by_cases hx:(j9 r).is (⟨#[123]⟩:P0)=true
  ·have ed:kT r=(j9 r,0):=by unfold kT;rw[if_pos hx]
   have ef:lx r=((mU (j9 r)).1,⟨(r.ar (⟨#[102,110]⟩:P0)).name.2,r.cv,L,0,(mU (j9 r)).2⟩):=by unfold lx;rw[ed,<-e2]
   rw[ef]at M';refine S ?_
   (have W:=hx;repeat' (first|refine aq fun K hK=>?_|refine am ?_|(refine hK _ _ ?_;clear hK K)|(refine ao ?_ ?_<;>intro hc<;>try exact jz)|refine M' _ _ ?_|refine cm (Yu) ?_|refine cm (fx (j9 r) _ (bu h5)) ?_|refine cm (G3 h5) ?_|refine ap ?_|exact jI|(clear hK K)))
   refine jf [.cell 2 132] ?_;refine bc.agg (ds:=[rS _,rI _,ax la 2 L,rI _,rI _]) ?_;exact jA (.same _ rfl) (jA (.same _ rfl) (jA (db.row (enc:=la) L rfl rfl jE) (jA (.same _ rfl) (jA (.same _ rfl) trivial))))
  ·have Qg:(j9 r).is (⟨#[123]⟩:P0)=false:=by simpa using hx
   have ed:kT r=gG (j9 r):=by unfold kT;rw[if_neg hx]
   rw[ed]at h6;have ef:lx r=((mU (gG (j9 r)).1).1,⟨(r.ar (⟨#[102,110]⟩:P0)).name.2,r.cv,L,(gG (j9 r)).2,(mU (gG (j9 r)).1).2⟩):=by unfold lx;rw[ed,<-e2]
   rw[ef]at M';refine S ?_
   (have W:=Qg;repeat' (first|refine aq fun K hK=>?_|refine am ?_|(refine hK _ _ ?_;clear hK K)|(refine ao ?_ ?_<;>intro hc<;>try exact jz)|refine M' _ _ ?_|refine cm (Yu) ?_|refine cm (fx (j9 r) _ (bu h5)) ?_|refine cm (Cx h5) ?_|refine cm (G3 h6) ?_|refine ap ?_|exact jI|(clear hK K)))
   refine jf [.cell 2 132] ?_;refine bc.agg (ds:=[rS _,rI _,ax la 2 L,rI _,rI _]) ?_;exact jA (.same _ rfl) (jA (.same _ rfl) (jA (db.row (enc:=la) L rfl rfl jE) (jA (.same _ rfl) (jA (.same _ rfl) trivial))))
 |true=>
  have s1:=CV hq;have hx:=s1.inv hq;have Tk:=s1.rem;have Y9:=hx.lt;have Za:=hx.pos;have Ug:=hx.len;have Rw:=Rw rfl;have TI:=(Rd.cX hq).inv hq;have Sy:af prog 89 [pR] (cc q.name.1) (fun v l=>v=rI (gG q.name.1).2/\l=cc (nW q)):=Cx TI;rw[lh]at hA;refine S ?_
  (repeat' (first|refine aq fun K hK=>?_|refine am ?_|(refine hK _ _ ?_;clear hK K)|(refine ao ?_ ?_<;>intro hc<;>try exact jz)|refine cm (sL q (bu hq)) ?_|refine cm (Sy) ?_|refine cm (fx (nW q) _ (bu hx)) ?_|refine ap ?_|exact jI|(clear hK K)))
  ·rw[if_pos hc]at hA;have hk:=Rd.aV hc;have Yt:=Rd.cK hx hk;refine P9 _ _ (dI (n,true,(nW q).inc,L++[⟨q.name.2,(gG q.name.1).2⟩]) ⟨(Rd.bm hx hk.2).1.inv hx,fun _=>jJ,jJ,by(try simp only[List.length_append,List.length_cons,List.length_nil]);omega,hA⟩ jJ (by simp only[go_sem,cc,gi,List.map_append,List.map_cons,List.map_nil,List.cons_append,List.nil_append,List.length_append,List.length_cons,List.length_nil,Nat.reduceAdd];(try rfl)) (by simp only[go_sem,gU,Nat.reduceAdd,AV.raw.injEq,Value.int.injEq,Value.slice.injEq,Value.pointer.injEq,AV.rs.injEq,hc,List.length_append,List.length_cons,List.length_nil];try omega))
  ·rw[if_neg (by rw[hc];decide)]at hA;refine P9 _ _ (dI (n,false,nW q,L++[⟨q.name.2,(gG q.name.1).2⟩]) ⟨hx,(by intro h;cases h),jJ,by(try simp only[List.length_append,List.length_cons,List.length_nil]);omega,?_⟩ jJ (by simp only[go_sem,cc,gi,List.map_append,List.map_cons,List.map_nil,List.cons_append,List.nil_append,List.length_append,List.length_cons,List.length_nil,Nat.reduceAdd];(try rfl)) (by simp only[go_sem,gU,Nat.reduceAdd,AV.raw.injEq,Value.int.injEq,Value.slice.injEq,Value.pointer.injEq,AV.rs.injEq,hc,List.length_append,List.length_cons,List.length_nil];try omega));rw[<-hA];obtain⟨n,rfl⟩:∃k,n=k+1:=⟨n-1,jB⟩;rw[lh]
variable{k:Nat}
def Ng{α:Type}[Inhabited α](p:α->Bool)(l:List α)(h:k<l.length):(l.take (k+1)).any p=((l.take k).any p || p (nth l k)):=by rw[List.take_succ_eq_append_getElem h,List.any_append,gD h];simp
def qH(t:List bl)(L:List bg)(k:Nat):Bool:=decide (300<(t.length:Int)) || decide (6<(L.length:Int)) || (L.take k).any fun f=>decide (3<(f.params.length:Int))
def LV(t:List bl)(L:List bg)(h:k<L.length):qH t L (k+1)=(qH t L k || decide (3<((nth L k).params.length:Int))):=by unfold qH;rw[Ng _ _ h];simp only[Bool.or_assoc]
def ON(t:List bl)(L:List bg)(h:L.length<=k):qH t L k=rT t L:=by
 unfold qH rT;rw[List.take_of_length_le h];have e1:∀n:Nat,decide (300<(n:Int))=decide (300<n):=fun n=>decide_eq_decide.2 jB
 have e2:∀n:Nat,decide (6<(n:Int))=decide (6<n):=fun n=>decide_eq_decide.2 jB
 have e3:∀n:Nat,decide (3<(n:Int))=decide (3<n):=fun n=>decide_eq_decide.2 jB
 simp only[e1,e2,e3]
def Pj(s:P0)(hs:s.size<=1000000):aA prog 29 [rS s] (.bt [.agg (jX (fO s).1),rI (fO s).2.1,rI (fO s).2.2]):=by
 by_cases he:(jg s).2.2=0
 ·have hi:=CI he;have VY:(mD s).rem<=2000:=by
   have:=hi.pos;have:=hi.len;unfold Rd.rem;split<;>omega
  refine bI func29 ntmps29 ?_
  (have W:=he;repeat' (first|refine aq fun K hK=>?_|refine am ?_|(with_reducible refine gR 12 ?_);refine dA 12 [10] (au 0 12) mixed ?_|(refine hK _ _ ?_;clear hK K)|(refine ao ?_ ?_<;>intro hc<;>try exact jz)|refine cp (C5 s hs) ?_|(refine vS (t:=27) 10 (by simp only[go_sem];rfl) rfl ?_;refine S ?_)|(refine wN 0 jD rfl ?_;refine S ?_)|refine ap ?_|exact jI|(clear hK K)))
  have M':=hK;clear hK;refine gj (cY.fL 1 0 3 78 5 rfl jC rfl rfl) ?_
  (refine S ?_;try exact jI)
  refine gj (cY.fL 12 11 1 132 5 rfl jC rfl rfl) ?_
  (refine S ?_;try exact jI)
  refine de (S:=Nat×Rd×List bg) [(10,2),(30,16)] (fun p=>p.2.1.Inv/\p.2.1.rem+1<=p.1/\p.2.2.length+p.1<=5000/\oh p.1 p.2.1 p.2.2=lY s) (fun _=>[]) (fun p=>⟨[],[(10,.var 27 [.raw (.slice none 0 0),.raw (.slice none 0 0)]),(0,.var 128 (gi p.2.1)),(11,.var 27 [.raw (.slice none 0 0),.rs 12 p.2.2.length 5 p.2.2.length]),(1,.aG 78 5 (p.2.1.nodes.map bX)),(12,.aG 132 5 (p.2.2.map eZ))]⟩) (fun p=>p.1) ((mD s).rem+1,mD s,[]) ⟨hi,Nat.le_refl _,by(try simp only[List.length_nil]);omega,rfl⟩ (dc rfl bK) ?_;rintro⟨n,q,L⟩ ⟨hq,Rw,S3,hA⟩ Kr P9;simp only at hq Rw S3 hA;have XB:=hq.lt;have WW:=hq.pos;have Vb:=hq.len;obtain⟨n,rfl⟩:∃k,n=k+1:=⟨n-1,jB⟩;rw[oh]at hA;by_cases Q6:q.e=0/\q.kind 0=false
  ·rw[if_pos Q6]at hA;obtain⟨SC,S0⟩:=Q6;obtain⟨t1,t2⟩:=GQ hq;have t2:=t2 SC;have hj:=t1.inv hq;refine S ?_
   (have W:=jA SC S0;repeat' (first|refine aq fun K hK=>?_|refine am ?_|(with_reducible refine gR 12 ?_);refine dA 12 [10] (au 0 12) mixed ?_|(refine hK _ _ ?_;clear hK K)|(refine ao ?_ ?_<;>intro hc<;>try exact jz)|refine cm (uL q _ (bu hq)) ?_|refine cm (NR hq) ?_|refine ap ?_|exact jI|(clear hK K)))
   refine P9 _ _ (oP [13] (n,(lx q).1,L++[(lx q).2]) ⟨hj,jJ,by(try simp only[List.length_append,List.length_cons,List.length_nil]);omega,hA⟩ jJ rfl Sd (by simp only[go_sem,gi,List.map_append,List.map_cons,List.map_nil,List.length_append,List.length_cons,List.length_nil,Nat.reduceAdd];(try rfl)) gJ)
  ·rw[if_neg Q6]at hA;have e1:q=(lY s).1:=by rw[<-hA]
   have e2:L=(lY s).2:=by rw[<-hA]
   refine S ?_
   (repeat' (first|refine aq fun K hK=>?_|refine am ?_|(with_reducible refine gR 12 ?_);refine dA 12 [10] (au 0 12) mixed ?_|(refine hK _ _ ?_;clear hK K)|(refine ao ?_ ?_<;>intro hc<;>try exact jz)|refine cm (uL q _ (bu hq)) ?_|refine ap ?_|exact jI|(clear hK K)))
   all_goals first|(exact absurd ⟨by assumption,by assumption⟩ Q6)|skip
   ·have SC:q.e=0:=by assumption
    have VK:¬(lY s).1.e≠0:=by rw[<-e1];simp[SC]
    refine M' _ _ ?_;clear M'
    (have W:=SC;repeat' (first|refine aq fun K hK=>?_|refine am ?_|(with_reducible refine gR 12 ?_);refine dA 12 [10] (au 0 12) mixed ?_|(refine hK _ _ ?_;clear hK K)|(refine ao ?_ ?_<;>intro hc<;>try exact jz)|refine ap ?_|exact jI|(clear hK K)))
    have M':=hK;clear hK;refine de (S:=Nat) [(12,2),(75,18)] (fun k=>k<=L.length) (fun k=>[(12,rB (qH q.nodes L k)),(13,rI k)]) (fun _=>⟨[],[(10,.var 27 [.raw (.slice none 0 0),.raw (.slice none 0 0)]),(0,.var 128 (gi q)),(11,.var 27 [.rs 1 q.nodes.length 5 q.nodes.length,.rs 12 L.length 5 L.length]),(1,.aG 78 5 (q.nodes.map bX)),(12,.aG 132 5 (L.map eZ))]⟩) (fun k=>L.length-k) 0 (Nat.zero_le _) (dc (by simp only[gi,SC]) (by simp only[go_sem,gU,Nat.reduceAdd,AV.raw.injEq,Value.int.injEq,Value.slice.injEq,Value.pointer.injEq,AV.rs.injEq,qH,List.take_zero,List.any_nil,Bool.or_false];try omega)) ?_;intro k hk Kr P9;refine S ?_
    (repeat' (first|refine aq fun K hK=>?_|refine am ?_|(with_reducible refine gR 12 ?_);refine dA 12 [10] (au 0 12) mixed ?_|(refine hK _ _ ?_;clear hK K)|(refine ao ?_ ?_<;>intro hc<;>try exact jz)|refine ap ?_|exact jI|(clear hK K)))
    ·have Rc:k<L.length:=jB;refine P9 _ _ (dI (k+1) jJ jJ (by simp only[gi,SC]) (by simp only[go_sem,gU,Nat.reduceAdd,AV.raw.injEq,Value.int.injEq,Value.slice.injEq,Value.pointer.injEq,AV.rs.injEq,LV _ _ Rc];try omega))
    ·have Yv:qH q.nodes L k=rT q.nodes L:=ON _ _ jB;by_cases Sp:rT q.nodes L=true
     ·have ep:fO s=(⟨[],[]⟩,0,4):=by unfold fO;rw[if_neg (by simp[he]),if_neg VK,<-e1,<-e2,if_pos Sp]
      rw[ep]at M';refine M' _ _ ?_
      (have W:=jA Yv Sp;repeat' (first|refine aq fun K hK=>?_|refine am ?_|(with_reducible refine gR 12 ?_);refine dA 12 [10] (au 0 12) mixed ?_|(refine hK _ _ ?_;clear hK K)|(refine ao ?_ ?_<;>intro hc<;>try exact jz)|refine ap ?_|exact jI|(clear hK K)))
      refine jf [.cell 2 27,.tmp 3,.tmp 4] ?_;refine bc.bt (ds:=[.agg (jX ⟨[],[]⟩),rI _,rI _]) ?_;exact jA (bc.agg (ds:=[ax bX 5 [],ax eZ 5 []]) (jA (db.nil _ _) (jA (db.nil _ _) trivial))) (jA (.same _ rfl) (jA (.same _ rfl) trivial))
     ·have XE:rT q.nodes L=false:=by simpa using Sp
      have ep:fO s=(⟨q.nodes,L⟩,0,0):=by unfold fO;rw[if_neg (by simp[he]),if_neg VK,<-e1,<-e2,if_neg Sp]
      rw[ep]at M';refine M' _ _ ?_
      (have W:=jA Yv XE;repeat' (first|refine aq fun K hK=>?_|refine am ?_|(with_reducible refine gR 12 ?_);refine dA 12 [10] (au 0 12) mixed ?_|(refine hK _ _ ?_;clear hK K)|(refine ao ?_ ?_<;>intro hc<;>try exact jz)|refine ap ?_|exact jI|(clear hK K)))
      refine jf [.cell 2 27,.tmp 3,.tmp 4] ?_;refine bc.bt (ds:=[.agg (jX ⟨q.nodes,L⟩),rI _,rI _]) ?_;exact jA (bc.agg (ds:=[ax bX 5 q.nodes,ax eZ 5 L]) (jA (db.row (enc:=bX) q.nodes rfl rfl jE) (jA (db.row (enc:=eZ) L rfl rfl jE) trivial))) (jA (.same _ rfl) (jA (.same _ rfl) trivial))
   ·have SC:¬q.e=0:=by assumption
    have ep:fO s=(⟨[],[]⟩,q.at_,q.e):=by unfold fO;rw[if_neg (by simp[he]),<-e1,if_pos SC]
    rw[ep]at M';refine M' _ _ ?_
    (have W:=SC;repeat' (first|refine aq fun K hK=>?_|refine am ?_|(with_reducible refine gR 12 ?_);refine dA 12 [10] (au 0 12) mixed ?_|(refine hK _ _ ?_;clear hK K)|(refine ao ?_ ?_<;>intro hc<;>try exact jz)|refine ap ?_|exact jI|(clear hK K)))
    refine jf [.cell 2 27,.tmp 3,.tmp 4] ?_;refine bc.bt (ds:=[.agg (jX ⟨[],[]⟩),rI _,rI _]) ?_;exact jA (bc.agg (ds:=[ax bX 5 [],ax eZ 5 []]) (jA (db.nil _ _) (jA (db.nil _ _) trivial))) (jA (.same _ rfl) (jA (.same _ rfl) trivial))
 ·have ep:fO s=(⟨[],[]⟩,(jg s).2.1,(jg s).2.2):=by unfold fO;rw[if_pos he]
  rw[ep];refine bI func29 ntmps29 ?_
  (have W:=he;repeat' (first|refine aq fun K hK=>?_|refine am ?_|(with_reducible refine gR 12 ?_);refine dA 12 [10] (au 0 12) mixed ?_|(refine hK _ _ ?_;clear hK K)|(refine ao ?_ ?_<;>intro hc<;>try exact jz)|refine cp (C5 s hs) ?_|refine ap ?_|exact jI|(clear hK K)))
  refine jf [.cell 2 27,.tmp 3,.tmp 4] ?_;refine bc.bt (ds:=[.agg (jX ⟨[],[]⟩),rI _,rI _]) ?_;exact jA (bc.agg (ds:=[ax bX 5 [],ax eZ 5 []]) (jA (db.nil _ _) (jA (db.nil _ _) trivial))) (jA (.same _ rfl) (jA (.same _ rfl) trivial))
def sA(c:Ck):PW:=[ax bX 5 c.aa.nodes,ax eZ 5 c.aa.av,.rs 1 c.types.length 1 c.types.length,.rs 2 c.ab.length 1 c.ab.length,.rs 3 c.av.length 1 c.av.length,.rs 4 c.aL.length 1 c.aL.length,rI c.fn,.rs 5 (c.vars.length+c.more.length) 3 c.vars.length,rI c.size,rI c.e,rI c.at_]
def eN(c:Ck):PV:=[(0,.var 137 (sA c)),(1,.aG 3 1 (c.types.map eI)),(2,.aG 3 1 (c.ab.map eI)),(3,.aG 3 1 (c.av.map eI)),(4,.aG 3 1 (c.aL.map eI)),(5,.aG 179 3 ((c.vars++c.more).map jQ))]
attribute [go_sem] eN sA Ck.slot Ck.note Ck.aj
structure bD(c:Ck):Prop where
 aa:aX c.aa
 types:c.types.length=c.aa.nodes.length
 ab:c.ab.length=c.aa.nodes.length
 av:c.av.length=c.aa.nodes.length
 aL:c.aL.length<=6
 tj:0<=c.fn
 sa:c.fn<c.aa.av.length
 vars:(c.vars.length:Int)<=c.size
 size:c.size<=25
 room:c.e=0->c.size<=24
theorem wE{α:Type}(f:α->P0)(nm:P0):∀(l:List α) (i:Int),0<=i->(gP f nm l i=-1/\∀v∈l,f v≠nm)\/(i<=gP f nm l i/\gP f nm l i<i+l.length)
 |[],i,_=>.inl ⟨rfl,fun v hv=>by simp at hv⟩
 |v::l,i,hi=>by
  unfold gP;by_cases h:f v=nm
  ·rw[if_pos h];exact .inr jF
  ·rw[if_neg h];rcases wE f nm l (i+1) jB with⟨h1,h2⟩|h1
   ·exact .inl ⟨h1,fun u hu=>by
     rcases List.mem_cons.1 hu with rfl|hu
     ·exact h
     ·exact h2 u hu⟩
   ·exact .inr jF
def jh{α:Type}[Inhabited α]{l:List α}{i:Nat}(h:i<l.length):l.drop i=nth l i::l.drop (i+1):=by rw[gD h];exact List.drop_eq_getElem_cons h
def qM(c:Ck)(e a:Int):af prog 91 [pR,rI e,rI a] (eN c) (fun v l=>v=.bt []/\l=eN (c.aD e a)):=by
 refine aO func91 ntmps91 ?_;refine S ?_
 (repeat' (first|refine aq fun K hK=>?_|refine am ?_|(refine hK _ _ ?_;clear hK K)|(refine ao ?_ ?_<;>intro hc<;>try exact jz)|refine ap ?_|exact jI|(clear hK K)))
 ·(refine cj [] ?_ ?_<;>(try simp only[go_sem]))
  simp only[Ck.aD,if_pos hc,eN,sA]
 ·(refine cj [] ?_ ?_<;>(try simp only[go_sem]))
  simp only[Ck.aD,if_neg hc,eN,sA]
def zk(c:Ck)(nm:P0)(h:bD c):af prog 92 [pR,rS nm] (eN c) (fun v l=>v=rI (c.find nm)/\l=eN c):=by
 have h1:=h.vars;have h2:=h.size;refine aO func92 ntmps92 ?_;refine S ?_
 (repeat' (first|refine aq fun K hK=>?_|refine am ?_|(refine hK _ _ ?_;clear hK K)|(refine ao ?_ ?_<;>intro hc<;>try exact jz)|refine ap ?_|exact jI|(clear hK K)))
 have M':=hK;clear hK;refine de (S:=Nat) [(4,22)] (fun k=>k<=c.vars.length/\gP bH.name nm (c.vars.drop k) k=c.find nm) (fun k=>[(5,rI k)]) (fun _=>⟨[0,1,2,3,4,5],eN c⟩) (fun k=>c.vars.length-k) 0 ⟨jB,rfl⟩ (dc jD bK) ?_;rintro k ⟨Qt,Qf⟩ Kr P9
 (refine S ?_;try exact jI)
 by_cases hk:k<c.vars.length
 ·rw[jh hk]at Qf;unfold gP at Qf;have Wc:nth (c.vars++c.more) k=nth c.vars k:=lB hk
  (have W:=Wc;repeat' (first|refine aq fun K hK=>?_|refine am ?_|(refine hK _ _ ?_;clear hK K)|(refine ao ?_ ?_<;>intro hc<;>try exact jz)|refine M' _ _ ?_|refine ap ?_|exact jI|(clear hK K)))
  ·(refine cj [.tmp 4] ?_ ?_<;>(try simp only[go_sem]))
   rw[if_pos hc]at Qf;rw[<-Qf]
  ·rw[if_neg hc]at Qf;refine P9 _ _ (dI (k+1) ⟨jB,by rw[<-Qf];rfl⟩ jJ jD bK)
 ·rw[List.drop_eq_nil_of_le jB]at Qf
  (repeat' (first|refine aq fun K hK=>?_|refine am ?_|(refine hK _ _ ?_;clear hK K)|(refine ao ?_ ?_<;>intro hc<;>try exact jz)|refine M' _ _ ?_|refine ap ?_|exact jI|(clear hK K)))
  (refine cj [.tmp 4] ?_ ?_<;>(try simp only[go_sem]))
  rw[<-Qf];rfl
def mQ(c:Ck)(b:Bool)(a:Int):af prog 163 [pR,rB b,rI a] (eN c) (fun v l=>v=.bt []/\l=eN (c.ar b a)):=by
 refine aO func163 ntmps163 ?_;refine S ?_
 (repeat' (first|refine aq fun K hK=>?_|refine am ?_|(refine hK _ _ ?_;clear hK K)|(refine ao ?_ ?_<;>intro hc<;>try exact jz)|refine cm (qM c 42 a) ?_|refine ap ?_|exact jI|(clear hK K)))
 ·(refine cj [] ?_ ?_<;>(try simp only[go_sem]))
  simp only[Ck.ar,hc,Bool.false_eq_true,if_false,eN,sA]
 ·(refine cj [] ?_ ?_<;>(try simp only[go_sem]))
  simp only[Ck.ar,hc,if_true,eN,sA]
variable{a:Int}
def r6{c:Ck}(h:bD c)(h0:0<=a)(h1:a<c.aa.nodes.length):Shape c.aa.nodes (c.node a)/\∀x∈(c.node a).l,0<=x/\x.toNat<a.toNat:=by have:=h.aa.shape a.toNat jB;exact⟨this.1,this.2.1⟩
def wj{c:Ck}(h:bD c)(h0:0<=a)(h1:a<c.aa.nodes.length):(c.node a).l.length<=300:=by obtain⟨_,_,lo,hc⟩:=h.aa.shape a.toNat jB;have:=hc.len;have:=h.aa.many;show(nth c.aa.nodes a.toNat).l.length<=300;omega
def CH(c:Ck)(a:Int)(h:bD c)(h0:0<=a)(h1:a<c.aa.nodes.length):af prog 161 [pR,rI a] (eN c) (fun v l=>v=rI (c.named a).2/\l=eN (c.named a).1):=by
 have hv:=h.vars;have hz:=h.size;have QH:=h.ab;have WZ:=wE bH.name (c.node a).name c.vars 0 jB;have Rn:=zk c (c.node a).name h;have TW:=qM c 40 a;have Wc:0<=c.find (c.node a).name->nth (c.vars++c.more) (c.find (c.node a).name).toNat=nth c.vars (c.find (c.node a).name).toNat:=fun h=>lB (by have WZ:(c.find (c.node a).name=-1/\_)\/(0<=c.find (c.node a).name/\c.find (c.node a).name<0+c.vars.length):=WZ;omega)
 have WZ:(c.find (c.node a).name=-1/\_)\/(0<=c.find (c.node a).name/\c.find (c.node a).name<0+c.vars.length):=WZ;unfold Ck.named;by_cases hf:c.find (c.node a).name<0
 ·rw[if_pos hf];refine aO func161 ntmps161 ?_;refine S ?_
  (repeat' (first|refine aq fun K hK=>?_|refine am ?_|(with_reducible refine gR 5 ?_);refine dE 5 (au 0 16) mixed ?_|(refine hK _ _ ?_;clear hK K)|(refine ao ?_ ?_<;>intro hc<;>try exact jz)|refine cm (Rn) ?_|refine cm (TW) ?_|refine ap ?_|exact jI|(clear hK K)))
  (refine cj [.tmp 4] ?_ ?_<;>(try simp only[go_sem]))
 ·rw[if_neg hf];have Wc:=Wc jB;refine aO func161 ntmps161 ?_;refine S ?_
  (have W:=Wc;repeat' (first|refine aq fun K hK=>?_|refine am ?_|(with_reducible refine gR 5 ?_);refine dE 5 (au 0 16) mixed ?_|(refine hK _ _ ?_;clear hK K)|(refine ao ?_ ?_<;>intro hc<;>try exact jz)|refine cm (Rn) ?_|refine ap ?_|exact jI|(clear hK K)))
  (refine cj [.tmp 4] ?_ ?_<;>(try simp only[go_sem]))
structure Ev(c c':Ck):Prop where
 aa:c'.aa=c.aa
 fn:c'.fn=c.fn
 vars:c'.vars=c.vars
 more:c'.more=c.more
 size:c'.size=c.size
 aL:c'.aL=c.aL
 types:c'.types.length=c.types.length
 ab:c'.ab.length=c.ab.length
 av:c'.av.length=c.av.length
 err:c.e≠0->c'.e≠0
def Ev.refl(c:Ck):Ev c c:=⟨rfl,rfl,rfl,rfl,rfl,rfl,rfl,rfl,rfl,id⟩
theorem Ev.trans{a b c:Ck}(h:Ev a b)(k:Ev b c):Ev a c:=⟨k.aa.trans h.aa,k.fn.trans h.fn,k.vars.trans h.vars,k.more.trans h.more,k.size.trans h.size,k.aL.trans h.aL,k.types.trans h.types,k.ab.trans h.ab,k.av.trans h.av,fun e=>k.err (h.err e)⟩
def bD.ev{c c':Ck}(h:bD c)(s:Ev c c'):bD c' where
 aa:=by rw[s.aa];exact h.aa
 types:=by rw[s.types,s.aa];exact h.types
 ab:=by rw[s.ab,s.aa];exact h.ab
 av:=by rw[s.av,s.aa];exact h.av
 aL:=by rw[s.aL];exact h.aL
 tj:=by rw[s.fn];exact h.tj
 sa:=by rw[s.fn,s.aa];exact h.sa
 vars:=by rw[s.vars,s.size];exact h.vars
 size:=by rw[s.size];exact h.size
 room:=fun e=>by rw[s.size];exact h.room (Classical.byContradiction fun h=>s.err h e)
theorem Ev.node{c c':Ck}(s:Ev c c')(a:Int):c'.node a=c.node a:=by unfold Ck.node;rw[s.aa]
theorem Ev.aC{c c':Ck}(s:Ev c c')(a:Int)(i:Nat):c'.aC a i=c.aC a i:=by unfold Ck.aC;rw[s.node]
def mu(c:Ck){e:Int}(he:e≠0)(a:Int):Ev c (c.aD e a):=by
 unfold Ck.aD;split
 ·exact⟨rfl,rfl,rfl,rfl,rfl,rfl,rfl,rfl,rfl,fun _=>he⟩
 ·exact .refl c
def jb(c:Ck)(b:Bool)(a:Int):Ev c (c.ar b a):=by
 unfold Ck.ar;split
 ·exact .refl c
 ·exact mu c jC a
def Jl(c:Ck)(a s:Int):Ev c (c.slot a s):=⟨rfl,rfl,rfl,rfl,rfl,rfl,rfl,by simp[Ck.slot],rfl,id⟩
def M5(c:Ck)(a t:Int):Ev c (c.note a t):=⟨rfl,rfl,rfl,rfl,rfl,rfl,by simp[Ck.note],rfl,by simp[Ck.note],id⟩
def pg(c:Ck)(a:Int):Ev c (c.aj a):=⟨rfl,rfl,rfl,rfl,rfl,rfl,rfl,rfl,by simp[Ck.aj],id⟩
def l7(c:Ck)(a:Int):Ev c (c.named a).1:=by
 unfold Ck.named;split
 ·exact mu c jC a
 ·exact Jl c a _
theorem rD{ex:Ck->Int->Ck×Int}(hex:∀c a,Ev c (ex c a).1):∀(l:PY) (c:Ck) (ts:PY),Ev c (fR ex c l ts).1
 |[],c,ts=>by unfold fR;exact .refl c
 |a::l,c,ts=>by
  unfold fR;split
  ·exact(hex c a).trans (rD hex l _ _)
  ·exact .refl c
theorem wU(a:Int):∀(ts:PY) (ps:List bM) (c:Ck),Ev c (gH a c ts ps)
 |[],_,c=>by unfold gH;exact .refl c
 |_::_,[],c=>by unfold gH;exact .refl c
 |t::ts,p::ps,c=>by
  unfold gH;split
  ·exact(jb c _ a).trans (wU a ts ps _)
  ·exact .refl c
variable{ex:Ck->Int->Ck×Int}
def Kx(hex:∀c a,Ev c (ex c a).1)(c:Ck)(a:Int):Ev c (iv ex c a).1:=by
 unfold iv;split
 ·exact mu c jC a
 ·refine Ev.trans ?_ (wU _ _ _ _);split
  ·exact(rD hex _ _ _).trans (mu _ jC a)
  ·exact rD hex _ _ _
def At(hex:∀c a,Ev c (ex c a).1)(c:Ck)(a:Int):Ev c (bW ex c a).1:=by
 unfold bW;simp only;repeat' split
 all_goals first
  |exact .refl c
  |exact l7 c a
  |exact Kx hex c a
  |exact((l7 c a).trans (hex _ _)).trans (jb _ _ _)
  |exact((hex c _).trans (hex _ _)).trans (jb _ _ _)
  |exact(hex c _).trans (jb _ _ _)
theorem eo:∀(n:Nat) (c:Ck) (a:Int),Ev c (ay n c a).1
 |0,c,a=>by unfold ay;exact .refl c
 |n+1,c,a=>by
  unfold ay;split
  ·exact .refl c
  ·exact(At (eo n) c a).trans (M5 _ _ _)
def ra(n:Nat):Prop:=∀(c:Ck) (a:Int),bD c->0<=a->a<c.aa.nodes.length->a.toNat<n->ff (c.node a).kind->af prog 162 [pR,rI a] (eN c) (fun v l=>v=rI (ay n c a).2/\l=eN (ay n c a).1)
def Dh(n:Nat):Prop:=∀(c:Ck) (a:Int),bD c->c.e=0->0<=a->a<c.aa.nodes.length->a.toNat<=n->ff (c.node a).kind->af prog 176 [pR,rI a] (eN c) (fun v l=>v=rI (bW (ay n) c a).2/\l=eN (bW (ay n) c a).1)
def Ea(n:Nat):Prop:=∀(c:Ck) (a:Int),bD c->0<=a->a<c.aa.nodes.length->a.toNat<=n->(c.node a).kind=21->af prog 185 [pR,rI a] (eN c) (fun v l=>v=rI (iv (ay n) c a).2/\l=eN (iv (ay n) c a).1)
def KL(s:P0)(a b:Int):aA prog 186 [rS s,rI a,rI b] (rI (gQ s a b)):=by
 refine bI func186 ntmps186 ?_
 (repeat' (first|refine aq fun K hK=>?_|refine am ?_|(refine hK _ _ ?_;clear hK K)|(refine ao ?_ ?_<;>intro hc<;>try exact jz)|refine ap ?_|exact jI|(clear hK K)))
 all_goals(refine cj [.tmp 6] ?_ ?_<;>(try simp only[go_sem]))
 all_goals simp_all [gQ]
 all_goals omega
def IG(n:Nat)(ht:Dh n):ra (n+1):=by
 intro c a h h0 h1 hn hk;have hz:=h.size;have hv:=h.vars;by_cases he:c.e=0
 ·have QT:=ht c a h he h0 h1 jB hk;have s:=At (eo n) c a;have h2:=h.ev s;have l1:=h2.types;have l2:=h2.av;rw[s.aa]at l1 l2;rw[ay,jN];refine aO func162 ntmps162 ?_;refine S ?_
  (repeat' (first|refine aq fun K hK=>?_|refine am ?_|(with_reducible refine gR 5 ?_);refine dE 5 (au 0 12) mixed ?_|(refine hK _ _ ?_;clear hK K)|(refine ao ?_ ?_<;>intro hc<;>try exact jz)|refine cm (QT) ?_|refine ap ?_|exact jI|(clear hK K)))
  (refine cj [.tmp 4] ?_ ?_<;>(try simp only[go_sem]))
 ·rw[ay,if_pos he];refine aO func162 ntmps162 ?_;refine S ?_
  (repeat' (first|refine aq fun K hK=>?_|refine am ?_|(with_reducible refine gR 5 ?_);refine dE 5 (au 0 12) mixed ?_|(refine hK _ _ ?_;clear hK K)|(refine ao ?_ ?_<;>intro hc<;>try exact jz)|refine ap ?_|exact jI|(clear hK K)))
  (refine cj [.tmp 4] ?_ ?_<;>(try simp only[go_sem]))
def Hg(n:Nat)(hx:ra n)(Qq:Ea n):Dh n:=by
 intro c a h he h0 h1 hn hk;have hz:=h.size;have hv:=h.vars;obtain⟨sh,QX⟩:=r6 h h0 h1;have QW:∀i,i<(c.node a).l.length->(c.aC a i).toNat<n/\0<=c.aC a i/\c.aC a i<c.aa.nodes.length:=fun i hi=>by have hm:c.aC a i∈(c.node a).l:=dZ hi;have:=QX _ hm;omega
 have ev0:=l7 c a;have VL:=h.ev ev0;have Qx:=CH c a h h0 h1;unfold ff cr at hk;have e19:(c.node a).kind=1\/(c.node a).kind=19\/(c.node a).kind=2\/(c.node a).kind=3\/(c.node a).kind=4\/(c.node a).kind=21\/(c.node a).kind=5\/(c.node a).kind=9\/(c.node a).kind=6\/(c.node a).kind=7\/(c.node a).kind=8\/(c.node a).kind=20:=jB;rcases e19 with k|k|k|k|k|k|k|k|k|k|k|k
 ·have O':(nth c.aa.nodes a.toNat).kind=1:=k;rw[show bW (ay n) c a=(c,1) from by unfold bW;rw[k];rfl];refine aO func176 ntmps176 ?_;refine S ?_
  (have W:=O';repeat' (first|refine aq fun K hK=>?_|refine am ?_|(refine hK _ _ ?_;clear hK K)|(refine ao ?_ ?_<;>intro hc<;>try exact jz)|refine ap ?_|exact jI|(clear hK K)))
  (refine aY [.tmp 4] ?_;try simp only[go_sem])
 ·have O':(nth c.aa.nodes a.toNat).kind=19:=k;rw[show bW (ay n) c a=(c,1) from by unfold bW;rw[k];rfl];refine aO func176 ntmps176 ?_;refine S ?_
  (have W:=O';repeat' (first|refine aq fun K hK=>?_|refine am ?_|(refine hK _ _ ?_;clear hK K)|(refine ao ?_ ?_<;>intro hc<;>try exact jz)|refine ap ?_|exact jI|(clear hK K)))
  (refine aY [.tmp 4] ?_;try simp only[go_sem])
 ·have O':(nth c.aa.nodes a.toNat).kind=2:=k;rw[show bW (ay n) c a=(c,2) from by unfold bW;rw[k];rfl];refine aO func176 ntmps176 ?_;refine S ?_
  (have W:=O';repeat' (first|refine aq fun K hK=>?_|refine am ?_|(refine hK _ _ ?_;clear hK K)|(refine ao ?_ ?_<;>intro hc<;>try exact jz)|refine ap ?_|exact jI|(clear hK K)))
  (refine aY [.tmp 4] ?_;try simp only[go_sem])
 ·have O':(nth c.aa.nodes a.toNat).kind=3:=k;rw[show bW (ay n) c a=(c,3) from by unfold bW;rw[k];rfl];refine aO func176 ntmps176 ?_;refine S ?_
  (have W:=O';repeat' (first|refine aq fun K hK=>?_|refine am ?_|(refine hK _ _ ?_;clear hK K)|(refine ao ?_ ?_<;>intro hc<;>try exact jz)|refine ap ?_|exact jI|(clear hK K)))
  (refine aY [.tmp 4] ?_;try simp only[go_sem])
 ·have O':(nth c.aa.nodes a.toNat).kind=4:=k;rw[show bW (ay n) c a=c.named a from by unfold bW;rw[k];rfl];refine aO func176 ntmps176 ?_;refine S ?_
  (have W:=O';repeat' (first|refine aq fun K hK=>?_|refine am ?_|(refine hK _ _ ?_;clear hK K)|(refine ao ?_ ?_<;>intro hc<;>try exact jz)|refine cm (Qx) ?_|refine ap ?_|exact jI|(clear hK K)))
  (refine aY [.tmp 4] ?_;try simp only[go_sem])
 ·have O':(nth c.aa.nodes a.toNat).kind=21:=k;rw[show bW (ay n) c a=iv (ay n) c a from by unfold bW;rw[k];rfl];have Qi:=Qq c a h h0 h1 hn k;refine aO func176 ntmps176 ?_;refine S ?_
  (have W:=O';repeat' (first|refine aq fun K hK=>?_|refine am ?_|(refine hK _ _ ?_;clear hK K)|(refine ao ?_ ?_<;>intro hc<;>try exact jz)|refine cm (Qi) ?_|refine ap ?_|exact jI|(clear hK K)))
  (refine aY [.tmp 4] ?_;try simp only[go_sem])
 ·have O':(nth c.aa.nodes a.toNat).kind=5:=k;obtain⟨x,hl,Qs⟩:=sh.one jB;have QC:(c.node a).l.length=1:=by rw[hl];rfl
  have Rb:(nth c.aa.nodes a.toNat).l.length=1:=QC;obtain⟨g1,g2,g3⟩:=QW 0 jB;have Q7:ff (c.node (c.aC a 0)).kind:=by
   have:c.aC a 0=x:=by unfold Ck.aC;rw[hl];rfl
   rw[this];exact .inl Qs
  have hex:=hx (c.named a).1 (c.aC a 0) VL g2 (by rw[ev0.aa];exact g3) g1 (by rw[ev0.node];exact Q7);have hm:=mQ (ay n (c.named a).1 (c.aC a 0)).1 (decide ((c.named a).2=4) && decide ((ay n (c.named a).1 (c.aC a 0)).2=1)) a;rw[show bW (ay n) c a=((ay n (c.named a).1 (c.aC a 0)).1.ar (decide ((c.named a).2=4) && decide ((ay n (c.named a).1 (c.aC a 0)).2=1)) a,1) from by unfold bW;rw[k];rfl];refine aO func176 ntmps176 ?_;refine S ?_
  (have W:=O';repeat' (first|refine aq fun K hK=>?_|refine am ?_|(refine hK _ _ ?_;clear hK K)|(refine ao ?_ ?_<;>intro hc<;>try exact jz)|refine cm (Qx) ?_|refine cm (hex) ?_|refine cm (hm) ?_|refine ap ?_|exact jI|(clear hK K)))
  (refine aY [.tmp 4] ?_;try simp only[go_sem])
 ·have O':(nth c.aa.nodes a.toNat).kind=9:=k;obtain⟨x,y,hl,Qs,Tl⟩:=sh.two jB;have QC:(c.node a).l.length=2:=by rw[hl];rfl
  have Rb:(nth c.aa.nodes a.toNat).l.length=2:=QC;obtain⟨g1,g2,g3⟩:=QW 0 jB;obtain⟨g4,g5,g6⟩:=QW 1 jB;have Q7:ff (c.node (c.aC a 0)).kind:=by
   have:c.aC a 0=x:=by unfold Ck.aC;rw[hl];rfl
   rw[this];exact .inl Qs
  have Wd:ff (c.node (c.aC a 1)).kind:=by
   have:c.aC a 1=y:=by unfold Ck.aC;rw[hl];rfl
   rw[this];exact .inl Tl
  have ev1:=eo n c (c.aC a 0);have hex:=hx c (c.aC a 0) h g2 g3 g1 Q7;have XF:=hx (ay n c (c.aC a 0)).1 (c.aC a 1) (h.ev ev1) g5 (by rw[ev1.aa];exact g6) g4 (by rw[ev1.node];exact Wd);have hb:=KL (c.node a).name (ay n c (c.aC a 0)).2 (ay n (ay n c (c.aC a 0)).1 (c.aC a 1)).2;have hm:=mQ (ay n (ay n c (c.aC a 0)).1 (c.aC a 1)).1 (!decide (gQ (c.node a).name (ay n c (c.aC a 0)).2 (ay n (ay n c (c.aC a 0)).1 (c.aC a 1)).2=0)) a;rw[show bW (ay n) c a=((ay n (ay n c (c.aC a 0)).1 (c.aC a 1)).1.ar (!decide (gQ (c.node a).name (ay n c (c.aC a 0)).2 (ay n (ay n c (c.aC a 0)).1 (c.aC a 1)).2=0)) a,gQ (c.node a).name (ay n c (c.aC a 0)).2 (ay n (ay n c (c.aC a 0)).1 (c.aC a 1)).2) from by unfold bW;rw[k];rfl];refine aO func176 ntmps176 ?_;refine S ?_
  (have W:=O';repeat' (first|refine aq fun K hK=>?_|refine am ?_|(refine hK _ _ ?_;clear hK K)|(refine ao ?_ ?_<;>intro hc<;>try exact jz)|refine cm (hex) ?_|refine cm (XF) ?_|refine cp (hb) ?_|refine cm (hm) ?_|refine ap ?_|exact jI|(clear hK K)))
  (refine aY [.tmp 4] ?_;try simp only[go_sem])
 ·have O':(nth c.aa.nodes a.toNat).kind=6:=k;obtain⟨x,hl,Qs⟩:=sh.one jB;have QC:(c.node a).l.length=1:=by rw[hl];rfl
  have Rb:(nth c.aa.nodes a.toNat).l.length=1:=QC;obtain⟨g1,g2,g3⟩:=QW 0 jB;have Q7:ff (c.node (c.aC a 0)).kind:=by
   have:c.aC a 0=x:=by unfold Ck.aC;rw[hl];rfl
   rw[this];exact .inl Qs
  have hex:=hx c (c.aC a 0) h g2 g3 g1 Q7;have hm:=mQ (ay n c (c.aC a 0)).1 (decide ((ay n c (c.aC a 0)).2=3) || decide ((ay n c (c.aC a 0)).2=4)) a;rw[show bW (ay n) c a=((ay n c (c.aC a 0)).1.ar (decide ((ay n c (c.aC a 0)).2=3) || decide ((ay n c (c.aC a 0)).2=4)) a,1) from by unfold bW;rw[k];rfl];refine aO func176 ntmps176 ?_;refine S ?_
  (have W:=O';repeat' (first|refine aq fun K hK=>?_|refine am ?_|(refine hK _ _ ?_;clear hK K)|(refine ao ?_ ?_<;>intro hc<;>try exact jz)|refine cm (hex) ?_|refine cm (hm) ?_|refine ap ?_|exact jI|(clear hK K)))
  (refine aY [.tmp 4] ?_;try simp only[go_sem])
 ·have O':(nth c.aa.nodes a.toNat).kind=7:=k;obtain⟨x,hl,Qs⟩:=sh.one jB;have QC:(c.node a).l.length=1:=by rw[hl];rfl
  have Rb:(nth c.aa.nodes a.toNat).l.length=1:=QC;obtain⟨g1,g2,g3⟩:=QW 0 jB;have Q7:ff (c.node (c.aC a 0)).kind:=by
   have:c.aC a 0=x:=by unfold Ck.aC;rw[hl];rfl
   rw[this];exact .inl Qs
  have hex:=hx c (c.aC a 0) h g2 g3 g1 Q7;have hm:=mQ (ay n c (c.aC a 0)).1 (decide ((ay n c (c.aC a 0)).2=1)) a;rw[show bW (ay n) c a=((ay n c (c.aC a 0)).1.ar (decide ((ay n c (c.aC a 0)).2=1)) a,1) from by unfold bW;rw[k];rfl];refine aO func176 ntmps176 ?_;refine S ?_
  (have W:=O';repeat' (first|refine aq fun K hK=>?_|refine am ?_|(refine hK _ _ ?_;clear hK K)|(refine ao ?_ ?_<;>intro hc<;>try exact jz)|refine cm (hex) ?_|refine cm (hm) ?_|refine ap ?_|exact jI|(clear hK K)))
  (refine aY [.tmp 4] ?_;try simp only[go_sem])
 ·have O':(nth c.aa.nodes a.toNat).kind=8:=k;obtain⟨x,hl,Qs⟩:=sh.one jB;have QC:(c.node a).l.length=1:=by rw[hl];rfl
  have Rb:(nth c.aa.nodes a.toNat).l.length=1:=QC;obtain⟨g1,g2,g3⟩:=QW 0 jB;have Q7:ff (c.node (c.aC a 0)).kind:=by
   have:c.aC a 0=x:=by unfold Ck.aC;rw[hl];rfl
   rw[this];exact .inl Qs
  have hex:=hx c (c.aC a 0) h g2 g3 g1 Q7;have hm:=mQ (ay n c (c.aC a 0)).1 (decide ((ay n c (c.aC a 0)).2=2)) a;rw[show bW (ay n) c a=((ay n c (c.aC a 0)).1.ar (decide ((ay n c (c.aC a 0)).2=2)) a,2) from by unfold bW;rw[k];rfl];refine aO func176 ntmps176 ?_;refine S ?_
  (have W:=O';repeat' (first|refine aq fun K hK=>?_|refine am ?_|(refine hK _ _ ?_;clear hK K)|(refine ao ?_ ?_<;>intro hc<;>try exact jz)|refine cm (hex) ?_|refine cm (hm) ?_|refine ap ?_|exact jI|(clear hK K)))
  (refine aY [.tmp 4] ?_;try simp only[go_sem])
 ·have O':(nth c.aa.nodes a.toNat).kind=20:=k;obtain⟨x,hl,Qs⟩:=sh.one jB;have QC:(c.node a).l.length=1:=by rw[hl];rfl
  have Rb:(nth c.aa.nodes a.toNat).l.length=1:=QC;obtain⟨g1,g2,g3⟩:=QW 0 jB;have Q7:ff (c.node (c.aC a 0)).kind:=by
   have:c.aC a 0=x:=by unfold Ck.aC;rw[hl];rfl
   rw[this];exact .inl Qs
  have hex:=hx c (c.aC a 0) h g2 g3 g1 Q7;have hm:=mQ (ay n c (c.aC a 0)).1 (decide ((ay n c (c.aC a 0)).2=1)) a;rw[show bW (ay n) c a=((ay n c (c.aC a 0)).1.ar (decide ((ay n c (c.aC a 0)).2=1)) a,4) from by unfold bW;rw[k];rfl];refine aO func176 ntmps176 ?_;refine S ?_
  (have W:=O';repeat' (first|refine aq fun K hK=>?_|refine am ?_|(refine hK _ _ ?_;clear hK K)|(refine ao ?_ ?_<;>intro hc<;>try exact jz)|refine cm (hex) ?_|refine cm (hm) ?_|refine ap ?_|exact jI|(clear hK K)))
  (refine aY [.tmp 4] ?_;try simp only[go_sem])
def r7(a:Int)(c:Ck)(ps:List bM):gH a c [] ps=c:=by cases ps<;>rfl
def ua(a:Int)(c:Ck)(ts:PY):gH a c ts []=c:=by cases ts<;>rfl
theorem Dg{α:Type}(f:α->P0)(nm:P0):∀(l:List α) (i k:Int),0<=i->(iG f nm l i k=k\/i<=iG f nm l i k)/\(iG f nm l i k=k\/iG f nm l i k<i+l.length)
 |[],i,k,_=>by unfold iG;exact⟨.inl rfl,.inl rfl⟩
 |v::l,i,k,hi=>by
  unfold iG;obtain⟨h1,h2⟩:=Dg f nm l (i+1) (if f v=nm then i else k) jB;simp only[List.length_cons];split at h1<;>rename_i hv
  ·rw[if_pos hv]at h2 ⊢;omega
  ·rw[if_neg hv]at h2 ⊢;omega
def Na(n:Nat)(hx:ra n):Ea n:=by
 intro c a h h0 h1 hn hk;have hz:=h.size;have hv:=h.vars;have Tu:=h.aa.av;have W0:=h.aa.many;obtain⟨sh,QX⟩:=r6 h h0 h1;have hck:=h.aa.chain;have g':(nth c.aa.nodes a.toNat).l.length<=300:=wj h h0 h1;have RK:∀i,i<(c.node a).l.length->ff (c.node (nth (c.node a).l i)).kind/\(nth (c.node a).l i).toNat<n/\0<=nth (c.node a).l i/\nth (c.node a).l i<c.aa.nodes.length:=fun i hi=>by have hm:nth (c.node a).l i∈(c.node a).l:=dZ hi;have:=QX _ hm;exact⟨.inl (sh.call hk _ hm),jB,this.1,jB⟩
 obtain⟨lg1,lg2⟩:=Dg bg.name (c.node a).name c.aa.av 0 (-1) jB;have lg1:eQ c a=-1\/0<=eQ c a:=lg1;have lg2:eQ c a=-1\/eQ c a<0+c.aa.av.length:=lg2;refine aO func185 ntmps185 ?_;refine S ?_
 (repeat' (first|refine aq fun K hK=>?_|refine am ?_|(with_reducible refine gR 6 ?_);refine dE 6 (au 0 13) mixed ?_|(with_reducible refine gR 23 ?_);refine dE 23 (au 0 14) mixed ?_|(refine hK _ _ ?_;clear hK K)|(refine ao ?_ ?_<;>intro hc<;>try exact jz)|refine ap ?_|exact jI|(clear hK K)))
 have M':=hK;clear hK;refine de (S:=Nat×Int) [(6,2),(22,25)] (fun s=>s.1<=c.aa.av.length/\iG bg.name (c.node a).name (c.aa.av.drop s.1) s.1 s.2=eQ c a) (fun s=>[(7,rI s.1),(6,rI s.2)]) (fun _=>⟨[0,1,2,3,4,5],eN c++[(6,.var 78 (bX (c.node a)))]⟩) (fun s=>c.aa.av.length-s.1) (0,-1) ⟨jJ,rfl⟩ (dc gT bK) ?_;rintro⟨k,j⟩ ⟨Qt,Qf⟩ Kr P9;simp only at Qt Qf
 (refine S ?_;try exact jI)
 by_cases Qd:k<c.aa.av.length
 ·rw[jh Qd]at Qf;unfold iG at Qf
  (repeat' (first|refine aq fun K hK=>?_|refine am ?_|(with_reducible refine gR 6 ?_);refine dE 6 (au 0 13) mixed ?_|(with_reducible refine gR 23 ?_);refine dE 23 (au 0 14) mixed ?_|(refine hK _ _ ?_;clear hK K)|(refine ao ?_ ?_<;>intro hc<;>try exact jz)|refine M' _ _ ?_|refine ap ?_|exact jI|(clear hK K)))
  ·rw[if_pos hc]at Qf;refine P9 _ _ (dI (k+1,(k:Int)) ⟨jJ,by rw[<-Qf];rfl⟩ jJ gT bK)
  ·rw[if_neg hc]at Qf;refine P9 _ _ (dI (k+1,j) ⟨jJ,by rw[<-Qf];rfl⟩ jJ gT bK)
 ·rw[List.drop_eq_nil_of_le jB]at Qf;have Qf:j=eQ c a:=Qf;subst Qf;by_cases We:eQ c a<0
  ·rw[iv,if_pos We]at*
   (repeat' (first|refine aq fun K hK=>?_|refine am ?_|(with_reducible refine gR 6 ?_);refine dE 6 (au 0 13) mixed ?_|(with_reducible refine gR 23 ?_);refine dE 23 (au 0 14) mixed ?_|(refine hK _ _ ?_;clear hK K)|(refine ao ?_ ?_<;>intro hc<;>try exact jz)|refine M' _ _ ?_|refine cm (qM c 40 a) ?_|refine ap ?_|exact jI|(clear hK K)))
   (refine aY [.tmp 4] ?_;try simp only[go_sem])
  ·have Yq:0<=eQ c a:=jB;have Xl:(eQ c a).toNat<c.aa.av.length:=jB;have hfp:=(h.aa.fn _ (dZ Xl)).2;have e0:iv (ay n) c a=(gH a (if(c.node a).l.length≠(nth c.aa.av (eQ c a).toNat).params.length then(fR (ay n) c (c.node a).l []).1.aD 43 a else(fR (ay n) c (c.node a).l []).1) (fR (ay n) c (c.node a).l []).2 (nth c.aa.av (eQ c a).toNat).params,(nth c.aa.av (eQ c a).toNat).ret):=by
    rw[iv,if_neg We]
   (repeat' (first|refine aq fun K hK=>?_|refine am ?_|(with_reducible refine gR 6 ?_);refine dE 6 (au 0 13) mixed ?_|(with_reducible refine gR 23 ?_);refine dE 23 (au 0 14) mixed ?_|(refine hK _ _ ?_;clear hK K)|(refine ao ?_ ?_<;>intro hc<;>try exact jz)|refine M' _ _ ?_|refine ap ?_|exact jI|(clear hK K)))
   have S6:=hK;clear hK;refine gj (cY.nil 8 9 3 (sz:=1) rfl jC (Or.inr ⟨_,_,_,rfl,rfl⟩)) ?_
   (refine S ?_;try exact jI)
   refine de (S:=Nat×Ck×PY) [(9,3),(62,25)] (fun s=>s.1<=(c.node a).l.length/\Ev c s.2.1/\s.2.2.length=s.1/\fR (ay n) s.2.1 ((c.node a).l.drop s.1) s.2.2=fR (ay n) c (c.node a).l []) (fun s=>[(10,rI s.1),(9,.rs 8 s.2.2.length 1 s.2.2.length)]) (fun s=>⟨[0,1,2,3,4,5],eN s.2.1++[(6,.var 78 (bX (c.node a))),(7,.var 132 (eZ (nth c.aa.av (eQ c a).toNat))),(8,.aG 3 1 (s.2.2.map eI))]⟩) (fun s=>(c.node a).l.length-s.1) (0,c,[]) ⟨jJ,.refl c,rfl,rfl⟩ (dc gT bK) ?_;rintro⟨i,q,ts⟩ ⟨So,ev,WR,hA⟩ Kr2 Tv;simp only at So ev WR hA;have hq:=h.ev ev;have lt1:=hq.types;have lt2:=hq.ab;have lt3:=hq.av;have lt4:=hq.vars;have lt5:=hq.size;have hlq:(c.node a).l.length<=300:=g'
   (refine S ?_;try exact jI)
   by_cases RC:i<(c.node a).l.length/\q.e=0
   ·obtain⟨QA,Q8⟩:=RC;rw[jh QA,fR,if_pos Q8]at hA;obtain⟨g1,g2,g3,g4⟩:=RK i QA;have Zd:=hx q (nth (c.node a).l i) hq g3 (by rw[ev.aa];exact g4) g2 (by rw[ev.node];exact g1)
    (have W:=Q8;repeat' (first|refine aq fun K hK=>?_|refine am ?_|(with_reducible refine gR 6 ?_);refine dE 6 (au 0 13) mixed ?_|(with_reducible refine gR 23 ?_);refine dE 23 (au 0 14) mixed ?_|(refine hK _ _ ?_;clear hK K)|(refine ao ?_ ?_<;>intro hc<;>try exact jz)|(refine S6 _ _ ?_)|refine cm (Zd) ?_|refine ap ?_|exact jI|(clear hK K)))
    refine Tv _ _ (dI (i+1,(ay n q (nth (c.node a).l i)).1,ts++[(ay n q (nth (c.node a).l i)).2]) ⟨jJ,ev.trans (eo _ _ _),by simp[WR],hA⟩ jJ gT bK)
   have Yw:fR (ay n) c (c.node a).l []=(q,ts):=by
    rw[<-hA];by_cases QA:i<(c.node a).l.length
    ·rw[jh QA,fR,if_neg fun e=>RC ⟨QA,e⟩]
    ·rw[List.drop_eq_nil_of_le jB,fR]
   have TI:q=(fR (ay n) c (c.node a).l []).1:=by rw[Yw]
   have Yx:ts=(fR (ay n) c (c.node a).l []).2:=by rw[Yw]
   by_cases QD:(c.node a).l.length≠(nth c.aa.av (eQ c a).toNat).params.length
   ·have Vk:(((c.node a).l.length:Int)=((nth c.aa.av (eQ c a).toNat).params.length:Int))=False:=eq_false jB;have XG:(q.aD 43 a).e≠0:=by unfold Ck.aD;split;(exact fun h=>by cases h);assumption
    have evx:Ev c (q.aD 43 a):=ev.trans (mu q jC a);have hb:((q.aD 43 a)).e=0->ts.length<=(nth c.aa.av (eQ c a).toNat).params.length:=fun h=>(XG h).elim
    (have W:=Vk;repeat' (first|refine aq fun K hK=>?_|refine am ?_|(with_reducible refine gR 6 ?_);refine dE 6 (au 0 13) mixed ?_|(with_reducible refine gR 23 ?_);refine dE 23 (au 0 14) mixed ?_|(refine hK _ _ ?_;clear hK K)|(refine ao ?_ ?_<;>intro hc<;>try exact jz)|(refine S6 _ _ ?_)|refine cm (qM q 43 a) ?_|refine ap ?_|exact jI|(clear hK K)))
    have Uy:=hK;clear hK;refine de (S:=Nat×Ck) [(12,1),(97,27)] (fun s=>s.1<=ts.length/\Ev (q.aD 43 a) s.2/\gH a s.2 (ts.drop s.1) ((nth c.aa.av (eQ c a).toNat).params.drop s.1)=gH a (q.aD 43 a) ts (nth c.aa.av (eQ c a).toNat).params) (fun s=>[(12,rI s.1)]) (fun s=>⟨[0,1,2,3,4,5],eN s.2++[(6,.var 78 (bX (c.node a))),(7,.var 132 (eZ (nth c.aa.av (eQ c a).toNat))),(8,.aG 3 1 (ts.map eI))]⟩) (fun s=>ts.length-s.1) (0,(q.aD 43 a)) ⟨jJ,.refl _,rfl⟩ (dc gT bK) ?_;rintro⟨m,z⟩ ⟨SU,Rh,Q2⟩ Kr3 Wf;simp only at SU Rh Q2
    (refine S ?_;try exact jI)
    by_cases RC:m<ts.length/\z.e=0
    ·obtain⟨QA,Q8⟩:=RC;have Td:((q.aD 43 a)).e=0:=Classical.byContradiction fun h=>Rh.err h Q8
     exact(XG Td).elim
    ·have hz:z=gH a (q.aD 43 a) ts (nth c.aa.av (eQ c a).toNat).params:=by
      by_cases QA:m<ts.length
      ·have Q8:z.e≠0:=fun e=>RC ⟨QA,e⟩
       rw[jh QA]at Q2;cases hp:(nth c.aa.av (eQ c a).toNat).params.drop m with
       |nil=>rw[hp,ua]at Q2;exact Q2
       |cons x y=>rw[hp,gH,if_neg Q8]at Q2;exact Q2
      ·rw[List.drop_eq_nil_of_le jB,r7]at Q2;exact Q2
     (repeat' (first|refine aq fun K hK=>?_|refine am ?_|(with_reducible refine gR 6 ?_);refine dE 6 (au 0 13) mixed ?_|(with_reducible refine gR 23 ?_);refine dE 23 (au 0 14) mixed ?_|(refine hK _ _ ?_;clear hK K)|(refine ao ?_ ?_<;>intro hc<;>try exact jz)|(refine Uy _ _ ?_)|refine ap ?_|exact jI|(clear hK K)))
     all_goals first|(exact absurd ⟨jB,by assumption⟩ RC)|skip
     have e1:iv (ay n) c a=(z,(nth c.aa.av (eQ c a).toNat).ret):=by rw[e0,if_pos QD,<-TI,<-Yx,hz]
     all_goals(
      rw[e1]
      (refine aY [.tmp 4] ?_;try simp only[go_sem]))
   ·have Vk:((c.node a).l.length:Int)=((nth c.aa.av (eQ c a).toNat).params.length:Int):=jB;have XG:True:=trivial;have evx:Ev c q:=ev;have hb:(q).e=0->ts.length<=(nth c.aa.av (eQ c a).toNat).params.length:=fun _=>jB
    (have W:=Vk;repeat' (first|refine aq fun K hK=>?_|refine am ?_|(with_reducible refine gR 6 ?_);refine dE 6 (au 0 13) mixed ?_|(with_reducible refine gR 23 ?_);refine dE 23 (au 0 14) mixed ?_|(refine hK _ _ ?_;clear hK K)|(refine ao ?_ ?_<;>intro hc<;>try exact jz)|(refine S6 _ _ ?_)|refine ap ?_|exact jI|(clear hK K)))
    have Uy:=hK;clear hK;refine de (S:=Nat×Ck) [(12,1),(97,27)] (fun s=>s.1<=ts.length/\Ev q s.2/\gH a s.2 (ts.drop s.1) ((nth c.aa.av (eQ c a).toNat).params.drop s.1)=gH a q ts (nth c.aa.av (eQ c a).toNat).params) (fun s=>[(12,rI s.1)]) (fun s=>⟨[0,1,2,3,4,5],eN s.2++[(6,.var 78 (bX (c.node a))),(7,.var 132 (eZ (nth c.aa.av (eQ c a).toNat))),(8,.aG 3 1 (ts.map eI))]⟩) (fun s=>ts.length-s.1) (0,q) ⟨jJ,.refl _,rfl⟩ (dc gT bK) ?_;rintro⟨m,z⟩ ⟨SU,Rh,Q2⟩ Kr3 Wf;simp only at SU Rh Q2
    (refine S ?_;try exact jI)
    by_cases RC:m<ts.length/\z.e=0
    ·obtain⟨QA,Q8⟩:=RC;have Td:(q).e=0:=Classical.byContradiction fun h=>Rh.err h Q8
     have Ze:m<(nth c.aa.av (eQ c a).toNat).params.length:=by have:=hb Td;omega
     rw[jh QA,jh Ze,gH,if_pos Q8]at Q2
     (have W:=Q8;repeat' (first|refine aq fun K hK=>?_|refine am ?_|(with_reducible refine gR 6 ?_);refine dE 6 (au 0 13) mixed ?_|(with_reducible refine gR 23 ?_);refine dE 23 (au 0 14) mixed ?_|(refine hK _ _ ?_;clear hK K)|(refine ao ?_ ?_<;>intro hc<;>try exact jz)|(refine Uy _ _ ?_)|refine cm (mQ z (decide (nth ts m=(nth (nth c.aa.av (eQ c a).toNat).params m).ty)) a) ?_|refine ap ?_|exact jI|(clear hK K)))
     refine Wf _ _ (dI (m+1,z.ar (decide (nth ts m=(nth (nth c.aa.av (eQ c a).toNat).params m).ty)) a) ⟨jJ,Rh.trans (jb _ _ _),Q2⟩ jJ gT bK)
    ·have hz:z=gH a q ts (nth c.aa.av (eQ c a).toNat).params:=by
      by_cases QA:m<ts.length
      ·have Q8:z.e≠0:=fun e=>RC ⟨QA,e⟩
       rw[jh QA]at Q2;cases hp:(nth c.aa.av (eQ c a).toNat).params.drop m with
       |nil=>rw[hp,ua]at Q2;exact Q2
       |cons x y=>rw[hp,gH,if_neg Q8]at Q2;exact Q2
      ·rw[List.drop_eq_nil_of_le jB,r7]at Q2;exact Q2
     (repeat' (first|refine aq fun K hK=>?_|refine am ?_|(with_reducible refine gR 6 ?_);refine dE 6 (au 0 13) mixed ?_|(with_reducible refine gR 23 ?_);refine dE 23 (au 0 14) mixed ?_|(refine hK _ _ ?_;clear hK K)|(refine ao ?_ ?_<;>intro hc<;>try exact jz)|(refine Uy _ _ ?_)|refine ap ?_|exact jI|(clear hK K)))
     all_goals first|(exact absurd ⟨jB,by assumption⟩ RC)|skip
     have e1:iv (ay n) c a=(z,(nth c.aa.av (eQ c a).toNat).ret):=by rw[e0,if_neg QD,<-TI,<-Yx,hz]
     all_goals(
      rw[e1]
      (refine aY [.tmp 4] ?_;try simp only[go_sem]))
structure Sv(c c':Ck):Prop where
 aa:c'.aa=c.aa
 fn:c'.fn=c.fn
 aL:c'.aL=c.aL
 err:c.e≠0->c'.e≠0
 inv:bD c'
 pre:∃u,c'.vars=c.vars++u
def Sv.refl{c:Ck}(h:bD c):Sv c c:=⟨rfl,rfl,rfl,id,h,[],jE⟩
def Sv.gw{c c':Ck}(h:bD c)(s:Ev c c'):Sv c c':=⟨s.aa,s.fn,s.aL,s.err,h.ev s,[],by rw[s.vars];simp⟩
theorem Sv.trans{a b c:Ck}(h:Sv a b)(k:Sv b c):Sv a c:=⟨k.aa.trans h.aa,k.fn.trans h.fn,k.aL.trans h.aL,fun e=>k.err (h.err e),k.inv,by obtain⟨u,hu⟩:=h.pre;obtain⟨v,hv⟩:=k.pre;exact⟨u++v,by rw[hv,hu,List.append_assoc]⟩⟩
def gO(ex:Ck->Int->Ck×Int)(c:Ck)(a:Int):Ck:=(ex c (c.aC a 0)).1.ar (!decide ((ex c (c.aC a 0)).2=0)) a
def iV(ex:Ck->Int->Ck×Int)(c:Ck)(a:Int):Ck:=if 0<=(gO ex c a).find (c.node a).name then(gO ex c a).aD 41 a else gO ex c a
def ee(ex:Ck->Int->Ck×Int)(c:Ck)(a:Int):Ck:=if 24<=(iV ex c a).size then(iV ex c a).aD 4 a else iV ex c a
def yT(c:Ck)(a:Int)(v:bH):Ck:={ (c.slot a c.size)with vars:=c.vars++[v],more:=c.more.drop 1,size:=c.size+1 }
def sC(ex:Ck->Int->Ck×Int)(c:Ck)(a:Int):nC ex c a=yT (ee ex c a) a ⟨(c.node a).name,(ex c (c.aC a 0)).2,(ee ex c a).size⟩:=rfl
def yK(hex:∀c a,Ev c (ex c a).1)(c:Ck)(a:Int):Ev c (gO ex c a):=(hex c _).trans (jb _ _ _)
def zg(hex:∀c a,Ev c (ex c a).1)(c:Ck)(a:Int):Ev c (iV ex c a):=by
 unfold iV;split
 ·exact(yK hex c a).trans (mu _ jC a)
 ·exact yK hex c a
def xJ(hex:∀c a,Ev c (ex c a).1)(c:Ck)(a:Int):Ev c (ee ex c a):=by
 unfold ee;split
 ·exact(zg hex c a).trans (mu _ jC a)
 ·exact zg hex c a
def OK{c:Ck}(h:(ee ex c a).e=0):(ee ex c a).size<24:=by
 unfold ee at h ⊢;split
 ·rename_i hs;rw[if_pos hs]at h;exfalso;unfold Ck.aD at h;split at h
  ·cases h
  ·contradiction
 ·omega
def PL{c:Ck}(h:bD c)(a:Int)(v:bH)(h24:c.size<=24)(hr:c.e=0->c.size<24):Sv c (yT c a v):=by refine⟨rfl,rfl,rfl,id,⟨h.aa,h.types,by show(c.ab.set _ _).length=_;rw[List.length_set];exact h.ab,h.av,h.aL,h.tj,h.sa,?_,by show c.size+1<=25;omega,fun e=>by show c.size+1<=24;have:=hr e;omega⟩,[v],rfl⟩;show((c.vars++[v]).length:Int)<=c.size+1;have:=h.vars;simp;omega
def He(hex:∀c a,Ev c (ex c a).1){c:Ck}(h:bD c)(he:c.e=0)(a:Int):Sv c (nC ex c a):=by rw[sC];have s:=xJ hex c a;refine(Sv.gw h s).trans (PL (h.ev s) a _ ?_ OK);rw[s.size];exact h.room he
def Iz(hex:∀c a,Ev c (ex c a).1){c:Ck}(h:bD c)(a:Int):Sv c (jS ex c a):=by
 refine Sv.gw h ?_;unfold jS;simp only;split
 ·exact mu c jC a
 split
 ·exact(hex c _).trans (jb _ _ _)
 ·exact .refl c
theorem p3{st:Ck->Int->Ck}(J':∀c a,bD c->c.e=0->Sv c (st c a)):∀(l:PY) (c:Ck),bD c->Sv c (dN st c l)
 |[],c,h=>by unfold dN;exact .refl h
 |a::l,c,h=>by
  unfold dN;split
  ·rename_i he;have s:=J' c a h he;exact s.trans (p3 J' l _ s.inv)
  ·exact .refl h
def oJ{st:Ck->Int->Ck}(J':∀c a,bD c->c.e=0->Sv c (st c a)){c:Ck}(h:bD c)(a:Int):Sv c (eE st c a)/\(eE st c a).vars=c.vars:=by
 have s:=(Sv.gw h (pg c a)).trans (p3 J' (c.node a).l _ (h.ev (pg c a)));obtain⟨u,hu⟩:=s.pre;have hv:(dN st (c.aj a) (c.node a).l).vars.take (min c.vars.length (dN st (c.aj a) (c.node a).l).vars.length)=c.vars:=by rw[hu,Nat.min_eq_left jE,List.take_left'];rfl
 have hi:=s.inv;refine⟨⟨s.aa,s.fn,s.aL,s.err,⟨hi.aa,hi.types,hi.ab,hi.av,hi.aL,hi.tj,hi.sa,?_,hi.size,hi.room⟩,[],by rw[List.append_nil];exact hv⟩,hv⟩;have:=hi.vars;show(((dN st (c.aj a) (c.node a).l).vars.take _).length:Int)<=_;rw[List.length_take];show _<=(dN st (c.aj a) (c.node a).l).size;omega
theorem mH:∀(n:Nat) (c:Ck) (a:Int),bD c->c.e=0->Sv c (bP n c a)
 |0,c,a,h,he=>by unfold bP;exact .refl h
 |n+1,c,a,h,he=>by
  have e0:=pg c a;have h0:=h.ev e0;have s0:=Sv.gw h e0;have hx:=eo n;unfold bP;simp only;repeat' split
  ·exact s0.trans (He hx h0 he a)
  ·exact s0.trans (Sv.gw h0 (((l7 _ a).trans (hx _ _)).trans (jb _ _ _)))
  ·exact s0.trans (Sv.gw h0 ((((l7 _ a).trans (hx _ _)).trans (hx _ _)).trans (jb _ _ _)))
  ·exact s0.trans (Sv.gw h0 (hx _ _))
  ·exact s0.trans (Sv.gw h0 ((hx _ _).trans (jb _ _ _)))
  ·exact s0.trans (Iz hx h0 a)
  ·have s1:=s0.trans (Sv.gw h0 ((hx (c.aj a) ((c.aj a).aC a 0)).trans (jb _ (decide ((ay n (c.aj a) ((c.aj a).aC a 0)).2=2)) a)));exact s1.trans (p3 (fun q b hq _=>(oJ (mH n) hq b).1) _ _ s1.inv)
def zz(n:Nat):Prop:=∀(c:Ck) (a:Int),bD c->c.e=0->0<=a->a<c.aa.nodes.length->a.toNat<n->fB (c.node a).kind->af prog 139 [pR,rI a] (eN c) (fun v l=>v=.bt []/\l=eN (bP n c a))
def FV(n:Nat):Prop:=∀(c:Ck) (a:Int),bD c->0<=a->a<c.aa.nodes.length->a.toNat<=n->(c.node a).kind=18->af prog 93 [pR,rI a] (eN c) (fun v l=>v=.bt []/\l=eN (eE (bP n) c a))
attribute [go_sem] yT List.length_drop
def NI(n:Nat)(hx:ra n)(c:Ck)(a:Int)(h:bD c)(he:c.e=0)(h0:0<=a)(h1:a<c.aa.nodes.length)(hn:a.toNat<=n)(hk:(c.node a).kind=10):af prog 160 [pR,rI a] (eN c) (fun v l=>v=.bt []/\l=eN (nC (ay n) c a)):=by
 obtain⟨sh,QX⟩:=r6 h h0 h1;obtain⟨x,hl,Qs⟩:=sh.right jB;have Rb:(nth c.aa.nodes a.toNat).l.length=1:=by
  have:(c.node a).l.length=1:=by rw[hl];rfl
  exact this
 have Q7:c.aC a 0=x:=by unfold Ck.aC;rw[hl];rfl
 have hm:=QX x (by rw[hl];simp);have hex:=hx c (c.aC a 0) h jB jB jB (by rw[Q7];exact Qs);have QI:af prog 163 _ _ (fun v l=>v=.bt []/\l=eN (gO (ay n) c a)):=mQ (ay n c (c.aC a 0)).1 (!decide ((ay n c (c.aC a 0)).2=0)) a;have eA:=yK (eo n) c a;have eB:=zg (eo n) c a;have eC:=xJ (eo n) c a;have hA:=h.ev eA;have hC:=h.ev eC;have QS:=zk (gO (ay n) c a) (c.node a).name hA;have TW:=qM (gO (ay n) c a) 41 a;have Wg:=qM (iV (ay n) c a) 4 a;have QH:=hC.ab;have W1:=hC.size;have VD:=hC.vars;have Rv:=eC.size;have hc24:=h.room he;rw[eC.aa]at QH;rw[sC];refine aO func160 ntmps160 ?_
 (refine S ?_;try exact jI)
 by_cases c1:0<=(gO (ay n) c a).find (c.node a).name
 ·have e1:iV (ay n) c a=(gO (ay n) c a).aD 41 a:=if_pos c1;rw[<-e1]at TW;by_cases c2:24<=(iV (ay n) c a).size
  ·have e2:ee (ay n) c a=(iV (ay n) c a).aD 4 a:=if_pos c2;rw[<-e2]at Wg
   (repeat' (first|refine aq fun K hK=>?_|refine am ?_|(with_reducible refine gR 7 ?_);refine dE 7 (au 0 12) mixed ?_|(with_reducible refine gR 8 ?_);refine dE 8 (au 0 18) mixed ?_|(refine hK _ _ ?_;clear hK K)|(refine ao ?_ ?_<;>intro hc<;>try exact jz)|refine cm (hex) ?_|refine cm (QI) ?_|refine cm (QS) ?_|refine cm (TW) ?_|refine cm (Wg) ?_|refine rO (ee (ay n) c a).vars (ee (ay n) c a).more [⟨(c.node a).name,(ay n c (c.aC a 0)).2,(ee (ay n) c a).size⟩] ?_|refine ap ?_|exact jI|(clear hK K)))
   (refine aY [] ?_;try simp only[go_sem])
  ·have e2:ee (ay n) c a=iV (ay n) c a:=if_neg c2;rw[e2]at QH W1 VD Rv;rw[e2]
   (repeat' (first|refine aq fun K hK=>?_|refine am ?_|(with_reducible refine gR 7 ?_);refine dE 7 (au 0 12) mixed ?_|(with_reducible refine gR 8 ?_);refine dE 8 (au 0 18) mixed ?_|(refine hK _ _ ?_;clear hK K)|(refine ao ?_ ?_<;>intro hc<;>try exact jz)|refine cm (hex) ?_|refine cm (QI) ?_|refine cm (QS) ?_|refine cm (TW) ?_|refine rO (iV (ay n) c a).vars (iV (ay n) c a).more [⟨(c.node a).name,(ay n c (c.aC a 0)).2,(iV (ay n) c a).size⟩] ?_|refine ap ?_|exact jI|(clear hK K)))
   (refine aY [] ?_;try simp only[go_sem])
 ·have e1:iV (ay n) c a=gO (ay n) c a:=if_neg c1;rw[e1]at Wg;by_cases c2:24<=(gO (ay n) c a).size
  ·have e2:ee (ay n) c a=(gO (ay n) c a).aD 4 a:=by unfold ee;rw[e1];exact if_pos c2
   rw[<-e2]at Wg
   (repeat' (first|refine aq fun K hK=>?_|refine am ?_|(with_reducible refine gR 7 ?_);refine dE 7 (au 0 12) mixed ?_|(with_reducible refine gR 8 ?_);refine dE 8 (au 0 18) mixed ?_|(refine hK _ _ ?_;clear hK K)|(refine ao ?_ ?_<;>intro hc<;>try exact jz)|refine cm (hex) ?_|refine cm (QI) ?_|refine cm (QS) ?_|refine cm (Wg) ?_|refine rO (ee (ay n) c a).vars (ee (ay n) c a).more [⟨(c.node a).name,(ay n c (c.aC a 0)).2,(ee (ay n) c a).size⟩] ?_|refine ap ?_|exact jI|(clear hK K)))
   (refine aY [] ?_;try simp only[go_sem])
  ·have e2:ee (ay n) c a=gO (ay n) c a:=by unfold ee;rw[e1];exact if_neg c2
   rw[e2]at QH W1 VD Rv;rw[e2]
   (repeat' (first|refine aq fun K hK=>?_|refine am ?_|(with_reducible refine gR 7 ?_);refine dE 7 (au 0 12) mixed ?_|(with_reducible refine gR 8 ?_);refine dE 8 (au 0 18) mixed ?_|(refine hK _ _ ?_;clear hK K)|(refine ao ?_ ?_<;>intro hc<;>try exact jz)|refine cm (hex) ?_|refine cm (QI) ?_|refine cm (QS) ?_|refine rO (gO (ay n) c a).vars (gO (ay n) c a).more [⟨(c.node a).name,(ay n c (c.aC a 0)).2,(gO (ay n) c a).size⟩] ?_|refine ap ?_|exact jI|(clear hK K)))
   (refine aY [] ?_;try simp only[go_sem])
def EM(n:Nat)(hs:zz n):FV n:=by
 intro c a h h0 h1 hn hk;obtain⟨sh,QX⟩:=r6 h h0 h1;have g':(nth c.aa.nodes a.toNat).l.length<=300:=wj h h0 h1;have e0:=pg c a;have Vl:=h.ev e0;have RN:=h.av;have Zf:=h.vars;have Qh:=h.size;refine aO func93 ntmps93 ?_;refine S ?_
 (repeat' (first|refine aq fun K hK=>?_|refine am ?_|(with_reducible refine gR 0 ?_);refine dE 0 (au 0 12) mixed ?_|(with_reducible refine gR 7 ?_);refine dE 7 (au 0 16) mixed ?_|(refine hK _ _ ?_;clear hK K)|(refine ao ?_ ?_<;>intro hc<;>try exact jz)|refine ap ?_|exact jI|(clear hK K)))
 have M':=hK;clear hK;refine de (S:=Nat×Ck) [(6,1),(33,19)] (fun s=>s.1<=(c.node a).l.length/\Sv (c.aj a) s.2/\dN (bP n) s.2 ((c.node a).l.drop s.1)=dN (bP n) (c.aj a) (c.node a).l) (fun s=>[(6,rI s.1)]) (fun s=>⟨[0,1,2,3,4,5],eN s.2⟩) (fun s=>(c.node a).l.length-s.1) (0,c.aj a) ⟨jJ,.refl Vl,rfl⟩ (dc gT bK) ?_;rintro⟨i,q⟩ ⟨hi,hq,hA⟩ Kr P9;simp only at hi hq hA
 (refine S ?_;try exact jI)
 have lt1:=hq.inv.types;have lt3:=hq.inv.av;have lt4:=hq.inv.vars;have lt5:=hq.inv.size;by_cases RC:i<(c.node a).l.length/\q.e=0
 ·obtain⟨QA,Q8⟩:=RC;have Wh:i<(nth c.aa.nodes a.toNat).l.length:=QA;rw[jh QA,dN,if_pos Q8]at hA;have hm:nth (c.node a).l i∈(c.node a).l:=dZ QA;have hb:=QX _ hm;have J':=hs q (nth (c.node a).l i) hq.inv Q8 hb.1 (by rw[hq.aa];show _<(c.aa.nodes.length:Int);omega) jB (by
   have:q.node (nth (c.node a).l i)=c.node (nth (c.node a).l i):=by unfold Ck.node;rw[hq.aa];rfl
   rw[this];exact sh.block hk _ hm)
  (have W:=Q8;repeat' (first|refine aq fun K hK=>?_|refine am ?_|(with_reducible refine gR 0 ?_);refine dE 0 (au 0 12) mixed ?_|(with_reducible refine gR 7 ?_);refine dE 7 (au 0 16) mixed ?_|(refine hK _ _ ?_;clear hK K)|(refine ao ?_ ?_<;>intro hc<;>try exact jz)|refine M' _ _ ?_|refine cm (J') ?_|refine ap ?_|exact jI|(clear hK K)))
  refine P9 _ _ (dI (i+1,bP n q (nth (c.node a).l i)) ⟨jJ,hq.trans (mH n q _ hq.inv Q8),hA⟩ jJ gT bK)
 ·have hz:q=dN (bP n) (c.aj a) (c.node a).l:=by
   by_cases QA:i<(c.node a).l.length
   ·rw[jh QA,dN,if_neg fun e=>RC ⟨QA,e⟩]at hA;exact hA
   ·rw[List.drop_eq_nil_of_le jB,dN]at hA;exact hA
  have e1:eE (bP n) c a={ q with vars:=q.vars.take (min c.vars.length q.vars.length),more:=q.vars.drop (min c.vars.length q.vars.length)++q.more }:=by unfold eE;rw[<-hz]
  obtain⟨u,hu⟩:=hq.pre;have hu:q.vars=c.vars++u:=hu;have XI:min c.vars.length q.vars.length=c.vars.length:=by rw[hu];simp
  have TX:¬(i<(nth c.aa.nodes a.toNat).l.length/\q.e=0):=RC
  (repeat' (first|refine aq fun K hK=>?_|refine am ?_|(with_reducible refine gR 0 ?_);refine dE 0 (au 0 12) mixed ?_|(with_reducible refine gR 7 ?_);refine dE 7 (au 0 16) mixed ?_|(refine hK _ _ ?_;clear hK K)|(refine ao ?_ ?_<;>intro hc<;>try exact jz)|refine M' _ _ ?_|refine ap ?_|exact jI|(clear hK K)))
  all_goals first|(exact absurd ⟨by have:=hc.1;omega,hc.2⟩ TX)|skip
  have ht:q.vars.take c.vars.length=c.vars:=by rw[hu,List.take_left' rfl]
  have hd:q.vars.drop c.vars.length=u:=by rw[hu,List.drop_left' rfl]
  rw[e1,XI,ht,hd]
  (refine cj [] ?_ ?_<;>(try simp only[go_sem]))
  simp only[hu,List.map_append,List.append_assoc,List.length_append,Nat.add_assoc];rw[jN,Int.toNat_natCast]
def Oo(n:Nat)(hx:ra n)(c:Ck)(a:Int)(h:bD c)(h0:0<=a)(h1:a<c.aa.nodes.length)(hn:a.toNat<=n)(hk:(c.node a).kind=17):af prog 164 [pR,rI a] (eN c) (fun v l=>v=.bt []/\l=eN (jS (ay n) c a)):=by
 obtain⟨sh,QX⟩:=r6 h h0 h1;have Q5:=h.tj;have hfh:=h.sa;have g':(nth c.aa.nodes a.toNat).l.length<=300:=wj h h0 h1;have Wi:=qM c 43 a;have UP:decide (((c.node a).l.length:Int)=1)=decide ((c.node a).l.length=1):=by rw[decide_eq_decide];omega
 by_cases b:decide ((c.node a).l.length=1)≠(!decide ((nth c.aa.av c.fn.toNat).ret=0))
 ·have e1:jS (ay n) c a=c.aD 43 a:=if_pos b;have hb:(decide (((nth c.aa.nodes a.toNat).l.length:Int)=1) == !decide ((nth c.aa.av c.fn.toNat).ret=0))=false:=by
   rw[show((nth c.aa.nodes a.toNat).l.length)=(c.node a).l.length from rfl,UP];simpa using b
  rw[e1];refine aO func164 ntmps164 ?_;refine S ?_
  (have W:=hb;repeat' (first|refine aq fun K hK=>?_|refine am ?_|(with_reducible refine gR 1 ?_);refine dE 1 (au 0 14) mixed ?_|(refine hK _ _ ?_;clear hK K)|(refine ao ?_ ?_<;>intro hc<;>try exact jz)|refine cm (Wi) ?_|refine ap ?_|exact jI|(clear hK K)))
  (refine aY [] ?_;try simp only[go_sem])
 ·have hb:(decide (((nth c.aa.nodes a.toNat).l.length:Int)=1) == !decide ((nth c.aa.av c.fn.toNat).ret=0))=true:=by
   rw[show((nth c.aa.nodes a.toNat).l.length)=(c.node a).l.length from rfl,UP];rw[Classical.not_not.1 b];exact beq_self_eq_true _
  by_cases hl:(c.node a).l.length=1
  ·have Rb:(nth c.aa.nodes a.toNat).l.length=1:=hl;have e1:jS (ay n) c a=(ay n c (c.aC a 0)).1.ar (decide ((ay n c (c.aC a 0)).2=(nth c.aa.av c.fn.toNat).ret)) a:=by unfold jS;simp only;rw[if_neg b,if_pos hl]
   rcases sh.ret hk with h2|⟨x,h2,h3⟩
   ·rw[h2]at hl;cases hl
   have Q7:c.aC a 0=x:=by unfold Ck.aC;rw[h2];rfl
   have hm:=QX x (by rw[h2];simp);have hex:=hx c (c.aC a 0) h jB jB jB (by rw[Q7];exact .inl h3);have QI:=mQ (ay n c (c.aC a 0)).1 (decide ((ay n c (c.aC a 0)).2=(nth c.aa.av c.fn.toNat).ret)) a;rw[e1];refine aO func164 ntmps164 ?_;refine S ?_
   (have W:=hb;repeat' (first|refine aq fun K hK=>?_|refine am ?_|(with_reducible refine gR 1 ?_);refine dE 1 (au 0 14) mixed ?_|(refine hK _ _ ?_;clear hK K)|(refine ao ?_ ?_<;>intro hc<;>try exact jz)|refine cm (hex) ?_|refine cm (QI) ?_|refine ap ?_|exact jI|(clear hK K)))
   (refine aY [] ?_;try simp only[go_sem])
  ·have Rb:¬(nth c.aa.nodes a.toNat).l.length=1:=hl;have e1:jS (ay n) c a=c:=by unfold jS;simp only;rw[if_neg b,if_neg hl]
   rw[e1];refine aO func164 ntmps164 ?_;refine S ?_
   (have W:=hb;repeat' (first|refine aq fun K hK=>?_|refine am ?_|(with_reducible refine gR 1 ?_);refine dE 1 (au 0 14) mixed ?_|(refine hK _ _ ?_;clear hK K)|(refine ao ?_ ?_<;>intro hc<;>try exact jz)|refine ap ?_|exact jI|(clear hK K)))
   (refine aY [] ?_;try simp only[go_sem])
def Mt(n:Nat):Prop:=∀(c:Ck) (a:Int),bD c->c.e=0->0<=a->a<c.aa.nodes.length->a.toNat<=n->(c.node a).kind=10->af prog 160 [pR,rI a] (eN c) (fun v l=>v=.bt []/\l=eN (nC (ay n) c a))
def HU(n:Nat):Prop:=∀(c:Ck) (a:Int),bD c->0<=a->a<c.aa.nodes.length->a.toNat<=n->(c.node a).kind=17->af prog 164 [pR,rI a] (eN c) (fun v l=>v=.bt []/\l=eN (jS (ay n) c a))
def JA(n:Nat)(hx:ra n)(hl:Mt n)(hr:HU n)(Wj:FV n):zz (n+1):=by
 intro c a h he h0 h1 hn hk;have ev:=pg c a;have hq:=h.ev ev;obtain⟨sh,QX⟩:=r6 h h0 h1;have g':(nth c.aa.nodes a.toNat).l.length<=300:=wj h h0 h1;have RN:=h.av;have Zf:=h.vars;have Qh:=h.size;have QW:∀i,i<(c.node a).l.length->(c.aC a i).toNat<n/\0<=c.aC a i/\c.aC a i<c.aa.nodes.length:=fun i hi=>by have hm:c.aC a i∈(c.node a).l:=dZ hi;have:=QX _ hm;omega
 have en:=l7 (c.aj a) a;have WX:=hq.ev en;have Qx:=CH (c.aj a) a hq h0 h1;have e17:(c.node a).kind=10\/(c.node a).kind=11\/(c.node a).kind=12\/(c.node a).kind=13\/(c.node a).kind=14\/(c.node a).kind=17\/((c.node a).kind=15\/(c.node a).kind=16):=by unfold fB at hk;omega
 rcases e17 with k|k|k|k|k|k|k
 ·have O':(nth c.aa.nodes a.toNat).kind=10:=k;have k0:((c.aj a).node a).kind=10:=k;have Xm:=hl (c.aj a) a hq he h0 h1 jB k0;rw[show bP (n+1) c a=nC (ay n) (c.aj a) a from by unfold bP;simp only;rw[k0];rfl];refine aO func139 ntmps139 ?_;refine S ?_
  (have W:=O';repeat' (first|refine aq fun K hK=>?_|refine am ?_|(with_reducible refine gR 1 ?_);refine dE 1 (au 0 12) mixed ?_|(refine hK _ _ ?_;clear hK K)|(refine ao ?_ ?_<;>intro hc<;>try exact jz)|refine cm (Xm) ?_|refine ap ?_|exact jI|(clear hK K)))
  (refine aY [] ?_;try simp only[go_sem])
 ·have O':(nth c.aa.nodes a.toNat).kind=11:=k;have k0:((c.aj a).node a).kind=11:=k;obtain⟨x,RD,Qc⟩:=sh.right jB;have QC:(c.node a).l.length=1:=by rw[RD];rfl
  have Rb:(nth c.aa.nodes a.toNat).l.length=1:=QC;obtain⟨g0a,g0b,g0c⟩:=QW 0 jB;have Ql:c.aC a 0=x:=by unfold Ck.aC;rw[RD];rfl
  have hex:=hx ((c.aj a).named a).1 (c.aC a 0) WX g0b (by rw[en.aa];exact g0c) g0a (by rw[en.node];show ff (c.node (c.aC a 0)).kind;rw[Ql];exact Qc);have QI:=mQ (ay n ((c.aj a).named a).1 (c.aC a 0)).1 (decide (((c.aj a).named a).2=(ay n ((c.aj a).named a).1 (c.aC a 0)).2)) a;rw[show bP (n+1) c a=(ay n ((c.aj a).named a).1 (c.aC a 0)).1.ar (decide (((c.aj a).named a).2=(ay n ((c.aj a).named a).1 (c.aC a 0)).2)) a from by unfold bP;simp only;rw[k0];rfl];refine aO func139 ntmps139 ?_;refine S ?_
  (have W:=O';repeat' (first|refine aq fun K hK=>?_|refine am ?_|(with_reducible refine gR 1 ?_);refine dE 1 (au 0 12) mixed ?_|(refine hK _ _ ?_;clear hK K)|(refine ao ?_ ?_<;>intro hc<;>try exact jz)|refine cm (Qx) ?_|refine cm (hex) ?_|refine cm (QI) ?_|refine ap ?_|exact jI|(clear hK K)))
  (refine aY [] ?_;try simp only[go_sem])
 ·have O':(nth c.aa.nodes a.toNat).kind=12:=k;have k0:((c.aj a).node a).kind=12:=k;obtain⟨x,y,RD,Qc,Uo⟩:=sh.two jB;have QC:(c.node a).l.length=2:=by rw[RD];rfl
  have Rb:(nth c.aa.nodes a.toNat).l.length=2:=QC;obtain⟨g0a,g0b,g0c⟩:=QW 0 jB;have Ql:c.aC a 0=x:=by unfold Ck.aC;rw[RD];rfl
  obtain⟨g1a,g1b,g1c⟩:=QW 1 jB;have Qt:c.aC a 1=y:=by unfold Ck.aC;rw[RD];rfl
  have ex1:=eo n ((c.aj a).named a).1 (c.aC a 0);have hex:=hx ((c.aj a).named a).1 (c.aC a 0) WX g0b (by rw[en.aa];exact g0c) g0a (by rw[en.node];show ff (c.node (c.aC a 0)).kind;rw[Ql];exact .inl Qc);have XF:=hx (ay n ((c.aj a).named a).1 (c.aC a 0)).1 (c.aC a 1) (WX.ev ex1) g1b (by rw[ex1.aa,en.aa];exact g1c) g1a (by rw[ex1.node,en.node];show ff (c.node (c.aC a 1)).kind;rw[Qt];exact .inl Uo);have QI:=mQ (ay n (ay n ((c.aj a).named a).1 (c.aC a 0)).1 (c.aC a 1)).1 (decide (((c.aj a).named a).2=4) && decide ((ay n ((c.aj a).named a).1 (c.aC a 0)).2=1) && decide ((ay n (ay n ((c.aj a).named a).1 (c.aC a 0)).1 (c.aC a 1)).2=1)) a;rw[show bP (n+1) c a=(ay n (ay n ((c.aj a).named a).1 (c.aC a 0)).1 (c.aC a 1)).1.ar (decide (((c.aj a).named a).2=4) && decide ((ay n ((c.aj a).named a).1 (c.aC a 0)).2=1) && decide ((ay n (ay n ((c.aj a).named a).1 (c.aC a 0)).1 (c.aC a 1)).2=1)) a from by unfold bP;simp only;rw[k0];rfl];refine aO func139 ntmps139 ?_;refine S ?_
  (have W:=O';repeat' (first|refine aq fun K hK=>?_|refine am ?_|(with_reducible refine gR 1 ?_);refine dE 1 (au 0 12) mixed ?_|(refine hK _ _ ?_;clear hK K)|(refine ao ?_ ?_<;>intro hc<;>try exact jz)|refine cm (Qx) ?_|refine cm (hex) ?_|refine cm (XF) ?_|refine cm (QI) ?_|refine ap ?_|exact jI|(clear hK K)))
  (refine aY [] ?_;try simp only[go_sem])
 ·have O':(nth c.aa.nodes a.toNat).kind=13:=k;have k0:((c.aj a).node a).kind=13:=k;obtain⟨x,RD,Qc⟩:=sh.oN jB;have QC:(c.node a).l.length=1:=by rw[RD];rfl
  have Rb:(nth c.aa.nodes a.toNat).l.length=1:=QC;obtain⟨g0a,g0b,g0c⟩:=QW 0 jB;have Ql:c.aC a 0=x:=by unfold Ck.aC;rw[RD];rfl
  have hex:=hx (c.aj a) (c.aC a 0) hq g0b g0c g0a (by show ff (c.node (c.aC a 0)).kind;rw[Ql];exact .inr (.inr (.inr Qc)));rw[show bP (n+1) c a=(ay n (c.aj a) (c.aC a 0)).1 from by unfold bP;simp only;rw[k0];rfl];refine aO func139 ntmps139 ?_;refine S ?_
  (have W:=O';repeat' (first|refine aq fun K hK=>?_|refine am ?_|(with_reducible refine gR 1 ?_);refine dE 1 (au 0 12) mixed ?_|(refine hK _ _ ?_;clear hK K)|(refine ao ?_ ?_<;>intro hc<;>try exact jz)|refine cm (hex) ?_|refine ap ?_|exact jI|(clear hK K)))
  (refine aY [] ?_;try simp only[go_sem])
 ·have O':(nth c.aa.nodes a.toNat).kind=14:=k;have k0:((c.aj a).node a).kind=14:=k;obtain⟨x,RD,Qc⟩:=sh.one jB;have QC:(c.node a).l.length=1:=by rw[RD];rfl
  have Rb:(nth c.aa.nodes a.toNat).l.length=1:=QC;obtain⟨g0a,g0b,g0c⟩:=QW 0 jB;have Ql:c.aC a 0=x:=by unfold Ck.aC;rw[RD];rfl
  have hex:=hx (c.aj a) (c.aC a 0) hq g0b g0c g0a (by show ff (c.node (c.aC a 0)).kind;rw[Ql];exact .inl Qc);have QI:=mQ (ay n (c.aj a) (c.aC a 0)).1 (!decide ((ay n (c.aj a) (c.aC a 0)).2=4)) a;rw[show bP (n+1) c a=(ay n (c.aj a) (c.aC a 0)).1.ar (!decide ((ay n (c.aj a) (c.aC a 0)).2=4)) a from by unfold bP;simp only;rw[k0];rfl];refine aO func139 ntmps139 ?_;refine S ?_
  (have W:=O';repeat' (first|refine aq fun K hK=>?_|refine am ?_|(with_reducible refine gR 1 ?_);refine dE 1 (au 0 12) mixed ?_|(refine hK _ _ ?_;clear hK K)|(refine ao ?_ ?_<;>intro hc<;>try exact jz)|refine cm (hex) ?_|refine cm (QI) ?_|refine ap ?_|exact jI|(clear hK K)))
  (refine aY [] ?_;try simp only[go_sem])
 ·have O':(nth c.aa.nodes a.toNat).kind=17:=k;have k0:((c.aj a).node a).kind=17:=k;have Zg:=hr (c.aj a) a hq h0 h1 jB k0;rw[show bP (n+1) c a=jS (ay n) (c.aj a) a from by unfold bP;simp only;rw[k0];rfl];refine aO func139 ntmps139 ?_;refine S ?_
  (have W:=O';repeat' (first|refine aq fun K hK=>?_|refine am ?_|(with_reducible refine gR 1 ?_);refine dE 1 (au 0 12) mixed ?_|(refine hK _ _ ?_;clear hK K)|(refine ao ?_ ?_<;>intro hc<;>try exact jz)|refine cm (Zg) ?_|refine ap ?_|exact jI|(clear hK K)))
  (refine aY [] ?_;try simp only[go_sem])
 ·have Qp:1<=(c.node a).l.length/\cr (c.node (c.aC a 0)).kind/\∀i,i<(c.node a).l.length->1<=i->(c.node (nth (c.node a).l i)).kind=18:=by
   have fin:∀{x y:Int},(c.node a).l=[x,y]->cr (bJ c.aa.nodes x)->bJ c.aa.nodes y=18->1<=(c.node a).l.length/\cr (c.node (c.aC a 0)).kind/\∀i,i<(c.node a).l.length->1<=i->(c.node (nth (c.node a).l i)).kind=18:=fun{x y} e hx hy=>by
    refine⟨by rw[e];simp,by have:c.aC a 0=x:=(by unfold Ck.aC;rw[e];rfl);rw[this];exact hx,fun i hi h1=>?_⟩;rw[e]at hi ⊢;obtain rfl:i=1:=by simp at hi;omega
    exact hy
   rcases k with k|k
   ·obtain⟨x,y,Qs,Tl,RD⟩:=sh.jM k;rcases RD with RD|⟨d,RD,hd⟩
    ·exact fin RD Qs Tl
    ·refine⟨by rw[RD];simp,by have:c.aC a 0=x:=(by unfold Ck.aC;rw[RD];rfl);rw[this];exact Qs,fun i hi h1=>?_⟩;rw[RD]at hi ⊢;rcases(show i=1\/i=2 by simp at hi;omega)with rfl|rfl
     ·exact Tl
     ·exact hd
   ·obtain⟨x,y,RD,Qs,Tl⟩:=sh.dH k;exact fin RD Qs Tl
  obtain⟨QC,Qs,SL⟩:=Qp;have Rb:1<=(nth c.aa.nodes a.toNat).l.length:=QC;obtain⟨g0a,g0b,g0c⟩:=QW 0 jB;have hex:=hx (c.aj a) (c.aC a 0) hq g0b g0c g0a (.inl Qs);have eM:Ev c ((ay n (c.aj a) (c.aC a 0)).1.ar (decide ((ay n (c.aj a) (c.aC a 0)).2=2)) a):=(ev.trans (eo n _ _)).trans (jb _ _ _);have hM:=h.ev eM;have QI:=mQ (ay n (c.aj a) (c.aC a 0)).1 (decide ((ay n (c.aj a) (c.aC a 0)).2=2)) a;rcases k with k|k
  ·have O':(nth c.aa.nodes a.toNat).kind=15:=k;have k0:((c.aj a).node a).kind=15:=k;rw[show bP (n+1) c a=dN (eE (bP n)) ((ay n (c.aj a) (c.aC a 0)).1.ar (decide ((ay n (c.aj a) (c.aC a 0)).2=2)) a) ((c.node a).l.drop 1) from by unfold bP;simp only;rw[k0];rfl];generalize hY:dN (eE (bP n)) ((ay n (c.aj a) (c.aC a 0)).1.ar (decide ((ay n (c.aj a) (c.aC a 0)).2=2)) a) ((c.node a).l.drop 1)=Y;refine aO func139 ntmps139 ?_;refine S ?_
   (have W:=O';repeat' (first|refine aq fun K hK=>?_|refine am ?_|(with_reducible refine gR 1 ?_);refine dE 1 (au 0 12) mixed ?_|(refine hK _ _ ?_;clear hK K)|(refine ao ?_ ?_<;>intro hc<;>try exact jz)|refine cm (hex) ?_|refine cm (QI) ?_|refine ap ?_|exact jI|(clear hK K)))
   refine de (S:=Nat×Ck) [(12,1),(46,21)] (fun s=>s.1<=(c.node a).l.length/\1<=s.1/\bD s.2/\s.2.aa=c.aa/\dN (eE (bP n)) s.2 ((c.node a).l.drop s.1)=Y) (fun s=>[(12,rI s.1)]) (fun s=>⟨[0,1,2,3,4,5],eN s.2++[(6,.var 78 (bX (c.node a)))]⟩) (fun s=>(c.node a).l.length-s.1) (1,(ay n (c.aj a) (c.aC a 0)).1.ar (decide ((ay n (c.aj a) (c.aC a 0)).2=2)) a) ⟨jJ,Nat.le_refl _,hM,eM.aa,hY⟩ (dc gT bK) ?_;rintro⟨i,z⟩ ⟨hi,So,hz,Uz,hA⟩ Kr P9;simp only at hi So hz Uz hA;have R8:i<=(nth c.aa.nodes a.toNat).l.length:=hi
   (refine S ?_;try exact jI)
   by_cases RC:i<(c.node a).l.length/\z.e=0
   ·obtain⟨QA,Q8⟩:=RC;have Wh:i<(nth c.aa.nodes a.toNat).l.length:=QA;rw[jh QA,dN,if_pos Q8]at hA;have hm:nth (c.node a).l i∈(c.node a).l:=dZ QA;have hb:=QX _ hm;have Wk:=Wj z (nth (c.node a).l i) hz hb.1 (by rw[Uz];omega) jB (by
     have:z.node (nth (c.node a).l i)=c.node (nth (c.node a).l i):=by unfold Ck.node;rw[Uz]
     rw[this];exact SL i QA So)
    have sz:=(oJ (fun q b hq he=>mH n q b hq he) hz (nth (c.node a).l i)).1
    (have W:=Q8;repeat' (first|refine aq fun K hK=>?_|refine am ?_|(with_reducible refine gR 1 ?_);refine dE 1 (au 0 12) mixed ?_|(refine hK _ _ ?_;clear hK K)|(refine ao ?_ ?_<;>intro hc<;>try exact jz)|refine cm (Wk) ?_|refine ap ?_|exact jI|(clear hK K)))
    refine P9 _ _ (dI (i+1,eE (bP n) z (nth (c.node a).l i)) ⟨jJ,jJ,sz.inv,sz.aa.trans Uz,hA⟩ jJ gT bK)
   ·have SG:z=Y:=by
     by_cases QA:i<(c.node a).l.length
     ·rw[jh QA,dN,if_neg fun e=>RC ⟨QA,e⟩]at hA;exact hA
     ·rw[List.drop_eq_nil_of_le jB,dN]at hA;exact hA
    have TX:¬(i<(nth c.aa.nodes a.toNat).l.length/\z.e=0):=RC
    (repeat' (first|refine aq fun K hK=>?_|refine am ?_|(with_reducible refine gR 1 ?_);refine dE 1 (au 0 12) mixed ?_|(refine hK _ _ ?_;clear hK K)|(refine ao ?_ ?_<;>intro hc<;>try exact jz)|refine ap ?_|exact jI|(clear hK K)))
    all_goals first|(exact absurd ⟨by have:=hc.1;omega,hc.2⟩ TX)|skip
    rw[<-SG]
    (refine aY [] ?_;try simp only[go_sem])
  ·have O':(nth c.aa.nodes a.toNat).kind=16:=k;have k0:((c.aj a).node a).kind=16:=k;rw[show bP (n+1) c a=dN (eE (bP n)) ((ay n (c.aj a) (c.aC a 0)).1.ar (decide ((ay n (c.aj a) (c.aC a 0)).2=2)) a) ((c.node a).l.drop 1) from by unfold bP;simp only;rw[k0];rfl];generalize hY:dN (eE (bP n)) ((ay n (c.aj a) (c.aC a 0)).1.ar (decide ((ay n (c.aj a) (c.aC a 0)).2=2)) a) ((c.node a).l.drop 1)=Y;refine aO func139 ntmps139 ?_;refine S ?_
   (have W:=O';repeat' (first|refine aq fun K hK=>?_|refine am ?_|(with_reducible refine gR 1 ?_);refine dE 1 (au 0 12) mixed ?_|(refine hK _ _ ?_;clear hK K)|(refine ao ?_ ?_<;>intro hc<;>try exact jz)|refine cm (hex) ?_|refine cm (QI) ?_|refine ap ?_|exact jI|(clear hK K)))
   refine de (S:=Nat×Ck) [(12,1),(46,21)] (fun s=>s.1<=(c.node a).l.length/\1<=s.1/\bD s.2/\s.2.aa=c.aa/\dN (eE (bP n)) s.2 ((c.node a).l.drop s.1)=Y) (fun s=>[(12,rI s.1)]) (fun s=>⟨[0,1,2,3,4,5],eN s.2++[(6,.var 78 (bX (c.node a)))]⟩) (fun s=>(c.node a).l.length-s.1) (1,(ay n (c.aj a) (c.aC a 0)).1.ar (decide ((ay n (c.aj a) (c.aC a 0)).2=2)) a) ⟨jJ,Nat.le_refl _,hM,eM.aa,hY⟩ (dc gT bK) ?_;rintro⟨i,z⟩ ⟨hi,So,hz,Uz,hA⟩ Kr P9;simp only at hi So hz Uz hA;have R8:i<=(nth c.aa.nodes a.toNat).l.length:=hi
   (refine S ?_;try exact jI)
   by_cases RC:i<(c.node a).l.length/\z.e=0
   ·obtain⟨QA,Q8⟩:=RC;have Wh:i<(nth c.aa.nodes a.toNat).l.length:=QA;rw[jh QA,dN,if_pos Q8]at hA;have hm:nth (c.node a).l i∈(c.node a).l:=dZ QA;have hb:=QX _ hm;have Wk:=Wj z (nth (c.node a).l i) hz hb.1 (by rw[Uz];omega) jB (by
     have:z.node (nth (c.node a).l i)=c.node (nth (c.node a).l i):=by unfold Ck.node;rw[Uz]
     rw[this];exact SL i QA So)
    have sz:=(oJ (fun q b hq he=>mH n q b hq he) hz (nth (c.node a).l i)).1
    (have W:=Q8;repeat' (first|refine aq fun K hK=>?_|refine am ?_|(with_reducible refine gR 1 ?_);refine dE 1 (au 0 12) mixed ?_|(refine hK _ _ ?_;clear hK K)|(refine ao ?_ ?_<;>intro hc<;>try exact jz)|refine cm (Wk) ?_|refine ap ?_|exact jI|(clear hK K)))
    refine P9 _ _ (dI (i+1,eE (bP n) z (nth (c.node a).l i)) ⟨jJ,jJ,sz.inv,sz.aa.trans Uz,hA⟩ jJ gT bK)
   ·have SG:z=Y:=by
     by_cases QA:i<(c.node a).l.length
     ·rw[jh QA,dN,if_neg fun e=>RC ⟨QA,e⟩]at hA;exact hA
     ·rw[List.drop_eq_nil_of_le jB,dN]at hA;exact hA
    have TX:¬(i<(nth c.aa.nodes a.toNat).l.length/\z.e=0):=RC
    (repeat' (first|refine aq fun K hK=>?_|refine am ?_|(with_reducible refine gR 1 ?_);refine dE 1 (au 0 12) mixed ?_|(refine hK _ _ ?_;clear hK K)|(refine ao ?_ ?_<;>intro hc<;>try exact jz)|refine ap ?_|exact jI|(clear hK K)))
    all_goals first|(exact absurd ⟨by have:=hc.1;omega,hc.2⟩ TX)|skip
    rw[<-SG]
    (refine aY [] ?_;try simp only[go_sem])
theorem vl:∀n,ra n
 |0=>fun c a h h0 h1 hn=>by omega
 |n+1=>IG n (Hg n (vl n) (Na n (vl n)))
theorem GB:∀n,zz n
 |0=>fun c a h he h0 h1 hn=>by omega
 |n+1=>JA n (vl n) (fun c a h he h0 h1 hn hk=>NI n (vl n) c a h he h0 h1 hn hk) (fun c a h h0 h1 hn hk=>Oo n (vl n) c a h h0 h1 hn hk) (EM n (GB n))
def xQ(c:Ck):PW:=[ax bX 5 c.aa.nodes,ax eZ 5 c.aa.av,.rs 1 c.types.length 1 c.types.length,.rs 2 c.ab.length 1 c.ab.length,.rs 3 c.av.length 1 c.av.length,.rs 4 c.aL.length 1 c.aL.length,rI c.fn,.any,rI c.size,rI c.e,rI c.at_]
def mn(c:Ck):PV:=[(0,.var 137 (xQ c)),(1,.aG 3 1 (c.types.map eI)),(2,.aG 3 1 (c.ab.map eI)),(3,.aG 3 1 (c.av.map eI)),(4,.aG 3 1 (c.aL.map eI))]
attribute [go_sem] mn xQ
structure fw(c:Ck):Prop where
 aa:aX c.aa
 types:c.types.length=c.aa.nodes.length
 ab:c.ab.length=c.aa.nodes.length
 av:c.av.length=c.aa.nodes.length
def lj(c:Ck)(v:bH):Ck:={ c with vars:=c.vars++[v],more:=c.more.drop 1,size:=c.size+1 }
attribute [go_sem] lj
def y4{c:Ck}(h:bD c)(v:bH)(hs:c.size<=20):bD (lj c v):=⟨h.aa,h.types,h.ab,h.av,h.aL,h.tj,h.sa,by have:=h.vars;show((c.vars++[v]).length:Int)<=c.size+1;simp;omega,by show c.size+1<=25;omega,fun _=>by show c.size+1<=24;omega⟩
def Je(c:Ck)(k:Nat)(h:fw c)(hk:k<c.aa.av.length)(Qh:c.aL.length<6):af prog 56 [pR,rI k] (mn c) (fun v l=>v=.bt []/\l=mn (fY c k)):=by
 have Un:=h.aa.av;have Q5:=h.aa.fn _ (dZ hk);have W2:=Q5.2;have Vm:=h.aa.body _ (dZ hk);have Zh:=h.aa.chain.mem (nth c.aa.av k).body (List.mem_map.2 ⟨_,dZ hk,rfl⟩);refine aO func56 ntmps56 ?_;refine S ?_
 (repeat' (first|refine aq fun K hK=>?_|refine am ?_|(with_reducible refine gR 9 ?_);refine dE 9 (au 0 24) mixed ?_|(with_reducible refine gR 13 ?_);refine dE 13 (au 0 16) mixed ?_|(refine hK _ _ ?_;clear hK K)|(refine ao ?_ ?_<;>intro hc<;>try exact jz)|refine al 6 ?_|refine ap ?_|exact jI|(clear hK K)))
 have M':=hK;clear hK;refine gj (cY.fL 5 0 7 179 3 rfl jC rfl rfl) ?_
 (refine S ?_;try exact jI)
 generalize Ut:({ c with fn:=(k:Int),vars:=[],more:=[],size:=0 }:Ck)=c0;have Sr:bD c0:=by subst Ut;exact⟨h.aa,h.types,h.ab,h.av,by show c.aL.length<=6;omega,by show(0:Int)<=k;omega,by show(k:Int)<(c.aa.av.length:Int);omega,by show((0:Nat):Int)<=0;omega,by show(0:Int)<=25;omega,fun _=>by show(0:Int)<=24;omega⟩
 have Q6:fY c k=(fun c2:Ck=>{ c2 with aL:=c2.aL++[c2.size],vars:=[],more:=[] }) (if(eP (nth c.aa.av k).body c0 (nth c.aa.av k).params 0).e=0 then eE (bP c.aa.nodes.length) (eP (nth c.aa.av k).body c0 (nth c.aa.av k).params 0) (nth c.aa.av k).body else eP (nth c.aa.av k).body c0 (nth c.aa.av k).params 0):=by subst Ut;rfl
 refine gj (cY.perm (eN c0++[(6,.var 132 (eZ (nth c.aa.av k)))]) (fun i=>by subst Ut;simp only[go_sem,aB];(repeat' split)<;>first|rfl|omega)) ?_;refine de (S:=Nat×Ck) [(5,1),(25,50)] (fun s=>s.1<=(nth c.aa.av k).params.length/\bD s.2/\s.2.size=s.1/\s.2.vars.length=s.1/\s.2.aa=c.aa/\s.2.aL=c.aL/\eP (nth c.aa.av k).body s.2 ((nth c.aa.av k).params.drop s.1) s.1=eP (nth c.aa.av k).body c0 (nth c.aa.av k).params 0) (fun s=>[(5,rI s.1)]) (fun s=>⟨[0,1,2,3,4],eN s.2++[(6,.var 132 (eZ (nth c.aa.av k)))]⟩) (fun s=>(nth c.aa.av k).params.length-s.1) (0,c0) ⟨jJ,Sr,by subst Ut;rfl,by subst Ut;rfl,by subst Ut;rfl,by subst Ut;rfl,rfl⟩ (dc rfl bK) ?_;rintro⟨i,q⟩ ⟨hi,hq,Zi,Vc,TJ,Vn,hA⟩ Kr P9;simp only at hi hq Zi Vc TJ Vn hA
 (refine S ?_;try exact jI)
 by_cases Qd:i<(nth c.aa.av k).params.length
 ·rw[jh Qd,eP]at hA;have QS:=zk q (nth (nth c.aa.av k).params i).name hq;have TW:=qM q 41 (nth c.aa.av k).body;by_cases hf:0<=q.find (nth (nth c.aa.av k).params i).name
  ·rw[if_pos hf]at hA;have ef:=mu q (e:=41) jC (nth c.aa.av k).body;have Zj:=ef.vars;have Tc:=ef.size;have So:=hq.ev ef;have Us:(q.aD 41 (nth c.aa.av k).body).vars.length=i:=by rw[Zj,Vc]
   (repeat' (first|refine aq fun K hK=>?_|refine am ?_|(with_reducible refine gR 9 ?_);refine dE 9 (au 0 24) mixed ?_|(with_reducible refine gR 13 ?_);refine dE 13 (au 0 16) mixed ?_|(refine hK _ _ ?_;clear hK K)|(refine ao ?_ ?_<;>intro hc<;>try exact jz)|refine M' _ _ ?_|refine cm (QS) ?_|refine cm (TW) ?_|refine rO (q.aD 41 (nth c.aa.av k).body).vars (q.aD 41 (nth c.aa.av k).body).more [⟨(nth (nth c.aa.av k).params i).name,(nth (nth c.aa.av k).params i).ty,(i:Int)⟩] ?_|refine ap ?_|exact jI|(clear hK K)))
   refine P9 _ _ (dI (i+1,lj (q.aD 41 (nth c.aa.av k).body) ⟨(nth (nth c.aa.av k).params i).name,(nth (nth c.aa.av k).params i).ty,(i:Int)⟩) ⟨jJ,y4 So _ jB,by show(q.aD 41 (nth c.aa.av k).body).size+1=_;omega,by show((q.aD 41 (nth c.aa.av k).body).vars++[_]).length=i+1;rw[List.length_append,Us];rfl,ef.aa.trans TJ,ef.aL.trans Vn,hA⟩ jJ gT bK)
  ·rw[if_neg hf]at hA
   (repeat' (first|refine aq fun K hK=>?_|refine am ?_|(with_reducible refine gR 9 ?_);refine dE 9 (au 0 24) mixed ?_|(with_reducible refine gR 13 ?_);refine dE 13 (au 0 16) mixed ?_|(refine hK _ _ ?_;clear hK K)|(refine ao ?_ ?_<;>intro hc<;>try exact jz)|refine M' _ _ ?_|refine cm (QS) ?_|refine rO q.vars q.more [⟨(nth (nth c.aa.av k).params i).name,(nth (nth c.aa.av k).params i).ty,(i:Int)⟩] ?_|refine ap ?_|exact jI|(clear hK K)))
   refine P9 _ _ (dI (i+1,lj q ⟨(nth (nth c.aa.av k).params i).name,(nth (nth c.aa.av k).params i).ty,(i:Int)⟩) ⟨jJ,y4 hq _ jB,by show q.size+1=_;omega,by show(q.vars++[_]).length=i+1;rw[List.length_append,Vc];rfl,TJ,Vn,hA⟩ jJ gT bK)
 ·have hz:q=eP (nth c.aa.av k).body c0 (nth c.aa.av k).params 0:=by
   rw[List.drop_eq_nil_of_le jB]at hA;exact hA
  rw[<-hz]at Q6;by_cases he:q.e=0
  ·rw[if_pos he]at Q6;have sb:=(oJ (fun q b hq he=>mH c.aa.nodes.length q b hq he) hq (nth c.aa.av k).body).1;have Wk:=EM c.aa.nodes.length (GB _) q (nth c.aa.av k).body hq Zh.1 (by rw[TJ];omega) jB (by unfold Ck.node;rw[TJ];exact Vm);have SR:(eE (bP c.aa.nodes.length) q (nth c.aa.av k).body).aL.length<6:=by rw[sb.aL,Vn];exact Qh
   (have W:=he;repeat' (first|refine GJ (id:=13) 0 7 ?_|refine aq fun K hK=>?_|refine am ?_|(with_reducible refine gR 9 ?_);refine dE 9 (au 0 24) mixed ?_|(with_reducible refine gR 13 ?_);refine dE 13 (au 0 16) mixed ?_|(refine hK _ _ ?_;clear hK K)|(refine ao ?_ ?_<;>intro hc<;>try exact jz)|refine M' _ _ ?_|refine cm (Wk) ?_|refine ap ?_|exact jI|(clear hK K)))
   rw[Q6]
   (refine aY [] ?_;try simp only[go_sem])
  ·rw[if_neg he]at Q6;have SR:q.aL.length<6:=by rw[Vn];exact Qh
   (have W:=he;repeat' (first|refine GJ (id:=13) 0 7 ?_|refine aq fun K hK=>?_|refine am ?_|(with_reducible refine gR 9 ?_);refine dE 9 (au 0 24) mixed ?_|(with_reducible refine gR 13 ?_);refine dE 13 (au 0 16) mixed ?_|(refine hK _ _ ?_;clear hK K)|(refine ao ?_ ?_<;>intro hc<;>try exact jz)|refine M' _ _ ?_|refine ap ?_|exact jI|(clear hK K)))
   rw[Q6]
   (refine aY [] ?_;try simp only[go_sem])
def CF(c:Ck)(e a:Int):af prog 91 [pR,rI e,rI a] (mn c) (fun v l=>v=.bt []/\l=mn (c.aD e a)):=by
 refine aO func91 ntmps91 ?_;refine S ?_
 (repeat' (first|refine aq fun K hK=>?_|refine am ?_|(refine hK _ _ ?_;clear hK K)|(refine ao ?_ ?_<;>intro hc<;>try exact jz)|refine ap ?_|exact jI|(clear hK K)))
 ·(refine cj [] ?_ ?_<;>(try simp only[go_sem]))
  simp only[Ck.aD,if_pos hc,mn,xQ]
 ·(refine cj [] ?_ ?_<;>(try simp only[go_sem]))
  simp only[Ck.aD,if_neg hc,mn,xQ]
theorem Bb(x:bg):∀(l:List bg) (c:Ck),Ev c (kG x c l)
 |[],c=>by unfold kG;exact .refl c
 |f::l,c=>by
  unfold kG;refine Ev.trans ?_ (Bb x l _);split
  ·exact mu c jC _
  ·exact .refl c
theorem y8(av:List bg):∀(n:Nat) (c:Ck) (m:Bool) (i:Nat),Ev c (jO av c m i n).1
 |0,c,m,i=>by unfold jO;exact .refl c
 |n+1,c,m,i=>by unfold jO;exact(Bb _ _ _).trans (y8 av n _ _ _)
def Dr(c:Ck):Ev c (iB c):=by
 unfold iB;simp only;split
 ·exact y8 _ _ _ _ _
 ·exact(y8 _ _ _ _ _).trans (mu _ jC _)
def HK(c:Ck)(h:c.aa.av.length<=6):af prog 55 [pR] (mn c) (fun v l=>v=.bt []/\l=mn (iB c)):=by
 refine aO func55 ntmps55 ?_;refine S ?_
 (repeat' (first|refine aq fun K hK=>?_|refine am ?_|(with_reducible refine gR 8 ?_);refine dE 8 (au 0 11) mixed ?_|(refine hK _ _ ?_;clear hK K)|(refine ao ?_ ?_<;>intro hc<;>try exact jz)|refine ap ?_|exact jI|(clear hK K)))
 have M':=hK;clear hK;refine de (S:=Nat×Ck×Bool) [(3,3),(12,55)] (fun s=>s.1<=c.aa.av.length/\jO c.aa.av s.2.1 s.2.2 s.1 (c.aa.av.length-s.1)=jO c.aa.av c false 0 c.aa.av.length/\s.2.1.aa=c.aa) (fun s=>[(4,rI s.1),(3,rB s.2.2)]) (fun s=>⟨[0,1,2,3,4],mn s.2.1⟩) (fun s=>c.aa.av.length-s.1) (0,c,false) ⟨jJ,rfl,rfl⟩ (dc gT bK) ?_;rintro⟨i,q,m⟩ ⟨hi,hA,TJ⟩ Kr P9;simp only at hi hA TJ
 (refine S ?_;try exact jI)
 by_cases Qd:i<c.aa.av.length
 ·rw[show c.aa.av.length-i=(c.aa.av.length-(i+1))+1 from jB,jO]at hA
  (repeat' (first|refine aq fun K hK=>?_|refine am ?_|(with_reducible refine gR 8 ?_);refine dE 8 (au 0 11) mixed ?_|(refine hK _ _ ?_;clear hK K)|(refine ao ?_ ?_<;>intro hc<;>try exact jz)|refine M' _ _ ?_|refine ap ?_|exact jI|(clear hK K)))
  have WU:=hK;clear hK;have TY:=hK;clear hK;refine de (S:=Nat×Ck) [(5,1),(18,23)] (fun s=>s.1<=i/\kG (nth c.aa.av i) s.2 ((c.aa.av.take i).drop s.1)=kG (nth c.aa.av i) q (c.aa.av.take i)) (fun s=>[(5,rI s.1)]) (fun s=>⟨[0,1,2,3,4],mn s.2⟩) (fun s=>i-s.1) (0,q) ⟨jJ,rfl⟩ (dc gT bK) ?_;rintro⟨k,z⟩ ⟨hk,hB⟩ Kj VM;simp only at hk hB
  (refine S ?_;try exact jI)
  by_cases Rc:k<i
  ·have UQ:k<(c.aa.av.take i).length:=by rw[List.length_take];omega
   have Xz:nth (c.aa.av.take i) k=nth c.aa.av k:=by simp[nth,List.getD_eq_getElem?_getD,List.getElem?_take,Rc]
   rw[jh UQ,Xz,kG]at hB;have TW:=CF z 41 (nth c.aa.av i).body
   (repeat' (first|refine aq fun K hK=>?_|refine am ?_|(with_reducible refine gR 8 ?_);refine dE 8 (au 0 11) mixed ?_|(refine hK _ _ ?_;clear hK K)|(refine ao ?_ ?_<;>intro hc<;>try exact jz)|refine WU _ _ ?_|refine cm (TW) ?_|refine ap ?_|exact jI|(clear hK K)))
   ·rw[if_pos hc]at hB;refine VM _ _ (dI (k+1,z.aD 41 (nth c.aa.av i).body) ⟨jJ,hB⟩ jJ gT bK)
   ·rw[if_neg hc]at hB;refine VM _ _ (dI (k+1,z) ⟨jJ,hB⟩ jJ gT bK)
  ·rw[List.drop_eq_nil_of_le (by rw[List.length_take];omega),kG]at hB
   (repeat' (first|refine aq fun K hK=>?_|refine am ?_|(with_reducible refine gR 8 ?_);refine dE 8 (au 0 11) mixed ?_|(refine hK _ _ ?_;clear hK K)|(refine ao ?_ ?_<;>intro hc<;>try exact jz)|refine WU _ _ ?_|refine TY _ _ ?_|refine ap ?_|exact jI|(clear hK K)))
   refine P9 _ _ (dI (i+1,z,m || tq (nth c.aa.av i)) ⟨jJ,by rw[<-hB]at hA;exact hA,by rw[hB];exact(Bb _ _ _).aa.trans TJ⟩ jJ gT (by simp only[go_sem,gU,Nat.reduceAdd,AV.raw.injEq,Value.int.injEq,Value.slice.injEq,Value.pointer.injEq,AV.rs.injEq,tq];try omega))
 ·rw[show c.aa.av.length-i=0 from jB,jO]at hA;have hz:iB c=if m=true then q else q.aD 44 0:=by unfold iB;rw[<-hA]
  have TW:=CF q 44 0;cases m
  ·rw[if_neg jC]at hz
   (repeat' (first|refine aq fun K hK=>?_|refine am ?_|(with_reducible refine gR 8 ?_);refine dE 8 (au 0 11) mixed ?_|(refine hK _ _ ?_;clear hK K)|(refine ao ?_ ?_<;>intro hc<;>try exact jz)|refine M' _ _ ?_|refine cm (TW) ?_|refine ap ?_|exact jI|(clear hK K)))
   rw[hz]
   (refine cj [] ?_ ?_<;>(try simp only[go_sem]))
  ·rw[if_pos rfl]at hz
   (repeat' (first|refine aq fun K hK=>?_|refine am ?_|(with_reducible refine gR 8 ?_);refine dE 8 (au 0 11) mixed ?_|(refine hK _ _ ?_;clear hK K)|(refine ao ?_ ?_<;>intro hc<;>try exact jz)|refine M' _ _ ?_|refine ap ?_|exact jI|(clear hK K)))
   rw[hz]
   (refine cj [] ?_ ?_<;>(try simp only[go_sem]))
theorem xh(body:Int):∀(ps:List bM) (c:Ck) (i:Int),bD c->c.size+ps.length<=20->bD (eP body c ps i)/\(eP body c ps i).aa=c.aa/\(eP body c ps i).aL=c.aL
 |[],c,i,h,hs=>by unfold eP;exact⟨h,rfl,rfl⟩
 |p::ps,c,i,h,hs=>by
  unfold eP;simp only[List.length_cons]at hs;have fin:∀c1:Ck,Ev c c1->bD (eP body (lj c1 ⟨p.name,p.ty,i⟩) ps (i+1))/\(eP body (lj c1 ⟨p.name,p.ty,i⟩) ps (i+1)).aa=c.aa/\(eP body (lj c1 ⟨p.name,p.ty,i⟩) ps (i+1)).aL=c.aL:=fun c1 s=>by have h1:=h.ev s;have hz:=s.size;obtain⟨a,b,d⟩:=xh body ps (lj c1 ⟨p.name,p.ty,i⟩) (i+1) (y4 h1 _ jB) (by show c1.size+1+_<=20;omega);exact⟨a,b.trans s.aa,d.trans s.aL⟩
  simp only;split
  ·exact fin _ (mu c jC body)
  ·exact fin _ (.refl c)
def zW{c:Ck}(h:fw c)(hk:k<c.aa.av.length)(Qh:c.aL.length<6):fw (fY c k)/\(fY c k).aa=c.aa/\(fY c k).aL.length=c.aL.length+1:=by
 have W2:=(h.aa.fn _ (dZ hk)).2;have Sr:bD { c with fn:=(k:Int),vars:=[],more:=[],size:=0 }:=⟨h.aa,h.types,h.ab,h.av,by show c.aL.length<=6;omega,by show(0:Int)<=k;omega,by show(k:Int)<(c.aa.av.length:Int);omega,by show((0:Nat):Int)<=0;omega,by show(0:Int)<=25;omega,fun _=>by show(0:Int)<=24;omega⟩;obtain⟨a,b,d⟩:=xh (nth c.aa.av k).body (nth c.aa.av k).params _ 0 Sr (by show(0:Int)+_<=20;omega);unfold fY;simp only;split
 ·have s:=(oJ (fun q b hq he=>mH c.aa.nodes.length q b hq he) a (nth c.aa.av k).body).1;have hi:=s.inv;refine⟨⟨hi.aa,hi.types,hi.ab,hi.av⟩,s.aa.trans b,?_⟩;show((eE (bP c.aa.nodes.length) _ _).aL++[_]).length=_;rw[List.length_append,s.aL,d];rfl
 ·refine⟨⟨a.aa,a.types,a.ab,a.av⟩,b,?_⟩;show((eP _ _ _ _).aL++[_]).length=_;rw[List.length_append,d];rfl
def lK(t:aE)(n:Nat):Ck:=⟨t,(t.nodes.take n).map fun _=>0,(t.nodes.take n).map fun _=>-1,(t.nodes.take n).map fun _=>0,[],0,[],[],0,0,0⟩
variable{n:Nat}
def Ip(t:aE)(h:t.nodes.length<=n):lK t n=iQ t:=by simp[lK,iQ,List.take_of_length_le h]
def OL(t:aE)(h:n<t.nodes.length):lK t (n+1)={ lK t n with types:=(lK t n).types++[0],ab:=(lK t n).ab++[-1],av:=(lK t n).av++[0] }:=by simp[lK,qF h]
def Jf(t:aE)(h:n<=t.nodes.length):(lK t n).types.length=n/\(lK t n).ab.length=n/\(lK t n).av.length=n:=by simp[lK];omega
@[go_sem] def j0G(t:aE)(l:PW):jX t++l=ax bX 5 t.nodes::ax eZ 5 t.av::l:=rfl
def HY(t:aE)(h:aX t):aA prog 30 [.agg (jX t)] (.bt [.agg (bp (gC t).1),rI (gC t).2.1,rI (gC t).2.2]):=by
 have hf:=h.av;have hm:=h.many;refine bI func30 ntmps30 ?_
 (repeat' (first|refine aq fun K hK=>?_|refine am ?_|(with_reducible refine gR 14 ?_);refine dA 14 [11] (au 0 12) mixed ?_|(refine hK _ _ ?_;clear hK K)|(refine ao ?_ ?_<;>intro hc<;>try exact jz)|refine bx 10 ?_|refine al 11 ?_|refine bx 0 ?_|refine ap ?_|exact jI|(clear hK K)))
 have M':=hK;clear hK;refine gj (cY.fL 1 0 2 3 1 rfl jC rfl rfl) ?_
 (refine S ?_;try exact jI)
 refine gj (cY.fL 2 0 3 3 1 rfl jC rfl rfl) ?_
 (refine S ?_;try exact jI)
 refine gj (cY.fL 3 0 4 3 1 rfl jC rfl rfl) ?_
 (refine S ?_;try exact jI)
 refine gj (cY.fL 4 0 5 3 1 rfl jC rfl rfl) ?_
 (refine S ?_;try exact jI)
 refine gj (cY.qb 0 7 rfl) ?_
 (refine S ?_;try exact jI)
 refine gj (cY.perm (mn (lK t 0)++[(10,.var 27 (jX t)),(11,.var 29 [.raw (.slice none 0 0),.raw (.slice none 0 0),.raw (.slice none 0 0),.raw (.slice none 0 0),.raw (.slice none 0 0),.raw (.slice none 0 0)])]) (fun i=>by simp only[go_sem,aB,lK];(repeat' split)<;>first|rfl|omega)) ?_;refine de (S:=Nat) [(6,1),(12,40)] (fun k=>k<=t.nodes.length) (fun k=>[(6,rI k)]) (fun k=>⟨[],mn (lK t k)++[(10,.var 27 (jX t)),(11,.var 29 [.raw (.slice none 0 0),.raw (.slice none 0 0),.raw (.slice none 0 0),.raw (.slice none 0 0),.raw (.slice none 0 0),.raw (.slice none 0 0)])]⟩) (fun k=>t.nodes.length-k) 0 (Nat.zero_le _) (dc rfl bK) ?_;rintro k hk Kr P9;obtain⟨l1,l2,l3⟩:=Jf t hk
 (refine S ?_;try exact jI)
 by_cases Qd:k<t.nodes.length
 ·(repeat' (first|refine aq fun K hK=>?_|refine am ?_|(with_reducible refine gR 14 ?_);refine dA 14 [11] (au 0 12) mixed ?_|(refine hK _ _ ?_;clear hK K)|(refine ao ?_ ?_<;>intro hc<;>try exact jz)|refine M' _ _ ?_|refine ap ?_|exact jI|(clear hK K)))
  refine P9 _ _ (dI (k+1) jB jB (by rw[OL t Qd];exact gT) bK)
 ·have Qp:=Ip t (n:=k) jB;rw[Qp]at*;have hh:=HK (iQ t) hf
  (repeat' (first|refine aq fun K hK=>?_|refine am ?_|(with_reducible refine gR 14 ?_);refine dA 14 [11] (au 0 12) mixed ?_|(refine hK _ _ ?_;clear hK K)|(refine ao ?_ ?_<;>intro hc<;>try exact jz)|refine M' _ _ ?_|refine cm (hh) ?_|refine ap ?_|exact jI|(clear hK K)))
  have S6:=hK;clear hK;have eh:=Dr (iQ t);have Sr:fw (iB (iQ t)):=⟨by rw[eh.aa];exact h,by rw[eh.types,eh.aa];simp[iQ],by rw[eh.ab,eh.aa];simp[iQ],by rw[eh.av,eh.aa];simp[iQ]⟩;refine de (S:=Nat×Ck) [(7,1),(54,17)] (fun s=>s.1<=t.av.length/\fw s.2/\s.2.aa=t/\s.2.aL.length=s.1/\fX s.2 s.1 (t.av.length-s.1)=gS t) (fun s=>[(7,rI s.1)]) (fun s=>⟨[],mn s.2++[(10,.var 27 (jX t)),(11,.var 29 [.raw (.slice none 0 0),.raw (.slice none 0 0),.raw (.slice none 0 0),.raw (.slice none 0 0),.raw (.slice none 0 0),.raw (.slice none 0 0)])]⟩) (fun s=>t.av.length-s.1) (0,iB (iQ t)) ⟨Nat.zero_le _,Sr,eh.aa,by rw[eh.aL];rfl,rfl⟩ (dc gT bK) ?_;rintro⟨i,q⟩ ⟨hi,hq,TJ,Vn,hA⟩ Kr2 Tv;simp only at hi hq TJ Vn hA
  (refine S ?_;try exact jI)
  by_cases RC:i<t.av.length/\q.e=0
  ·obtain⟨QA,Q8⟩:=RC;rw[show t.av.length-i=(t.av.length-(i+1))+1 from jB,fX,if_pos Q8]at hA;have W3:i<q.aa.av.length:=by rw[TJ];exact QA
   have Rn:=Je q i hq W3 jB;obtain⟨f1,f2,f3⟩:=zW hq W3 jB
   (have W:=Q8;repeat' (first|refine aq fun K hK=>?_|refine am ?_|(with_reducible refine gR 14 ?_);refine dA 14 [11] (au 0 12) mixed ?_|(refine hK _ _ ?_;clear hK K)|(refine ao ?_ ?_<;>intro hc<;>try exact jz)|(refine S6 _ _ ?_)|refine cm (Rn) ?_|refine ap ?_|exact jI|(clear hK K)))
   refine Tv _ _ (dI (i+1,fY q i) ⟨jJ,f1,f2.trans TJ,jJ,hA⟩ jJ gT bK)
  ·have hz:q=gS t:=by
    rw[<-hA];by_cases QA:i<t.av.length
    ·rw[show t.av.length-i=(t.av.length-(i+1))+1 from jB,fX,if_neg fun e=>RC ⟨QA,e⟩]
    ·rw[show t.av.length-i=0 from jB,fX]
   by_cases he:q.e=0
   ·have hr:gC t=(q.prog,0,0):=by unfold gC;rw[<-hz,if_neg (fun h=>h he)]
    have g':¬i<t.av.length:=fun h=>RC ⟨h,he⟩
    (have W:=he;repeat' (first|refine aq fun K hK=>?_|refine am ?_|(with_reducible refine gR 14 ?_);refine dA 14 [11] (au 0 12) mixed ?_|(refine hK _ _ ?_;clear hK K)|(refine ao ?_ ?_<;>intro hc<;>try exact jz)|(refine S6 _ _ ?_)|refine ap ?_|exact jI|(clear hK K)))
    rw[hr];refine jf [.cell 2 29,.tmp 3,.tmp 4] ?_;refine bc.bt (ds:=[.agg (bp q.prog),rI 0,rI 0]) ?_;refine jA (bc.agg (ds:=bp q.prog) ?_) (jA (.same _ rfl) (jA (.same _ rfl) trivial));simp only[bp,Ck.prog];exact gJ
   ·have hr:gC t=(jr,q.at_,q.e):=by unfold gC;rw[<-hz,if_pos he]
    (have W:=he;repeat' (first|refine aq fun K hK=>?_|refine am ?_|(with_reducible refine gR 14 ?_);refine dA 14 [11] (au 0 12) mixed ?_|(refine hK _ _ ?_;clear hK K)|(refine ao ?_ ?_<;>intro hc<;>try exact jz)|(refine S6 _ _ ?_)|refine ap ?_|exact jI|(clear hK K)))
    rw[hr];refine jf [.cell 2 29,.tmp 3,.tmp 4] ?_;refine bc.bt (ds:=[.agg (bp jr),rI _,rI _]) ?_;refine jA (bc.agg (ds:=bp jr) ?_) (jA (.same _ rfl) (jA (.same _ rfl) trivial));simp only[bp,jr];exact gJ
end Go.Proofs.YtghoellpinmenaaGreatDoor
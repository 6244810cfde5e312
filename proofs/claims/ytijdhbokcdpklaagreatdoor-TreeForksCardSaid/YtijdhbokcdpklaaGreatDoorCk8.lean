/- Lemmas. No conditions. -/
import Derived.Test.YtijdhbokcdpklaaGreatDoorP2
import Derived.Test.YtijdhbokcdpklaaGreatDoorShelf
set_option linter.all false
set_option maxHeartbeats 8000000
set_option maxRecDepth 10000
namespace Go.Gd
open Go
def FE{P:UP}{f:FuncId}{args:UE}{r:AV}(cI:UM)(v:Value)(ha:args=cI.map .raw)(hr:∀w:NW,ax w r v)(h:∀w:World,Calls P f cI.toArray w fun e w'=>e=.returned v/\RowKit.Below w.heap.size w w'):aC P f args r:=by
 intro w vs h1 h2;have WX:vs=cI.toArray:=by
  apply Array.ext';apply List.ext_getElem?;intro i;obtain⟨hl,hv⟩:=h2;subst ha;by_cases hi:i<cI.length
  ·have Vi:i<vs.size:=by rw[<-hl];simpa using hi
   have:=db (hv i (.raw cI[i]) vs[i] (by simp[hi]) (by simp[Vi]));simp[hi,Vi,this]
  ·have Vi:¬i<vs.size:=by rw[<-hl];simpa using hi
   rw[List.getElem?_eq_none (by simpa using Vi),List.getElem?_eq_none (by simpa using hi)]
 subst WX;refine(h w.toWorld).mono ?_;rintro e W ⟨rfl,hb⟩;have ex:Ext w (entry []) (w.to W) (entry []):={ size:=hb.size,free:=fun b Vv hO=>⟨hb.block b Vv,hO⟩,names:=fun _ _ _ _ h=>h,os:=hb.os,tape:=hb.tape,output:=hb.output,rest:=fun b Vv hO Ur=>⟨hb.block b Vv,hO,Ur⟩,base:=rfl };refine⟨v,r,entry [],w.to W,rfl,rfl,⟨rfl,rfl⟩,{ rows:=fun i row hi=>(by cases hi),di:=h1.di,inj:=h1.inj,own:=h1.own,cd:=h1.cd.aX ex.toKeep,fin:=fun b Vv=>Nat.lt_of_lt_of_le (h1.fin b Vv) hb.size },hr _,ex.pB⟩
variable{H:Hp}{t:UJ}{cs:UE}
def B6{w:NW}(r:aJ w H){j:Nat}{cs':UE}(hj:H.get j=some (.var t cs))(hl:cs'.length=cs.length)(h:∀(k:Nat) a a' v,cs[k]?=some a->cs'[k]?=some a'->ax w a v->ax w a' v):aJ w (H.put j (.var t cs'))/\Ext w H w (H.put j (.var t cs')):=by
 have ex:Ext w H w (H.put j (.var t cs')):={ ExtQ.refl _ w with base:=rfl };refine⟨{ rows:=fun i s hi=>?_,di:=fun i m z hz=>?_,inj:=r.inj,own:=r.own,fin:=r.fin,cd:=r.cd.aX ex.toKeep },ex⟩
 ·rw[Hp.bk]at hi;split at hi
  ·rename_i e;subst e;cases hi;obtain⟨h1,z,h2,h3⟩:=r.rows _ _ hj;refine⟨trivial,z,h2,?_⟩;cases z with
   |nil=>obtain⟨e,sz,h4⟩:=h3;cases h4
   |«at» b u s=>
    obtain⟨g1,cur,g2,⟨g3,g4⟩,g5⟩:=h3;refine⟨g1,cur,g2,⟨g3,by show cs'.length<=u;rw[hl];exact g4⟩,fun k a v ha hv=>?_⟩;have ha:cs'[k]?=some a:=ha;have hk:k<cs.length:=by rw[<-hl];exact(List.getElem?_eq_some_iff.1 ha).1
    exact h k cs[k] a v (List.getElem?_eq_getElem hk) ha (g5 k cs[k] v (List.getElem?_eq_getElem hk) hv)
  ·exact r.rows i s hi
 ·obtain⟨s,h1,h2⟩:=r.di i m z hz;rw[Hp.bk];split
  ·rename_i e;subst e;rw[hj]at h1;cases h1;exact⟨_,rfl,h2⟩
  ·exact⟨s,h1,h2⟩
variable{F:UE}
def dV.gl(i j k:Nat)(e:UJ)(sz:Nat)(hi:H.get i=none)(h0:0<sz)(hj:H.get j=some (.var t cs))(hk:cs[k]?=some (.raw (.slice none 0 0))):dV F H F ((H.put i (.aG e sz [])).put j (.var t (cs.set k (.rs i 0 sz 0)))):=fun w tm h1 h2=>by
 obtain⟨a,b⟩:=xy h1 hi e h0;have hij:j≠i:=fun e=>by subst e;rw[hi]at hj;cases hj
 obtain⟨a',b'⟩:=B6 (cs':=cs.set k (.rs i 0 sz 0)) a (j:=j) (t:=t) (cs:=cs) (by rw[Hp.bk,if_neg hij];exact hj) jE fun n x x' v hx Va hv=>by
  rw[List.getElem?_set]at Va;by_cases hn:k=n
  ·subst hn;rw[if_pos rfl]at Va;split at Va
   ·cases Va;rw[hk]at hx;cases hx;cases hv;exact .iJ _ _ _ _ (NW.cz _ _ _ _)
   ·cases Va
  ·rw[if_neg hn,hx]at Va;cases Va;exact hv
 exact⟨w.name i 0 .nil,rfl,a',h2.ext b,(b.trans b').pB⟩
def dV.sO(j k:Nat)(hj:H.get j=some (.var t cs)):dV F H F (H.put j (.var t (cs.set k .any))):=fun w tm h1 h2=>by
 obtain⟨a',b'⟩:=B6 (cs':=cs.set k .any) h1 (j:=j) (t:=t) (cs:=cs) hj jE fun n x x' v hx Va hv=>by
  rw[List.getElem?_set]at Va;by_cases hn:k=n
  ·subst hn;rw[if_pos rfl]at Va;split at Va
   ·cases Va;exact .any _
   ·cases Va
  ·rw[if_neg hn]at Va;rw[hx]at Va;cases Va;exact hv
 exact⟨w,rfl,a',h2,b'.pB⟩
def DZ{P:UP}{id:Nat}{l:List Oper}{b:Bool}{Q:Exit->UA}{q:Prop}(j k:Nat){i m sz n:Nat}(h:q)(hj:H.get j=some (.var t cs):=by rfl)(hc:cs[k]?=some (.rs i m sz n):=by rfl)(e:dI P (.region id l.toArray b) Q F (H.put j (.var t (cs.set k .any)))=q:=by first|(simp only[go_sem];rfl)|rfl):dI P (.region id l.toArray b) Q F H:=jw (dV.sO j k hj) (e ▸ h)
end Go.Gd
namespace Go.Proofs.YtijdhbokcdpklaaGreatDoor
open Go Go.Gd Tryz
def Du(s:UI)(k:Nat):eO s k=((s.data.toList.getD k 0).toNat:Int):=by unfold eO;simp
def ky:List UInt8->Nat->Nat
 |[],a=>a
 |c::l,a=>ky l (a*10+(c.toNat-48))
theorem FB:∀(l:List UInt8) (a:Nat),a<=ky l a
 |[],a=>Nat.le_refl _
 |c::l,a=>Nat.le_trans jB (FB l _)
theorem Ii:∀(l:List UInt8) (a:Nat),(∀c∈l,48<=c.toNat/\c.toNat<=57)->ky l a<=9223372036854775807->Lib.parseUint10 a l=.ok (ky l a)
 |[],a,_,_=>rfl
 |c::l,a,h,hm=>by have hc:=h c jE;have h1:=FB l (a*10+(c.toNat-48));simp only[ky]at hm ⊢;unfold Lib.parseUint10;rw[if_pos hc,jN,jN];exact Ii l _ (fun x hx=>h x (by simp[hx])) hm
theorem Eb:∀(l:List UInt8) (c:UInt8) (a:Nat),ky (l++[c]) a=ky l a*10+(c.toNat-48)
 |[],_,_=>rfl
 |_::l,c,_=>Eb l c _
theorem Av:∀(l:List UInt8) (a:Nat),(∀c∈l,48<=c.toNat/\c.toNat<=57)->ky l a+1<=(a+1)*10 ^ l.length
 |[],a,_=>by simp[ky]
 |c::l,a,h=>by have hc:=h c jE;have ih:=Av l (a*10+(c.toNat-48)) (fun x hx=>h x (by simp[hx]));simp only[ky,List.length_cons,Nat.pow_succ];refine Nat.le_trans ih ?_;rw[Nat.mul_comm (10 ^ l.length) 10,<-Nat.mul_assoc];exact Nat.mul_le_mul_right _ jB
theorem Ic:∀(l:List UInt8) (a:Nat),a*10 ^ l.length<=ky l a
 |[],a=>by simp[ky]
 |c::l,a=>by have ih:=Ic l (a*10+(c.toNat-48));simp only[ky,List.length_cons,Nat.pow_succ];refine Nat.le_trans ?_ ih;rw[Nat.mul_comm (10 ^ l.length) 10,<-Nat.mul_assoc];exact Nat.mul_le_mul_right _ jB
theorem Iy:∀(l m:List UInt8) (a:Nat),l.length=m.length->(∀c∈l,48<=c.toNat/\c.toNat<=57)->(∀c∈m,48<=c.toNat/\c.toNat<=57)->Op.bytesLess l m=true->ky l a<ky m a
 |[],[],_,_,_,_,h=>by simp[Op.bytesLess]at h
 |[],_::_,_,hl,_,_,_=>by simp at hl
 |_::_,[],_,hl,_,_,_=>by simp at hl
 |x::l,y::m,a,hl,h1,h2,h=>by
  have hx:=h1 x jE;have hy:=h2 y jE;simp only[Op.bytesLess,Bool.or_eq_true,decide_eq_true_eq,Bool.and_eq_true,beq_iff_eq]at h;simp only[ky];rcases h with h|⟨rfl,h⟩
  ·have h:x.toNat<y.toNat:=h;have e1:=Av l (a*10+(x.toNat-48)) (fun c hc=>h1 c (by simp[hc]));have e2:=Ic m (a*10+(y.toNat-48));have e3:(a*10+(x.toNat-48)+1)*10 ^ l.length<=(a*10+(y.toNat-48))*10 ^ m.length:=by
    rw[show l.length=m.length by simpa using hl];exact Nat.mul_le_mul_right _ jB
   omega
  ·exact Iy l m _ (by simpa using hl) (fun c hc=>h1 c (by simp[hc])) (fun c hc=>h2 c (by simp[hc])) h
theorem By(s:UI)(hd:∀j,j<s.size->j7 (eO s j)=true):∀k,k<=s.size->wW s k=(ky (s.data.toList.take k) 0:Nat)
 |0,_=>by simp[wW,ky]
 |k+1,hk=>by
  have UY:k<s.data.toList.length:=by simp;omega
  have h1:=hd k jB;simp only[j7,Bool.and_eq_true,decide_eq_true_eq]at h1;rw[Du]at h1;rw[wW,By s hd k jB,List.take_succ_eq_append_getElem UY,Eb,Du];have:s.data.toList.getD k 0=s.data.toList[k]:=by rw[List.getD_eq_getElem?_getD,List.getElem?_eq_getElem UY];rfl
  rw[this]at h1 ⊢;omega
variable{s:UI}
def FD(h:rj s):∀c∈s.data.toList,48<=c.toNat/\c.toNat<=57:=fun c hc=>by obtain⟨k,hk,rfl⟩:=List.getElem_of_mem hc;have:=h.2.2 k (by simpa using hk);simp only[j7,Bool.and_eq_true,decide_eq_true_eq]at this;rw[Du,List.getD_eq_getElem?_getD,List.getElem?_eq_getElem hk]at this;simp only[Option.getD_some]at this;omega
def GR(h:rj s):ky s.data.toList 0<=9223372036854775807:=by
 have hd:=FD h;have hn:=h.2.1;have hl:=Av s.data.toList 0 hd;have I':s.data.toList.length=s.size:=jE;unfold xg at hn;simp only[Bool.or_eq_true,decide_eq_true_eq,Bool.and_eq_true]at hn;rcases hn with hn|⟨hn,h2|h2⟩
 ·have:10 ^ s.data.toList.length<=10 ^ 18:=Nat.pow_le_pow_right jB (by rw[I'];omega);simp only[Nat.zero_add,Nat.one_mul]at hl;omega
 ·have e:s.toList=s.data.toList:=ByteArray.toList_eq s;have:=Iy s.data.toList [57,50,50,51,51,55,50,48,51,54,56,53,52,55,55,53,56,48,55] 0 (by rw[I'];simp;omega) hd jC (by rw[<-e,show[57,50,50,51,51,55,50,48,51,54,56,53,52,55,55,53,56,48,55]=(⟨#[57,50,50,51,51,55,50,48,51,54,56,53,52,55,55,53,56,48,55]⟩:UI).toList by rw[ByteArray.toList_eq]];exact h2);have e2:ky [57,50,50,51,51,55,50,48,51,54,56,53,52,55,55,53,56,48,55] 0=9223372036854775807:=jC;omega
 ·subst h2;decide
def Qp(h:rj s):Lib.atoiAll s.data.toList=.ok (pA s):=by
 have hd:=FD h;have Uq:=GR h;have Y6:pA s=(ky s.data.toList 0:Nat):=by unfold pA;rw[By s h.2.2 _ jl,List.take_of_length_le jE]
 have hp:=Ii s.data.toList 0 hd Uq;have VU:=h.1;cases hs:s.data.toList with
 |nil=> have:s.data.toList.length=s.size:=jE;rw[hs]at this;simp at this;omega
 |cons c l=> rw[hs]at hd hp Y6 Uq;have hc:=hd c jE;simp only[Lib.atoiAll];rw[jN];simp only[Lib.parseMag,List.cons_ne_nil,if_false,hp,reduceCtorEq];rw[jN,jN,jN,Y6]
def PG(s:UI)(h:rj s):aC prog 183 [rS s] (.aQ [rI (pA s),.raw .nilIface]):=by
 have hs:s.size<=9223372036854775806:=by have hn:=h.2.1;unfold xg at hn;simp only[Bool.or_eq_true,decide_eq_true_eq,Bool.and_eq_true]at hn;omega
 refine FE [.string s] (.tuple #[.int .i64 (pA s),.nilIface]) rfl (fun w=>?_) fun w=>?_
 ·exact .aQ _ _ rfl fun i a v ha hv=>by
   match i with
   |0=>simp at ha hv;subst ha hv;exact .raw _
   |1=>simp at ha hv;subst ha hv;exact .raw _
   |i+2=>simp at ha
 ·refine(Tryz.strconv_Atoi_ok s hs (pA s) (Qp h) w).mono ?_;rintro e W ⟨rfl,hW⟩;refine⟨rfl,?_⟩;rcases hW with rfl|⟨t,rfl⟩
  ·exact RowKit.Below.refl _ _
  ·exact Lib.bytesWorld_below _ _ _
def SM(n:Nat)(hc:zP n):Cg (n+1):=by
 intro r h hn;have Wc:=h.lt;have hip:=h.pos;have Vo:=h.len;have hin':(r.l.length:Int)<=2000:=jB;have Un:∀q:Rd,q.Inv->8*q.rem+8<=n->ab prog 116 [pR] (cC q) (fun v l=>v=rI (dT n 0 q).2/\l=cC (dT n 0 q).1):=fun q hq hm=>by
  have:=hc 0 q jB hq jB;refine aM func116 ntmps116 ?_;refine S ?_
  (repeat' (first|refine av fun K hK=>?_|refine au ?_|(refine hK _ _ ?_;clear hK K)|(refine ar ?_ ?_<;>intro hc<;>try exact jz)|refine cm (this) ?_|refine aq ?_|exact jI|(clear hK K)))
  (refine bW [.tmp 2] ?_ ?_<;>(try simp only[go_sem]))
 have deeper:∀(q:Rd) (t u:UI),q.Inv->q.e=0->q.down.Inv/\(q.down.ap t).Inv/\(dT n 0 (q.down.ap t)).1.Inv/\((dT n 0 (q.down.ap t)).1.ap u).Inv/\((dT n 0 (q.down.ap t)).1.ap u).up.Inv/\(q.down.ap t).rem<=q.rem:=fun q t u hq he=>by have h1:=(Rd.bK hq he).1;have s1:=Rd.aK h1 t;have h2:=s1.inv h1;have s2:=(tv n).2.2.1 0 _ h2;have h3:=s2.inv h2;have s3:=Rd.aK h3 u;refine⟨h1,h2,h3,s3.inv h3,(Rd.fz hq he ((s1.trans s2).trans s3)).inv hq,Nat.le_trans s1.rem ?_⟩;have hd:=Rd.bK hq he;unfold Rd.rem;rw[if_pos he,hd.2.2.1,hd.2.2.2.1];split<;>omega
 rw[qk];by_cases he:r.e≠0
 ·rw[if_pos he];refine aM func174 ntmps174 ?_;refine S ?_
  (repeat' (first|refine av fun K hK=>?_|refine au ?_|(with_reducible refine gR 2 ?_);refine dE 2 (bf 0 12) mixed ?_|(refine hK _ _ ?_;clear hK K)|(refine ar ?_ ?_<;>intro hc<;>try exact jz)|refine cm (im r (bw h)) ?_|refine aq ?_|exact jI|(clear hK K)))
  (refine ba [.tmp 2] ?_;try simp only[go_sem])
 rw[if_neg he];have he:r.e=0:=jB;have WQ:r.tok.kind≠0->r.inc.Inv/\r.inc.rem+1<=r.rem/\r.i+1<r.l.length:=fun hk=>⟨(Rd.br h hk).1.inv h,Rd.de h ⟨he,hk⟩,Rd.behind h hk⟩
 by_cases U8:r.tok.kind=1
 ·rw[if_pos U8];obtain⟨hi,_,hb⟩:=WQ jB;have hnt:=h.num r.i.toNat jB U8;have WB:(nth r.l r.i.toNat).kind=1:=U8;refine aM func174 ntmps174 ?_;refine S ?_
  (have W:=jA he (WB);repeat' (first|refine av fun K hK=>?_|refine au ?_|(with_reducible refine gR 2 ?_);refine dE 2 (bf 0 12) mixed ?_|(refine hK _ _ ?_;clear hK K)|(refine ar ?_ ?_<;>intro hc<;>try exact jz)|refine cm (im r (bw h)) ?_|refine cp (PG _ hnt) ?_|refine cm (kZ r.inc _ _ _ _ [] _ gN.nil (bw hi)) ?_|refine aq ?_|exact jI|(clear hK K)))
  (refine ba [.tmp 2] ?_;try simp only[go_sem])
  all_goals rfl
 rw[if_neg U8];have WB:¬(nth r.l r.i.toNat).kind=1:=U8;by_cases Uy:r.tok.kind=2
 ·rw[if_pos Uy];obtain⟨hi,_,hb⟩:=WQ jB;have Xh:(nth r.l r.i.toNat).kind=2:=Uy;refine aM func174 ntmps174 ?_;refine S ?_
  (have W:=jA he (Xh);repeat' (first|refine av fun K hK=>?_|refine au ?_|(with_reducible refine gR 2 ?_);refine dE 2 (bf 0 12) mixed ?_|(refine hK _ _ ?_;clear hK K)|(refine ar ?_ ?_<;>intro hc<;>try exact jz)|refine cm (im r (bw h)) ?_|refine cm (kZ r.inc _ _ _ _ [] _ gN.nil (bw hi)) ?_|refine aq ?_|exact jI|(clear hK K)))
  (refine ba [.tmp 2] ?_;try simp only[go_sem])
  all_goals rfl
 rw[if_neg Uy];have Xh:¬(nth r.l r.i.toNat).kind=2:=Uy;by_cases XL:r.tok.kind=3
 ·rw[if_pos XL];obtain⟨hi,hr,hb⟩:=WQ jB;have W5:(nth r.l r.i.toNat).kind=3:=XL;by_cases hx:r.inc.is (⟨#[91]⟩:UI)=true
  ·rw[if_pos hx];obtain⟨d1,d2,d3,d4,d5,d6⟩:=deeper r.inc (⟨#[91]⟩:UI) (⟨#[93]⟩:UI) hi he;have d4l:=d4.pd;have d4h:=d4.pL;refine aM func174 ntmps174 ?_;refine S ?_
   (have W:=jA he (jA W5 (hx));repeat' (first|refine av fun K hK=>?_|refine au ?_|(with_reducible refine gR 2 ?_);refine dE 2 (bf 0 12) mixed ?_|(refine hK _ _ ?_;clear hK K)|(refine ar ?_ ?_<;>intro hc<;>try exact jz)|refine cm (im r (bw h)) ?_|refine cm (gC r.inc _ (bw hi)) ?_|refine cm (uz r.inc (bw hi)) ?_|refine cm (iV r.inc.down _ (bw d1)) ?_|refine cm (Un (r.inc.down.ap (⟨#[91]⟩:UI)) d2 jB) ?_|refine cm (iV (dT n 0 (r.inc.down.ap (⟨#[91]⟩:UI))).1 _ (bw d3)) ?_|refine cm (kZ ((dT n 0 (r.inc.down.ap (⟨#[91]⟩:UI))).1.ap (⟨#[93]⟩:UI)).up _ _ _ _ [(dT n 0 (r.inc.down.ap (⟨#[91]⟩:UI))).2] _ gN.sl (bw d5)) ?_|refine aq ?_|exact jI|(clear hK K)))
   (refine ba [.tmp 2] ?_;try simp only[go_sem])
   all_goals rfl
  ·rw[if_neg hx];have Va:r.inc.is (⟨#[91]⟩:UI)=false:=by simpa using hx
   refine aM func174 ntmps174 ?_;refine S ?_
   (have W:=jA he (jA W5 (Va));repeat' (first|refine av fun K hK=>?_|refine au ?_|(with_reducible refine gR 2 ?_);refine dE 2 (bf 0 12) mixed ?_|(refine hK _ _ ?_;clear hK K)|(refine ar ?_ ?_<;>intro hc<;>try exact jz)|refine cm (im r (bw h)) ?_|refine cm (gC r.inc _ (bw hi)) ?_|refine cm (kZ r.inc _ _ _ _ [] _ gN.nil (bw hi)) ?_|refine aq ?_|exact jI|(clear hK K)))
   (refine ba [.tmp 2] ?_;try simp only[go_sem])
   all_goals rfl
 rw[if_neg XL];have W5:¬(nth r.l r.i.toNat).kind=3:=XL;by_cases ht:r.is (⟨#[116,114,117,101]⟩:UI)=true
 ·rw[if_pos ht];obtain⟨hi,hr,hb⟩:=WQ (Rd.aZ ht).2;refine aM func174 ntmps174 ?_;refine S ?_
  (have W:=jA he (jA ht (jA WB (jA Xh (W5))));repeat' (first|refine av fun K hK=>?_|refine au ?_|(with_reducible refine gR 2 ?_);refine dE 2 (bf 0 12) mixed ?_|(refine hK _ _ ?_;clear hK K)|(refine ar ?_ ?_<;>intro hc<;>try exact jz)|refine cm (im r (bw h)) ?_|refine cm (gC r _ (bw h)) ?_|refine cm (kZ r.inc _ _ _ _ [] _ gN.nil (bw hi)) ?_|refine aq ?_|exact jI|(clear hK K)))
  (refine ba [.tmp 2] ?_;try simp only[go_sem])
 rw[if_neg ht];have XX:r.is (⟨#[116,114,117,101]⟩:UI)=false:=by simpa using ht
 by_cases hf:r.is (⟨#[102,97,108,115,101]⟩:UI)=true
 ·rw[if_pos hf];obtain⟨hi,hr,hb⟩:=WQ (Rd.aZ hf).2;refine aM func174 ntmps174 ?_;refine S ?_
  (have W:=jA he (jA XX (jA hf (jA WB (jA Xh (W5)))));repeat' (first|refine av fun K hK=>?_|refine au ?_|(with_reducible refine gR 2 ?_);refine dE 2 (bf 0 12) mixed ?_|(refine hK _ _ ?_;clear hK K)|(refine ar ?_ ?_<;>intro hc<;>try exact jz)|refine cm (im r (bw h)) ?_|refine cm (gC r _ (bw h)) ?_|refine cm (kZ r.inc _ _ _ _ [] _ gN.nil (bw hi)) ?_|refine aq ?_|exact jI|(clear hK K)))
  (refine ba [.tmp 2] ?_;try simp only[go_sem])
 rw[if_neg hf];have Zq:r.is (⟨#[102,97,108,115,101]⟩:UI)=false:=by simpa using hf
 by_cases hl:r.is (⟨#[108,101,110]⟩:UI)=true
 ·rw[if_pos hl];obtain⟨hi,hr,hb⟩:=WQ (Rd.aZ hl).2;by_cases hx:r.inc.is (⟨#[40]⟩:UI)=true
  ·rw[if_pos hx];obtain⟨d1,d2,d3,d4,d5,d6⟩:=deeper r.inc (⟨#[40]⟩:UI) (⟨#[41]⟩:UI) hi he;have d4l:=d4.pd;have d4h:=d4.pL;refine aM func174 ntmps174 ?_;refine S ?_
   (have W:=jA he (jA XX (jA Zq (jA hl (jA WB (jA Xh (jA W5 (hx)))))));repeat' (first|refine av fun K hK=>?_|refine au ?_|(with_reducible refine gR 2 ?_);refine dE 2 (bf 0 12) mixed ?_|(refine hK _ _ ?_;clear hK K)|(refine ar ?_ ?_<;>intro hc<;>try exact jz)|refine cm (im r (bw h)) ?_|refine cm (gC r _ (bw h)) ?_|refine cm (gC r.inc _ (bw hi)) ?_|refine cm (uz r.inc (bw hi)) ?_|refine cm (iV r.inc.down _ (bw d1)) ?_|refine cm (Un (r.inc.down.ap (⟨#[40]⟩:UI)) d2 jB) ?_|refine cm (iV (dT n 0 (r.inc.down.ap (⟨#[40]⟩:UI))).1 _ (bw d3)) ?_|refine cm (kZ ((dT n 0 (r.inc.down.ap (⟨#[40]⟩:UI))).1.ap (⟨#[41]⟩:UI)).up _ _ _ _ [(dT n 0 (r.inc.down.ap (⟨#[40]⟩:UI))).2] _ gN.sl (bw d5)) ?_|refine aq ?_|exact jI|(clear hK K)))
   (refine ba [.tmp 2] ?_;try simp only[go_sem])
  ·rw[if_neg hx];have Va:r.inc.is (⟨#[40]⟩:UI)=false:=by simpa using hx
   refine aM func174 ntmps174 ?_;refine S ?_
   (have W:=jA he (jA XX (jA Zq (jA hl (jA WB (jA Xh (jA W5 (Va)))))));repeat' (first|refine av fun K hK=>?_|refine au ?_|(with_reducible refine gR 2 ?_);refine dE 2 (bf 0 12) mixed ?_|(refine hK _ _ ?_;clear hK K)|(refine ar ?_ ?_<;>intro hc<;>try exact jz)|refine cm (im r (bw h)) ?_|refine cm (gC r _ (bw h)) ?_|refine cm (gC r.inc _ (bw hi)) ?_|refine cm (tU r.inc _ (bw hi)) ?_|refine aq ?_|exact jI|(clear hK K)))
   (refine ba [.tmp 2] ?_;try simp only[go_sem])
 rw[if_neg hl];have VY:r.is (⟨#[108,101,110]⟩:UI)=false:=by simpa using hl
 by_cases hx:r.is (⟨#[40]⟩:UI)=true
 ·rw[if_pos hx];obtain⟨hi,hr,hb⟩:=WQ (Rd.aZ hx).2;obtain⟨d1,d2,d3,d4,d5,d6⟩:=deeper r (⟨#[40]⟩:UI) (⟨#[41]⟩:UI) h he;have d4l:=d4.pd;have d4h:=d4.pL;have d7:(r.down.ap (⟨#[40]⟩:UI)).rem+1<=r.rem:=by
   have hdn:=Rd.bK h he;unfold Rd.rem;rw[if_pos he];have Uz:(r.down.ap (⟨#[40]⟩:UI)).l=r.l:=(Rd.aK d1 _).l.trans hdn.2.2.2.1;rw[Uz];by_cases hq:r.down.is (⟨#[40]⟩:UI)=true
   ·have:r.down.ap (⟨#[40]⟩:UI)=r.down.inc:=by unfold Rd.ap;rw[if_pos hq]
    rw[this];have:r.down.inc.i=r.i+1:=by show r.down.i+1=_;rw[hdn.2.2.1]
    rw[this];split<;>omega
   ·have hm:r.down.ap (⟨#[40]⟩:UI)=r.down.aE 20:=by unfold Rd.ap;rw[if_neg hq]
    rw[hm];have:(r.down.aE 20).e≠0:=by
     unfold Rd.aE;split
     ·show(20:Int)≠0;decide
     ·assumption
    rw[if_neg this];omega
  refine aM func174 ntmps174 ?_;refine S ?_
  (have W:=jA he (jA XX (jA Zq (jA VY (jA WB (jA Xh (jA W5 (hx)))))));repeat' (first|refine av fun K hK=>?_|refine au ?_|(with_reducible refine gR 2 ?_);refine dE 2 (bf 0 12) mixed ?_|(refine hK _ _ ?_;clear hK K)|(refine ar ?_ ?_<;>intro hc<;>try exact jz)|refine cm (im r (bw h)) ?_|refine cm (gC r _ (bw h)) ?_|refine cm (uz r (bw h)) ?_|refine cm (iV r.down _ (bw d1)) ?_|refine cm (Un (r.down.ap (⟨#[40]⟩:UI)) d2 jB) ?_|refine cm (iV (dT n 0 (r.down.ap (⟨#[40]⟩:UI))).1 _ (bw d3)) ?_|refine aq ?_|exact jI|(clear hK K)))
  (refine ba [.tmp 2] ?_;try simp only[go_sem])
 rw[if_neg hx];have Va:r.is (⟨#[40]⟩:UI)=false:=by simpa using hx
 refine aM func174 ntmps174 ?_;refine S ?_
 (have W:=jA he (jA XX (jA Zq (jA VY (jA WB (jA Xh (jA W5 (Va)))))));repeat' (first|refine av fun K hK=>?_|refine au ?_|(with_reducible refine gR 2 ?_);refine dE 2 (bf 0 12) mixed ?_|(refine hK _ _ ?_;clear hK K)|(refine ar ?_ ?_<;>intro hc<;>try exact jz)|refine cm (im r (bw h)) ?_|refine cm (gC r _ (bw h)) ?_|refine cm (tU r _ (bw h)) ?_|refine aq ?_|exact jI|(clear hK K)))
 (refine ba [.tmp 2] ?_;try simp only[go_sem])
theorem An:∀m n,n<=m->Cg n/\zg n/\zP n
 |0,0,_=>⟨fun r h hn=>by omega,fun r h hn=>by omega,fun lv r hl h hn=>by omega⟩
 |m+1,0,_=>⟨fun r h hn=>jB,fun r h hn=>jB,fun lv r hl h hn=>jB⟩
 |m+1,n+1,hm=>by obtain⟨ha,hf,hc⟩:=An m n jB;exact⟨SM n hc,MW n ha hf,Ni n hf fun k hk=>(An m k jB).2.2⟩
def SV(n:Nat)(r:Rd)(h:r.Inv)(hn:8*r.rem+8<=n):ab prog 116 [pR] (cC r) (fun v l=>v=rI (dT n 0 r).2/\l=cC (dT n 0 r).1):=by
 have:=(An n n jl).2.2 0 r jB h jB;refine aM func116 ntmps116 ?_;refine S ?_
 (repeat' (first|refine av fun K hK=>?_|refine au ?_|(refine hK _ _ ?_;clear hK K)|(refine ar ?_ ?_<;>intro hc<;>try exact jz)|refine cm (this) ?_|refine aq ?_|exact jI|(clear hK K)))
 (refine bW [.tmp 2] ?_ ?_<;>(try simp only[go_sem]))
variable{r:Rd}
def p9(h:r.Inv):ab prog 116 [pR] (cC r) (fun v l=>v=rI (dh r).2/\l=cC (dh r).1):=SV _ r h jl
def Kb(h:r.Inv):ab prog 137 [pR] (cC r) (fun v l=>v=rI (mT r).2/\l=cC (mT r).1):=by
 have h1:=(Rd.dr h).inv h;have h2:=(yD h).inv h;have h3:=(BY h).inv h;have h4:=(Mj h).inv h;have ZF:(o4 r).rem<=2000:=by have:=h2.pos;have:=h2.len;unfold Rd.rem;split<;>omega
 have hm:ab prog 68 [pR,rS (⟨#[40]⟩:UI)] (cC r.name.1) (fun v l=>v=.aQ []/\l=cC (o4 r)):=iV r.name.1 _ (bw h1);refine aM func137 ntmps137 ?_;refine S ?_
 (repeat' (first|refine av fun K hK=>?_|refine au ?_|(refine hK _ _ ?_;clear hK K)|(refine ar ?_ ?_<;>intro hc<;>try exact jz)|refine cm (im r (bw h)) ?_|refine cm (vo r (bw h)) ?_|refine cm (hm) ?_|refine cm (gC (o4 r) _ (bw h2)) ?_|refine aq ?_|exact jI|(clear hK K)))
 have Ux:=hK;clear hK;refine jw (dV.nil 2 5 3 (sz:=1) rfl jC (Or.inr ⟨_,_,_,rfl,rfl⟩)) ?_
 (refine S ?_;try exact jI)
 refine eN (S:=Nat×Bool×Rd×UG) [(5,1),(7,2),(27,17)] (fun s=>s.2.2.1.Inv/\(s.2.1=true->s.2.2.1.rem+2<=s.1)/\1<=s.1/\s.2.2.2.length+s.1<=5000/\ns s.1 s.2.1 s.2.2.1 s.2.2.2=nY r) (fun s=>[(5,.rs 2 s.2.2.2.length 1 s.2.2.2.length),(7,rB s.2.1)]) (fun s=>⟨[0,1],cC s.2.2.1++[(2,.aG 3 1 (s.2.2.2.map eI))]⟩) (fun s=>s.1) ((o4 r).rem+2,more (o4 r),o4 r,[]) ⟨h2,fun _=>Nat.le_refl _,jJ,by(try simp only[List.length_nil]);omega,rfl⟩ (eR rfl (by simp only[go_sem,lj,Nat.reduceAdd,AV.raw.injEq,Value.int.injEq,Value.slice.injEq,Value.pointer.injEq,AV.rs.injEq,more,List.length_nil];try omega)) ?_;rintro⟨n,b,q,L⟩ ⟨hq,Vw,WG,XC,hA⟩ Kr Ut;simp only at hq Vw WG XC hA;have hqi:=hq.lt;have hqp:=hq.pos;have YS:=hq.len;obtain⟨n,rfl⟩:∃k,n=k+1:=⟨n-1,jB⟩;cases b with
 |false=>
  rw[ns]at hA;have e1:q=(nY r).1:=by rw[<-hA]
  have e2:L=(nY r).2:=by rw[<-hA]
  rw[<-e1]at h4;refine S ?_
  (repeat' (first|refine av fun K hK=>?_|refine au ?_|(refine hK _ _ ?_;clear hK K)|(refine ar ?_ ?_<;>intro hc<;>try exact jz)|refine aq ?_|exact jI|(clear hK K)))
  refine Ux _ _ ?_;refine GF [2] 5 (aP eI 1 L) Sd Sd jL ?_;refine S ?_
  (repeat' (first|refine av fun K hK=>?_|refine au ?_|(refine hK _ _ ?_;clear hK K)|(refine ar ?_ ?_<;>intro hc<;>try exact jz)|refine cm (iV q _ (bw hq)) ?_|refine cm (xL (q.ap (⟨#[41]⟩:UI)) _ _ _ _ L (bw h4)) ?_|refine aq ?_|exact jI|(clear hK K)))
  (refine bW [.tmp 2] ?_ ?_<;>(try simp only[go_sem]))
  ·unfold mT;rw[<-e1,<-e2]
  ·unfold mT;rw[<-e1,<-e2]
 |true=>
  have s1:=ka hq;have hx:=s1.inv hq;have WO:=s1.rem;have hxi:=hx.lt;have hxp:=hx.pos;have YQ:=hx.len;have Vw:=Vw rfl;rw[ns]at hA;refine S ?_
  (repeat' (first|refine av fun K hK=>?_|refine au ?_|(refine hK _ _ ?_;clear hK K)|(refine ar ?_ ?_<;>intro hc<;>try exact jz)|refine cm (p9 hq) ?_|refine cm (gC (dh q).1 _ (bw hx)) ?_|refine aq ?_|exact jI|(clear hK K)))
  ·rw[if_pos hc]at hA;have hk:=Rd.aZ hc;have X6:=Rd.de hx hk;refine Ut _ _ (eQ (n,true,(dh q).1.inc,L++[(dh q).2]) ⟨(Rd.br hx hk.2).1.inv hx,fun _=>jJ,jJ,by(try simp only[List.length_append,List.length_cons,List.length_nil]);omega,hA⟩ jJ (by simp only[go_sem,cC,ix,List.map_append,List.map_cons,List.map_nil,List.cons_append,List.nil_append];(try rfl)) (by simp only[go_sem,lj,Nat.reduceAdd,AV.raw.injEq,Value.int.injEq,Value.slice.injEq,Value.pointer.injEq,AV.rs.injEq,hc,List.length_append,List.length_cons,List.length_nil];try omega))
  ·rw[if_neg (by rw[hc];decide)]at hA;refine Ut _ _ (eQ (n,false,(dh q).1,L++[(dh q).2]) ⟨hx,(by intro h;cases h),jJ,by(try simp only[List.length_append,List.length_cons,List.length_nil]);omega,?_⟩ jJ (by simp only[go_sem,cC,ix,List.map_append,List.map_cons,List.map_nil,List.cons_append,List.nil_append];(try rfl)) (by simp only[go_sem,lj,Nat.reduceAdd,AV.raw.injEq,Value.int.injEq,Value.slice.injEq,Value.pointer.injEq,AV.rs.injEq,hc,List.length_append,List.length_cons,List.length_nil];try omega));rw[<-hA];obtain⟨n,rfl⟩:∃k,n=k+1:=⟨n-1,jB⟩;rw[ns]
def xa(h:r.Inv):ab prog 136 [pR] (cC r) (fun v l=>v=rB r.calls/\l=cC r):=Rr r (bw h) (fun hk=>Rd.behind h (Rd.dM hk jC).2)
def H7(h:r.Inv):ab prog 115 [pR] (cC r) (fun v l=>v=rI (lP r).2/\l=cC (lP r).1):=by
 have hri:=h.lt;have hrp:=h.pos;have Ws:=h.len;have WQ:r.tok.kind≠0->r.inc.Inv:=fun hk=>(Rd.br h hk).1.inv h
 by_cases hx:r.is (⟨#[105,110,112,117,116]⟩:UI)=true
 ·have hi:=WQ (Rd.aZ hx).2;rw[lP,if_pos hx];refine aM func115 ntmps115 ?_;refine S ?_
  (have W:=hx;repeat' (first|refine av fun K hK=>?_|refine au ?_|(refine hK _ _ ?_;clear hK K)|(refine ar ?_ ?_<;>intro hc<;>try exact jz)|refine cm (im r (bw h)) ?_|refine cm (gC r _ (bw h)) ?_|refine cm (kZ r.inc _ _ _ _ [] _ gN.nil (bw hi)) ?_|refine aq ?_|exact jI|(clear hK K)))
  (refine bW [.tmp 2] ?_ ?_<;>(try simp only[go_sem]))
 rw[lP,if_neg hx];have Va:r.is (⟨#[105,110,112,117,116]⟩:UI)=false:=by simpa using hx
 by_cases hy:r.is (⟨#[110,101,119]⟩:UI)=true
 ·have hi:=WQ (Rd.aZ hy).2;have h1:=(Rd.aK hi (⟨#[40]⟩:UI)).inv hi;have h2:=(ka h1).inv h1;have h3:=(Rd.aK h2 (⟨#[41]⟩:UI)).inv h2;rw[if_pos hy];refine aM func115 ntmps115 ?_;refine S ?_
  (have W:=jA Va hy;repeat' (first|refine av fun K hK=>?_|refine au ?_|(refine hK _ _ ?_;clear hK K)|(refine ar ?_ ?_<;>intro hc<;>try exact jz)|refine cm (im r (bw h)) ?_|refine cm (gC r _ (bw h)) ?_|refine cm (iV r.inc _ (bw hi)) ?_|refine cm (p9 h1) ?_|refine cm (iV (dh (r.inc.ap (⟨#[40]⟩:UI))).1 _ (bw h2)) ?_|refine cm (kZ ((dh (r.inc.ap (⟨#[40]⟩:UI))).1.ap (⟨#[41]⟩:UI)) _ _ _ _ [(dh (r.inc.ap (⟨#[40]⟩:UI))).2] _ gN.sl (bw h3)) ?_|refine aq ?_|exact jI|(clear hK K)))
  (refine bW [.tmp 2] ?_ ?_<;>(try simp only[go_sem]))
 rw[if_neg hy];have Y7:r.is (⟨#[110,101,119]⟩:UI)=false:=by simpa using hy
 by_cases Uo:r.calls=true
 ·rw[if_pos Uo];refine aM func115 ntmps115 ?_;refine S ?_
  (have W:=jA Va (jA Y7 (Uo));repeat' (first|refine av fun K hK=>?_|refine au ?_|(refine hK _ _ ?_;clear hK K)|(refine ar ?_ ?_<;>intro hc<;>try exact jz)|refine cm (im r (bw h)) ?_|refine cm (gC r _ (bw h)) ?_|refine cm (xa h) ?_|refine cm (Kb h) ?_|refine aq ?_|exact jI|(clear hK K)))
  (refine bW [.tmp 2] ?_ ?_<;>(try simp only[go_sem]))
 ·rw[if_neg Uo];have VM:r.calls=false:=by simpa using Uo
  refine aM func115 ntmps115 ?_;refine S ?_
  (have W:=jA Va (jA Y7 (VM));repeat' (first|refine av fun K hK=>?_|refine au ?_|(refine hK _ _ ?_;clear hK K)|(refine ar ?_ ?_<;>intro hc<;>try exact jz)|refine cm (im r (bw h)) ?_|refine cm (gC r _ (bw h)) ?_|refine cm (xa h) ?_|refine cm (p9 h) ?_|refine aq ?_|exact jI|(clear hK K)))
  (refine bW [.tmp 2] ?_ ?_<;>(try simp only[go_sem]))
def S4(h:r.Inv)(he:r.e=0)(ln:Int):ab prog 117 [pR,rI ln] (cC r) (fun v l=>v=rI (pv r ln).2/\l=cC (pv r ln).1):=by
 have hri:=h.lt;have hrp:=h.pos;have Ws:=h.len;by_cases Uo:r.calls=true
 ·have h1:=(Dk h Uo).1.inv h;have h2:=(Rd.aK h1 (⟨#[59]⟩:UI)).inv h1;rw[pv,if_pos Uo];refine aM func117 ntmps117 ?_;refine S ?_
  (have W:=Uo;repeat' (first|refine av fun K hK=>?_|refine au ?_|(refine hK _ _ ?_;clear hK K)|(refine ar ?_ ?_<;>intro hc<;>try exact jz)|refine cm (xa h) ?_|refine cm (Kb h) ?_|refine cm (iV (mT r).1 _ (bw h1)) ?_|refine cm (kZ ((mT r).1.ap (⟨#[59]⟩:UI)) _ _ _ _ [(mT r).2] _ gN.sl (bw h2)) ?_|refine aq ?_|exact jI|(clear hK K)))
  (refine bW [.tmp 4] ?_ ?_<;>(try simp only[go_sem]))
 rw[pv,if_neg Uo];have VM:r.calls=false:=by simpa using Uo
 have h0:=(Rd.dr h).inv h;by_cases hx:r.name.1.is (⟨#[91]⟩:UI)=true
 ·rw[if_pos hx];have d0:=(Rd.bK h0 (Rd.aZ hx).1).1;have d1:=(Rd.aK d0 (⟨#[91]⟩:UI)).inv d0;have d2:=(ka d1).inv d1;have d3:=(Rd.aK d2 (⟨#[93]⟩:UI)).inv d2;have d4:=(Dw h0 hx).2.inv h0;have d5:=(yY h0 hx).1.inv h0;have d6:=(yY h0 hx).2.inv h0;have d7:=(Rd.aK d6 (⟨#[59]⟩:UI)).inv d6;have d3l:=d3.pd;have d3h:=d3.pL;unfold vW pe at*;refine aM func117 ntmps117 ?_;refine S ?_
  (have W:=jA VM hx;repeat' (first|refine av fun K hK=>?_|refine au ?_|(refine hK _ _ ?_;clear hK K)|(refine ar ?_ ?_<;>intro hc<;>try exact jz)|refine cm (xa h) ?_|refine cm (vo r (bw h)) ?_|refine cm (gC r.name.1 _ (bw h0)) ?_|refine cm (uz r.name.1 (bw h0)) ?_|refine cm (iV r.name.1.down _ (bw d0)) ?_|refine cm (p9 d1) ?_|refine cm (iV (dh (r.name.1.down.ap (⟨#[91]⟩:UI))).1 _ (bw d2)) ?_|refine cm (iV ((dh (r.name.1.down.ap (⟨#[91]⟩:UI))).1.ap (⟨#[93]⟩:UI)).up _ (bw d4)) ?_|refine cm (p9 d5) ?_|refine cm (iV (dh (((dh (r.name.1.down.ap (⟨#[91]⟩:UI))).1.ap (⟨#[93]⟩:UI)).up.ap (⟨#[61]⟩:UI))).1 _ (bw d6)) ?_|refine cm (kZ ((dh (((dh (r.name.1.down.ap (⟨#[91]⟩:UI))).1.ap (⟨#[93]⟩:UI)).up.ap (⟨#[61]⟩:UI))).1.ap (⟨#[59]⟩:UI)) _ _ _ _ [(dh (r.name.1.down.ap (⟨#[91]⟩:UI))).2,(dh (((dh (r.name.1.down.ap (⟨#[91]⟩:UI))).1.ap (⟨#[93]⟩:UI)).up.ap (⟨#[61]⟩:UI))).2] _ gN.sl (bw d7)) ?_|refine aq ?_|exact jI|(clear hK K)))
  (refine bW [.tmp 4] ?_ ?_<;>(try simp only[go_sem]))
 ·rw[if_neg hx];have Va:r.name.1.is (⟨#[91]⟩:UI)=false:=by simpa using hx
  have d1:=(Rd.aK h0 (⟨#[61]⟩:UI)).inv h0;have d2:=(zf d1).inv d1;have d3:=(Rd.aK d2 (⟨#[59]⟩:UI)).inv d2;refine aM func117 ntmps117 ?_;refine S ?_
  (have W:=jA VM (Va);repeat' (first|refine av fun K hK=>?_|refine au ?_|(refine hK _ _ ?_;clear hK K)|(refine ar ?_ ?_<;>intro hc<;>try exact jz)|refine cm (xa h) ?_|refine cm (vo r (bw h)) ?_|refine cm (gC r.name.1 _ (bw h0)) ?_|refine cm (iV r.name.1 _ (bw h0)) ?_|refine cm (H7 d1) ?_|refine cm (iV (lP (r.name.1.ap (⟨#[61]⟩:UI))).1 _ (bw d2)) ?_|refine cm (kZ ((lP (r.name.1.ap (⟨#[61]⟩:UI))).1.ap (⟨#[59]⟩:UI)) _ _ _ _ [(lP (r.name.1.ap (⟨#[61]⟩:UI))).2] _ gN.sl (bw d3)) ?_|refine aq ?_|exact jI|(clear hK K)))
  (refine bW [.tmp 4] ?_ ?_<;>(try simp only[go_sem]))
def OJ(w:UI):aC prog 101 [rS w] (rI (sq w)):=by
 refine bQ func101 ntmps101 ?_
 (repeat' (first|refine av fun K hK=>?_|refine au ?_|(refine hK _ _ ?_;clear hK K)|(refine ar ?_ ?_<;>intro hc<;>try exact jz)|refine aq ?_|exact jI|(clear hK K)))
 all_goals(refine bW [.tmp 2] ?_ ?_<;>(try simp only[go_sem]))
 all_goals unfold sq
 all_goals repeat' split
 all_goals first|rfl|(exfalso;simp_all;done)
def FO(h:r.Inv):ab prog 71 [pR] (cC r) (fun v l=>v=rI (iS r).2/\l=cC (iS r).1):=by
 have hri:=h.lt;have hrp:=h.pos;have Ws:=h.len;refine aM func71 ntmps71 ?_;refine S ?_
 (repeat' (first|refine av fun K hK=>?_|refine au ?_|(refine hK _ _ ?_;clear hK K)|(refine ar ?_ ?_<;>intro hc<;>try exact jz)|refine cm (qZ r (bw h)) ?_|refine cp (OJ r.word) ?_|refine cm (tU r _ (bw h)) ?_|refine aq ?_|exact jI|(clear hK K)))
 ·(refine bW [.tmp 2] ?_ ?_<;>(try simp only[go_sem]))
  ·simp only[iS,if_pos hc]
  ·simp only[iS,if_pos hc,go_sem]
 ·(refine bW [.tmp 2] ?_ ?_<;>(try simp only[go_sem]))
  ·simp only[iS,if_neg hc]
  ·simp only[iS,if_neg hc];rfl
def Dm(n:Nat):Prop:=∀r:Rd,r.Inv->4*r.rem+1<=n->ab prog 72 [pR] (cC r) (fun v l=>v=rI (gf n r).2/\l=cC (gf n r).1)
def AW(n:Nat):Prop:=∀r:Rd,r.Inv->r.e=0->4*r.rem+2<=n->ab prog 103 [pR] (cC r) (fun v l=>v=rI (nX n r).2/\l=cC (nX n r).1)
def Ms(n:Nat)(hs:∀m,m<=n->AW m):Dm (n+1):=by
 intro r h hn;by_cases hx:r.is (⟨#[123]⟩:UI)=true
 ·have he:=(Rd.aZ hx).1;have hd:=(Rd.bK h he).1;have s1:=Rd.aK hd (⟨#[123]⟩:UI);have h1:=s1.inv hd;have s2:=(sZ n).2.1 _ [] h1;have h2:=s2.inv h1;have s3:=Rd.aK h2 (⟨#[125]⟩:UI);have h3:=s3.inv h2;have h4:=(Rd.fz h he ((s1.trans s2).trans s3)).inv h;have h3l:=h3.pd;have h3h:=h3.pL;have hr:=(Rd.gI h hx).1;have ZF:r.rem<=2000:=by
   have:=h.pos;have:=h.len;unfold Rd.rem;split<;>omega
  rw[gf,if_pos hx];refine aM func72 ntmps72 ?_;refine S ?_
  (have W:=hx;repeat' (first|refine av fun K hK=>?_|refine au ?_|(refine hK _ _ ?_;clear hK K)|(refine ar ?_ ?_<;>intro hc<;>try exact jz)|refine cm (im r (bw h)) ?_|refine cm (gC r _ (bw h)) ?_|refine cm (uz r (bw h)) ?_|refine cm (iV r.down _ (bw hd)) ?_|refine aq ?_|exact jI|(clear hK K)))
  have Ux:=hK;clear hK;refine jw (dV.nil 2 5 3 (sz:=1) rfl jC (Or.inr ⟨_,_,_,rfl,rfl⟩)) ?_
  (refine S ?_;try exact jI)
  refine eN (S:=Nat×Rd×UG) [(5,3),(21,14)] (fun s=>s.2.1.Inv/\4*s.2.1.rem+3<=s.1/\s.1<=n/\s.2.2.length+s.2.1.rem<=2000/\mQ s.1 s.2.1 s.2.2=mQ n (r.down.ap (⟨#[123]⟩:UI)) []) (fun s=>[(5,.rs 2 s.2.2.length 1 s.2.2.length)]) (fun s=>⟨[0,1],cC s.2.1++[(2,.aG 3 1 (s.2.2.map eI))]⟩) (fun s=>s.1) (n,r.down.ap (⟨#[123]⟩:UI),[]) ⟨h1,jJ,Nat.le_refl _,by(try simp only[List.length_nil]);omega,rfl⟩ (eR rfl cH) ?_;rintro⟨m,q,L⟩ ⟨hq,W8,Wv,VQ,hA⟩ Kr Ut;simp only at hq W8 Wv VQ hA;have hqi:=hq.lt;have hqp:=hq.pos;have YS:=hq.len;obtain⟨m,rfl⟩:∃k,m=k+1:=⟨m-1,jB⟩;rw[mQ]at hA;by_cases U1:q.e=0/\q.is (⟨#[125]⟩:UI)=false
  ·rw[if_pos U1]at hA;obtain⟨W9,Xy⟩:=U1;obtain⟨t1,t2⟩:=(sZ m).2.2 q hq W9 jB;have hj:=t1.inv hq;refine S ?_
   (have W:=jA W9 Xy;repeat' (first|refine av fun K hK=>?_|refine au ?_|(refine hK _ _ ?_;clear hK K)|(refine ar ?_ ?_<;>intro hc<;>try exact jz)|refine cm (gC q _ (bw hq)) ?_|refine cm (hs m jB q hq W9 jB) ?_|refine aq ?_|exact jI|(clear hK K)))
   refine Ut _ _ (eQ (m,(nX m q).1,L++[(nX m q).2]) ⟨hj,jJ,jJ,by(try simp only[List.length_append,List.length_cons,List.length_nil]);omega,hA⟩ jJ (by simp only[go_sem,cC,ix,List.map_append,List.map_cons,List.map_nil,List.cons_append,List.nil_append];(try rfl)) cH)
  ·rw[if_neg U1]at hA;have e1:q=(mQ n (r.down.ap (⟨#[123]⟩:UI)) []).1:=by rw[<-hA]
   have e2:L=(mQ n (r.down.ap (⟨#[123]⟩:UI)) []).2:=by rw[<-hA]
   rw[<-e1]at h3 h4 h3l h3h;refine S ?_
   (repeat' (first|refine av fun K hK=>?_|refine au ?_|(refine hK _ _ ?_;clear hK K)|(refine ar ?_ ?_<;>intro hc<;>try exact jz)|refine cm (gC q _ (bw hq)) ?_|refine aq ?_|exact jI|(clear hK K)))
   all_goals first|(exact absurd ⟨by assumption,by assumption⟩ U1)|skip
   all_goals refine Ux _ _ ?_
   all_goals refine GF [2] 5 (aP eI 1 L) Sd Sd jL ?_
   all_goals(
    refine S ?_
    (repeat' (first|refine av fun K hK=>?_|refine au ?_|(refine hK _ _ ?_;clear hK K)|(refine ar ?_ ?_<;>intro hc<;>try exact jz)|refine cm (iV q _ (bw hq)) ?_|refine cm (xL (q.ap (⟨#[125]⟩:UI)).up _ _ _ _ L (bw h4)) ?_|refine aq ?_|exact jI|(clear hK K)))
    (refine bW [.tmp 2] ?_ ?_<;>(try simp only[go_sem]))
    all_goals simp only[<-e1,<-e2])
 ·rw[gf,if_neg hx];have Va:r.is (⟨#[123]⟩:UI)=false:=by simpa using hx
  refine aM func72 ntmps72 ?_;refine S ?_
  (have W:=Va;repeat' (first|refine av fun K hK=>?_|refine au ?_|(refine hK _ _ ?_;clear hK K)|(refine ar ?_ ?_<;>intro hc<;>try exact jz)|refine cm (im r (bw h)) ?_|refine cm (gC r _ (bw h)) ?_|refine cm (tU r _ (bw h)) ?_|refine aq ?_|exact jI|(clear hK K)))
  (refine bW [.tmp 2] ?_ ?_<;>(try simp only[go_sem]))
def TN(n:Nat)(hb:Dm n):AW (n+1):=by
 intro r h he hn;have hri:=h.lt;have hrp:=h.pos;have Ws:=h.len;have word:∀w:UI,w≠⟨#[]⟩->r.word=w->r.inc.Inv/\r.inc.rem+1<=r.rem:=fun w h0 hw=>by have hk:=Rd.dM (Rd.gS hw h0) jC;exact⟨(Rd.br h hk.2).1.inv h,Rd.de h hk⟩
 rw[nX];by_cases w1:r.word=(⟨#[108,101,116]⟩:UI)
 ·rw[if_pos w1];have w1':=eq_true w1;obtain⟨hi,hr⟩:=word _ jC w1;have h1:=(Rd.dr hi).inv hi;have h2:=(Rd.aK h1 (⟨#[61]⟩:UI)).inv h1;have h3:=(zf h2).inv h2;have h4:=(Rd.aK h3 (⟨#[59]⟩:UI)).inv h3;refine aM func103 ntmps103 ?_;refine S ?_
  (have W:=w1';repeat' (first|refine av fun K hK=>?_|refine au ?_|(refine hK _ _ ?_;clear hK K)|(refine ar ?_ ?_<;>intro hc<;>try exact jz)|refine cm (im r (bw h)) ?_|refine cm (qZ r (bw h)) ?_|refine cm (vo r.inc (bw hi)) ?_|refine cm (iV r.inc.name.1 _ (bw h1)) ?_|refine cm (H7 h2) ?_|refine cm (iV (lP (r.inc.name.1.ap (⟨#[61]⟩:UI))).1 _ (bw h3)) ?_|refine cm (kZ ((lP (r.inc.name.1.ap (⟨#[61]⟩:UI))).1.ap (⟨#[59]⟩:UI)) _ _ _ _ [(lP (r.inc.name.1.ap (⟨#[61]⟩:UI))).2] _ gN.sl (bw h4)) ?_|refine aq ?_|exact jI|(clear hK K)))
  (refine bW [.tmp 2] ?_ ?_<;>(try simp only[go_sem]))
 rw[if_neg w1];by_cases w2:r.word=(⟨#[112,114,105,110,116]⟩:UI)
 ·rw[if_pos w2];have w2':=eq_true w2;obtain⟨hi,hr⟩:=word _ jC w2;have h1:=(ka hi).inv hi;have h2:=(Rd.aK h1 (⟨#[59]⟩:UI)).inv h1;refine aM func103 ntmps103 ?_;refine S ?_
  (have W:=jA w1 (w2');repeat' (first|refine av fun K hK=>?_|refine au ?_|(refine hK _ _ ?_;clear hK K)|(refine ar ?_ ?_<;>intro hc<;>try exact jz)|refine cm (im r (bw h)) ?_|refine cm (qZ r (bw h)) ?_|refine cm (p9 hi) ?_|refine cm (iV (dh r.inc).1 _ (bw h1)) ?_|refine cm (kZ ((dh r.inc).1.ap (⟨#[59]⟩:UI)) _ _ _ _ [(dh r.inc).2] _ gN.sl (bw h2)) ?_|refine aq ?_|exact jI|(clear hK K)))
  (refine bW [.tmp 2] ?_ ?_<;>(try simp only[go_sem]))
 rw[if_neg w2];by_cases w3:r.word=(⟨#[119,104,105,108,101]⟩:UI)
 ·rw[if_pos w3];have w3':=eq_true w3;obtain⟨hi,hr⟩:=word _ jC w3;have h1:=(ka hi).inv hi;have WO:=(ka hi).rem;have h2:=((sZ n).1 _ h1).inv h1;refine aM func103 ntmps103 ?_;refine S ?_
  (have W:=jA w1 (jA w2 (w3'));repeat' (first|refine av fun K hK=>?_|refine au ?_|(refine hK _ _ ?_;clear hK K)|(refine ar ?_ ?_<;>intro hc<;>try exact jz)|refine cm (im r (bw h)) ?_|refine cm (qZ r (bw h)) ?_|refine cm (p9 hi) ?_|refine cm (hb _ h1 jB) ?_|refine cm (kZ (gf n (dh r.inc).1).1 _ _ _ _ [(dh r.inc).2,(gf n (dh r.inc).1).2] _ gN.sl (bw h2)) ?_|refine aq ?_|exact jI|(clear hK K)))
  (refine bW [.tmp 2] ?_ ?_<;>(try simp only[go_sem]))
 rw[if_neg w3];by_cases w4:r.word=(⟨#[105,102]⟩:UI)
 ·rw[if_pos w4];have w4':=eq_true w4;obtain⟨hi,hr⟩:=word _ jC w4;have h1:=(ka hi).inv hi;have WO:=(ka hi).rem;have s2:=(sZ n).1 _ h1;have h2:=s2.inv h1;have X6:=s2.rem;have h2i:=h2.lt;have h2p:=h2.pos;have h2l:=h2.len;by_cases hx:(gf n (dh r.inc).1).1.is (⟨#[101,108,115,101]⟩:UI)=true
  ·rw[if_pos hx];have hk:=Rd.aZ hx;have h3:=(Rd.br h2 hk.2).1.inv h2;have hr3:=Rd.de h2 hk;have h4:=((sZ n).1 _ h3).inv h3;refine aM func103 ntmps103 ?_;refine S ?_
   (have W:=jA w1 (jA w2 (jA w3 (jA w4' (hx))));repeat' (first|refine Fo (id:=31) [2] [(13,135)] [(12,aP eI 1 [(dh r.inc).2,(gf n (dh r.inc).1).2,(gf n (gf n (dh r.inc).1).1.inc).2])] ?_|refine av fun K hK=>?_|refine au ?_|(refine hK _ _ ?_;clear hK K)|(refine ar ?_ ?_<;>intro hc<;>try exact jz)|refine cm (im r (bw h)) ?_|refine cm (qZ r (bw h)) ?_|refine cm (p9 hi) ?_|refine cm (hb _ h1 jB) ?_|refine cm (gC (gf n (dh r.inc).1).1 _ (bw h2)) ?_|refine cm (hb _ h3 jB) ?_|refine cm (xL (gf n (gf n (dh r.inc).1).1.inc).1 _ _ _ _ [(dh r.inc).2,(gf n (dh r.inc).1).2,(gf n (gf n (dh r.inc).1).1.inc).2] (bw h4)) ?_|refine aq ?_|exact jI|(clear hK K)))
   (refine bW [.tmp 2] ?_ ?_<;>(try simp only[go_sem]))
  ·rw[if_neg hx];have Va:(gf n (dh r.inc).1).1.is (⟨#[101,108,115,101]⟩:UI)=false:=by simpa using hx
   refine aM func103 ntmps103 ?_;refine S ?_
   (have W:=jA w1 (jA w2 (jA w3 (jA w4' (Va))));repeat' (first|refine av fun K hK=>?_|refine au ?_|(refine hK _ _ ?_;clear hK K)|(refine ar ?_ ?_<;>intro hc<;>try exact jz)|refine cm (im r (bw h)) ?_|refine cm (qZ r (bw h)) ?_|refine cm (p9 hi) ?_|refine cm (hb _ h1 jB) ?_|refine cm (gC (gf n (dh r.inc).1).1 _ (bw h2)) ?_|refine cm (kZ (gf n (dh r.inc).1).1 _ _ _ _ [(dh r.inc).2,(gf n (dh r.inc).1).2] _ gN.sl (bw h2)) ?_|refine aq ?_|exact jI|(clear hK K)))
   (refine bW [.tmp 2] ?_ ?_<;>(try simp only[go_sem]))
 rw[if_neg w4];by_cases w5:r.word=(⟨#[114,101,116,117,114,110]⟩:UI)
 ·rw[if_pos w5];have w5':=eq_true w5;obtain⟨hi,hr⟩:=word _ jC w5;by_cases hx:r.inc.is (⟨#[59]⟩:UI)=true
  ·rw[if_pos hx];have h1:=(Rd.aK hi (⟨#[59]⟩:UI)).inv hi;refine aM func103 ntmps103 ?_;refine S ?_
   (have W:=jA w1 (jA w2 (jA w3 (jA w4 (jA w5' (hx)))));repeat' (first|refine av fun K hK=>?_|refine au ?_|(refine hK _ _ ?_;clear hK K)|(refine ar ?_ ?_<;>intro hc<;>try exact jz)|refine cm (im r (bw h)) ?_|refine cm (qZ r (bw h)) ?_|refine cm (gC r.inc _ (bw hi)) ?_|refine cm (iV r.inc _ (bw hi)) ?_|refine cm (kZ (r.inc.ap (⟨#[59]⟩:UI)) _ _ _ _ [] _ gN.sl (bw h1)) ?_|refine aq ?_|exact jI|(clear hK K)))
   (refine bW [.tmp 2] ?_ ?_<;>(try simp only[go_sem]))
  ·rw[if_neg hx];have Va:r.inc.is (⟨#[59]⟩:UI)=false:=by simpa using hx
   have h1:=(ka hi).inv hi;have h2:=(Rd.aK h1 (⟨#[59]⟩:UI)).inv h1;refine aM func103 ntmps103 ?_;refine S ?_
   (have W:=jA w1 (jA w2 (jA w3 (jA w4 (jA w5' (Va)))));repeat' (first|refine Fo (id:=40) [2] [(16,132)] [(15,aP eI 1 [(dh r.inc).2])] ?_|refine av fun K hK=>?_|refine au ?_|(refine hK _ _ ?_;clear hK K)|(refine ar ?_ ?_<;>intro hc<;>try exact jz)|refine cm (im r (bw h)) ?_|refine cm (qZ r (bw h)) ?_|refine cm (gC r.inc _ (bw hi)) ?_|refine cm (p9 hi) ?_|refine cm (iV (dh r.inc).1 _ (bw h1)) ?_|refine cm (xL ((dh r.inc).1.ap (⟨#[59]⟩:UI)) _ _ _ _ [(dh r.inc).2] (bw h2)) ?_|refine aq ?_|exact jI|(clear hK K)))
   (refine bW [.tmp 2] ?_ ?_<;>(try simp only[go_sem]))
 rw[if_neg w5];refine aM func103 ntmps103 ?_;refine S ?_
 (have W:=jA w1 (jA w2 (jA w3 (jA w4 (w5))));repeat' (first|refine av fun K hK=>?_|refine au ?_|(refine hK _ _ ?_;clear hK K)|(refine ar ?_ ?_<;>intro hc<;>try exact jz)|refine cm (im r (bw h)) ?_|refine cm (qZ r (bw h)) ?_|refine cm (S4 h he r.cV) ?_|refine aq ?_|exact jI|(clear hK K)))
 (refine bW [.tmp 2] ?_ ?_<;>(try simp only[go_sem]))
theorem HA:∀m n,n<=m->Dm n/\AW n
 |0,0,_=>⟨fun r h hn=>by omega,fun r h he hn=>by omega⟩
 |m+1,0,_=>⟨fun r h hn=>jB,fun r h he hn=>jB⟩
 |m+1,n+1,hm=>by
  have ih:=fun k (hk:k<=n)=>HA m k jB
  exact⟨Ms n fun k hk=>(ih k hk).2,TN n (ih n jl).1⟩
def Iv(h:r.Inv):ab prog 72 [pR] (cC r) (fun v l=>v=rI (oT r).2/\l=cC (oT r).1):=(HA _ _ jl).1 r h jB
def Of(h:r.Inv):ab prog 44 [pR] (cC r) (fun v l=>v=.agg (fZ (mX r).2)/\l=cC (mX r).1):=by
 have h1:=(qw h).1.inv h;have h2:=(qw h).2.1.inv h;have h3:=(qw h).2.2.1.inv h;have h4:=(Dv h).inv h1;have h5:=(Al h).inv h1;have h6:=(zr h).inv h1;have h7:=(AY h6).inv h6;have ZF:(nF r).rem<=2000:=by have:=h3.pos;have:=h3.len;unfold Rd.rem;split<;>omega
 have hm:ab prog 68 [pR,rS (⟨#[40]⟩:UI)] (cC (r.ap (⟨#[102,110]⟩:UI)).name.1) (fun v l=>v=.aQ []/\l=cC (nF r)):=iV (r.ap (⟨#[102,110]⟩:UI)).name.1 _ (bw h2);refine aM func44 ntmps44 ?_;refine S ?_
 (repeat' (first|refine av fun K hK=>?_|refine au ?_|(refine hK _ _ ?_;clear hK K)|(refine ar ?_ ?_<;>intro hc<;>try exact jz)|refine cm (im r (bw h)) ?_|refine cm (hm) ?_|refine cm (iV r _ (bw h)) ?_|refine cm (vo (r.ap (⟨#[102,110]⟩:UI)) (bw h1)) ?_|refine cm (gC (nF r) _ (bw h3)) ?_|refine aq ?_|exact jI|(clear hK K)))
 have Ux:=hK;clear hK;refine jw (dV.gl 4 3 2 140 2 rfl jC rfl rfl) ?_
 (refine S ?_;try exact jI)
 refine eN (S:=Nat×Bool×Rd×List bI) [(5,3),(30,23)] (fun s=>s.2.2.1.Inv/\(s.2.1=true->s.2.2.1.rem+2<=s.1)/\1<=s.1/\s.2.2.2.length+s.1<=5000/\mI s.1 s.2.1 s.2.2.1 s.2.2.2=tB r) (fun s=>[(5,rB s.2.1)]) (fun s=>⟨[0,1],cC s.2.2.1++[(2,.var 98 [rS ⟨#[]⟩,rI 0,.raw (.slice none 0 0),rI 0,rI 0]),(3,.var 98 [rS (r.ap (⟨#[102,110]⟩:UI)).name.2,rI r.cV,.rs 4 s.2.2.2.length 2 s.2.2.2.length,rI 0,rI 0]),(4,.aG 140 2 (s.2.2.2.map mN))]⟩) (fun s=>s.1) ((nF r).rem+2,more (nF r),nF r,[]) ⟨h3,fun _=>Nat.le_refl _,jJ,by(try simp only[List.length_nil]);omega,rfl⟩ (eR rfl (by simp only[go_sem,lj,Nat.reduceAdd,AV.raw.injEq,Value.int.injEq,Value.slice.injEq,Value.pointer.injEq,AV.rs.injEq,more,List.length_nil];try omega)) ?_;rintro⟨n,b,q,L⟩ ⟨hq,Vw,WG,XC,hA⟩ Kr Ut;simp only at hq Vw WG XC hA;have hqi:=hq.lt;have hqp:=hq.pos;have YS:=hq.len;obtain⟨n,rfl⟩:∃k,n=k+1:=⟨n-1,jB⟩;cases b with
 |false=>
  rw[mI]at hA;have e1:q=(tB r).1:=by rw[<-hA]
  have e2:L=(tB r).2:=by rw[<-hA]
  have hmm:ab prog 68 [pR,rS (⟨#[41]⟩:UI)] (cC q) (fun v l=>v=.aQ []/\l=cC (lQ r)):=by rw[e1];exact iV (tB r).1 _ (bw h4)
  by_cases hx:(lQ r).is (⟨#[123]⟩:UI)=true
  ·have ed:mA r=(lQ r,0):=by unfold mA;rw[if_pos hx]
   have ef:mX r=((oT (lQ r)).1,⟨(r.ap (⟨#[102,110]⟩:UI)).name.2,r.cV,L,0,(oT (lQ r)).2⟩):=by unfold mX;rw[ed,<-e2]
   rw[ef]at Ux;refine S ?_
   (have W:=hx;repeat' (first|refine av fun K hK=>?_|refine au ?_|(refine hK _ _ ?_;clear hK K)|(refine ar ?_ ?_<;>intro hc<;>try exact jz)|refine Ux _ _ ?_|refine cm (hmm) ?_|refine cm (gC (lQ r) _ (bw h5)) ?_|refine cm (Iv h5) ?_|refine aq ?_|exact jI|(clear hK K)))
   refine fF [.cell 2 98] ?_;refine bt.agg (ds:=[rS _,rI _,aP mN 2 L,rI _,rI _]) ?_;exact jA (.same _ rfl) (jA (.same _ rfl) (jA (cY.row (enc:=mN) L rfl rfl jE) (jA (.same _ rfl) (jA (.same _ rfl) trivial))))
  ·have Va:(lQ r).is (⟨#[123]⟩:UI)=false:=by simpa using hx
   have ed:mA r=iS (lQ r):=by unfold mA;rw[if_neg hx]
   rw[ed]at h6;have ef:mX r=((oT (iS (lQ r)).1).1,⟨(r.ap (⟨#[102,110]⟩:UI)).name.2,r.cV,L,(iS (lQ r)).2,(oT (iS (lQ r)).1).2⟩):=by unfold mX;rw[ed,<-e2]
   rw[ef]at Ux;refine S ?_
   (have W:=Va;repeat' (first|refine av fun K hK=>?_|refine au ?_|(refine hK _ _ ?_;clear hK K)|(refine ar ?_ ?_<;>intro hc<;>try exact jz)|refine Ux _ _ ?_|refine cm (hmm) ?_|refine cm (gC (lQ r) _ (bw h5)) ?_|refine cm (FO h5) ?_|refine cm (Iv h6) ?_|refine aq ?_|exact jI|(clear hK K)))
   refine fF [.cell 2 98] ?_;refine bt.agg (ds:=[rS _,rI _,aP mN 2 L,rI _,rI _]) ?_;exact jA (.same _ rfl) (jA (.same _ rfl) (jA (cY.row (enc:=mN) L rfl rfl jE) (jA (.same _ rfl) (jA (.same _ rfl) trivial))))
 |true=>
  have s1:=DK hq;have hx:=s1.inv hq;have WO:=s1.rem;have hxi:=hx.lt;have hxp:=hx.pos;have YQ:=hx.len;have Vw:=Vw rfl;have XD:=(Rd.dr hq).inv hq;have Xi:ab prog 71 [pR] (cC q.name.1) (fun v l=>v=rI (iS q.name.1).2/\l=cC (pu q)):=FO XD;rw[mI]at hA;refine S ?_
  (repeat' (first|refine av fun K hK=>?_|refine au ?_|(refine hK _ _ ?_;clear hK K)|(refine ar ?_ ?_<;>intro hc<;>try exact jz)|refine cm (vo q (bw hq)) ?_|refine cm (Xi) ?_|refine cm (gC (pu q) _ (bw hx)) ?_|refine aq ?_|exact jI|(clear hK K)))
  ·rw[if_pos hc]at hA;have hk:=Rd.aZ hc;have X6:=Rd.de hx hk;refine Ut _ _ (eQ (n,true,(pu q).inc,L++[⟨q.name.2,(iS q.name.1).2⟩]) ⟨(Rd.br hx hk.2).1.inv hx,fun _=>jJ,jJ,by(try simp only[List.length_append,List.length_cons,List.length_nil]);omega,hA⟩ jJ (by simp only[go_sem,cC,ix,List.map_append,List.map_cons,List.map_nil,List.cons_append,List.nil_append,List.length_append,List.length_cons,List.length_nil,Nat.reduceAdd];(try rfl)) (by simp only[go_sem,lj,Nat.reduceAdd,AV.raw.injEq,Value.int.injEq,Value.slice.injEq,Value.pointer.injEq,AV.rs.injEq,hc,List.length_append,List.length_cons,List.length_nil];try omega))
  ·rw[if_neg (by rw[hc];decide)]at hA;refine Ut _ _ (eQ (n,false,pu q,L++[⟨q.name.2,(iS q.name.1).2⟩]) ⟨hx,(by intro h;cases h),jJ,by(try simp only[List.length_append,List.length_cons,List.length_nil]);omega,?_⟩ jJ (by simp only[go_sem,cC,ix,List.map_append,List.map_cons,List.map_nil,List.cons_append,List.nil_append,List.length_append,List.length_cons,List.length_nil,Nat.reduceAdd];(try rfl)) (by simp only[go_sem,lj,Nat.reduceAdd,AV.raw.injEq,Value.int.injEq,Value.slice.injEq,Value.pointer.injEq,AV.rs.injEq,hc,List.length_append,List.length_cons,List.length_nil];try omega));rw[<-hA];obtain⟨n,rfl⟩:∃k,n=k+1:=⟨n-1,jB⟩;rw[mI]
variable{k:Nat}
def Pp{α:Type}[Inhabited α](p:α->Bool)(l:List α)(h:k<l.length):(l.take (k+1)).any p=((l.take k).any p || p (nth l k)):=by rw[List.take_succ_eq_append_getElem h,List.any_append,fO h];simp
def sP(t:List bq)(L:List bh)(k:Nat):Bool:=decide (300<(t.length:Int)) || decide (6<(L.length:Int)) || (L.take k).any fun f=>decide (3<(f.params.length:Int))
def TA(t:List bq)(L:List bh)(h:k<L.length):sP t L (k+1)=(sP t L k || decide (3<((nth L k).params.length:Int))):=by unfold sP;rw[Pp _ _ h];simp only[Bool.or_assoc]
def Od(t:List bq)(L:List bh)(h:L.length<=k):sP t L k=uI t L:=by
 unfold sP uI;rw[List.take_of_length_le h];have e1:∀n:Nat,decide (300<(n:Int))=decide (300<n):=fun n=>decide_eq_decide.2 jB
 have e2:∀n:Nat,decide (6<(n:Int))=decide (6<n):=fun n=>decide_eq_decide.2 jB
 have e3:∀n:Nat,decide (3<(n:Int))=decide (3<n):=fun n=>decide_eq_decide.2 jB
 simp only[e1,e2,e3]
def T8(s:UI)(hs:s.size<=1000000):aC prog 20 [rS s] (.aQ [.agg (lO (gV s).1),rI (gV s).2.1,rI (gV s).2.2]):=by
 by_cases he:(kR s).2.2=0
 ·have hi:=F8 he;have ZF:(ou s).rem<=2000:=by
   have:=hi.pos;have:=hi.len;unfold Rd.rem;split<;>omega
  refine bQ func20 ntmps20 ?_
  (have W:=he;repeat' (first|refine av fun K hK=>?_|refine au ?_|(refine hK _ _ ?_;clear hK K)|(refine ar ?_ ?_<;>intro hc<;>try exact jz)|refine cp (JA s hs) ?_|(refine Ak (t:=27) 10 (by simp only[go_sem];rfl) rfl ?_;refine S ?_)|(refine yP 0 jD rfl ?_;refine S ?_)|refine aq ?_|exact jI|(clear hK K)))
  have Ux:=hK;clear hK;refine jw (dV.gl 1 0 3 66 5 rfl jC rfl rfl) ?_
  (refine S ?_;try exact jI)
  refine jw (dV.gl 12 11 1 98 5 rfl jC rfl rfl) ?_
  (refine S ?_;try exact jI)
  refine eN (S:=Nat×Rd×List bh) [(10,2),(30,16)] (fun p=>p.2.1.Inv/\p.2.1.rem+1<=p.1/\p.2.2.length+p.1<=5000/\qm p.1 p.2.1 p.2.2=nK s) (fun _=>[]) (fun p=>⟨[],[(10,.var 27 [.raw (.slice none 0 0),.raw (.slice none 0 0)]),(0,.var 94 (ix p.2.1)),(11,.var 27 [.raw (.slice none 0 0),.rs 12 p.2.2.length 5 p.2.2.length]),(1,.aG 66 5 (p.2.1.nodes.map eH)),(12,.aG 98 5 (p.2.2.map fZ))]⟩) (fun p=>p.1) ((ou s).rem+1,ou s,[]) ⟨hi,Nat.le_refl _,by(try simp only[List.length_nil]);omega,rfl⟩ (eR rfl cH) ?_;rintro⟨n,q,L⟩ ⟨hq,Vw,WG,hA⟩ Kr Ut;simp only at hq Vw WG hA;have hqi:=hq.lt;have hqp:=hq.pos;have YS:=hq.len;obtain⟨n,rfl⟩:∃k,n=k+1:=⟨n-1,jB⟩;rw[qm]at hA;by_cases U1:q.e=0/\q.kind 0=false
  ·rw[if_pos U1]at hA;obtain⟨W9,Xy⟩:=U1;obtain⟨t1,t2⟩:=Jl hq;have t2:=t2 W9;have hj:=t1.inv hq;refine S ?_
   (have W:=jA W9 Xy;repeat' (first|refine av fun K hK=>?_|refine au ?_|(refine hK _ _ ?_;clear hK K)|(refine ar ?_ ?_<;>intro hc<;>try exact jz)|refine cm (xN q _ (bw hq)) ?_|refine cm (Of hq) ?_|refine aq ?_|exact jI|(clear hK K)))
   refine Ut _ _ (py [13] (n,(mX q).1,L++[(mX q).2]) ⟨hj,jJ,by(try simp only[List.length_append,List.length_cons,List.length_nil]);omega,hA⟩ jJ rfl Sd (by simp only[go_sem,ix,List.map_append,List.map_cons,List.map_nil,List.length_append,List.length_cons,List.length_nil,Nat.reduceAdd];(try rfl)) jL)
  ·rw[if_neg U1]at hA;have e1:q=(nK s).1:=by rw[<-hA]
   have e2:L=(nK s).2:=by rw[<-hA]
   refine S ?_
   (repeat' (first|refine av fun K hK=>?_|refine au ?_|(refine hK _ _ ?_;clear hK K)|(refine ar ?_ ?_<;>intro hc<;>try exact jz)|refine cm (xN q _ (bw hq)) ?_|refine aq ?_|exact jI|(clear hK K)))
   all_goals first|(exact absurd ⟨by assumption,by assumption⟩ U1)|skip
   ·have W9:q.e=0:=by assumption
    have hee:¬(nK s).1.e≠0:=by rw[<-e1];simp[W9]
    refine Ux _ _ ?_;clear Ux
    (have W:=W9;repeat' (first|refine av fun K hK=>?_|refine au ?_|(refine hK _ _ ?_;clear hK K)|(refine ar ?_ ?_<;>intro hc<;>try exact jz)|refine aq ?_|exact jI|(clear hK K)))
    have Ux:=hK;clear hK;refine eN (S:=Nat) [(12,2),(75,18)] (fun k=>k<=L.length) (fun k=>[(12,rB (sP q.nodes L k)),(13,rI k)]) (fun _=>⟨[],[(10,.var 27 [.raw (.slice none 0 0),.raw (.slice none 0 0)]),(0,.var 94 (ix q)),(11,.var 27 [.rs 1 q.nodes.length 5 q.nodes.length,.rs 12 L.length 5 L.length]),(1,.aG 66 5 (q.nodes.map eH)),(12,.aG 98 5 (L.map fZ))]⟩) (fun k=>L.length-k) 0 (Nat.zero_le _) (eR (by simp only[ix,W9]) (by simp only[go_sem,lj,Nat.reduceAdd,AV.raw.injEq,Value.int.injEq,Value.slice.injEq,Value.pointer.injEq,AV.rs.injEq,sP,List.take_zero,List.any_nil,Bool.or_false];try omega)) ?_;intro k hk Kr Ut;refine S ?_
    (repeat' (first|refine av fun K hK=>?_|refine au ?_|(refine hK _ _ ?_;clear hK K)|(refine ar ?_ ?_<;>intro hc<;>try exact jz)|refine aq ?_|exact jI|(clear hK K)))
    ·have Wa:k<L.length:=jB;refine Ut _ _ (eQ (k+1) jJ jJ (by simp only[ix,W9]) (by simp only[go_sem,lj,Nat.reduceAdd,AV.raw.injEq,Value.int.injEq,Value.slice.injEq,Value.pointer.injEq,AV.rs.injEq,TA _ _ Wa];try omega))
    ·have hbu:sP q.nodes L k=uI q.nodes L:=Od _ _ jB;by_cases Wi:uI q.nodes L=true
     ·have ep:gV s=(⟨[],[]⟩,0,4):=by unfold gV;rw[if_neg (by simp[he]),if_neg hee,<-e1,<-e2,if_pos Wi]
      rw[ep]at Ux;refine Ux _ _ ?_
      (have W:=jA hbu Wi;repeat' (first|refine av fun K hK=>?_|refine au ?_|(refine hK _ _ ?_;clear hK K)|(refine ar ?_ ?_<;>intro hc<;>try exact jz)|refine aq ?_|exact jI|(clear hK K)))
      refine fF [.cell 2 27,.tmp 3,.tmp 4] ?_;refine bt.aQ (ds:=[.agg (lO ⟨[],[]⟩),rI _,rI _]) ?_;exact jA (bt.agg (ds:=[aP eH 5 [],aP fZ 5 []]) (jA (cY.nil _ _) (jA (cY.nil _ _) trivial))) (jA (.same _ rfl) (jA (.same _ rfl) trivial))
     ·have hbf:uI q.nodes L=false:=by simpa using Wi
      have ep:gV s=(⟨q.nodes,L⟩,0,0):=by unfold gV;rw[if_neg (by simp[he]),if_neg hee,<-e1,<-e2,if_neg Wi]
      rw[ep]at Ux;refine Ux _ _ ?_
      (have W:=jA hbu hbf;repeat' (first|refine av fun K hK=>?_|refine au ?_|(refine hK _ _ ?_;clear hK K)|(refine ar ?_ ?_<;>intro hc<;>try exact jz)|refine aq ?_|exact jI|(clear hK K)))
      refine fF [.cell 2 27,.tmp 3,.tmp 4] ?_;refine bt.aQ (ds:=[.agg (lO ⟨q.nodes,L⟩),rI _,rI _]) ?_;exact jA (bt.agg (ds:=[aP eH 5 q.nodes,aP fZ 5 L]) (jA (cY.row (enc:=eH) q.nodes rfl rfl jE) (jA (cY.row (enc:=fZ) L rfl rfl jE) trivial))) (jA (.same _ rfl) (jA (.same _ rfl) trivial))
   ·have W9:¬q.e=0:=by assumption
    have ep:gV s=(⟨[],[]⟩,q.at_,q.e):=by unfold gV;rw[if_neg (by simp[he]),<-e1,if_pos W9]
    rw[ep]at Ux;refine Ux _ _ ?_
    (have W:=W9;repeat' (first|refine av fun K hK=>?_|refine au ?_|(with_reducible refine gR 12 ?_);refine dA 12 [10] (bf 0 12) mixed ?_|(refine hK _ _ ?_;clear hK K)|(refine ar ?_ ?_<;>intro hc<;>try exact jz)|refine aq ?_|exact jI|(clear hK K)))
    refine fF [.cell 2 27,.tmp 3,.tmp 4] ?_;refine bt.aQ (ds:=[.agg (lO ⟨[],[]⟩),rI _,rI _]) ?_;exact jA (bt.agg (ds:=[aP eH 5 [],aP fZ 5 []]) (jA (cY.nil _ _) (jA (cY.nil _ _) trivial))) (jA (.same _ rfl) (jA (.same _ rfl) trivial))
 ·have ep:gV s=(⟨[],[]⟩,(kR s).2.1,(kR s).2.2):=by unfold gV;rw[if_pos he]
  rw[ep];refine bQ func20 ntmps20 ?_
  (have W:=he;repeat' (first|refine av fun K hK=>?_|refine au ?_|(refine hK _ _ ?_;clear hK K)|(refine ar ?_ ?_<;>intro hc<;>try exact jz)|refine cp (JA s hs) ?_|refine aq ?_|exact jI|(clear hK K)))
  refine fF [.cell 2 27,.tmp 3,.tmp 4] ?_;refine bt.aQ (ds:=[.agg (lO ⟨[],[]⟩),rI _,rI _]) ?_;exact jA (bt.agg (ds:=[aP eH 5 [],aP fZ 5 []]) (jA (cY.nil _ _) (jA (cY.nil _ _) trivial))) (jA (.same _ rfl) (jA (.same _ rfl) trivial))
def vU(c:Ck):UE:=[aP eH 5 c.aa.nodes,aP fZ 5 c.aa.aw,.rs 1 c.types.length 1 c.types.length,.rs 2 c.slots.length 1 c.slots.length,.rs 3 c.aw.length 1 c.aw.length,.rs 4 c.aO.length 1 c.aO.length,rI c.fn,.rs 5 (c.vars.length+c.more.length) 3 c.vars.length,rI c.size,rI c.e,rI c.at_]
def fJ(c:Ck):UD:=[(0,.var 103 (vU c)),(1,.aG 3 1 (c.types.map eI)),(2,.aG 3 1 (c.slots.map eI)),(3,.aG 3 1 (c.aw.map eI)),(4,.aG 3 1 (c.aO.map eI)),(5,.aG 144 3 ((c.vars++c.more).map lc))]
attribute [go_sem] fJ vU Ck.slot Ck.note Ck.ai
structure bG(c:Ck):Prop where
 aa:aR c.aa
 types:c.types.length=c.aa.nodes.length
 slots:c.slots.length=c.aa.nodes.length
 aw:c.aw.length=c.aa.nodes.length
 aO:c.aO.length<=6
 wo:0<=c.fn
 vP:c.fn<c.aa.aw.length
 vars:(c.vars.length:Int)<=c.size
 size:c.size<=25
 room:c.e=0->c.size<=24
theorem zd{α:Type}(f:α->UI)(nm:UI):∀(l:List α) (i:Int),0<=i->(ji f nm l i=-1/\∀v∈l,f v≠nm)\/(i<=ji f nm l i/\ji f nm l i<i+l.length)
 |[],i,_=>.inl ⟨rfl,fun v hv=>by simp at hv⟩
 |v::l,i,hi=>by
  unfold ji;by_cases h:f v=nm
  ·rw[if_pos h];exact .inr jF
  ·rw[if_neg h];rcases zd f nm l (i+1) jB with⟨h1,h2⟩|h1
   ·exact .inl ⟨h1,fun u hu=>by
     rcases List.mem_cons.1 hu with rfl|hu
     ·exact h
     ·exact h2 u hu⟩
   ·exact .inr jF
def kV{α:Type}[Inhabited α]{l:List α}{i:Nat}(h:i<l.length):l.drop i=nth l i::l.drop (i+1):=by rw[fO h];exact List.drop_eq_getElem_cons h
def sJ(c:Ck)(e a:Int):ab prog 73 [pR,rI e,rI a] (fJ c) (fun v l=>v=.aQ []/\l=fJ (c.aE e a)):=by
 refine aM func73 ntmps73 ?_;refine S ?_
 (repeat' (first|refine av fun K hK=>?_|refine au ?_|(refine hK _ _ ?_;clear hK K)|(refine ar ?_ ?_<;>intro hc<;>try exact jz)|refine aq ?_|exact jI|(clear hK K)))
 ·(refine bW [] ?_ ?_<;>(try simp only[go_sem]))
  simp only[Ck.aE,if_pos hc,fJ,vU]
 ·(refine bW [] ?_ ?_<;>(try simp only[go_sem]))
  simp only[Ck.aE,if_neg hc,fJ,vU]
def CW(c:Ck)(nm:UI)(h:bG c):ab prog 74 [pR,rS nm] (fJ c) (fun v l=>v=rI (c.find nm)/\l=fJ c):=by
 have h1:=h.vars;have h2:=h.size;refine aM func74 ntmps74 ?_;refine S ?_
 (repeat' (first|refine av fun K hK=>?_|refine au ?_|(refine hK _ _ ?_;clear hK K)|(refine ar ?_ ?_<;>intro hc<;>try exact jz)|refine aq ?_|exact jI|(clear hK K)))
 have Ux:=hK;clear hK;refine eN (S:=Nat) [(4,22)] (fun k=>k<=c.vars.length/\ji bE.name nm (c.vars.drop k) k=c.find nm) (fun k=>[(5,rI k)]) (fun _=>⟨[0,1,2,3,4,5],fJ c⟩) (fun k=>c.vars.length-k) 0 ⟨jB,rfl⟩ (eR jD cH) ?_;rintro k ⟨U8,Uy⟩ Kr Ut
 (refine S ?_;try exact jI)
 by_cases hk:k<c.vars.length
 ·rw[kV hk]at Uy;unfold ji at Uy;have Zt:nth (c.vars++c.more) k=nth c.vars k:=pZ hk
  (have W:=Zt;repeat' (first|refine av fun K hK=>?_|refine au ?_|(refine hK _ _ ?_;clear hK K)|(refine ar ?_ ?_<;>intro hc<;>try exact jz)|refine aq ?_|exact jI|(clear hK K)))
  ·(refine bW [.tmp 4] ?_ ?_<;>(try simp only[go_sem]))
   rw[if_pos hc]at Uy;rw[<-Uy]
  ·rw[if_neg hc]at Uy;refine Ut _ _ (eQ (k+1) ⟨jB,by rw[<-Uy];rfl⟩ jJ jD cH)
 ·rw[List.drop_eq_nil_of_le jB]at Uy
  (repeat' (first|refine av fun K hK=>?_|refine au ?_|(refine hK _ _ ?_;clear hK K)|(refine ar ?_ ?_<;>intro hc<;>try exact jz)|refine Ux _ _ ?_|refine aq ?_|exact jI|(clear hK K)))
  (refine bW [.tmp 4] ?_ ?_<;>(try simp only[go_sem]))
  rw[<-Uy];rfl
def oU(c:Ck)(b:Bool)(a:Int):ab prog 121 [pR,rB b,rI a] (fJ c) (fun v l=>v=.aQ []/\l=fJ (c.ap b a)):=by
 refine aM func121 ntmps121 ?_;refine S ?_
 (repeat' (first|refine av fun K hK=>?_|refine au ?_|(refine hK _ _ ?_;clear hK K)|(refine ar ?_ ?_<;>intro hc<;>try exact jz)|refine cm (sJ c 42 a) ?_|refine aq ?_|exact jI|(clear hK K)))
 ·(refine bW [] ?_ ?_<;>(try simp only[go_sem]))
  simp only[Ck.ap,hc,Bool.false_eq_true,if_false,fJ,vU]
 ·(refine bW [] ?_ ?_<;>(try simp only[go_sem]))
  simp only[Ck.ap,hc,if_true,fJ,vU]
variable{a:Int}
def vN{c:Ck}(h:bG c)(h0:0<=a)(h1:a<c.aa.nodes.length):Shape c.aa.nodes (c.node a)/\∀x∈(c.node a).l,0<=x/\x.toNat<a.toNat:=by have:=h.aa.shape a.toNat jB;exact⟨this.1,this.2.1⟩
def yR{c:Ck}(h:bG c)(h0:0<=a)(h1:a<c.aa.nodes.length):(c.node a).l.length<=300:=by obtain⟨_,_,lo,hc⟩:=h.aa.shape a.toNat jB;have:=hc.len;have:=h.aa.many;show(nth c.aa.nodes a.toNat).l.length<=300;omega
def DC(c:Ck)(a:Int)(h:bG c)(h0:0<=a)(h1:a<c.aa.nodes.length):ab prog 119 [pR,rI a] (fJ c) (fun v l=>v=rI (c.named a).2/\l=fJ (c.named a).1):=by
 have hv:=h.vars;have hz:=h.size;have VH:=h.slots;have XR:=zd bE.name (c.node a).name c.vars 0 jB;have W6:=CW c (c.node a).name h;have YC:=sJ c 40 a;have Zt:0<=c.find (c.node a).name->nth (c.vars++c.more) (c.find (c.node a).name).toNat=nth c.vars (c.find (c.node a).name).toNat:=fun h=>pZ (by have XR:(c.find (c.node a).name=-1/\_)\/(0<=c.find (c.node a).name/\c.find (c.node a).name<0+c.vars.length):=XR;omega)
 have XR:(c.find (c.node a).name=-1/\_)\/(0<=c.find (c.node a).name/\c.find (c.node a).name<0+c.vars.length):=XR;unfold Ck.named;by_cases hf:c.find (c.node a).name<0
 ·rw[if_pos hf];refine aM func119 ntmps119 ?_;refine S ?_
  (repeat' (first|refine av fun K hK=>?_|refine au ?_|(refine hK _ _ ?_;clear hK K)|(refine ar ?_ ?_<;>intro hc<;>try exact jz)|refine cm (W6) ?_|refine cm (YC) ?_|refine aq ?_|exact jI|(clear hK K)))
  (refine bW [.tmp 4] ?_ ?_<;>(try simp only[go_sem]))
 ·rw[if_neg hf];have Zt:=Zt jB;refine aM func119 ntmps119 ?_;refine S ?_
  (have W:=Zt;repeat' (first|refine av fun K hK=>?_|refine au ?_|(with_reducible refine gR 5 ?_);refine dE 5 (bf 0 16) mixed ?_|(refine hK _ _ ?_;clear hK K)|(refine ar ?_ ?_<;>intro hc<;>try exact jz)|refine cm (W6) ?_|refine aq ?_|exact jI|(clear hK K)))
  (refine bW [.tmp 4] ?_ ?_<;>(try simp only[go_sem]))
structure Ev(c c':Ck):Prop where
 aa:c'.aa=c.aa
 fn:c'.fn=c.fn
 vars:c'.vars=c.vars
 more:c'.more=c.more
 size:c'.size=c.size
 aO:c'.aO=c.aO
 types:c'.types.length=c.types.length
 slots:c'.slots.length=c.slots.length
 aw:c'.aw.length=c.aw.length
 err:c.e≠0->c'.e≠0
def Ev.refl(c:Ck):Ev c c:=⟨rfl,rfl,rfl,rfl,rfl,rfl,rfl,rfl,rfl,id⟩
theorem Ev.trans{a b c:Ck}(h:Ev a b)(k:Ev b c):Ev a c:=⟨k.aa.trans h.aa,k.fn.trans h.fn,k.vars.trans h.vars,k.more.trans h.more,k.size.trans h.size,k.aO.trans h.aO,k.types.trans h.types,k.slots.trans h.slots,k.aw.trans h.aw,fun e=>k.err (h.err e)⟩
def bG.ev{c c':Ck}(h:bG c)(s:Ev c c'):bG c' where
 aa:=by rw[s.aa];exact h.aa
 types:=by rw[s.types,s.aa];exact h.types
 slots:=by rw[s.slots,s.aa];exact h.slots
 aw:=by rw[s.aw,s.aa];exact h.aw
 aO:=by rw[s.aO];exact h.aO
 wo:=by rw[s.fn];exact h.wo
 vP:=by rw[s.fn,s.aa];exact h.vP
 vars:=by rw[s.vars,s.size];exact h.vars
 size:=by rw[s.size];exact h.size
 room:=fun e=>by rw[s.size];exact h.room (Classical.byContradiction fun h=>s.err h e)
theorem Ev.node{c c':Ck}(s:Ev c c')(a:Int):c'.node a=c.node a:=by unfold Ck.node;rw[s.aa]
def nL(c:Ck){e:Int}(he:e≠0)(a:Int):Ev c (c.aE e a):=by
 unfold Ck.aE;split
 ·exact⟨rfl,rfl,rfl,rfl,rfl,rfl,rfl,rfl,rfl,fun _=>he⟩
 ·exact .refl c
def kN(c:Ck)(b:Bool)(a:Int):Ev c (c.ap b a):=by
 unfold Ck.ap;split
 ·exact .refl c
 ·exact nL c jC a
def Lb(c:Ck)(a s:Int):Ev c (c.slot a s):=⟨rfl,rfl,rfl,rfl,rfl,rfl,rfl,by simp[Ck.slot],rfl,id⟩
def M6(c:Ck)(a t:Int):Ev c (c.note a t):=⟨rfl,rfl,rfl,rfl,rfl,rfl,by simp[Ck.note],rfl,by simp[Ck.note],id⟩
def rA(c:Ck)(a:Int):Ev c (c.ai a):=⟨rfl,rfl,rfl,rfl,rfl,rfl,rfl,rfl,by simp[Ck.ai],id⟩
def nS(c:Ck)(a:Int):Ev c (c.named a).1:=by
 unfold Ck.named;split
 ·exact nL c jC a
 ·exact Lb c a _
theorem uD{ex:Ck->Int->Ck×Int}(hex:∀c a,Ev c (ex c a).1):∀(l:UG) (c:Ck) (ts:UG),Ev c (gD ex c l ts).1
 |[],c,ts=>by unfold gD;exact .refl c
 |a::l,c,ts=>by
  unfold gD;split
  ·exact(hex c a).trans (uD hex l _ _)
  ·exact .refl c
theorem yJ(a:Int):∀(ts:UG) (ps:List bI) (c:Ck),Ev c (iG a c ts ps)
 |[],_,c=>by unfold iG;exact .refl c
 |_::_,[],c=>by unfold iG;exact .refl c
 |t::ts,p::ps,c=>by
  unfold iG;split
  ·exact(kN c _ a).trans (yJ a ts ps _)
  ·exact .refl c
variable{ex:Ck->Int->Ck×Int}
def RQ(hex:∀c a,Ev c (ex c a).1)(c:Ck)(a:Int):Ev c (iX ex c a).1:=by
 unfold iX;split
 ·exact nL c jC a
 ·refine Ev.trans ?_ (yJ _ _ _ _);split
  ·exact(uD hex _ _ _).trans (nL _ jC a)
  ·exact uD hex _ _ _
def Db(hex:∀c a,Ev c (ex c a).1)(c:Ck)(a:Int):Ev c (cw ex c a).1:=by
 unfold cw;simp only;repeat' split
 all_goals first
  |exact .refl c
  |exact nS c a
  |exact RQ hex c a
  |exact((nS c a).trans (hex _ _)).trans (kN _ _ _)
  |exact((hex c _).trans (hex _ _)).trans (kN _ _ _)
  |exact(hex c _).trans (kN _ _ _)
theorem fk:∀(n:Nat) (c:Ck) (a:Int),Ev c (az n c a).1
 |0,c,a=>by unfold az;exact .refl c
 |n+1,c,a=>by
  unfold az;split
  ·exact .refl c
  ·exact(Db (fk n) c a).trans (M6 _ _ _)
def uL(n:Nat):Prop:=∀(c:Ck) (a:Int),bG c->0<=a->a<c.aa.nodes.length->a.toNat<n->fv (c.node a).kind->ab prog 120 [pR,rI a] (fJ c) (fun v l=>v=rI (az n c a).2/\l=fJ (az n c a).1)
def DO(n:Nat):Prop:=∀(c:Ck) (a:Int),bG c->c.e=0->0<=a->a<c.aa.nodes.length->a.toNat<=n->fv (c.node a).kind->ab prog 139 [pR,rI a] (fJ c) (fun v l=>v=rI (cw (az n) c a).2/\l=fJ (cw (az n) c a).1)
def JD(n:Nat):Prop:=∀(c:Ck) (a:Int),bG c->0<=a->a<c.aa.nodes.length->a.toNat<=n->(c.node a).kind=21->ab prog 164 [pR,rI a] (fJ c) (fun v l=>v=rI (iX (az n) c a).2/\l=fJ (iX (az n) c a).1)
def Nk(s:UI)(a b:Int):aC prog 165 [rS s,rI a,rI b] (rI (lT s a b)):=by
 refine bQ func165 ntmps165 ?_
 (repeat' (first|refine av fun K hK=>?_|refine au ?_|(refine hK _ _ ?_;clear hK K)|(refine ar ?_ ?_<;>intro hc<;>try exact jz)|refine aq ?_|exact jI|(clear hK K)))
 all_goals(refine bW [.tmp 6] ?_ ?_<;>(try simp only[go_sem]))
 all_goals simp_all [lT]
 all_goals omega
def ON(n:Nat)(ht:DO n):uL (n+1):=by
 intro c a h h0 h1 hn hk;have hz:=h.size;have hv:=h.vars;by_cases he:c.e=0
 ·have htc:=ht c a h he h0 h1 jB hk;have s:=Db (fk n) c a;have h2:=h.ev s;have l1:=h2.types;have l2:=h2.aw;rw[s.aa]at l1 l2;rw[az,jN];refine aM func120 ntmps120 ?_;refine S ?_
  (repeat' (first|refine av fun K hK=>?_|refine au ?_|(with_reducible refine gR 5 ?_);refine dE 5 (bf 0 12) mixed ?_|(refine hK _ _ ?_;clear hK K)|(refine ar ?_ ?_<;>intro hc<;>try exact jz)|refine cm (htc) ?_|refine aq ?_|exact jI|(clear hK K)))
  (refine bW [.tmp 4] ?_ ?_<;>(try simp only[go_sem]))
 ·rw[az,if_pos he];refine aM func120 ntmps120 ?_;refine S ?_
  (repeat' (first|refine av fun K hK=>?_|refine au ?_|(refine hK _ _ ?_;clear hK K)|(refine ar ?_ ?_<;>intro hc<;>try exact jz)|refine aq ?_|exact jI|(clear hK K)))
  (refine bW [.tmp 4] ?_ ?_<;>(try simp only[go_sem]))
def PX(n:Nat)(hx:uL n)(Vc:JD n):DO n:=by
 intro c a h he h0 h1 hn hk;have hz:=h.size;have hv:=h.vars;obtain⟨sh,V8⟩:=vN h h0 h1;have Vl:∀i,i<(c.node a).l.length->(c.aF a i).toNat<n/\0<=c.aF a i/\c.aF a i<c.aa.nodes.length:=fun i hi=>by have hm:c.aF a i∈(c.node a).l:=ff hi;have:=V8 _ hm;omega
 have ev0:=nS c a;have Yk:=h.ev ev0;have US:=DC c a h h0 h1;unfold fv cR at hk;have e19:(c.node a).kind=1\/(c.node a).kind=19\/(c.node a).kind=2\/(c.node a).kind=3\/(c.node a).kind=4\/(c.node a).kind=21\/(c.node a).kind=5\/(c.node a).kind=9\/(c.node a).kind=6\/(c.node a).kind=7\/(c.node a).kind=8\/(c.node a).kind=20:=jB;rcases e19 with k|k|k|k|k|k|k|k|k|k|k|k
 ·have UY:(nth c.aa.nodes a.toNat).kind=1:=k;rw[show cw (az n) c a=(c,1) from by unfold cw;rw[k];rfl];refine aM func139 ntmps139 ?_;refine S ?_
  (have W:=UY;repeat' (first|refine av fun K hK=>?_|refine au ?_|(refine hK _ _ ?_;clear hK K)|(refine ar ?_ ?_<;>intro hc<;>try exact jz)|refine aq ?_|exact jI|(clear hK K)))
  (refine ba [.tmp 4] ?_;try simp only[go_sem])
 ·have UY:(nth c.aa.nodes a.toNat).kind=19:=k;rw[show cw (az n) c a=(c,1) from by unfold cw;rw[k];rfl];refine aM func139 ntmps139 ?_;refine S ?_
  (have W:=UY;repeat' (first|refine av fun K hK=>?_|refine au ?_|(refine hK _ _ ?_;clear hK K)|(refine ar ?_ ?_<;>intro hc<;>try exact jz)|refine aq ?_|exact jI|(clear hK K)))
  (refine ba [.tmp 4] ?_;try simp only[go_sem])
 ·have UY:(nth c.aa.nodes a.toNat).kind=2:=k;rw[show cw (az n) c a=(c,2) from by unfold cw;rw[k];rfl];refine aM func139 ntmps139 ?_;refine S ?_
  (have W:=UY;repeat' (first|refine av fun K hK=>?_|refine au ?_|(refine hK _ _ ?_;clear hK K)|(refine ar ?_ ?_<;>intro hc<;>try exact jz)|refine aq ?_|exact jI|(clear hK K)))
  (refine ba [.tmp 4] ?_;try simp only[go_sem])
 ·have UY:(nth c.aa.nodes a.toNat).kind=3:=k;rw[show cw (az n) c a=(c,3) from by unfold cw;rw[k];rfl];refine aM func139 ntmps139 ?_;refine S ?_
  (have W:=UY;repeat' (first|refine av fun K hK=>?_|refine au ?_|(refine hK _ _ ?_;clear hK K)|(refine ar ?_ ?_<;>intro hc<;>try exact jz)|refine aq ?_|exact jI|(clear hK K)))
  (refine ba [.tmp 4] ?_;try simp only[go_sem])
 ·have UY:(nth c.aa.nodes a.toNat).kind=4:=k;rw[show cw (az n) c a=c.named a from by unfold cw;rw[k];rfl];refine aM func139 ntmps139 ?_;refine S ?_
  (have W:=UY;repeat' (first|refine av fun K hK=>?_|refine au ?_|(refine hK _ _ ?_;clear hK K)|(refine ar ?_ ?_<;>intro hc<;>try exact jz)|refine cm (US) ?_|refine aq ?_|exact jI|(clear hK K)))
  (refine ba [.tmp 4] ?_;try simp only[go_sem])
 ·have UY:(nth c.aa.nodes a.toNat).kind=21:=k;rw[show cw (az n) c a=iX (az n) c a from by unfold cw;rw[k];rfl];have Uo:=Vc c a h h0 h1 hn k;refine aM func139 ntmps139 ?_;refine S ?_
  (have W:=UY;repeat' (first|refine av fun K hK=>?_|refine au ?_|(refine hK _ _ ?_;clear hK K)|(refine ar ?_ ?_<;>intro hc<;>try exact jz)|refine cm (Uo) ?_|refine aq ?_|exact jI|(clear hK K)))
  (refine ba [.tmp 4] ?_;try simp only[go_sem])
 ·have UY:(nth c.aa.nodes a.toNat).kind=5:=k;obtain⟨x,hl,U4⟩:=sh.one jB;have V0:(c.node a).l.length=1:=by rw[hl];rfl
  have VY:(nth c.aa.nodes a.toNat).l.length=1:=V0;obtain⟨g1,g2,g3⟩:=Vl 0 jB;have XE:fv (c.node (c.aF a 0)).kind:=by
   have:c.aF a 0=x:=by unfold Ck.aF;rw[hl];rfl
   rw[this];exact .inl U4
  have hex:=hx (c.named a).1 (c.aF a 0) Yk g2 (by rw[ev0.aa];exact g3) g1 (by rw[ev0.node];exact XE);have hm:=oU (az n (c.named a).1 (c.aF a 0)).1 (decide ((c.named a).2=4) && decide ((az n (c.named a).1 (c.aF a 0)).2=1)) a;rw[show cw (az n) c a=((az n (c.named a).1 (c.aF a 0)).1.ap (decide ((c.named a).2=4) && decide ((az n (c.named a).1 (c.aF a 0)).2=1)) a,1) from by unfold cw;rw[k];rfl];refine aM func139 ntmps139 ?_;refine S ?_
  (have W:=UY;repeat' (first|refine av fun K hK=>?_|refine au ?_|(refine hK _ _ ?_;clear hK K)|(refine ar ?_ ?_<;>intro hc<;>try exact jz)|refine cm (US) ?_|refine cm (hex) ?_|refine cm (hm) ?_|refine aq ?_|exact jI|(clear hK K)))
  (refine ba [.tmp 4] ?_;try simp only[go_sem])
 ·have UY:(nth c.aa.nodes a.toNat).kind=9:=k;obtain⟨x,y,hl,U4,XS⟩:=sh.two jB;have V0:(c.node a).l.length=2:=by rw[hl];rfl
  have VY:(nth c.aa.nodes a.toNat).l.length=2:=V0;obtain⟨g1,g2,g3⟩:=Vl 0 jB;obtain⟨g4,g5,g6⟩:=Vl 1 jB;have XE:fv (c.node (c.aF a 0)).kind:=by
   have:c.aF a 0=x:=by unfold Ck.aF;rw[hl];rfl
   rw[this];exact .inl U4
  have hky:fv (c.node (c.aF a 1)).kind:=by
   have:c.aF a 1=y:=by unfold Ck.aF;rw[hl];rfl
   rw[this];exact .inl XS
  have ev1:=fk n c (c.aF a 0);have hex:=hx c (c.aF a 0) h g2 g3 g1 XE;have hey:=hx (az n c (c.aF a 0)).1 (c.aF a 1) (h.ev ev1) g5 (by rw[ev1.aa];exact g6) g4 (by rw[ev1.node];exact hky);have hb:=Nk (c.node a).name (az n c (c.aF a 0)).2 (az n (az n c (c.aF a 0)).1 (c.aF a 1)).2;have hm:=oU (az n (az n c (c.aF a 0)).1 (c.aF a 1)).1 (!decide (lT (c.node a).name (az n c (c.aF a 0)).2 (az n (az n c (c.aF a 0)).1 (c.aF a 1)).2=0)) a;rw[show cw (az n) c a=((az n (az n c (c.aF a 0)).1 (c.aF a 1)).1.ap (!decide (lT (c.node a).name (az n c (c.aF a 0)).2 (az n (az n c (c.aF a 0)).1 (c.aF a 1)).2=0)) a,lT (c.node a).name (az n c (c.aF a 0)).2 (az n (az n c (c.aF a 0)).1 (c.aF a 1)).2) from by unfold cw;rw[k];rfl];refine aM func139 ntmps139 ?_;refine S ?_
  (have W:=UY;repeat' (first|refine av fun K hK=>?_|refine au ?_|(refine hK _ _ ?_;clear hK K)|(refine ar ?_ ?_<;>intro hc<;>try exact jz)|refine cm (hex) ?_|refine cm (hey) ?_|refine cp (hb) ?_|refine cm (hm) ?_|refine aq ?_|exact jI|(clear hK K)))
  (refine ba [.tmp 4] ?_;try simp only[go_sem])
 ·have UY:(nth c.aa.nodes a.toNat).kind=6:=k;obtain⟨x,hl,U4⟩:=sh.one jB;have V0:(c.node a).l.length=1:=by rw[hl];rfl
  have VY:(nth c.aa.nodes a.toNat).l.length=1:=V0;obtain⟨g1,g2,g3⟩:=Vl 0 jB;have XE:fv (c.node (c.aF a 0)).kind:=by
   have:c.aF a 0=x:=by unfold Ck.aF;rw[hl];rfl
   rw[this];exact .inl U4
  have hex:=hx c (c.aF a 0) h g2 g3 g1 XE;have hm:=oU (az n c (c.aF a 0)).1 (decide ((az n c (c.aF a 0)).2=3) || decide ((az n c (c.aF a 0)).2=4)) a;rw[show cw (az n) c a=((az n c (c.aF a 0)).1.ap (decide ((az n c (c.aF a 0)).2=3) || decide ((az n c (c.aF a 0)).2=4)) a,1) from by unfold cw;rw[k];rfl];refine aM func139 ntmps139 ?_;refine S ?_
  (have W:=UY;repeat' (first|refine av fun K hK=>?_|refine au ?_|(refine hK _ _ ?_;clear hK K)|(refine ar ?_ ?_<;>intro hc<;>try exact jz)|refine cm (hex) ?_|refine cm (hm) ?_|refine aq ?_|exact jI|(clear hK K)))
  (refine ba [.tmp 4] ?_;try simp only[go_sem])
 ·have UY:(nth c.aa.nodes a.toNat).kind=7:=k;obtain⟨x,hl,U4⟩:=sh.one jB;have V0:(c.node a).l.length=1:=by rw[hl];rfl
  have VY:(nth c.aa.nodes a.toNat).l.length=1:=V0;obtain⟨g1,g2,g3⟩:=Vl 0 jB;have XE:fv (c.node (c.aF a 0)).kind:=by
   have:c.aF a 0=x:=by unfold Ck.aF;rw[hl];rfl
   rw[this];exact .inl U4
  have hex:=hx c (c.aF a 0) h g2 g3 g1 XE;have hm:=oU (az n c (c.aF a 0)).1 (decide ((az n c (c.aF a 0)).2=1)) a;rw[show cw (az n) c a=((az n c (c.aF a 0)).1.ap (decide ((az n c (c.aF a 0)).2=1)) a,1) from by unfold cw;rw[k];rfl];refine aM func139 ntmps139 ?_;refine S ?_
  (have W:=UY;repeat' (first|refine av fun K hK=>?_|refine au ?_|(refine hK _ _ ?_;clear hK K)|(refine ar ?_ ?_<;>intro hc<;>try exact jz)|refine cm (hex) ?_|refine cm (hm) ?_|refine aq ?_|exact jI|(clear hK K)))
  (refine ba [.tmp 4] ?_;try simp only[go_sem])
 ·have UY:(nth c.aa.nodes a.toNat).kind=8:=k;obtain⟨x,hl,U4⟩:=sh.one jB;have V0:(c.node a).l.length=1:=by rw[hl];rfl
  have VY:(nth c.aa.nodes a.toNat).l.length=1:=V0;obtain⟨g1,g2,g3⟩:=Vl 0 jB;have XE:fv (c.node (c.aF a 0)).kind:=by
   have:c.aF a 0=x:=by unfold Ck.aF;rw[hl];rfl
   rw[this];exact .inl U4
  have hex:=hx c (c.aF a 0) h g2 g3 g1 XE;have hm:=oU (az n c (c.aF a 0)).1 (decide ((az n c (c.aF a 0)).2=2)) a;rw[show cw (az n) c a=((az n c (c.aF a 0)).1.ap (decide ((az n c (c.aF a 0)).2=2)) a,2) from by unfold cw;rw[k];rfl];refine aM func139 ntmps139 ?_;refine S ?_
  (have W:=UY;repeat' (first|refine av fun K hK=>?_|refine au ?_|(refine hK _ _ ?_;clear hK K)|(refine ar ?_ ?_<;>intro hc<;>try exact jz)|refine cm (hex) ?_|refine cm (hm) ?_|refine aq ?_|exact jI|(clear hK K)))
  (refine ba [.tmp 4] ?_;try simp only[go_sem])
 ·have UY:(nth c.aa.nodes a.toNat).kind=20:=k;obtain⟨x,hl,U4⟩:=sh.one jB;have V0:(c.node a).l.length=1:=by rw[hl];rfl
  have VY:(nth c.aa.nodes a.toNat).l.length=1:=V0;obtain⟨g1,g2,g3⟩:=Vl 0 jB;have XE:fv (c.node (c.aF a 0)).kind:=by
   have:c.aF a 0=x:=by unfold Ck.aF;rw[hl];rfl
   rw[this];exact .inl U4
  have hex:=hx c (c.aF a 0) h g2 g3 g1 XE;have hm:=oU (az n c (c.aF a 0)).1 (decide ((az n c (c.aF a 0)).2=1)) a;rw[show cw (az n) c a=((az n c (c.aF a 0)).1.ap (decide ((az n c (c.aF a 0)).2=1)) a,4) from by unfold cw;rw[k];rfl];refine aM func139 ntmps139 ?_;refine S ?_
  (have W:=UY;repeat' (first|refine av fun K hK=>?_|refine au ?_|(refine hK _ _ ?_;clear hK K)|(refine ar ?_ ?_<;>intro hc<;>try exact jz)|refine cm (hex) ?_|refine cm (hm) ?_|refine aq ?_|exact jI|(clear hK K)))
  (refine ba [.tmp 4] ?_;try simp only[go_sem])
def uv(a:Int)(c:Ck)(ps:List bI):iG a c [] ps=c:=by cases ps<;>rfl
def tY(a:Int)(c:Ck)(ts:UG):iG a c ts []=c:=by cases ts<;>rfl
theorem JF{α:Type}(f:α->UI)(nm:UI):∀(l:List α) (i k:Int),0<=i->(jy f nm l i k=k\/i<=jy f nm l i k)/\(jy f nm l i k=k\/jy f nm l i k<i+l.length)
 |[],i,k,_=>by unfold jy;exact⟨.inl rfl,.inl rfl⟩
 |v::l,i,k,hi=>by
  unfold jy;obtain⟨h1,h2⟩:=JF f nm l (i+1) (if f v=nm then i else k) jB;simp only[List.length_cons];split at h1<;>rename_i hv
  ·rw[if_pos hv]at h2 ⊢;omega
  ·rw[if_neg hv]at h2 ⊢;omega
def Rc(n:Nat)(hx:uL n):JD n:=by
 intro c a h h0 h1 hn hk;have hz:=h.size;have hv:=h.vars;have htf:=h.aa.aw;have Xn:=h.aa.many;obtain⟨sh,V8⟩:=vN h h0 h1;have hck:=h.aa.chain;have I':(nth c.aa.nodes a.toNat).l.length<=300:=yR h h0 h1;have XA:∀i,i<(c.node a).l.length->fv (c.node (nth (c.node a).l i)).kind/\(nth (c.node a).l i).toNat<n/\0<=nth (c.node a).l i/\nth (c.node a).l i<c.aa.nodes.length:=fun i hi=>by have hm:nth (c.node a).l i∈(c.node a).l:=ff hi;have:=V8 _ hm;exact⟨.inl (sh.call hk _ hm),jB,this.1,jB⟩
 obtain⟨lg1,lg2⟩:=JF bh.name (c.node a).name c.aa.aw 0 (-1) jB;have lg1:fL c a=-1\/0<=fL c a:=lg1;have lg2:fL c a=-1\/fL c a<0+c.aa.aw.length:=lg2;refine aM func164 ntmps164 ?_;refine S ?_
 (repeat' (first|refine av fun K hK=>?_|refine au ?_|(refine hK _ _ ?_;clear hK K)|(refine ar ?_ ?_<;>intro hc<;>try exact jz)|refine aq ?_|exact jI|(clear hK K)))
 have Ux:=hK;clear hK;refine eN (S:=Nat×Int) [(6,2),(22,25)] (fun s=>s.1<=c.aa.aw.length/\jy bh.name (c.node a).name (c.aa.aw.drop s.1) s.1 s.2=fL c a) (fun s=>[(7,rI s.1),(6,rI s.2)]) (fun _=>⟨[0,1,2,3,4,5],fJ c++[(6,.var 66 (eH (c.node a)))]⟩) (fun s=>c.aa.aw.length-s.1) (0,-1) ⟨jJ,rfl⟩ (eR jR cH) ?_;rintro⟨k,j⟩ ⟨U8,Uy⟩ Kr Ut;simp only at U8 Uy
 (refine S ?_;try exact jI)
 by_cases O':k<c.aa.aw.length
 ·rw[kV O']at Uy;unfold jy at Uy
  (repeat' (first|refine av fun K hK=>?_|refine au ?_|(with_reducible refine gR 6 ?_);refine dE 6 (bf 0 13) mixed ?_|(refine hK _ _ ?_;clear hK K)|(refine ar ?_ ?_<;>intro hc<;>try exact jz)|refine aq ?_|exact jI|(clear hK K)))
  ·rw[if_pos hc]at Uy;refine Ut _ _ (eQ (k+1,(k:Int)) ⟨jJ,by rw[<-Uy];rfl⟩ jJ jR cH)
  ·rw[if_neg hc]at Uy;refine Ut _ _ (eQ (k+1,j) ⟨jJ,by rw[<-Uy];rfl⟩ jJ jR cH)
 ·rw[List.drop_eq_nil_of_le jB]at Uy;have Uy:j=fL c a:=Uy;subst Uy;by_cases hax:fL c a<0
  ·rw[iX,if_pos hax]at*
   (repeat' (first|refine av fun K hK=>?_|refine au ?_|(refine hK _ _ ?_;clear hK K)|(refine ar ?_ ?_<;>intro hc<;>try exact jz)|refine Ux _ _ ?_|refine cm (sJ c 40 a) ?_|refine aq ?_|exact jI|(clear hK K)))
   (refine ba [.tmp 4] ?_;try simp only[go_sem])
  ·have Yj:0<=fL c a:=jB;have Yh:(fL c a).toNat<c.aa.aw.length:=jB;have hfp:=(h.aa.fn _ (ff Yh)).2;have e0:iX (az n) c a=(iG a (if(c.node a).l.length≠(nth c.aa.aw (fL c a).toNat).params.length then(gD (az n) c (c.node a).l []).1.aE 43 a else(gD (az n) c (c.node a).l []).1) (gD (az n) c (c.node a).l []).2 (nth c.aa.aw (fL c a).toNat).params,(nth c.aa.aw (fL c a).toNat).ret):=by
    rw[iX,if_neg hax]
   (repeat' (first|refine av fun K hK=>?_|refine au ?_|(refine hK _ _ ?_;clear hK K)|(refine ar ?_ ?_<;>intro hc<;>try exact jz)|refine Ux _ _ ?_|refine aq ?_|exact jI|(clear hK K)))
   have YD:=hK;clear hK;refine jw (dV.nil 8 9 3 (sz:=1) rfl jC (Or.inr ⟨_,_,_,rfl,rfl⟩)) ?_
   (refine S ?_;try exact jI)
   refine eN (S:=Nat×Ck×UG) [(9,3),(62,25)] (fun s=>s.1<=(c.node a).l.length/\Ev c s.2.1/\s.2.2.length=s.1/\gD (az n) s.2.1 ((c.node a).l.drop s.1) s.2.2=gD (az n) c (c.node a).l []) (fun s=>[(10,rI s.1),(9,.rs 8 s.2.2.length 1 s.2.2.length)]) (fun s=>⟨[0,1,2,3,4,5],fJ s.2.1++[(6,.var 66 (eH (c.node a))),(7,.var 98 (fZ (nth c.aa.aw (fL c a).toNat))),(8,.aG 3 1 (s.2.2.map eI))]⟩) (fun s=>(c.node a).l.length-s.1) (0,c,[]) ⟨jJ,.refl c,rfl,rfl⟩ (eR jR cH) ?_;rintro⟨i,q,ts⟩ ⟨Xc,ev,hts,hA⟩ Kr2 X7;simp only at Xc ev hts hA;have hq:=h.ev ev;have lt1:=hq.types;have lt2:=hq.slots;have lt3:=hq.aw;have lt4:=hq.vars;have lt5:=hq.size;have hlq:(c.node a).l.length<=300:=I'
   (refine S ?_;try exact jI)
   by_cases VL:i<(c.node a).l.length/\q.e=0
   ·obtain⟨Vh,V9⟩:=VL;rw[kV Vh,gD,if_pos V9]at hA;obtain⟨g1,g2,g3,g4⟩:=XA i Vh;have hxc:=hx q (nth (c.node a).l i) hq g3 (by rw[ev.aa];exact g4) g2 (by rw[ev.node];exact g1)
    (have W:=V9;repeat' (first|refine av fun K hK=>?_|refine au ?_|(refine hK _ _ ?_;clear hK K)|(refine ar ?_ ?_<;>intro hc<;>try exact jz)|refine cm (hxc) ?_|refine aq ?_|exact jI|(clear hK K)))
    refine X7 _ _ (eQ (i+1,(az n q (nth (c.node a).l i)).1,ts++[(az n q (nth (c.node a).l i)).2]) ⟨jJ,ev.trans (fk _ _ _),by simp[hts],hA⟩ jJ jR cH)
   have hA2:gD (az n) c (c.node a).l []=(q,ts):=by
    rw[<-hA];by_cases Vh:i<(c.node a).l.length
    ·rw[kV Vh,gD,if_neg fun e=>VL ⟨Vh,e⟩]
    ·rw[List.drop_eq_nil_of_le jB,gD]
   have XD:q=(gD (az n) c (c.node a).l []).1:=by rw[hA2]
   have hq2:ts=(gD (az n) c (c.node a).l []).2:=by rw[hA2]
   by_cases Vu:(c.node a).l.length≠(nth c.aa.aw (fL c a).toNat).params.length
   ·have Z0:(((c.node a).l.length:Int)=((nth c.aa.aw (fL c a).toNat).params.length:Int))=False:=eq_false jB;have XT:(q.aE 43 a).e≠0:=by unfold Ck.aE;split;(exact fun h=>by cases h);assumption
    have evx:Ev c (q.aE 43 a):=ev.trans (nL q jC a);have hb:((q.aE 43 a)).e=0->ts.length<=(nth c.aa.aw (fL c a).toNat).params.length:=fun h=>(XT h).elim
    (have W:=Z0;repeat' (first|refine av fun K hK=>?_|refine au ?_|(refine hK _ _ ?_;clear hK K)|(refine ar ?_ ?_<;>intro hc<;>try exact jz)|(refine YD _ _ ?_)|refine cm (sJ q 43 a) ?_|refine aq ?_|exact jI|(clear hK K)))
    have Z1:=hK;clear hK;refine eN (S:=Nat×Ck) [(12,1),(97,27)] (fun s=>s.1<=ts.length/\Ev (q.aE 43 a) s.2/\iG a s.2 (ts.drop s.1) ((nth c.aa.aw (fL c a).toNat).params.drop s.1)=iG a (q.aE 43 a) ts (nth c.aa.aw (fL c a).toNat).params) (fun s=>[(12,rI s.1)]) (fun s=>⟨[0,1,2,3,4,5],fJ s.2++[(6,.var 66 (eH (c.node a))),(7,.var 98 (fZ (nth c.aa.aw (fL c a).toNat))),(8,.aG 3 1 (ts.map eI))]⟩) (fun s=>ts.length-s.1) (0,(q.aE 43 a)) ⟨jJ,.refl _,rfl⟩ (eR jR cH) ?_;rintro⟨m,z⟩ ⟨W8,Wv,VQ⟩ Kr3 haz;simp only at W8 Wv VQ
    (refine S ?_;try exact jI)
    by_cases VL:m<ts.length/\z.e=0
    ·obtain⟨Vh,V9⟩:=VL;have Xm:((q.aE 43 a)).e=0:=Classical.byContradiction fun h=>Wv.err h V9
     exact(XT Xm).elim
    ·have hz:z=iG a (q.aE 43 a) ts (nth c.aa.aw (fL c a).toNat).params:=by
      by_cases Vh:m<ts.length
      ·have V9:z.e≠0:=fun e=>VL ⟨Vh,e⟩
       rw[kV Vh]at VQ;cases hp:(nth c.aa.aw (fL c a).toNat).params.drop m with
       |nil=>rw[hp,tY]at VQ;exact VQ
       |cons x y=>rw[hp,iG,if_neg V9]at VQ;exact VQ
      ·rw[List.drop_eq_nil_of_le jB,uv]at VQ;exact VQ
     (repeat' (first|refine av fun K hK=>?_|refine au ?_|(refine hK _ _ ?_;clear hK K)|(refine ar ?_ ?_<;>intro hc<;>try exact jz)|(refine Z1 _ _ ?_)|refine aq ?_|exact jI|(clear hK K)))
     all_goals first|(exact absurd ⟨jB,by assumption⟩ VL)|skip
     have e1:iX (az n) c a=(z,(nth c.aa.aw (fL c a).toNat).ret):=by rw[e0,if_pos Vu,<-XD,<-hq2,hz]
     all_goals(
      rw[e1]
      (refine ba [.tmp 4] ?_;try simp only[go_sem]))
   ·have Z0:((c.node a).l.length:Int)=((nth c.aa.aw (fL c a).toNat).params.length:Int):=jB;have XT:True:=trivial;have evx:Ev c q:=ev;have hb:(q).e=0->ts.length<=(nth c.aa.aw (fL c a).toNat).params.length:=fun _=>jB
    (have W:=Z0;repeat' (first|refine av fun K hK=>?_|refine au ?_|(refine hK _ _ ?_;clear hK K)|(refine ar ?_ ?_<;>intro hc<;>try exact jz)|(refine YD _ _ ?_)|refine aq ?_|exact jI|(clear hK K)))
    have Z1:=hK;clear hK;refine eN (S:=Nat×Ck) [(12,1),(97,27)] (fun s=>s.1<=ts.length/\Ev q s.2/\iG a s.2 (ts.drop s.1) ((nth c.aa.aw (fL c a).toNat).params.drop s.1)=iG a q ts (nth c.aa.aw (fL c a).toNat).params) (fun s=>[(12,rI s.1)]) (fun s=>⟨[0,1,2,3,4,5],fJ s.2++[(6,.var 66 (eH (c.node a))),(7,.var 98 (fZ (nth c.aa.aw (fL c a).toNat))),(8,.aG 3 1 (ts.map eI))]⟩) (fun s=>ts.length-s.1) (0,q) ⟨jJ,.refl _,rfl⟩ (eR jR cH) ?_;rintro⟨m,z⟩ ⟨W8,Wv,VQ⟩ Kr3 haz;simp only at W8 Wv VQ
    (refine S ?_;try exact jI)
    by_cases VL:m<ts.length/\z.e=0
    ·obtain⟨Vh,V9⟩:=VL;have Xm:(q).e=0:=Classical.byContradiction fun h=>Wv.err h V9
     have hmp:m<(nth c.aa.aw (fL c a).toNat).params.length:=by have:=hb Xm;omega
     rw[kV Vh,kV hmp,iG,if_pos V9]at VQ
     (have W:=V9;repeat' (first|refine av fun K hK=>?_|refine au ?_|(with_reducible refine gR 23 ?_);refine dE 23 (bf 0 14) mixed ?_|(refine hK _ _ ?_;clear hK K)|(refine ar ?_ ?_<;>intro hc<;>try exact jz)|refine cm (oU z (decide (nth ts m=(nth (nth c.aa.aw (fL c a).toNat).params m).ty)) a) ?_|refine aq ?_|exact jI|(clear hK K)))
     refine haz _ _ (eQ (m+1,z.ap (decide (nth ts m=(nth (nth c.aa.aw (fL c a).toNat).params m).ty)) a) ⟨jJ,Wv.trans (kN _ _ _),VQ⟩ jJ jR cH)
    ·have hz:z=iG a q ts (nth c.aa.aw (fL c a).toNat).params:=by
      by_cases Vh:m<ts.length
      ·have V9:z.e≠0:=fun e=>VL ⟨Vh,e⟩
       rw[kV Vh]at VQ;cases hp:(nth c.aa.aw (fL c a).toNat).params.drop m with
       |nil=>rw[hp,tY]at VQ;exact VQ
       |cons x y=>rw[hp,iG,if_neg V9]at VQ;exact VQ
      ·rw[List.drop_eq_nil_of_le jB,uv]at VQ;exact VQ
     (repeat' (first|refine av fun K hK=>?_|refine au ?_|(refine hK _ _ ?_;clear hK K)|(refine ar ?_ ?_<;>intro hc<;>try exact jz)|(refine Z1 _ _ ?_)|refine aq ?_|exact jI|(clear hK K)))
     all_goals first|(exact absurd ⟨jB,by assumption⟩ VL)|skip
     have e1:iX (az n) c a=(z,(nth c.aa.aw (fL c a).toNat).ret):=by rw[e0,if_neg Vu,<-XD,<-hq2,hz]
     all_goals(
      rw[e1]
      (refine ba [.tmp 4] ?_;try simp only[go_sem]))
structure Sv(c c':Ck):Prop where
 aa:c'.aa=c.aa
 fn:c'.fn=c.fn
 aO:c'.aO=c.aO
 err:c.e≠0->c'.e≠0
 inv:bG c'
 pre:∃u,c'.vars=c.vars++u
def Sv.refl{c:Ck}(h:bG c):Sv c c:=⟨rfl,rfl,rfl,id,h,[],jE⟩
def Sv.iB{c c':Ck}(h:bG c)(s:Ev c c'):Sv c c':=⟨s.aa,s.fn,s.aO,s.err,h.ev s,[],by rw[s.vars];simp⟩
theorem Sv.trans{a b c:Ck}(h:Sv a b)(k:Sv b c):Sv a c:=⟨k.aa.trans h.aa,k.fn.trans h.fn,k.aO.trans h.aO,fun e=>k.err (h.err e),k.inv,by obtain⟨u,hu⟩:=h.pre;obtain⟨v,hv⟩:=k.pre;exact⟨u++v,by rw[hv,hu,List.append_assoc]⟩⟩
def iN(ex:Ck->Int->Ck×Int)(c:Ck)(a:Int):Ck:=(ex c (c.aF a 0)).1.ap (!decide ((ex c (c.aF a 0)).2=0)) a
def jO(ex:Ck->Int->Ck×Int)(c:Ck)(a:Int):Ck:=if 0<=(iN ex c a).find (c.node a).name then(iN ex c a).aE 41 a else iN ex c a
def eJ(ex:Ck->Int->Ck×Int)(c:Ck)(a:Int):Ck:=if 24<=(jO ex c a).size then(jO ex c a).aE 4 a else jO ex c a
def CR(c:Ck)(a:Int)(v:bE):Ck:={ (c.slot a c.size)with vars:=c.vars++[v],more:=c.more.drop 1,size:=c.size+1 }
def ub(ex:Ck->Int->Ck×Int)(c:Ck)(a:Int):o3 ex c a=CR (eJ ex c a) a ⟨(c.node a).name,(ex c (c.aF a 0)).2,(eJ ex c a).size⟩:=rfl
def A7(hex:∀c a,Ev c (ex c a).1)(c:Ck)(a:Int):Ev c (iN ex c a):=(hex c _).trans (kN _ _ _)
def BA(hex:∀c a,Ev c (ex c a).1)(c:Ck)(a:Int):Ev c (jO ex c a):=by
 unfold jO;split
 ·exact(A7 hex c a).trans (nL _ jC a)
 ·exact A7 hex c a
def zN(hex:∀c a,Ev c (ex c a).1)(c:Ck)(a:Int):Ev c (eJ ex c a):=by
 unfold eJ;split
 ·exact(BA hex c a).trans (nL _ jC a)
 ·exact BA hex c a
def KA{c:Ck}(h:(eJ ex c a).e=0):(eJ ex c a).size<24:=by
 unfold eJ at h ⊢;split
 ·rename_i hs;rw[if_pos hs]at h;exfalso;unfold Ck.aE at h;split at h
  ·cases h
  ·contradiction
 ·omega
def Td{c:Ck}(h:bG c)(a:Int)(v:bE)(h24:c.size<=24)(hr:c.e=0->c.size<24):Sv c (CR c a v):=by refine⟨rfl,rfl,rfl,id,⟨h.aa,h.types,by show(c.slots.set _ _).length=_;rw[List.length_set];exact h.slots,h.aw,h.aO,h.wo,h.vP,?_,by show c.size+1<=25;omega,fun e=>by show c.size+1<=24;have:=hr e;omega⟩,[v],rfl⟩;show((c.vars++[v]).length:Int)<=c.size+1;have:=h.vars;simp;omega
def SF(hex:∀c a,Ev c (ex c a).1){c:Ck}(h:bG c)(he:c.e=0)(a:Int):Sv c (o3 ex c a):=by rw[ub];have s:=zN hex c a;refine(Sv.iB h s).trans (Td (h.ev s) a _ ?_ KA);rw[s.size];exact h.room he
def ND(hex:∀c a,Ev c (ex c a).1){c:Ck}(h:bG c)(a:Int):Sv c (kH ex c a):=by
 refine Sv.iB h ?_;unfold kH;simp only;split
 ·exact nL c jC a
 split
 ·exact(hex c _).trans (kN _ _ _)
 ·exact .refl c
theorem qO{st:Ck->Int->Ck}(P':∀c a,bG c->c.e=0->Sv c (st c a)):∀(l:UG) (c:Ck),bG c->Sv c (dP st c l)
 |[],c,h=>by unfold dP;exact .refl h
 |a::l,c,h=>by
  unfold dP;split
  ·rename_i he;have s:=P' c a h he;exact s.trans (qO P' l _ s.inv)
  ·exact .refl h
def qd{st:Ck->Int->Ck}(P':∀c a,bG c->c.e=0->Sv c (st c a)){c:Ck}(h:bG c)(a:Int):Sv c (fl st c a)/\(fl st c a).vars=c.vars:=by
 have s:=(Sv.iB h (rA c a)).trans (qO P' (c.node a).l _ (h.ev (rA c a)));obtain⟨u,hu⟩:=s.pre;have hv:(dP st (c.ai a) (c.node a).l).vars.take (min c.vars.length (dP st (c.ai a) (c.node a).l).vars.length)=c.vars:=by rw[hu,Nat.min_eq_left jE,List.take_left'];rfl
 have hi:=s.inv;refine⟨⟨s.aa,s.fn,s.aO,s.err,⟨hi.aa,hi.types,hi.slots,hi.aw,hi.aO,hi.wo,hi.vP,?_,hi.size,hi.room⟩,[],by rw[List.append_nil];exact hv⟩,hv⟩;have:=hi.vars;show(((dP st (c.ai a) (c.node a).l).vars.take _).length:Int)<=_;rw[List.length_take];show _<=(dP st (c.ai a) (c.node a).l).size;omega
theorem oS:∀(n:Nat) (c:Ck) (a:Int),bG c->c.e=0->Sv c (bT n c a)
 |0,c,a,h,he=>by unfold bT;exact .refl h
 |n+1,c,a,h,he=>by
  have e0:=rA c a;have h0:=h.ev e0;have s0:=Sv.iB h e0;have hx:=fk n;unfold bT;simp only;repeat' split
  ·exact s0.trans (SF hx h0 he a)
  ·exact s0.trans (Sv.iB h0 (((nS _ a).trans (hx _ _)).trans (kN _ _ _)))
  ·exact s0.trans (Sv.iB h0 ((((nS _ a).trans (hx _ _)).trans (hx _ _)).trans (kN _ _ _)))
  ·exact s0.trans (Sv.iB h0 (hx _ _))
  ·exact s0.trans (Sv.iB h0 ((hx _ _).trans (kN _ _ _)))
  ·exact s0.trans (ND hx h0 a)
  ·have s1:=s0.trans (Sv.iB h0 ((hx (c.ai a) ((c.ai a).aF a 0)).trans (kN _ (decide ((az n (c.ai a) ((c.ai a).aF a 0)).2=2)) a)));exact s1.trans (qO (fun q b hq _=>(qd (oS n) hq b).1) _ _ s1.inv)
def De(n:Nat):Prop:=∀(c:Ck) (a:Int),bG c->c.e=0->0<=a->a<c.aa.nodes.length->a.toNat<n->fC (c.node a).kind->ab prog 105 [pR,rI a] (fJ c) (fun v l=>v=.aQ []/\l=fJ (bT n c a))
def Gt(n:Nat):Prop:=∀(c:Ck) (a:Int),bG c->0<=a->a<c.aa.nodes.length->a.toNat<=n->(c.node a).kind=18->ab prog 75 [pR,rI a] (fJ c) (fun v l=>v=.aQ []/\l=fJ (fl (bT n) c a))
attribute [go_sem] CR List.length_drop
def Ty(n:Nat)(hx:uL n)(c:Ck)(a:Int)(h:bG c)(he:c.e=0)(h0:0<=a)(h1:a<c.aa.nodes.length)(hn:a.toNat<=n)(hk:(c.node a).kind=10):ab prog 118 [pR,rI a] (fJ c) (fun v l=>v=.aQ []/\l=fJ (o3 (az n) c a)):=by
 obtain⟨sh,V8⟩:=vN h h0 h1;obtain⟨x,hl,U4⟩:=sh.right jB;have VY:(nth c.aa.nodes a.toNat).l.length=1:=by
  have:(c.node a).l.length=1:=by rw[hl];rfl
  exact this
 have XE:c.aF a 0=x:=by unfold Ck.aF;rw[hl];rfl
 have hm:=V8 x (by rw[hl];simp);have hex:=hx c (c.aF a 0) h jB jB jB (by rw[XE];exact U4);have Vr:ab prog 121 _ _ (fun v l=>v=.aQ []/\l=fJ (iN (az n) c a)):=oU (az n c (c.aF a 0)).1 (!decide ((az n c (c.aF a 0)).2=0)) a;have eA:=A7 (fk n) c a;have eB:=BA (fk n) c a;have eC:=zN (fk n) c a;have hA:=h.ev eA;have hC:=h.ev eC;have VD:=CW (iN (az n) c a) (c.node a).name hA;have YC:=sJ (iN (az n) c a) 41 a;have Y8:=sJ (jO (az n) c a) 4 a;have VH:=hC.slots;have hcz:=hC.size;have Yf:=hC.vars;have XG:=eC.size;have hc24:=h.room he;rw[eC.aa]at VH;rw[ub];refine aM func118 ntmps118 ?_
 (refine S ?_;try exact jI)
 by_cases c1:0<=(iN (az n) c a).find (c.node a).name
 ·have e1:jO (az n) c a=(iN (az n) c a).aE 41 a:=if_pos c1;rw[<-e1]at YC;by_cases c2:24<=(jO (az n) c a).size
  ·have e2:eJ (az n) c a=(jO (az n) c a).aE 4 a:=if_pos c2;rw[<-e2]at Y8
   (repeat' (first|refine av fun K hK=>?_|refine au ?_|(with_reducible refine gR 7 ?_);refine dE 7 (bf 0 12) mixed ?_|(with_reducible refine gR 8 ?_);refine dE 8 (bf 0 18) mixed ?_|(refine hK _ _ ?_;clear hK K)|(refine ar ?_ ?_<;>intro hc<;>try exact jz)|refine cm (hex) ?_|refine cm (Vr) ?_|refine cm (VD) ?_|refine cm (YC) ?_|refine cm (Y8) ?_|refine rp (eJ (az n) c a).vars (eJ (az n) c a).more [⟨(c.node a).name,(az n c (c.aF a 0)).2,(eJ (az n) c a).size⟩] ?_|refine aq ?_|exact jI|(clear hK K)))
   (refine ba [] ?_;try simp only[go_sem])
  ·have e2:eJ (az n) c a=jO (az n) c a:=if_neg c2;rw[e2]at VH hcz Yf XG;rw[e2]
   (repeat' (first|refine av fun K hK=>?_|refine au ?_|(with_reducible refine gR 7 ?_);refine dE 7 (bf 0 12) mixed ?_|(with_reducible refine gR 8 ?_);refine dE 8 (bf 0 18) mixed ?_|(refine hK _ _ ?_;clear hK K)|(refine ar ?_ ?_<;>intro hc<;>try exact jz)|refine cm (hex) ?_|refine cm (Vr) ?_|refine cm (VD) ?_|refine cm (YC) ?_|refine rp (jO (az n) c a).vars (jO (az n) c a).more [⟨(c.node a).name,(az n c (c.aF a 0)).2,(jO (az n) c a).size⟩] ?_|refine aq ?_|exact jI|(clear hK K)))
   (refine ba [] ?_;try simp only[go_sem])
 ·have e1:jO (az n) c a=iN (az n) c a:=if_neg c1;rw[e1]at Y8;by_cases c2:24<=(iN (az n) c a).size
  ·have e2:eJ (az n) c a=(iN (az n) c a).aE 4 a:=by unfold eJ;rw[e1];exact if_pos c2
   rw[<-e2]at Y8
   (repeat' (first|refine av fun K hK=>?_|refine au ?_|(with_reducible refine gR 7 ?_);refine dE 7 (bf 0 12) mixed ?_|(with_reducible refine gR 8 ?_);refine dE 8 (bf 0 18) mixed ?_|(refine hK _ _ ?_;clear hK K)|(refine ar ?_ ?_<;>intro hc<;>try exact jz)|refine cm (hex) ?_|refine cm (Vr) ?_|refine cm (VD) ?_|refine cm (Y8) ?_|refine rp (eJ (az n) c a).vars (eJ (az n) c a).more [⟨(c.node a).name,(az n c (c.aF a 0)).2,(eJ (az n) c a).size⟩] ?_|refine aq ?_|exact jI|(clear hK K)))
   (refine ba [] ?_;try simp only[go_sem])
  ·have e2:eJ (az n) c a=iN (az n) c a:=by unfold eJ;rw[e1];exact if_neg c2
   rw[e2]at VH hcz Yf XG;rw[e2]
   (repeat' (first|refine av fun K hK=>?_|refine au ?_|(with_reducible refine gR 7 ?_);refine dE 7 (bf 0 12) mixed ?_|(with_reducible refine gR 8 ?_);refine dE 8 (bf 0 18) mixed ?_|(refine hK _ _ ?_;clear hK K)|(refine ar ?_ ?_<;>intro hc<;>try exact jz)|refine cm (hex) ?_|refine cm (Vr) ?_|refine cm (VD) ?_|refine rp (iN (az n) c a).vars (iN (az n) c a).more [⟨(c.node a).name,(az n c (c.aF a 0)).2,(iN (az n) c a).size⟩] ?_|refine aq ?_|exact jI|(clear hK K)))
   (refine ba [] ?_;try simp only[go_sem])
def GN(n:Nat)(hs:De n):Gt n:=by
 intro c a h h0 h1 hn hk;obtain⟨sh,V8⟩:=vN h h0 h1;have I':(nth c.aa.nodes a.toNat).l.length<=300:=yR h h0 h1;have e0:=rA c a;have hq0:=h.ev e0;have VN:=h.aw;have hvz:=h.vars;have Uu:=h.size;refine aM func75 ntmps75 ?_;refine S ?_
 (repeat' (first|refine av fun K hK=>?_|refine au ?_|(with_reducible refine gR 0 ?_);refine dE 0 (bf 0 12) mixed ?_|(refine hK _ _ ?_;clear hK K)|(refine ar ?_ ?_<;>intro hc<;>try exact jz)|refine aq ?_|exact jI|(clear hK K)))
 have Ux:=hK;clear hK;refine eN (S:=Nat×Ck) [(6,1),(33,19)] (fun s=>s.1<=(c.node a).l.length/\Sv (c.ai a) s.2/\dP (bT n) s.2 ((c.node a).l.drop s.1)=dP (bT n) (c.ai a) (c.node a).l) (fun s=>[(6,rI s.1)]) (fun s=>⟨[0,1,2,3,4,5],fJ s.2⟩) (fun s=>(c.node a).l.length-s.1) (0,c.ai a) ⟨jJ,.refl hq0,rfl⟩ (eR jR cH) ?_;rintro⟨i,q⟩ ⟨hi,hq,hA⟩ Kr Ut;simp only at hi hq hA
 (refine S ?_;try exact jI)
 have lt1:=hq.inv.types;have lt3:=hq.inv.aw;have lt4:=hq.inv.vars;have lt5:=hq.inv.size;by_cases VL:i<(c.node a).l.length/\q.e=0
 ·obtain⟨Vh,V9⟩:=VL;have haA:i<(nth c.aa.nodes a.toNat).l.length:=Vh;rw[kV Vh,dP,if_pos V9]at hA;have hm:nth (c.node a).l i∈(c.node a).l:=ff Vh;have hb:=V8 _ hm;have P':=hs q (nth (c.node a).l i) hq.inv V9 hb.1 (by rw[hq.aa];show _<(c.aa.nodes.length:Int);omega) jB (by
   have:q.node (nth (c.node a).l i)=c.node (nth (c.node a).l i):=by unfold Ck.node;rw[hq.aa];rfl
   rw[this];exact sh.block hk _ hm)
  (have W:=V9;repeat' (first|refine av fun K hK=>?_|refine au ?_|(refine hK _ _ ?_;clear hK K)|(refine ar ?_ ?_<;>intro hc<;>try exact jz)|refine cm (P') ?_|refine aq ?_|exact jI|(clear hK K)))
  refine Ut _ _ (eQ (i+1,bT n q (nth (c.node a).l i)) ⟨jJ,hq.trans (oS n q _ hq.inv V9),hA⟩ jJ jR cH)
 ·have hz:q=dP (bT n) (c.ai a) (c.node a).l:=by
   by_cases Vh:i<(c.node a).l.length
   ·rw[kV Vh,dP,if_neg fun e=>VL ⟨Vh,e⟩]at hA;exact hA
   ·rw[List.drop_eq_nil_of_le jB,dP]at hA;exact hA
  have e1:fl (bT n) c a={ q with vars:=q.vars.take (min c.vars.length q.vars.length),more:=q.vars.drop (min c.vars.length q.vars.length)++q.more }:=by unfold fl;rw[<-hz]
  obtain⟨u,hu⟩:=hq.pre;have hu:q.vars=c.vars++u:=hu;have YA:min c.vars.length q.vars.length=c.vars.length:=by rw[hu];simp
  have YE:¬(i<(nth c.aa.nodes a.toNat).l.length/\q.e=0):=VL
  (repeat' (first|refine av fun K hK=>?_|refine au ?_|(with_reducible refine gR 7 ?_);refine dE 7 (bf 0 16) mixed ?_|(refine hK _ _ ?_;clear hK K)|(refine ar ?_ ?_<;>intro hc<;>try exact jz)|refine Ux _ _ ?_|refine aq ?_|exact jI|(clear hK K)))
  all_goals first|(exact absurd ⟨by have:=hc.1;omega,hc.2⟩ YE)|skip
  have ht:q.vars.take c.vars.length=c.vars:=by rw[hu,List.take_left' rfl]
  have hd:q.vars.drop c.vars.length=u:=by rw[hu,List.drop_left' rfl]
  rw[e1,YA,ht,hd]
  (refine bW [] ?_ ?_<;>(try simp only[go_sem]))
  simp only[hu,List.map_append,List.append_assoc,List.length_append,Nat.add_assoc];rw[jN,Int.toNat_natCast]
def KM(n:Nat)(hx:uL n)(c:Ck)(a:Int)(h:bG c)(h0:0<=a)(h1:a<c.aa.nodes.length)(hn:a.toNat<=n)(hk:(c.node a).kind=17):ab prog 122 [pR,rI a] (fJ c) (fun v l=>v=.aQ []/\l=fJ (kH (az n) c a)):=by
 obtain⟨sh,V8⟩:=vN h h0 h1;have VO:=h.wo;have hfh:=h.vP;have I':(nth c.aa.nodes a.toNat).l.length<=300:=yR h h0 h1;have haB:=sJ c 43 a;have YF:decide (((c.node a).l.length:Int)=1)=decide ((c.node a).l.length=1):=by rw[decide_eq_decide];omega
 by_cases b:decide ((c.node a).l.length=1)≠(!decide ((nth c.aa.aw c.fn.toNat).ret=0))
 ·have e1:kH (az n) c a=c.aE 43 a:=if_pos b;have hb:(decide (((nth c.aa.nodes a.toNat).l.length:Int)=1) == !decide ((nth c.aa.aw c.fn.toNat).ret=0))=false:=by
   rw[show((nth c.aa.nodes a.toNat).l.length)=(c.node a).l.length from rfl,YF];simpa using b
  rw[e1];refine aM func122 ntmps122 ?_;refine S ?_
  (have W:=hb;repeat' (first|refine av fun K hK=>?_|refine au ?_|(with_reducible refine gR 1 ?_);refine dE 1 (bf 0 14) mixed ?_|(refine hK _ _ ?_;clear hK K)|(refine ar ?_ ?_<;>intro hc<;>try exact jz)|refine cm (haB) ?_|refine aq ?_|exact jI|(clear hK K)))
  (refine ba [] ?_;try simp only[go_sem])
 ·have hb:(decide (((nth c.aa.nodes a.toNat).l.length:Int)=1) == !decide ((nth c.aa.aw c.fn.toNat).ret=0))=true:=by
   rw[show((nth c.aa.nodes a.toNat).l.length)=(c.node a).l.length from rfl,YF];rw[Classical.not_not.1 b];exact beq_self_eq_true _
  by_cases hl:(c.node a).l.length=1
  ·have VY:(nth c.aa.nodes a.toNat).l.length=1:=hl;have e1:kH (az n) c a=(az n c (c.aF a 0)).1.ap (decide ((az n c (c.aF a 0)).2=(nth c.aa.aw c.fn.toNat).ret)) a:=by unfold kH;simp only;rw[if_neg b,if_pos hl]
   rcases sh.ret hk with h2|⟨x,h2,h3⟩
   ·rw[h2]at hl;cases hl
   have XE:c.aF a 0=x:=by unfold Ck.aF;rw[h2];rfl
   have hm:=V8 x (by rw[h2];simp);have hex:=hx c (c.aF a 0) h jB jB jB (by rw[XE];exact .inl h3);have Vr:=oU (az n c (c.aF a 0)).1 (decide ((az n c (c.aF a 0)).2=(nth c.aa.aw c.fn.toNat).ret)) a;rw[e1];refine aM func122 ntmps122 ?_;refine S ?_
   (have W:=hb;repeat' (first|refine av fun K hK=>?_|refine au ?_|(with_reducible refine gR 1 ?_);refine dE 1 (bf 0 14) mixed ?_|(refine hK _ _ ?_;clear hK K)|(refine ar ?_ ?_<;>intro hc<;>try exact jz)|refine cm (hex) ?_|refine cm (Vr) ?_|refine aq ?_|exact jI|(clear hK K)))
   (refine ba [] ?_;try simp only[go_sem])
  ·have VY:¬(nth c.aa.nodes a.toNat).l.length=1:=hl;have e1:kH (az n) c a=c:=by unfold kH;simp only;rw[if_neg b,if_neg hl]
   rw[e1];refine aM func122 ntmps122 ?_;refine S ?_
   (have W:=hb;repeat' (first|refine av fun K hK=>?_|refine au ?_|(with_reducible refine gR 1 ?_);refine dE 1 (bf 0 14) mixed ?_|(refine hK _ _ ?_;clear hK K)|(refine ar ?_ ?_<;>intro hc<;>try exact jz)|refine aq ?_|exact jI|(clear hK K)))
   (refine ba [] ?_;try simp only[go_sem])
def K7(n:Nat):Prop:=∀(c:Ck) (a:Int),bG c->c.e=0->0<=a->a<c.aa.nodes.length->a.toNat<=n->(c.node a).kind=10->ab prog 118 [pR,rI a] (fJ c) (fun v l=>v=.aQ []/\l=fJ (o3 (az n) c a))
def NF(n:Nat):Prop:=∀(c:Ck) (a:Int),bG c->0<=a->a<c.aa.nodes.length->a.toNat<=n->(c.node a).kind=17->ab prog 122 [pR,rI a] (fJ c) (fun v l=>v=.aQ []/\l=fJ (kH (az n) c a))
def RE(n:Nat)(hx:uL n)(hl:K7 n)(hr:NF n)(hbl:Gt n):De (n+1):=by
 intro c a h he h0 h1 hn hk;have ev:=rA c a;have hq:=h.ev ev;obtain⟨sh,V8⟩:=vN h h0 h1;have I':(nth c.aa.nodes a.toNat).l.length<=300:=yR h h0 h1;have VN:=h.aw;have hvz:=h.vars;have Uu:=h.size;have Vl:∀i,i<(c.node a).l.length->(c.aF a i).toNat<n/\0<=c.aF a i/\c.aF a i<c.aa.nodes.length:=fun i hi=>by have hm:c.aF a i∈(c.node a).l:=ff hi;have:=V8 _ hm;omega
 have en:=nS (c.ai a) a;have hqn:=hq.ev en;have US:=DC (c.ai a) a hq h0 h1;have e17:(c.node a).kind=10\/(c.node a).kind=11\/(c.node a).kind=12\/(c.node a).kind=13\/(c.node a).kind=14\/(c.node a).kind=17\/((c.node a).kind=15\/(c.node a).kind=16):=by unfold fC at hk;omega
 rcases e17 with k|k|k|k|k|k|k
 ·have UY:(nth c.aa.nodes a.toNat).kind=10:=k;have k0:((c.ai a).node a).kind=10:=k;have hlc:=hl (c.ai a) a hq he h0 h1 jB k0;rw[show bT (n+1) c a=o3 (az n) (c.ai a) a from by unfold bT;simp only;rw[k0];rfl];refine aM func105 ntmps105 ?_;refine S ?_
  (have W:=UY;repeat' (first|refine av fun K hK=>?_|refine au ?_|(with_reducible refine gR 1 ?_);refine dE 1 (bf 0 12) mixed ?_|(refine hK _ _ ?_;clear hK K)|(refine ar ?_ ?_<;>intro hc<;>try exact jz)|refine cm (hlc) ?_|refine aq ?_|exact jI|(clear hK K)))
  (refine ba [] ?_;try simp only[go_sem])
 ·have UY:(nth c.aa.nodes a.toNat).kind=11:=k;have k0:((c.ai a).node a).kind=11:=k;obtain⟨x,Wj,VI⟩:=sh.right jB;have V0:(c.node a).l.length=1:=by rw[Wj];rfl
  have VY:(nth c.aa.nodes a.toNat).l.length=1:=V0;obtain⟨g0a,g0b,g0c⟩:=Vl 0 jB;have UW:c.aF a 0=x:=by unfold Ck.aF;rw[Wj];rfl
  have hex:=hx ((c.ai a).named a).1 (c.aF a 0) hqn g0b (by rw[en.aa];exact g0c) g0a (by rw[en.node];show fv (c.node (c.aF a 0)).kind;rw[UW];exact VI);have Vr:=oU (az n ((c.ai a).named a).1 (c.aF a 0)).1 (decide (((c.ai a).named a).2=(az n ((c.ai a).named a).1 (c.aF a 0)).2)) a;rw[show bT (n+1) c a=(az n ((c.ai a).named a).1 (c.aF a 0)).1.ap (decide (((c.ai a).named a).2=(az n ((c.ai a).named a).1 (c.aF a 0)).2)) a from by unfold bT;simp only;rw[k0];rfl];refine aM func105 ntmps105 ?_;refine S ?_
  (have W:=UY;repeat' (first|refine av fun K hK=>?_|refine au ?_|(with_reducible refine gR 1 ?_);refine dE 1 (bf 0 12) mixed ?_|(refine hK _ _ ?_;clear hK K)|(refine ar ?_ ?_<;>intro hc<;>try exact jz)|refine cm (US) ?_|refine cm (hex) ?_|refine cm (Vr) ?_|refine aq ?_|exact jI|(clear hK K)))
  (refine ba [] ?_;try simp only[go_sem])
 ·have UY:(nth c.aa.nodes a.toNat).kind=12:=k;have k0:((c.ai a).node a).kind=12:=k;obtain⟨x,y,Wj,VI,WH⟩:=sh.two jB;have V0:(c.node a).l.length=2:=by rw[Wj];rfl
  have VY:(nth c.aa.nodes a.toNat).l.length=2:=V0;obtain⟨g0a,g0b,g0c⟩:=Vl 0 jB;have UW:c.aF a 0=x:=by unfold Ck.aF;rw[Wj];rfl
  obtain⟨g1a,g1b,g1c⟩:=Vl 1 jB;have U8:c.aF a 1=y:=by unfold Ck.aF;rw[Wj];rfl
  have ex1:=fk n ((c.ai a).named a).1 (c.aF a 0);have hex:=hx ((c.ai a).named a).1 (c.aF a 0) hqn g0b (by rw[en.aa];exact g0c) g0a (by rw[en.node];show fv (c.node (c.aF a 0)).kind;rw[UW];exact .inl VI);have hey:=hx (az n ((c.ai a).named a).1 (c.aF a 0)).1 (c.aF a 1) (hqn.ev ex1) g1b (by rw[ex1.aa,en.aa];exact g1c) g1a (by rw[ex1.node,en.node];show fv (c.node (c.aF a 1)).kind;rw[U8];exact .inl WH);have Vr:=oU (az n (az n ((c.ai a).named a).1 (c.aF a 0)).1 (c.aF a 1)).1 (decide (((c.ai a).named a).2=4) && decide ((az n ((c.ai a).named a).1 (c.aF a 0)).2=1) && decide ((az n (az n ((c.ai a).named a).1 (c.aF a 0)).1 (c.aF a 1)).2=1)) a;rw[show bT (n+1) c a=(az n (az n ((c.ai a).named a).1 (c.aF a 0)).1 (c.aF a 1)).1.ap (decide (((c.ai a).named a).2=4) && decide ((az n ((c.ai a).named a).1 (c.aF a 0)).2=1) && decide ((az n (az n ((c.ai a).named a).1 (c.aF a 0)).1 (c.aF a 1)).2=1)) a from by unfold bT;simp only;rw[k0];rfl];refine aM func105 ntmps105 ?_;refine S ?_
  (have W:=UY;repeat' (first|refine av fun K hK=>?_|refine au ?_|(with_reducible refine gR 1 ?_);refine dE 1 (bf 0 12) mixed ?_|(refine hK _ _ ?_;clear hK K)|(refine ar ?_ ?_<;>intro hc<;>try exact jz)|refine cm (US) ?_|refine cm (hex) ?_|refine cm (hey) ?_|refine cm (Vr) ?_|refine aq ?_|exact jI|(clear hK K)))
  (refine ba [] ?_;try simp only[go_sem])
 ·have UY:(nth c.aa.nodes a.toNat).kind=13:=k;have k0:((c.ai a).node a).kind=13:=k;obtain⟨x,Wj,VI⟩:=sh.tx jB;have V0:(c.node a).l.length=1:=by rw[Wj];rfl
  have VY:(nth c.aa.nodes a.toNat).l.length=1:=V0;obtain⟨g0a,g0b,g0c⟩:=Vl 0 jB;have UW:c.aF a 0=x:=by unfold Ck.aF;rw[Wj];rfl
  have hex:=hx (c.ai a) (c.aF a 0) hq g0b g0c g0a (by show fv (c.node (c.aF a 0)).kind;rw[UW];exact .inr (.inr (.inr VI)));rw[show bT (n+1) c a=(az n (c.ai a) (c.aF a 0)).1 from by unfold bT;simp only;rw[k0];rfl];refine aM func105 ntmps105 ?_;refine S ?_
  (have W:=UY;repeat' (first|refine av fun K hK=>?_|refine au ?_|(with_reducible refine gR 1 ?_);refine dE 1 (bf 0 12) mixed ?_|(refine hK _ _ ?_;clear hK K)|(refine ar ?_ ?_<;>intro hc<;>try exact jz)|refine cm (hex) ?_|refine aq ?_|exact jI|(clear hK K)))
  (refine ba [] ?_;try simp only[go_sem])
 ·have UY:(nth c.aa.nodes a.toNat).kind=14:=k;have k0:((c.ai a).node a).kind=14:=k;obtain⟨x,Wj,VI⟩:=sh.one jB;have V0:(c.node a).l.length=1:=by rw[Wj];rfl
  have VY:(nth c.aa.nodes a.toNat).l.length=1:=V0;obtain⟨g0a,g0b,g0c⟩:=Vl 0 jB;have UW:c.aF a 0=x:=by unfold Ck.aF;rw[Wj];rfl
  have hex:=hx (c.ai a) (c.aF a 0) hq g0b g0c g0a (by show fv (c.node (c.aF a 0)).kind;rw[UW];exact .inl VI);have Vr:=oU (az n (c.ai a) (c.aF a 0)).1 (!decide ((az n (c.ai a) (c.aF a 0)).2=4)) a;rw[show bT (n+1) c a=(az n (c.ai a) (c.aF a 0)).1.ap (!decide ((az n (c.ai a) (c.aF a 0)).2=4)) a from by unfold bT;simp only;rw[k0];rfl];refine aM func105 ntmps105 ?_;refine S ?_
  (have W:=UY;repeat' (first|refine av fun K hK=>?_|refine au ?_|(with_reducible refine gR 1 ?_);refine dE 1 (bf 0 12) mixed ?_|(refine hK _ _ ?_;clear hK K)|(refine ar ?_ ?_<;>intro hc<;>try exact jz)|refine cm (hex) ?_|refine cm (Vr) ?_|refine aq ?_|exact jI|(clear hK K)))
  (refine ba [] ?_;try simp only[go_sem])
 ·have UY:(nth c.aa.nodes a.toNat).kind=17:=k;have k0:((c.ai a).node a).kind=17:=k;have hrc:=hr (c.ai a) a hq h0 h1 jB k0;rw[show bT (n+1) c a=kH (az n) (c.ai a) a from by unfold bT;simp only;rw[k0];rfl];refine aM func105 ntmps105 ?_;refine S ?_
  (have W:=UY;repeat' (first|refine av fun K hK=>?_|refine au ?_|(with_reducible refine gR 1 ?_);refine dE 1 (bf 0 12) mixed ?_|(refine hK _ _ ?_;clear hK K)|(refine ar ?_ ?_<;>intro hc<;>try exact jz)|refine cm (hrc) ?_|refine aq ?_|exact jI|(clear hK K)))
  (refine ba [] ?_;try simp only[go_sem])
 ·have UX:1<=(c.node a).l.length/\cR (c.node (c.aF a 0)).kind/\∀i,i<(c.node a).l.length->1<=i->(c.node (nth (c.node a).l i)).kind=18:=by
   have fin:∀{x y:Int},(c.node a).l=[x,y]->cR (bX c.aa.nodes x)->bX c.aa.nodes y=18->1<=(c.node a).l.length/\cR (c.node (c.aF a 0)).kind/\∀i,i<(c.node a).l.length->1<=i->(c.node (nth (c.node a).l i)).kind=18:=fun{x y} e hx hy=>by
    refine⟨by rw[e];simp,by have:c.aF a 0=x:=(by unfold Ck.aF;rw[e];rfl);rw[this];exact hx,fun i hi h1=>?_⟩;rw[e]at hi ⊢;obtain rfl:i=1:=by simp at hi;omega
    exact hy
   rcases k with k|k
   ·obtain⟨x,y,U4,XS,Wj⟩:=sh.lE k;rcases Wj with Wj|⟨d,Wj,hd⟩
    ·exact fin Wj U4 XS
    ·refine⟨by rw[Wj];simp,by have:c.aF a 0=x:=(by unfold Ck.aF;rw[Wj];rfl);rw[this];exact U4,fun i hi h1=>?_⟩;rw[Wj]at hi ⊢;rcases(show i=1\/i=2 by simp at hi;omega)with rfl|rfl
     ·exact XS
     ·exact hd
   ·obtain⟨x,y,Wj,U4,XS⟩:=sh.eG k;exact fin Wj U4 XS
  obtain⟨V0,U4,Y9⟩:=UX;have VY:1<=(nth c.aa.nodes a.toNat).l.length:=V0;obtain⟨g0a,g0b,g0c⟩:=Vl 0 jB;have hex:=hx (c.ai a) (c.aF a 0) hq g0b g0c g0a (.inl U4);have eM:Ev c ((az n (c.ai a) (c.aF a 0)).1.ap (decide ((az n (c.ai a) (c.aF a 0)).2=2)) a):=(ev.trans (fk n _ _)).trans (kN _ _ _);have hM:=h.ev eM;have Vr:=oU (az n (c.ai a) (c.aF a 0)).1 (decide ((az n (c.ai a) (c.aF a 0)).2=2)) a;rcases k with k|k
  ·have UY:(nth c.aa.nodes a.toNat).kind=15:=k;have k0:((c.ai a).node a).kind=15:=k;rw[show bT (n+1) c a=dP (fl (bT n)) ((az n (c.ai a) (c.aF a 0)).1.ap (decide ((az n (c.ai a) (c.aF a 0)).2=2)) a) ((c.node a).l.drop 1) from by unfold bT;simp only;rw[k0];rfl];generalize hY:dP (fl (bT n)) ((az n (c.ai a) (c.aF a 0)).1.ap (decide ((az n (c.ai a) (c.aF a 0)).2=2)) a) ((c.node a).l.drop 1)=Y;refine aM func105 ntmps105 ?_;refine S ?_
   (have W:=UY;repeat' (first|refine av fun K hK=>?_|refine au ?_|(with_reducible refine gR 1 ?_);refine dE 1 (bf 0 12) mixed ?_|(refine hK _ _ ?_;clear hK K)|(refine ar ?_ ?_<;>intro hc<;>try exact jz)|refine cm (hex) ?_|refine cm (Vr) ?_|refine aq ?_|exact jI|(clear hK K)))
   refine eN (S:=Nat×Ck) [(12,1),(46,21)] (fun s=>s.1<=(c.node a).l.length/\1<=s.1/\bG s.2/\s.2.aa=c.aa/\dP (fl (bT n)) s.2 ((c.node a).l.drop s.1)=Y) (fun s=>[(12,rI s.1)]) (fun s=>⟨[0,1,2,3,4,5],fJ s.2++[(6,.var 66 (eH (c.node a)))]⟩) (fun s=>(c.node a).l.length-s.1) (1,(az n (c.ai a) (c.aF a 0)).1.ap (decide ((az n (c.ai a) (c.aF a 0)).2=2)) a) ⟨jJ,Nat.le_refl _,hM,eM.aa,hY⟩ (eR jR cH) ?_;rintro⟨i,z⟩ ⟨hi,Xc,hz,Za,hA⟩ Kr Ut;simp only at hi Xc hz Za hA;have Vi:i<=(nth c.aa.nodes a.toNat).l.length:=hi
   (refine S ?_;try exact jI)
   by_cases VL:i<(c.node a).l.length/\z.e=0
   ·obtain⟨Vh,V9⟩:=VL;have haA:i<(nth c.aa.nodes a.toNat).l.length:=Vh;rw[kV Vh,dP,if_pos V9]at hA;have hm:nth (c.node a).l i∈(c.node a).l:=ff Vh;have hb:=V8 _ hm;have hbc:=hbl z (nth (c.node a).l i) hz hb.1 (by rw[Za];omega) jB (by
     have:z.node (nth (c.node a).l i)=c.node (nth (c.node a).l i):=by unfold Ck.node;rw[Za]
     rw[this];exact Y9 i Vh Xc)
    have sz:=(qd (fun q b hq he=>oS n q b hq he) hz (nth (c.node a).l i)).1
    (have W:=V9;repeat' (first|refine av fun K hK=>?_|refine au ?_|(refine hK _ _ ?_;clear hK K)|(refine ar ?_ ?_<;>intro hc<;>try exact jz)|refine cm (hbc) ?_|refine aq ?_|exact jI|(clear hK K)))
    refine Ut _ _ (eQ (i+1,fl (bT n) z (nth (c.node a).l i)) ⟨jJ,jJ,sz.inv,sz.aa.trans Za,hA⟩ jJ jR cH)
   ·have ZK:z=Y:=by
     by_cases Vh:i<(c.node a).l.length
     ·rw[kV Vh,dP,if_neg fun e=>VL ⟨Vh,e⟩]at hA;exact hA
     ·rw[List.drop_eq_nil_of_le jB,dP]at hA;exact hA
    have YE:¬(i<(nth c.aa.nodes a.toNat).l.length/\z.e=0):=VL
    (repeat' (first|refine av fun K hK=>?_|refine au ?_|(refine hK _ _ ?_;clear hK K)|(refine ar ?_ ?_<;>intro hc<;>try exact jz)|refine aq ?_|exact jI|(clear hK K)))
    all_goals first|(exact absurd ⟨by have:=hc.1;omega,hc.2⟩ YE)|skip
    rw[<-ZK]
    (refine ba [] ?_;try simp only[go_sem])
  ·have UY:(nth c.aa.nodes a.toNat).kind=16:=k;have k0:((c.ai a).node a).kind=16:=k;rw[show bT (n+1) c a=dP (fl (bT n)) ((az n (c.ai a) (c.aF a 0)).1.ap (decide ((az n (c.ai a) (c.aF a 0)).2=2)) a) ((c.node a).l.drop 1) from by unfold bT;simp only;rw[k0];rfl];generalize hY:dP (fl (bT n)) ((az n (c.ai a) (c.aF a 0)).1.ap (decide ((az n (c.ai a) (c.aF a 0)).2=2)) a) ((c.node a).l.drop 1)=Y;refine aM func105 ntmps105 ?_;refine S ?_
   (have W:=UY;repeat' (first|refine av fun K hK=>?_|refine au ?_|(with_reducible refine gR 1 ?_);refine dE 1 (bf 0 12) mixed ?_|(refine hK _ _ ?_;clear hK K)|(refine ar ?_ ?_<;>intro hc<;>try exact jz)|refine cm (hex) ?_|refine cm (Vr) ?_|refine aq ?_|exact jI|(clear hK K)))
   refine eN (S:=Nat×Ck) [(12,1),(46,21)] (fun s=>s.1<=(c.node a).l.length/\1<=s.1/\bG s.2/\s.2.aa=c.aa/\dP (fl (bT n)) s.2 ((c.node a).l.drop s.1)=Y) (fun s=>[(12,rI s.1)]) (fun s=>⟨[0,1,2,3,4,5],fJ s.2++[(6,.var 66 (eH (c.node a)))]⟩) (fun s=>(c.node a).l.length-s.1) (1,(az n (c.ai a) (c.aF a 0)).1.ap (decide ((az n (c.ai a) (c.aF a 0)).2=2)) a) ⟨jJ,Nat.le_refl _,hM,eM.aa,hY⟩ (eR jR cH) ?_;rintro⟨i,z⟩ ⟨hi,Xc,hz,Za,hA⟩ Kr Ut;simp only at hi Xc hz Za hA;have Vi:i<=(nth c.aa.nodes a.toNat).l.length:=hi
   (refine S ?_;try exact jI)
   by_cases VL:i<(c.node a).l.length/\z.e=0
   ·obtain⟨Vh,V9⟩:=VL;have haA:i<(nth c.aa.nodes a.toNat).l.length:=Vh;rw[kV Vh,dP,if_pos V9]at hA;have hm:nth (c.node a).l i∈(c.node a).l:=ff Vh;have hb:=V8 _ hm;have hbc:=hbl z (nth (c.node a).l i) hz hb.1 (by rw[Za];omega) jB (by
     have:z.node (nth (c.node a).l i)=c.node (nth (c.node a).l i):=by unfold Ck.node;rw[Za]
     rw[this];exact Y9 i Vh Xc)
    have sz:=(qd (fun q b hq he=>oS n q b hq he) hz (nth (c.node a).l i)).1
    (have W:=V9;repeat' (first|refine av fun K hK=>?_|refine au ?_|(refine hK _ _ ?_;clear hK K)|(refine ar ?_ ?_<;>intro hc<;>try exact jz)|refine cm (hbc) ?_|refine aq ?_|exact jI|(clear hK K)))
    refine Ut _ _ (eQ (i+1,fl (bT n) z (nth (c.node a).l i)) ⟨jJ,jJ,sz.inv,sz.aa.trans Za,hA⟩ jJ jR cH)
   ·have ZK:z=Y:=by
     by_cases Vh:i<(c.node a).l.length
     ·rw[kV Vh,dP,if_neg fun e=>VL ⟨Vh,e⟩]at hA;exact hA
     ·rw[List.drop_eq_nil_of_le jB,dP]at hA;exact hA
    have YE:¬(i<(nth c.aa.nodes a.toNat).l.length/\z.e=0):=VL
    (repeat' (first|refine av fun K hK=>?_|refine au ?_|(refine hK _ _ ?_;clear hK K)|(refine ar ?_ ?_<;>intro hc<;>try exact jz)|refine aq ?_|exact jI|(clear hK K)))
    all_goals first|(exact absurd ⟨by have:=hc.1;omega,hc.2⟩ YE)|skip
    rw[<-ZK]
    (refine ba [] ?_;try simp only[go_sem])
theorem wU:∀n,uL n
 |0=>fun c a h h0 h1 hn=>by omega
 |n+1=>ON n (PX n (wU n) (Rc n (wU n)))
theorem H8:∀n,De n
 |0=>fun c a h he h0 h1 hn=>by omega
 |n+1=>RE n (wU n) (fun c a h he h0 h1 hn hk=>Ty n (wU n) c a h he h0 h1 hn hk) (fun c a h h0 h1 hn hk=>KM n (wU n) c a h h0 h1 hn hk) (GN n (H8 n))
def zk(c:Ck):UE:=[aP eH 5 c.aa.nodes,aP fZ 5 c.aa.aw,.rs 1 c.types.length 1 c.types.length,.rs 2 c.slots.length 1 c.slots.length,.rs 3 c.aw.length 1 c.aw.length,.rs 4 c.aO.length 1 c.aO.length,rI c.fn,.any,rI c.size,rI c.e,rI c.at_]
def nO(c:Ck):UD:=[(0,.var 103 (zk c)),(1,.aG 3 1 (c.types.map eI)),(2,.aG 3 1 (c.slots.map eI)),(3,.aG 3 1 (c.aw.map eI)),(4,.aG 3 1 (c.aO.map eI))]
attribute [go_sem] nO zk
structure gx(c:Ck):Prop where
 aa:aR c.aa
 types:c.types.length=c.aa.nodes.length
 slots:c.slots.length=c.aa.nodes.length
 aw:c.aw.length=c.aa.nodes.length
def mK(c:Ck)(v:bE):Ck:={ c with vars:=c.vars++[v],more:=c.more.drop 1,size:=c.size+1 }
attribute [go_sem] mK
def Ce{c:Ck}(h:bG c)(v:bE)(hs:c.size<=20):bG (mK c v):=⟨h.aa,h.types,h.slots,h.aw,h.aO,h.wo,h.vP,by have:=h.vars;show((c.vars++[v]).length:Int)<=c.size+1;simp;omega,by show c.size+1<=25;omega,fun _=>by show c.size+1<=24;omega⟩
def OY(c:Ck)(k:Nat)(h:gx c)(hk:k<c.aa.aw.length)(Uu:c.aO.length<6):ab prog 46 [pR,rI k] (nO c) (fun v l=>v=.aQ []/\l=nO (gQ c k)):=by
 have hff:=h.aa.aw;have VO:=h.aa.fn _ (ff hk);have hp3:=VO.2;have XF:=h.aa.body _ (ff hk);have hbm:=h.aa.chain.mem (nth c.aa.aw k).body (List.mem_map.2 ⟨_,ff hk,rfl⟩);refine aM func46 ntmps46 ?_;refine S ?_
 (repeat' (first|refine av fun K hK=>?_|refine au ?_|(refine hK _ _ ?_;clear hK K)|(refine ar ?_ ?_<;>intro hc<;>try exact jz)|refine al 6 ?_|refine aq ?_|exact jI|(clear hK K)))
 have Ux:=hK;clear hK;refine jw (dV.gl 5 0 7 144 3 rfl jC rfl rfl) ?_
 (refine S ?_;try exact jI)
 generalize V7:({ c with fn:=(k:Int),vars:=[],more:=[],size:=0 }:Ck)=c0;have WU:bG c0:=by subst V7;exact⟨h.aa,h.types,h.slots,h.aw,by show c.aO.length<=6;omega,by show(0:Int)<=k;omega,by show(k:Int)<(c.aa.aw.length:Int);omega,by show((0:Nat):Int)<=0;omega,by show(0:Int)<=25;omega,fun _=>by show(0:Int)<=24;omega⟩
 have U1:gQ c k=(fun c2:Ck=>{ c2 with aO:=c2.aO++[c2.size],vars:=[],more:=[] }) (if(fB (nth c.aa.aw k).body c0 (nth c.aa.aw k).params 0).e=0 then fl (bT c.aa.nodes.length) (fB (nth c.aa.aw k).body c0 (nth c.aa.aw k).params 0) (nth c.aa.aw k).body else fB (nth c.aa.aw k).body c0 (nth c.aa.aw k).params 0):=by subst V7;rfl
 refine jw (dV.perm (fJ c0++[(6,.var 98 (fZ (nth c.aa.aw k)))]) (fun i=>by subst V7;simp only[go_sem,aA];(repeat' split)<;>first|rfl|omega)) ?_;refine eN (S:=Nat×Ck) [(5,1),(25,50)] (fun s=>s.1<=(nth c.aa.aw k).params.length/\bG s.2/\s.2.size=s.1/\s.2.vars.length=s.1/\s.2.aa=c.aa/\s.2.aO=c.aO/\fB (nth c.aa.aw k).body s.2 ((nth c.aa.aw k).params.drop s.1) s.1=fB (nth c.aa.aw k).body c0 (nth c.aa.aw k).params 0) (fun s=>[(5,rI s.1)]) (fun s=>⟨[0,1,2,3,4],fJ s.2++[(6,.var 98 (fZ (nth c.aa.aw k)))]⟩) (fun s=>(nth c.aa.aw k).params.length-s.1) (0,c0) ⟨jJ,WU,by subst V7;rfl,by subst V7;rfl,by subst V7;rfl,by subst V7;rfl,rfl⟩ (eR rfl cH) ?_;rintro⟨i,q⟩ ⟨hi,hq,hqs,ZN,Ym,Z2,hA⟩ Kr Ut;simp only at hi hq hqs ZN Ym Z2 hA
 (refine S ?_;try exact jI)
 by_cases O':i<(nth c.aa.aw k).params.length
 ·rw[kV O',fB]at hA;have VD:=CW q (nth (nth c.aa.aw k).params i).name hq;have YC:=sJ q 41 (nth c.aa.aw k).body;by_cases hf:0<=q.find (nth (nth c.aa.aw k).params i).name
  ·rw[if_pos hf]at hA;have ef:=nL q (e:=41) jC (nth c.aa.aw k).body;have YV:=ef.vars;have Vp:=ef.size;have Xc:=hq.ev ef;have YZ:(q.aE 41 (nth c.aa.aw k).body).vars.length=i:=by rw[YV,ZN]
   (repeat' (first|refine av fun K hK=>?_|refine au ?_|(with_reducible refine gR 9 ?_);refine dE 9 (bf 0 24) mixed ?_|(refine hK _ _ ?_;clear hK K)|(refine ar ?_ ?_<;>intro hc<;>try exact jz)|refine cm (VD) ?_|refine cm (YC) ?_|refine rp (q.aE 41 (nth c.aa.aw k).body).vars (q.aE 41 (nth c.aa.aw k).body).more [⟨(nth (nth c.aa.aw k).params i).name,(nth (nth c.aa.aw k).params i).ty,(i:Int)⟩] ?_|refine aq ?_|exact jI|(clear hK K)))
   refine Ut _ _ (eQ (i+1,mK (q.aE 41 (nth c.aa.aw k).body) ⟨(nth (nth c.aa.aw k).params i).name,(nth (nth c.aa.aw k).params i).ty,(i:Int)⟩) ⟨jJ,Ce Xc _ jB,by show(q.aE 41 (nth c.aa.aw k).body).size+1=_;omega,by show((q.aE 41 (nth c.aa.aw k).body).vars++[_]).length=i+1;rw[List.length_append,YZ];rfl,ef.aa.trans Ym,ef.aO.trans Z2,hA⟩ jJ jR cH)
  ·rw[if_neg hf]at hA
   (repeat' (first|refine av fun K hK=>?_|refine au ?_|(with_reducible refine gR 9 ?_);refine dE 9 (bf 0 24) mixed ?_|(refine hK _ _ ?_;clear hK K)|(refine ar ?_ ?_<;>intro hc<;>try exact jz)|refine cm (VD) ?_|refine rp q.vars q.more [⟨(nth (nth c.aa.aw k).params i).name,(nth (nth c.aa.aw k).params i).ty,(i:Int)⟩] ?_|refine aq ?_|exact jI|(clear hK K)))
   refine Ut _ _ (eQ (i+1,mK q ⟨(nth (nth c.aa.aw k).params i).name,(nth (nth c.aa.aw k).params i).ty,(i:Int)⟩) ⟨jJ,Ce hq _ jB,by show q.size+1=_;omega,by show(q.vars++[_]).length=i+1;rw[List.length_append,ZN];rfl,Ym,Z2,hA⟩ jJ jR cH)
 ·have hz:q=fB (nth c.aa.aw k).body c0 (nth c.aa.aw k).params 0:=by
   rw[List.drop_eq_nil_of_le jB]at hA;exact hA
  rw[<-hz]at U1;by_cases he:q.e=0
  ·rw[if_pos he]at U1;have sb:=(qd (fun q b hq he=>oS c.aa.nodes.length q b hq he) hq (nth c.aa.aw k).body).1;have hbc:=GN c.aa.nodes.length (H8 _) q (nth c.aa.aw k).body hq hbm.1 (by rw[Ym];omega) jB (by unfold Ck.node;rw[Ym];exact XF);have WT:(fl (bT c.aa.nodes.length) q (nth c.aa.aw k).body).aO.length<6:=by rw[sb.aO,Z2];exact Uu
   (have W:=he;repeat' (first|refine DZ (id:=13) 0 7 ?_|refine av fun K hK=>?_|refine au ?_|(with_reducible refine gR 13 ?_);refine dE 13 (bf 0 16) mixed ?_|(refine hK _ _ ?_;clear hK K)|(refine ar ?_ ?_<;>intro hc<;>try exact jz)|refine Ux _ _ ?_|refine cm (hbc) ?_|refine aq ?_|exact jI|(clear hK K)))
   rw[U1]
   (refine ba [] ?_;try simp only[go_sem])
  ·rw[if_neg he]at U1;have WT:q.aO.length<6:=by rw[Z2];exact Uu
   (have W:=he;repeat' (first|refine DZ (id:=13) 0 7 ?_|refine av fun K hK=>?_|refine au ?_|(with_reducible refine gR 13 ?_);refine dE 13 (bf 0 16) mixed ?_|(refine hK _ _ ?_;clear hK K)|(refine ar ?_ ?_<;>intro hc<;>try exact jz)|refine Ux _ _ ?_|refine aq ?_|exact jI|(clear hK K)))
   rw[U1]
   (refine ba [] ?_;try simp only[go_sem])
def I3(c:Ck)(e a:Int):ab prog 73 [pR,rI e,rI a] (nO c) (fun v l=>v=.aQ []/\l=nO (c.aE e a)):=by
 refine aM func73 ntmps73 ?_;refine S ?_
 (repeat' (first|refine av fun K hK=>?_|refine au ?_|(refine hK _ _ ?_;clear hK K)|(refine ar ?_ ?_<;>intro hc<;>try exact jz)|refine aq ?_|exact jI|(clear hK K)))
 ·(refine bW [] ?_ ?_<;>(try simp only[go_sem]))
  simp only[Ck.aE,if_pos hc,nO,zk]
 ·(refine bW [] ?_ ?_<;>(try simp only[go_sem]))
  simp only[Ck.aE,if_neg hc,nO,zk]
theorem A8(x:bh):∀(l:List bh) (c:Ck),Ev c (kU x c l)
 |[],c=>by unfold kU;exact .refl c
 |f::l,c=>by
  unfold kU;refine Ev.trans ?_ (A8 x l _);split
  ·exact nL c jC _
  ·exact .refl c
theorem Bc(aw:List bh):∀(n:Nat) (c:Ck) (m:Bool) (i:Nat),Ev c (jX aw c m i n).1
 |0,c,m,i=>by unfold jX;exact .refl c
 |n+1,c,m,i=>by unfold jX;exact(A8 _ _ _).trans (Bc aw n _ _ _)
def GG(c:Ck):Ev c (jd c):=by
 unfold jd;simp only;split
 ·exact Bc _ _ _ _ _
 ·exact(Bc _ _ _ _ _).trans (nL _ jC _)
def RW(c:Ck)(h:c.aa.aw.length<=6):ab prog 45 [pR] (nO c) (fun v l=>v=.aQ []/\l=nO (jd c)):=by
 refine aM func45 ntmps45 ?_;refine S ?_
 (repeat' (first|refine av fun K hK=>?_|refine au ?_|(refine hK _ _ ?_;clear hK K)|(refine ar ?_ ?_<;>intro hc<;>try exact jz)|refine aq ?_|exact jI|(clear hK K)))
 have Ux:=hK;clear hK;refine eN (S:=Nat×Ck×Bool) [(3,3),(12,55)] (fun s=>s.1<=c.aa.aw.length/\jX c.aa.aw s.2.1 s.2.2 s.1 (c.aa.aw.length-s.1)=jX c.aa.aw c false 0 c.aa.aw.length/\s.2.1.aa=c.aa) (fun s=>[(4,rI s.1),(3,rB s.2.2)]) (fun s=>⟨[0,1,2,3,4],nO s.2.1⟩) (fun s=>c.aa.aw.length-s.1) (0,c,false) ⟨jJ,rfl,rfl⟩ (eR jR cH) ?_;rintro⟨i,q,m⟩ ⟨hi,hA,Ym⟩ Kr Ut;simp only at hi hA Ym
 (refine S ?_;try exact jI)
 by_cases O':i<c.aa.aw.length
 ·rw[show c.aa.aw.length-i=(c.aa.aw.length-(i+1))+1 from jB,jX]at hA
  (repeat' (first|refine av fun K hK=>?_|refine au ?_|(refine hK _ _ ?_;clear hK K)|(refine ar ?_ ?_<;>intro hc<;>try exact jz)|refine aq ?_|exact jI|(clear hK K)))
  have hKi:=hK;clear hK;have hKb:=hK;clear hK;refine eN (S:=Nat×Ck) [(5,1),(18,23)] (fun s=>s.1<=i/\kU (nth c.aa.aw i) s.2 ((c.aa.aw.take i).drop s.1)=kU (nth c.aa.aw i) q (c.aa.aw.take i)) (fun s=>[(5,rI s.1)]) (fun s=>⟨[0,1,2,3,4],nO s.2⟩) (fun s=>i-s.1) (0,q) ⟨jJ,rfl⟩ (eR jR cH) ?_;rintro⟨k,z⟩ ⟨hk,hB⟩ Kj hKj;simp only at hk hB
  (refine S ?_;try exact jI)
  by_cases Wa:k<i
  ·have Zu:k<(c.aa.aw.take i).length:=by rw[List.length_take];omega
   have hnt:nth (c.aa.aw.take i) k=nth c.aa.aw k:=by simp[nth,List.getD_eq_getElem?_getD,List.getElem?_take,Wa]
   rw[kV Zu,hnt,kU]at hB;have YC:=I3 z 41 (nth c.aa.aw i).body
   (repeat' (first|refine av fun K hK=>?_|refine au ?_|(with_reducible refine gR 8 ?_);refine dE 8 (bf 0 11) mixed ?_|(refine hK _ _ ?_;clear hK K)|(refine ar ?_ ?_<;>intro hc<;>try exact jz)|refine cm (YC) ?_|refine aq ?_|exact jI|(clear hK K)))
   ·rw[if_pos hc]at hB;refine hKj _ _ (eQ (k+1,z.aE 41 (nth c.aa.aw i).body) ⟨jJ,hB⟩ jJ jR cH)
   ·rw[if_neg hc]at hB;refine hKj _ _ (eQ (k+1,z) ⟨jJ,hB⟩ jJ jR cH)
  ·rw[List.drop_eq_nil_of_le (by rw[List.length_take];omega),kU]at hB
   (repeat' (first|refine av fun K hK=>?_|refine au ?_|(refine hK _ _ ?_;clear hK K)|(refine ar ?_ ?_<;>intro hc<;>try exact jz)|refine hKi _ _ ?_|refine hKb _ _ ?_|refine aq ?_|exact jI|(clear hK K)))
   refine Ut _ _ (eQ (i+1,z,m || vj (nth c.aa.aw i)) ⟨jJ,by rw[<-hB]at hA;exact hA,by rw[hB];exact(A8 _ _ _).aa.trans Ym⟩ jJ jR (by simp only[go_sem,lj,Nat.reduceAdd,AV.raw.injEq,Value.int.injEq,Value.slice.injEq,Value.pointer.injEq,AV.rs.injEq,vj];try omega))
 ·rw[show c.aa.aw.length-i=0 from jB,jX]at hA;have hz:jd c=if m=true then q else q.aE 44 0:=by unfold jd;rw[<-hA]
  have YC:=I3 q 44 0;cases m
  ·rw[if_neg jC]at hz
   (repeat' (first|refine av fun K hK=>?_|refine au ?_|(refine hK _ _ ?_;clear hK K)|(refine ar ?_ ?_<;>intro hc<;>try exact jz)|refine Ux _ _ ?_|refine cm (YC) ?_|refine aq ?_|exact jI|(clear hK K)))
   rw[hz]
   (refine bW [] ?_ ?_<;>(try simp only[go_sem]))
  ·rw[if_pos rfl]at hz
   (repeat' (first|refine av fun K hK=>?_|refine au ?_|(refine hK _ _ ?_;clear hK K)|(refine ar ?_ ?_<;>intro hc<;>try exact jz)|refine Ux _ _ ?_|refine aq ?_|exact jI|(clear hK K)))
   rw[hz]
   (refine bW [] ?_ ?_<;>(try simp only[go_sem]))
theorem y7(body:Int):∀(ps:List bI) (c:Ck) (i:Int),bG c->c.size+ps.length<=20->bG (fB body c ps i)/\(fB body c ps i).aa=c.aa/\(fB body c ps i).aO=c.aO
 |[],c,i,h,hs=>by unfold fB;exact⟨h,rfl,rfl⟩
 |p::ps,c,i,h,hs=>by
  unfold fB;simp only[List.length_cons]at hs;have fin:∀c1:Ck,Ev c c1->bG (fB body (mK c1 ⟨p.name,p.ty,i⟩) ps (i+1))/\(fB body (mK c1 ⟨p.name,p.ty,i⟩) ps (i+1)).aa=c.aa/\(fB body (mK c1 ⟨p.name,p.ty,i⟩) ps (i+1)).aO=c.aO:=fun c1 s=>by have h1:=h.ev s;have hz:=s.size;obtain⟨a,b,d⟩:=y7 body ps (mK c1 ⟨p.name,p.ty,i⟩) (i+1) (Ce h1 _ jB) (by show c1.size+1+_<=20;omega);exact⟨a,b.trans s.aa,d.trans s.aO⟩
  simp only;split
  ·exact fin _ (nL c jC body)
  ·exact fin _ (.refl c)
def Aw{c:Ck}(h:gx c)(hk:k<c.aa.aw.length)(Uu:c.aO.length<6):gx (gQ c k)/\(gQ c k).aa=c.aa/\(gQ c k).aO.length=c.aO.length+1:=by
 have hp3:=(h.aa.fn _ (ff hk)).2;have WU:bG { c with fn:=(k:Int),vars:=[],more:=[],size:=0 }:=⟨h.aa,h.types,h.slots,h.aw,by show c.aO.length<=6;omega,by show(0:Int)<=k;omega,by show(k:Int)<(c.aa.aw.length:Int);omega,by show((0:Nat):Int)<=0;omega,by show(0:Int)<=25;omega,fun _=>by show(0:Int)<=24;omega⟩;obtain⟨a,b,d⟩:=y7 (nth c.aa.aw k).body (nth c.aa.aw k).params _ 0 WU (by show(0:Int)+_<=20;omega);unfold gQ;simp only;split
 ·have s:=(qd (fun q b hq he=>oS c.aa.nodes.length q b hq he) a (nth c.aa.aw k).body).1;have hi:=s.inv;refine⟨⟨hi.aa,hi.types,hi.slots,hi.aw⟩,s.aa.trans b,?_⟩;show((fl (bT c.aa.nodes.length) _ _).aO++[_]).length=_;rw[List.length_append,s.aO,d];rfl
 ·refine⟨⟨a.aa,a.types,a.slots,a.aw⟩,b,?_⟩;show((fB _ _ _ _).aO++[_]).length=_;rw[List.length_append,d];rfl
def nD(t:aH)(n:Nat):Ck:=⟨t,(t.nodes.take n).map fun _=>0,(t.nodes.take n).map fun _=>-1,(t.nodes.take n).map fun _=>0,[],0,[],[],0,0,0⟩
variable{n:Nat}
def Km(t:aH)(h:t.nodes.length<=n):nD t n=js t:=by simp[nD,js,List.take_of_length_le h]
def Nd(t:aH)(h:n<t.nodes.length):nD t (n+1)={ nD t n with types:=(nD t n).types++[0],slots:=(nD t n).slots++[-1],aw:=(nD t n).aw++[0] }:=by simp[nD,tS h]
def Ui(t:aH)(h:n<=t.nodes.length):(nD t n).types.length=n/\(nD t n).slots.length=n/\(nD t n).aw.length=n:=by simp[nD];omega
@[go_sem] def j1X(t:aH)(l:UE):lO t++l=aP eH 5 t.nodes::aP fZ 5 t.aw::l:=rfl
def KV(t:aH)(h:aR t):aC prog 21 [.agg (lO t)] (.aQ [.agg (cn (iy t).1),rI (iy t).2.1,rI (iy t).2.2]):=by
 have hf:=h.aw;have hm:=h.many;refine bQ func21 ntmps21 ?_
 (repeat' (first|refine av fun K hK=>?_|refine au ?_|(refine hK _ _ ?_;clear hK K)|(refine ar ?_ ?_<;>intro hc<;>try exact jz)|refine bx 10 ?_|refine al 11 ?_|refine bx 0 ?_|refine aq ?_|exact jI|(clear hK K)))
 have Ux:=hK;clear hK;refine jw (dV.gl 1 0 2 3 1 rfl jC rfl rfl) ?_
 (refine S ?_;try exact jI)
 refine jw (dV.gl 2 0 3 3 1 rfl jC rfl rfl) ?_
 (refine S ?_;try exact jI)
 refine jw (dV.gl 3 0 4 3 1 rfl jC rfl rfl) ?_
 (refine S ?_;try exact jI)
 refine jw (dV.gl 4 0 5 3 1 rfl jC rfl rfl) ?_
 (refine S ?_;try exact jI)
 refine jw (dV.sO 0 7 rfl) ?_
 (refine S ?_;try exact jI)
 refine jw (dV.perm (nO (nD t 0)++[(10,.var 27 (lO t)),(11,.var 30 [.raw (.slice none 0 0),.raw (.slice none 0 0),.raw (.slice none 0 0),.raw (.slice none 0 0),.raw (.slice none 0 0),.raw (.slice none 0 0)])]) (fun i=>by simp only[go_sem,aA,nD];(repeat' split)<;>first|rfl|omega)) ?_;refine eN (S:=Nat) [(6,1),(12,40)] (fun k=>k<=t.nodes.length) (fun k=>[(6,rI k)]) (fun k=>⟨[],nO (nD t k)++[(10,.var 27 (lO t)),(11,.var 30 [.raw (.slice none 0 0),.raw (.slice none 0 0),.raw (.slice none 0 0),.raw (.slice none 0 0),.raw (.slice none 0 0),.raw (.slice none 0 0)])]⟩) (fun k=>t.nodes.length-k) 0 (Nat.zero_le _) (eR rfl cH) ?_;rintro k hk Kr Ut;obtain⟨l1,l2,l3⟩:=Ui t hk
 (refine S ?_;try exact jI)
 by_cases O':k<t.nodes.length
 ·(repeat' (first|refine av fun K hK=>?_|refine au ?_|(refine hK _ _ ?_;clear hK K)|(refine ar ?_ ?_<;>intro hc<;>try exact jz)|refine aq ?_|exact jI|(clear hK K)))
  refine Ut _ _ (eQ (k+1) jB jB (by rw[Nd t O'];exact jR) cH)
 ·have UX:=Km t (n:=k) jB;rw[UX]at*;have hh:=RW (js t) hf
  (repeat' (first|refine av fun K hK=>?_|refine au ?_|(refine hK _ _ ?_;clear hK K)|(refine ar ?_ ?_<;>intro hc<;>try exact jz)|refine Ux _ _ ?_|refine cm (hh) ?_|refine aq ?_|exact jI|(clear hK K)))
  have YD:=hK;clear hK;have eh:=GG (js t);have WU:gx (jd (js t)):=⟨by rw[eh.aa];exact h,by rw[eh.types,eh.aa];simp[js],by rw[eh.slots,eh.aa];simp[js],by rw[eh.aw,eh.aa];simp[js]⟩;refine eN (S:=Nat×Ck) [(7,1),(54,17)] (fun s=>s.1<=t.aw.length/\gx s.2/\s.2.aa=t/\s.2.aO.length=s.1/\gz s.2 s.1 (t.aw.length-s.1)=jc t) (fun s=>[(7,rI s.1)]) (fun s=>⟨[],nO s.2++[(10,.var 27 (lO t)),(11,.var 30 [.raw (.slice none 0 0),.raw (.slice none 0 0),.raw (.slice none 0 0),.raw (.slice none 0 0),.raw (.slice none 0 0),.raw (.slice none 0 0)])]⟩) (fun s=>t.aw.length-s.1) (0,jd (js t)) ⟨Nat.zero_le _,WU,eh.aa,by rw[eh.aO];rfl,rfl⟩ (eR jR cH) ?_;rintro⟨i,q⟩ ⟨hi,hq,Ym,Z2,hA⟩ Kr2 X7;simp only at hi hq Ym Z2 hA
  (refine S ?_;try exact jI)
  by_cases VL:i<t.aw.length/\q.e=0
  ·obtain⟨Vh,V9⟩:=VL;rw[show t.aw.length-i=(t.aw.length-(i+1))+1 from jB,gz,if_pos V9]at hA;have hkf:i<q.aa.aw.length:=by rw[Ym];exact Vh
   have W6:=OY q i hq hkf jB;obtain⟨f1,f2,f3⟩:=Aw hq hkf jB
   (have W:=V9;repeat' (first|refine av fun K hK=>?_|refine au ?_|(refine hK _ _ ?_;clear hK K)|(refine ar ?_ ?_<;>intro hc<;>try exact jz)|refine cm (W6) ?_|refine aq ?_|exact jI|(clear hK K)))
   refine X7 _ _ (eQ (i+1,gQ q i) ⟨jJ,f1,f2.trans Ym,jJ,hA⟩ jJ jR cH)
  ·have hz:q=jc t:=by
    rw[<-hA];by_cases Vh:i<t.aw.length
    ·rw[show t.aw.length-i=(t.aw.length-(i+1))+1 from jB,gz,if_neg fun e=>VL ⟨Vh,e⟩]
    ·rw[show t.aw.length-i=0 from jB,gz]
   by_cases he:q.e=0
   ·have hr:iy t=(q.prog,0,0):=by unfold iy;rw[<-hz,if_neg (fun h=>h he)]
    have I':¬i<t.aw.length:=fun h=>VL ⟨h,he⟩
    (have W:=he;repeat' (first|refine av fun K hK=>?_|refine au ?_|(refine hK _ _ ?_;clear hK K)|(refine ar ?_ ?_<;>intro hc<;>try exact jz)|(refine YD _ _ ?_)|refine aq ?_|exact jI|(clear hK K)))
    rw[hr];refine fF [.cell 2 30,.tmp 3,.tmp 4] ?_;refine bt.aQ (ds:=[.agg (cn q.prog),rI 0,rI 0]) ?_;refine jA (bt.agg (ds:=cn q.prog) ?_) (jA (.same _ rfl) (jA (.same _ rfl) trivial));simp only[cn,Ck.prog];exact jL
   ·have hr:iy t=(k9,q.at_,q.e):=by unfold iy;rw[<-hz,if_pos he]
    (have W:=he;repeat' (first|refine av fun K hK=>?_|refine au ?_|(with_reducible refine gR 14 ?_);refine dA 14 [11] (bf 0 12) mixed ?_|(refine hK _ _ ?_;clear hK K)|(refine ar ?_ ?_<;>intro hc<;>try exact jz)|(refine YD _ _ ?_)|refine aq ?_|exact jI|(clear hK K)))
    rw[hr];refine fF [.cell 2 30,.tmp 3,.tmp 4] ?_;refine bt.aQ (ds:=[.agg (cn k9),rI _,rI _]) ?_;refine jA (bt.agg (ds:=cn k9) ?_) (jA (.same _ rfl) (jA (.same _ rfl) trivial));simp only[cn,k9];exact jL
end Go.Proofs.YtijdhbokcdpklaaGreatDoor
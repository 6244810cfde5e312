/- Lemmas. No conditions. -/
import Derived.Test.YtjpcgmjaipfgdaaGreatDoorP2
import Derived.Test.YtjpcgmjaipfgdaaGreatDoorShelf
set_option linter.all false
set_option maxHeartbeats 8000000
set_option maxRecDepth 10000
namespace Go.Gd
open Go
def DE{P:TL}{f:FuncId}{args:TB}{r:AV}(cF:TJ)(v:Value)(ha:args=cF.map .raw)(hr:∀w:NW,aw w r v)(h:∀w:World,Calls P f cF.toArray w fun e w'=>e=.returned v/\RowKit.Below w.heap.size w w'):aB P f args r:=by
 intro w vs h1 h2;have VG:vs=cF.toArray:=by
  apply Array.ext';apply List.ext_getElem?;intro i;obtain⟨hl,hv⟩:=h2;subst ha;by_cases hi:i<cF.length
  ·have U7:i<vs.size:=by rw[<-hl];simpa using hi
   have:=db (hv i (.raw cF[i]) vs[i] (by simp[hi]) (by simp[U7]));simp[hi,U7,this]
  ·have U7:¬i<vs.size:=by rw[<-hl];simpa using hi
   rw[List.getElem?_eq_none (by simpa using U7),List.getElem?_eq_none (by simpa using hi)]
 subst VG;refine(h w.toWorld).mono ?_;rintro e W ⟨rfl,hb⟩;have ex:Ext w (entry []) (w.to W) (entry []):={ size:=hb.size,free:=fun b T5 hO=>⟨hb.block b T5,hO⟩,names:=fun _ _ _ _ h=>h,os:=hb.os,tape:=hb.tape,output:=hb.output,rest:=fun b T5 hO Te=>⟨hb.block b T5,hO,Te⟩,base:=rfl };refine⟨v,r,entry [],w.to W,rfl,rfl,⟨rfl,rfl⟩,{ rows:=fun i row hi=>(by cases hi),cU:=h1.cU,inj:=h1.inj,own:=h1.own,bO:=h1.bO.aU ex.toKeep,fin:=fun b T5=>Nat.lt_of_lt_of_le (h1.fin b T5) hb.size },hr _,ex.ph⟩
variable{H:Hp}{t:TG}{cs:TB}
def zZ{w:NW}(r:aI w H){j:Nat}{cs':TB}(hj:H.get j=some (.var t cs))(hl:cs'.length=cs.length)(h:∀(k:Nat) a a' v,cs[k]?=some a->cs'[k]?=some a'->aw w a v->aw w a' v):aI w (H.put j (.var t cs'))/\Ext w H w (H.put j (.var t cs')):=by
 have ex:Ext w H w (H.put j (.var t cs')):={ ExtQ.refl _ w with base:=rfl };refine⟨{ rows:=fun i s hi=>?_,cU:=fun i m z hz=>?_,inj:=r.inj,own:=r.own,fin:=r.fin,bO:=r.bO.aU ex.toKeep },ex⟩
 ·rw[Hp.bj]at hi;split at hi
  ·rename_i e;subst e;cases hi;obtain⟨h1,z,h2,h3⟩:=r.rows _ _ hj;refine⟨trivial,z,h2,?_⟩;cases z with
   |nil=>obtain⟨e,sz,h4⟩:=h3;cases h4
   |«at» b u s=>
    obtain⟨g1,cur,g2,⟨g3,g4⟩,g5⟩:=h3;refine⟨g1,cur,g2,⟨g3,by show cs'.length<=u;rw[hl];exact g4⟩,fun k a v ha hv=>?_⟩;have ha:cs'[k]?=some a:=ha;have hk:k<cs.length:=by rw[<-hl];exact(List.getElem?_eq_some_iff.1 ha).1
    exact h k cs[k] a v (List.getElem?_eq_getElem hk) ha (g5 k cs[k] v (List.getElem?_eq_getElem hk) hv)
  ·exact r.rows i s hi
 ·obtain⟨s,h1,h2⟩:=r.cU i m z hz;rw[Hp.bj];split
  ·rename_i e;subst e;rw[hj]at h1;cases h1;exact⟨_,rfl,h2⟩
  ·exact⟨s,h1,h2⟩
variable{F:TB}
def dO.gg(i j k:Nat)(e:TG)(sz:Nat)(hi:H.get i=none)(h0:0<sz)(hj:H.get j=some (.var t cs))(hk:cs[k]?=some (.raw (.slice none 0 0))):dO F H F ((H.put i (.aF e sz [])).put j (.var t (cs.set k (.rs i 0 sz 0)))):=fun w tm h1 h2=>by
 obtain⟨a,b⟩:=wD h1 hi e h0;have Zo:j≠i:=fun e=>by subst e;rw[hi]at hj;cases hj
 obtain⟨a',b'⟩:=zZ (cs':=cs.set k (.rs i 0 sz 0)) a (j:=j) (t:=t) (cs:=cs) (by rw[Hp.bj,if_neg Zo];exact hj) jE fun n x x' v hx TW hv=>by
  rw[List.getElem?_set]at TW;by_cases hn:k=n
  ·subst hn;rw[if_pos rfl]at TW;split at TW
   ·cases TW;rw[hk]at hx;cases hx;cases hv;exact .iA _ _ _ _ (NW.cw _ _ _ _)
   ·cases TW
  ·rw[if_neg hn,hx]at TW;cases TW;exact hv
 exact⟨w.name i 0 .nil,rfl,a',h2.ext b,(b.trans b').ph⟩
def dO.sU(j k:Nat)(hj:H.get j=some (.var t cs)):dO F H F (H.put j (.var t (cs.set k .any))):=fun w tm h1 h2=>by
 obtain⟨a',b'⟩:=zZ (cs':=cs.set k .any) h1 (j:=j) (t:=t) (cs:=cs) hj jE fun n x x' v hx TW hv=>by
  rw[List.getElem?_set]at TW;by_cases hn:k=n
  ·subst hn;rw[if_pos rfl]at TW;split at TW
   ·cases TW;exact .any _
   ·cases TW
  ·rw[if_neg hn]at TW;rw[hx]at TW;cases TW;exact hv
 exact⟨w,rfl,a',h2,b'.ph⟩
def FC{P:TL}{id:Nat}{l:List Oper}{b:Bool}{Q:Exit->S7}{q:Prop}(j k:Nat){i m sz n:Nat}(h:q)(hj:H.get j=some (.var t cs):=by rfl)(hc:cs[k]?=some (.rs i m sz n):=by rfl)(e:dx P (.region id l.toArray b) Q F (H.put j (.var t (cs.set k .any)))=q:=by first|(simp only[go_sem];rfl)|rfl):dx P (.region id l.toArray b) Q F H:=jq (dO.sU j k hj) (e ▸ h)
end Go.Gd
namespace Go.Proofs.YtjpcgmjaipfgdaaGreatDoor
open Go Go.Gd Tryz
def Bp(s:TF)(k:Nat):eG s k=((s.data.toList.getD k 0).toNat:Int):=by unfold eG;simp
def km:List UInt8->Nat->Nat
 |[],a=>a
 |c::l,a=>km l (a*10+(c.toNat-48))
theorem F6:∀(l:List UInt8) (a:Nat),a<=km l a
 |[],a=>Nat.le_refl _
 |c::l,a=>Nat.le_trans jB (F6 l _)
theorem FF:∀(l:List UInt8) (a:Nat),(∀c∈l,48<=c.toNat/\c.toNat<=57)->km l a<=9223372036854775807->Lib.parseUint10 a l=.ok (km l a)
 |[],a,_,_=>rfl
 |c::l,a,h,hm=>by have hc:=h c jE;have h1:=F6 l (a*10+(c.toNat-48));simp only[km]at hm ⊢;unfold Lib.parseUint10;rw[if_pos hc,jN,jN];exact FF l _ (fun x hx=>h x (by simp[hx])) hm
theorem Jh:∀(l:List UInt8) (c:UInt8) (a:Nat),km (l++[c]) a=km l a*10+(c.toNat-48)
 |[],_,_=>rfl
 |_::l,c,_=>Jh l c _
theorem AB:∀(l:List UInt8) (a:Nat),(∀c∈l,48<=c.toNat/\c.toNat<=57)->km l a+1<=(a+1)*10 ^ l.length
 |[],a,_=>by simp[km]
 |c::l,a,h=>by have hc:=h c jE;have ih:=AB l (a*10+(c.toNat-48)) (fun x hx=>h x (by simp[hx]));simp only[km,List.length_cons,Nat.pow_succ];refine Nat.le_trans ih ?_;rw[Nat.mul_comm (10 ^ l.length) 10,<-Nat.mul_assoc];exact Nat.mul_le_mul_right _ jB
theorem Gn:∀(l:List UInt8) (a:Nat),a*10 ^ l.length<=km l a
 |[],a=>by simp[km]
 |c::l,a=>by have ih:=Gn l (a*10+(c.toNat-48));simp only[km,List.length_cons,Nat.pow_succ];refine Nat.le_trans ?_ ih;rw[Nat.mul_comm (10 ^ l.length) 10,<-Nat.mul_assoc];exact Nat.mul_le_mul_right _ jB
theorem Ea:∀(l m:List UInt8) (a:Nat),l.length=m.length->(∀c∈l,48<=c.toNat/\c.toNat<=57)->(∀c∈m,48<=c.toNat/\c.toNat<=57)->Op.bytesLess l m=true->km l a<km m a
 |[],[],_,_,_,_,h=>by simp[Op.bytesLess]at h
 |[],_::_,_,hl,_,_,_=>by simp at hl
 |_::_,[],_,hl,_,_,_=>by simp at hl
 |x::l,y::m,a,hl,h1,h2,h=>by
  have hx:=h1 x jE;have hy:=h2 y jE;simp only[Op.bytesLess,Bool.or_eq_true,decide_eq_true_eq,Bool.and_eq_true,beq_iff_eq]at h;simp only[km];rcases h with h|⟨rfl,h⟩
  ·have h:x.toNat<y.toNat:=h;have e1:=AB l (a*10+(x.toNat-48)) (fun c hc=>h1 c (by simp[hc]));have e2:=Gn m (a*10+(y.toNat-48));have e3:(a*10+(x.toNat-48)+1)*10 ^ l.length<=(a*10+(y.toNat-48))*10 ^ m.length:=by
    rw[show l.length=m.length by simpa using hl];exact Nat.mul_le_mul_right _ jB
   omega
  ·exact Ea l m _ (by simpa using hl) (fun c hc=>h1 c (by simp[hc])) (fun c hc=>h2 c (by simp[hc])) h
theorem AH(s:TF)(hd:∀j,j<s.size->j4 (eG s j)=true):∀k,k<=s.size->wl s k=(km (s.data.toList.take k) 0:Nat)
 |0,_=>by simp[wl,km]
 |k+1,hk=>by
  have Tv:k<s.data.toList.length:=by simp;omega
  have h1:=hd k jB;simp only[j4,Bool.and_eq_true,decide_eq_true_eq]at h1;rw[Bp]at h1;rw[wl,AH s hd k jB,List.take_succ_eq_append_getElem Tv,Jh,Bp];have:s.data.toList.getD k 0=s.data.toList[k]:=by rw[List.getD_eq_getElem?_getD,List.getElem?_eq_getElem Tv];rfl
  rw[this]at h1 ⊢;omega
variable{s:TF}
def DG(h:qG s):∀c∈s.data.toList,48<=c.toNat/\c.toNat<=57:=fun c hc=>by obtain⟨k,hk,rfl⟩:=List.getElem_of_mem hc;have:=h.2.2 k (by simpa using hk);simp only[j4,Bool.and_eq_true,decide_eq_true_eq]at this;rw[Bp,List.getD_eq_getElem?_getD,List.getElem?_eq_getElem hk]at this;simp only[Option.getD_some]at this;omega
def Ix(h:qG s):km s.data.toList 0<=9223372036854775807:=by
 have hd:=DG h;have hn:=h.2.1;have hl:=AB s.data.toList 0 hd;have I':s.data.toList.length=s.size:=jE;unfold xf at hn;simp only[Bool.or_eq_true,decide_eq_true_eq,Bool.and_eq_true]at hn;rcases hn with hn|⟨hn,h2|h2⟩
 ·have:10 ^ s.data.toList.length<=10 ^ 18:=Nat.pow_le_pow_right jB (by rw[I'];omega);simp only[Nat.zero_add,Nat.one_mul]at hl;omega
 ·have e:s.toList=s.data.toList:=ByteArray.toList_eq s;have:=Ea s.data.toList [57,50,50,51,51,55,50,48,51,54,56,53,52,55,55,53,56,48,55] 0 (by rw[I'];simp;omega) hd jC (by rw[<-e,show[57,50,50,51,51,55,50,48,51,54,56,53,52,55,55,53,56,48,55]=(⟨#[57,50,50,51,51,55,50,48,51,54,56,53,52,55,55,53,56,48,55]⟩:TF).toList by rw[ByteArray.toList_eq]];exact h2);have e2:km [57,50,50,51,51,55,50,48,51,54,56,53,52,55,55,53,56,48,55] 0=9223372036854775807:=jC;omega
 ·subst h2;decide
def Jt(h:qG s):Lib.atoiAll s.data.toList=.ok (pq s):=by
 have hd:=DG h;have Ts:=Ix h;have XW:pq s=(km s.data.toList 0:Nat):=by unfold pq;rw[AH s h.2.2 _ jl,List.take_of_length_le jE]
 have hp:=FF s.data.toList 0 hd Ts;have UG:=h.1;cases hs:s.data.toList with
 |nil=> have:s.data.toList.length=s.size:=jE;rw[hs]at this;simp at this;omega
 |cons c l=> rw[hs]at hd hp XW Ts;have hc:=hd c jE;simp only[Lib.atoiAll];rw[jN];simp only[Lib.parseMag,List.cons_ne_nil,if_false,hp,reduceCtorEq];rw[jN,jN,jN,XW]
def Sc(s:TF)(h:qG s):aB prog 280 [rS s] (.aP [rI (pq s),.raw .nilIface]):=by
 have hs:s.size<=9223372036854775806:=by have hn:=h.2.1;unfold xf at hn;simp only[Bool.or_eq_true,decide_eq_true_eq,Bool.and_eq_true]at hn;omega
 refine DE [.string s] (.tuple #[.int .i64 (pq s),.nilIface]) rfl (fun w=>?_) fun w=>?_
 ·exact .aP _ _ rfl fun i a v ha hv=>by
   match i with
   |0=>simp at ha hv;subst ha hv;exact .raw _
   |1=>simp at ha hv;subst ha hv;exact .raw _
   |i+2=>simp at ha
 ·refine(Tryz.strconv_Atoi_ok s hs (pq s) (Jt h) w).mono ?_;rintro e W ⟨rfl,hW⟩;refine⟨rfl,?_⟩;rcases hW with rfl|⟨t,rfl⟩
  ·exact RowKit.Below.refl _ _
  ·exact Lib.bytesWorld_below _ _ _
def OC(n:Nat)(hc:yN n):BD (n+1):=by
 intro r h hn;have UX:=h.lt;have hip:=h.pos;have Uy:=h.len;have hin':(r.l.length:Int)<=2000:=jB;have Tb:∀q:Rd,q.Inv->8*q.rem+8<=n->ab prog 232 [pR] (cA q) (fun v l=>v=rI (dL n 0 q).2/\l=cA (dL n 0 q).1):=fun q hq hm=>by
  have:=hc 0 q jB hq jB;refine aL func232 ntmps232 ?_;refine S ?_
  (repeat' (first|refine aq fun K hK=>?_|refine au ?_|(refine hK _ _ ?_;clear hK K)|(refine ap ?_ ?_<;>intro hc<;>try exact jz)|refine cm (this) ?_|refine ar ?_|exact jI|(clear hK K)))
  (refine bW [.tmp 2] ?_ ?_<;>(try simp only[go_sem]))
 have deeper:∀(q:Rd) (t u:TF),q.Inv->q.e=0->q.down.Inv/\(q.down.ao t).Inv/\(dL n 0 (q.down.ao t)).1.Inv/\((dL n 0 (q.down.ao t)).1.ao u).Inv/\((dL n 0 (q.down.ao t)).1.ao u).up.Inv/\(q.down.ao t).rem<=q.rem:=fun q t u hq he=>by have h1:=(Rd.bJ hq he).1;have s1:=Rd.aJ h1 t;have h2:=s1.inv h1;have s2:=(td n).2.2.1 0 _ h2;have h3:=s2.inv h2;have s3:=Rd.aJ h3 u;refine⟨h1,h2,h3,s3.inv h3,(Rd.fx hq he ((s1.trans s2).trans s3)).inv hq,Nat.le_trans s1.rem ?_⟩;have hd:=Rd.bJ hq he;unfold Rd.rem;rw[if_pos he,hd.2.2.1,hd.2.2.2.1];split<;>omega
 rw[qs];by_cases he:r.e≠0
 ·rw[if_pos he];refine aL func276 ntmps276 ?_;refine S ?_
  (repeat' (first|refine aq fun K hK=>?_|refine au ?_|(with_reducible refine gR 2 ?_);refine dE 2 (bc 0 12) mixed ?_|(refine hK _ _ ?_;clear hK K)|(refine ap ?_ ?_<;>intro hc<;>try exact jz)|refine cm (gY r (bw h)) ?_|refine ar ?_|exact jI|(clear hK K)))
  (refine aZ [.tmp 2] ?_;try simp only[go_sem])
 rw[if_neg he];have he:r.e=0:=jB;have Vz:r.tok.kind≠0->r.inc.Inv/\r.inc.rem+1<=r.rem/\r.i+1<r.l.length:=fun hk=>⟨(Rd.bs h hk).1.inv h,Rd.dc h ⟨he,hk⟩,Rd.behind h hk⟩
 by_cases TQ:r.tok.kind=1
 ·rw[if_pos TQ];obtain⟨hi,_,hb⟩:=Vz jB;have W8:=h.num r.i.toNat jB TQ;have Vn:(nth r.l r.i.toNat).kind=1:=TQ;refine aL func276 ntmps276 ?_;refine S ?_
  (have W:=jA he (Vn);repeat' (first|refine aq fun K hK=>?_|refine au ?_|(with_reducible refine gR 2 ?_);refine dE 2 (bc 0 12) mixed ?_|(refine hK _ _ ?_;clear hK K)|(refine ap ?_ ?_<;>intro hc<;>try exact jz)|refine cm (gY r (bw h)) ?_|refine cp (Sc _ W8) ?_|refine cm (k6 r.inc _ _ _ _ [] _ gF.nil (bw hi)) ?_|refine ar ?_|exact jI|(clear hK K)))
  (refine aZ [.tmp 2] ?_;try simp only[go_sem])
  all_goals rfl
 rw[if_neg TQ];have Vn:¬(nth r.l r.i.toNat).kind=1:=TQ;by_cases Tl:r.tok.kind=2
 ·rw[if_pos Tl];obtain⟨hi,_,hb⟩:=Vz jB;have VW:(nth r.l r.i.toNat).kind=2:=Tl;refine aL func276 ntmps276 ?_;refine S ?_
  (have W:=jA he (VW);repeat' (first|refine aq fun K hK=>?_|refine au ?_|(with_reducible refine gR 2 ?_);refine dE 2 (bc 0 12) mixed ?_|(refine hK _ _ ?_;clear hK K)|(refine ap ?_ ?_<;>intro hc<;>try exact jz)|refine cm (gY r (bw h)) ?_|refine cm (k6 r.inc _ _ _ _ [] _ gF.nil (bw hi)) ?_|refine ar ?_|exact jI|(clear hK K)))
  (refine aZ [.tmp 2] ?_;try simp only[go_sem])
  all_goals rfl
 rw[if_neg Tl];have VW:¬(nth r.l r.i.toNat).kind=2:=Tl;by_cases Wq:r.tok.kind=3
 ·rw[if_pos Wq];obtain⟨hi,hr,hb⟩:=Vz jB;have VK:(nth r.l r.i.toNat).kind=3:=Wq;by_cases hx:r.inc.is (⟨#[91]⟩:TF)=true
  ·rw[if_pos hx];obtain⟨d1,d2,d3,d4,d5,d6⟩:=deeper r.inc (⟨#[91]⟩:TF) (⟨#[93]⟩:TF) hi he;have d4l:=d4.o5;have d4h:=d4.pD;refine aL func276 ntmps276 ?_;refine S ?_
   (have W:=jA he (jA VK (hx));repeat' (first|refine aq fun K hK=>?_|refine au ?_|(with_reducible refine gR 2 ?_);refine dE 2 (bc 0 12) mixed ?_|(refine hK _ _ ?_;clear hK K)|(refine ap ?_ ?_<;>intro hc<;>try exact jz)|refine cm (gY r (bw h)) ?_|refine cm (gx r.inc _ (bw hi)) ?_|refine cm (tu r.inc (bw hi)) ?_|refine cm (iP r.inc.down _ (bw d1)) ?_|refine cm (Tb (r.inc.down.ao (⟨#[91]⟩:TF)) d2 jB) ?_|refine cm (iP (dL n 0 (r.inc.down.ao (⟨#[91]⟩:TF))).1 _ (bw d3)) ?_|refine cm (k6 ((dL n 0 (r.inc.down.ao (⟨#[91]⟩:TF))).1.ao (⟨#[93]⟩:TF)).up _ _ _ _ [(dL n 0 (r.inc.down.ao (⟨#[91]⟩:TF))).2] _ gF.sl (bw d5)) ?_|refine ar ?_|exact jI|(clear hK K)))
   (refine aZ [.tmp 2] ?_;try simp only[go_sem])
   all_goals rfl
  ·rw[if_neg hx];have TW:r.inc.is (⟨#[91]⟩:TF)=false:=by simpa using hx
   refine aL func276 ntmps276 ?_;refine S ?_
   (have W:=jA he (jA VK (TW));repeat' (first|refine aq fun K hK=>?_|refine au ?_|(with_reducible refine gR 2 ?_);refine dE 2 (bc 0 12) mixed ?_|(refine hK _ _ ?_;clear hK K)|(refine ap ?_ ?_<;>intro hc<;>try exact jz)|refine cm (gY r (bw h)) ?_|refine cm (gx r.inc _ (bw hi)) ?_|refine cm (k6 r.inc _ _ _ _ [] _ gF.nil (bw hi)) ?_|refine ar ?_|exact jI|(clear hK K)))
   (refine aZ [.tmp 2] ?_;try simp only[go_sem])
   all_goals rfl
 rw[if_neg Wq];have VK:¬(nth r.l r.i.toNat).kind=3:=Wq;by_cases ht:r.is (⟨#[116,114,117,101]⟩:TF)=true
 ·rw[if_pos ht];obtain⟨hi,hr,hb⟩:=Vz (Rd.aY ht).2;refine aL func276 ntmps276 ?_;refine S ?_
  (have W:=jA he (jA ht (jA Vn (jA VW (VK))));repeat' (first|refine aq fun K hK=>?_|refine au ?_|(with_reducible refine gR 2 ?_);refine dE 2 (bc 0 12) mixed ?_|(refine hK _ _ ?_;clear hK K)|(refine ap ?_ ?_<;>intro hc<;>try exact jz)|refine cm (gY r (bw h)) ?_|refine cm (gx r _ (bw h)) ?_|refine cm (k6 r.inc _ _ _ _ [] _ gF.nil (bw hi)) ?_|refine ar ?_|exact jI|(clear hK K)))
  (refine aZ [.tmp 2] ?_;try simp only[go_sem])
 rw[if_neg ht];have WD:r.is (⟨#[116,114,117,101]⟩:TF)=false:=by simpa using ht
 by_cases hf:r.is (⟨#[102,97,108,115,101]⟩:TF)=true
 ·rw[if_pos hf];obtain⟨hi,hr,hb⟩:=Vz (Rd.aY hf).2;refine aL func276 ntmps276 ?_;refine S ?_
  (have W:=jA he (jA WD (jA hf (jA Vn (jA VW (VK)))));repeat' (first|refine aq fun K hK=>?_|refine au ?_|(with_reducible refine gR 2 ?_);refine dE 2 (bc 0 12) mixed ?_|(refine hK _ _ ?_;clear hK K)|(refine ap ?_ ?_<;>intro hc<;>try exact jz)|refine cm (gY r (bw h)) ?_|refine cm (gx r _ (bw h)) ?_|refine cm (k6 r.inc _ _ _ _ [] _ gF.nil (bw hi)) ?_|refine ar ?_|exact jI|(clear hK K)))
  (refine aZ [.tmp 2] ?_;try simp only[go_sem])
 rw[if_neg hf];have Yh:r.is (⟨#[102,97,108,115,101]⟩:TF)=false:=by simpa using hf
 by_cases hl:r.is (⟨#[108,101,110]⟩:TF)=true
 ·rw[if_pos hl];obtain⟨hi,hr,hb⟩:=Vz (Rd.aY hl).2;by_cases hx:r.inc.is (⟨#[40]⟩:TF)=true
  ·rw[if_pos hx];obtain⟨d1,d2,d3,d4,d5,d6⟩:=deeper r.inc (⟨#[40]⟩:TF) (⟨#[41]⟩:TF) hi he;have d4l:=d4.o5;have d4h:=d4.pD;refine aL func276 ntmps276 ?_;refine S ?_
   (have W:=jA he (jA WD (jA Yh (jA hl (jA Vn (jA VW (jA VK (hx)))))));repeat' (first|refine aq fun K hK=>?_|refine au ?_|(with_reducible refine gR 2 ?_);refine dE 2 (bc 0 12) mixed ?_|(refine hK _ _ ?_;clear hK K)|(refine ap ?_ ?_<;>intro hc<;>try exact jz)|refine cm (gY r (bw h)) ?_|refine cm (gx r _ (bw h)) ?_|refine cm (gx r.inc _ (bw hi)) ?_|refine cm (tu r.inc (bw hi)) ?_|refine cm (iP r.inc.down _ (bw d1)) ?_|refine cm (Tb (r.inc.down.ao (⟨#[40]⟩:TF)) d2 jB) ?_|refine cm (iP (dL n 0 (r.inc.down.ao (⟨#[40]⟩:TF))).1 _ (bw d3)) ?_|refine cm (k6 ((dL n 0 (r.inc.down.ao (⟨#[40]⟩:TF))).1.ao (⟨#[41]⟩:TF)).up _ _ _ _ [(dL n 0 (r.inc.down.ao (⟨#[40]⟩:TF))).2] _ gF.sl (bw d5)) ?_|refine ar ?_|exact jI|(clear hK K)))
   (refine aZ [.tmp 2] ?_;try simp only[go_sem])
  ·rw[if_neg hx];have TW:r.inc.is (⟨#[40]⟩:TF)=false:=by simpa using hx
   refine aL func276 ntmps276 ?_;refine S ?_
   (have W:=jA he (jA WD (jA Yh (jA hl (jA Vn (jA VW (jA VK (TW)))))));repeat' (first|refine aq fun K hK=>?_|refine au ?_|(with_reducible refine gR 2 ?_);refine dE 2 (bc 0 12) mixed ?_|(refine hK _ _ ?_;clear hK K)|(refine ap ?_ ?_<;>intro hc<;>try exact jz)|refine cm (gY r (bw h)) ?_|refine cm (gx r _ (bw h)) ?_|refine cm (gx r.inc _ (bw hi)) ?_|refine cm (tX r.inc _ (bw hi)) ?_|refine ar ?_|exact jI|(clear hK K)))
   (refine aZ [.tmp 2] ?_;try simp only[go_sem])
 rw[if_neg hl];have UL:r.is (⟨#[108,101,110]⟩:TF)=false:=by simpa using hl
 by_cases hx:r.is (⟨#[40]⟩:TF)=true
 ·rw[if_pos hx];obtain⟨hi,hr,hb⟩:=Vz (Rd.aY hx).2;obtain⟨d1,d2,d3,d4,d5,d6⟩:=deeper r (⟨#[40]⟩:TF) (⟨#[41]⟩:TF) h he;have d4l:=d4.o5;have d4h:=d4.pD;have d7:(r.down.ao (⟨#[40]⟩:TF)).rem+1<=r.rem:=by
   have hdn:=Rd.bJ h he;unfold Rd.rem;rw[if_pos he];have Tm:(r.down.ao (⟨#[40]⟩:TF)).l=r.l:=(Rd.aJ d1 _).l.trans hdn.2.2.2.1;rw[Tm];by_cases hq:r.down.is (⟨#[40]⟩:TF)=true
   ·have:r.down.ao (⟨#[40]⟩:TF)=r.down.inc:=by unfold Rd.ao;rw[if_pos hq]
    rw[this];have:r.down.inc.i=r.i+1:=by show r.down.i+1=_;rw[hdn.2.2.1]
    rw[this];split<;>omega
   ·have hm:r.down.ao (⟨#[40]⟩:TF)=r.down.aC 20:=by unfold Rd.ao;rw[if_neg hq]
    rw[hm];have:(r.down.aC 20).e≠0:=by
     unfold Rd.aC;split
     ·show(20:Int)≠0;decide
     ·assumption
    rw[if_neg this];omega
  refine aL func276 ntmps276 ?_;refine S ?_
  (have W:=jA he (jA WD (jA Yh (jA UL (jA Vn (jA VW (jA VK (hx)))))));repeat' (first|refine aq fun K hK=>?_|refine au ?_|(with_reducible refine gR 2 ?_);refine dE 2 (bc 0 12) mixed ?_|(refine hK _ _ ?_;clear hK K)|(refine ap ?_ ?_<;>intro hc<;>try exact jz)|refine cm (gY r (bw h)) ?_|refine cm (gx r _ (bw h)) ?_|refine cm (tu r (bw h)) ?_|refine cm (iP r.down _ (bw d1)) ?_|refine cm (Tb (r.down.ao (⟨#[40]⟩:TF)) d2 jB) ?_|refine cm (iP (dL n 0 (r.down.ao (⟨#[40]⟩:TF))).1 _ (bw d3)) ?_|refine ar ?_|exact jI|(clear hK K)))
  (refine aZ [.tmp 2] ?_;try simp only[go_sem])
 rw[if_neg hx];have TW:r.is (⟨#[40]⟩:TF)=false:=by simpa using hx
 refine aL func276 ntmps276 ?_;refine S ?_
 (have W:=jA he (jA WD (jA Yh (jA UL (jA Vn (jA VW (jA VK (TW)))))));repeat' (first|refine aq fun K hK=>?_|refine au ?_|(with_reducible refine gR 2 ?_);refine dE 2 (bc 0 12) mixed ?_|(refine hK _ _ ?_;clear hK K)|(refine ap ?_ ?_<;>intro hc<;>try exact jz)|refine cm (gY r (bw h)) ?_|refine cm (gx r _ (bw h)) ?_|refine cm (tX r _ (bw h)) ?_|refine ar ?_|exact jI|(clear hK K)))
 (refine aZ [.tmp 2] ?_;try simp only[go_sem])
theorem A8:∀m n,n<=m->BD n/\zz n/\yN n
 |0,0,_=>⟨fun r h hn=>by omega,fun r h hn=>by omega,fun lv r hl h hn=>by omega⟩
 |m+1,0,_=>⟨fun r h hn=>jB,fun r h hn=>jB,fun lv r hl h hn=>jB⟩
 |m+1,n+1,hm=>by obtain⟨ha,hf,hc⟩:=A8 m n jB;exact⟨OC n hc,RR n ha hf,R6 n hf fun k hk=>(A8 m k jB).2.2⟩
def NF(n:Nat)(r:Rd)(h:r.Inv)(hn:8*r.rem+8<=n):ab prog 232 [pR] (cA r) (fun v l=>v=rI (dL n 0 r).2/\l=cA (dL n 0 r).1):=by
 have:=(A8 n n jl).2.2 0 r jB h jB;refine aL func232 ntmps232 ?_;refine S ?_
 (repeat' (first|refine aq fun K hK=>?_|refine au ?_|(refine hK _ _ ?_;clear hK K)|(refine ap ?_ ?_<;>intro hc<;>try exact jz)|refine cm (this) ?_|refine ar ?_|exact jI|(clear hK K)))
 (refine bW [.tmp 2] ?_ ?_<;>(try simp only[go_sem]))
variable{r:Rd}
def qb(h:r.Inv):ab prog 232 [pR] (cA r) (fun v l=>v=rI (df r).2/\l=cA (df r).1):=NF _ r h jl
def GH(h:r.Inv):ab prog 255 [pR] (cA r) (fun v l=>v=rI (mD r).2/\l=cA (mD r).1):=by
 have h1:=(Rd.dq h).inv h;have h2:=(xO h).inv h;have h3:=(Cl h).inv h;have h4:=(Qa h).inv h;have Yv:(pc r).rem<=2000:=by have:=h2.pos;have:=h2.len;unfold Rd.rem;split<;>omega
 have hm:ab prog 145 [pR,rS (⟨#[40]⟩:TF)] (cA r.name.1) (fun v l=>v=.aP []/\l=cA (pc r)):=iP r.name.1 _ (bw h1);refine aL func255 ntmps255 ?_;refine S ?_
 (repeat' (first|refine aq fun K hK=>?_|refine au ?_|(refine hK _ _ ?_;clear hK K)|(refine ap ?_ ?_<;>intro hc<;>try exact jz)|refine cm (gY r (bw h)) ?_|refine cm (ux r (bw h)) ?_|refine cm (hm) ?_|refine cm (gx (pc r) _ (bw h2)) ?_|refine ar ?_|exact jI|(clear hK K)))
 have Tk:=hK;clear hK;refine jq (dO.nil 2 5 3 (sz:=1) rfl jC (Or.inr ⟨_,_,_,rfl,rfl⟩)) ?_
 (refine S ?_;try exact jI)
 refine eu (S:=Nat×Bool×Rd×TD) [(5,1),(7,2),(27,17)] (fun s=>s.2.2.1.Inv/\(s.2.1=true->s.2.2.1.rem+2<=s.1)/\1<=s.1/\s.2.2.2.length+s.1<=5000/\mX s.1 s.2.1 s.2.2.1 s.2.2.2=nN r) (fun s=>[(5,.rs 2 s.2.2.2.length 1 s.2.2.2.length),(7,rB s.2.1)]) (fun s=>⟨[0,1],cA s.2.2.1++[(2,.aF 3 1 (s.2.2.2.map eI))]⟩) (fun s=>s.1) ((pc r).rem+2,more (pc r),pc r,[]) ⟨h2,fun _=>Nat.le_refl _,jJ,by(try simp only[List.length_nil]);omega,rfl⟩ (eD rfl (by simp only[go_sem,kU,Nat.reduceAdd,AV.raw.injEq,Value.int.injEq,Value.slice.injEq,Value.pointer.injEq,AV.rs.injEq,more,List.length_nil];try omega)) ?_;rintro⟨n,b,q,L⟩ ⟨hq,Uf,Vs,Wg,hA⟩ Kr Tg;simp only at hq Uf Vs Wg hA;have hqi:=hq.lt;have hqp:=hq.pos;have XH:=hq.len;obtain⟨n,rfl⟩:∃k,n=k+1:=⟨n-1,jB⟩;cases b with
 |false=>
  rw[mX]at hA;have e1:q=(nN r).1:=by rw[<-hA]
  have e2:L=(nN r).2:=by rw[<-hA]
  rw[<-e1]at h4;refine S ?_
  (repeat' (first|refine aq fun K hK=>?_|refine au ?_|(refine hK _ _ ?_;clear hK K)|(refine ap ?_ ?_<;>intro hc<;>try exact jz)|refine ar ?_|exact jI|(clear hK K)))
  refine Tk _ _ ?_;refine Ip [2] 5 (aM eI 1 L) Sd Sd jh ?_;refine S ?_
  (repeat' (first|refine aq fun K hK=>?_|refine au ?_|(refine hK _ _ ?_;clear hK K)|(refine ap ?_ ?_<;>intro hc<;>try exact jz)|refine cm (iP q _ (bw hq)) ?_|refine cm (wK (q.ao (⟨#[41]⟩:TF)) _ _ _ _ L (bw h4)) ?_|refine ar ?_|exact jI|(clear hK K)))
  (refine bW [.tmp 2] ?_ ?_<;>(try simp only[go_sem]))
  ·unfold mD;rw[<-e1,<-e2]
  ·unfold mD;rw[<-e1,<-e2]
 |true=>
  have s1:=jU hq;have hx:=s1.inv hq;have Vy:=s1.rem;have hxi:=hx.lt;have hxp:=hx.pos;have XF:=hx.len;have Uf:=Uf rfl;rw[mX]at hA;refine S ?_
  (repeat' (first|refine aq fun K hK=>?_|refine au ?_|(refine hK _ _ ?_;clear hK K)|(refine ap ?_ ?_<;>intro hc<;>try exact jz)|refine cm (qb hq) ?_|refine cm (gx (df q).1 _ (bw hx)) ?_|refine ar ?_|exact jI|(clear hK K)))
  ·rw[if_pos hc]at hA;have hk:=Rd.aY hc;have WO:=Rd.dc hx hk;refine Tg _ _ (eJ (n,true,(df q).1.inc,L++[(df q).2]) ⟨(Rd.bs hx hk.2).1.inv hx,fun _=>jJ,jJ,by(try simp only[List.length_append,List.length_cons,List.length_nil]);omega,hA⟩ jJ (by simp only[go_sem,cA,io,List.map_append,List.map_cons,List.map_nil,List.cons_append,List.nil_append];(try rfl)) (by simp only[go_sem,kU,Nat.reduceAdd,AV.raw.injEq,Value.int.injEq,Value.slice.injEq,Value.pointer.injEq,AV.rs.injEq,hc,List.length_append,List.length_cons,List.length_nil];try omega))
  ·rw[if_neg (by rw[hc];decide)]at hA;refine Tg _ _ (eJ (n,false,(df q).1,L++[(df q).2]) ⟨hx,(by intro h;cases h),jJ,by(try simp only[List.length_append,List.length_cons,List.length_nil]);omega,?_⟩ jJ (by simp only[go_sem,cA,io,List.map_append,List.map_cons,List.map_nil,List.cons_append,List.nil_append];(try rfl)) (by simp only[go_sem,kU,Nat.reduceAdd,AV.raw.injEq,Value.int.injEq,Value.slice.injEq,Value.pointer.injEq,AV.rs.injEq,hc,List.length_append,List.length_cons,List.length_nil];try omega));rw[<-hA];obtain⟨n,rfl⟩:∃k,n=k+1:=⟨n-1,jB⟩;rw[mX]
def xc(h:r.Inv):ab prog 254 [pR] (cA r) (fun v l=>v=rB r.calls/\l=cA r):=KW r (bw h) (fun hk=>Rd.behind h (Rd.dF hk jC).2)
def FY(h:r.Inv):ab prog 231 [pR] (cA r) (fun v l=>v=rI (lH r).2/\l=cA (lH r).1):=by
 have hri:=h.lt;have hrp:=h.pos;have Vc:=h.len;have Vz:r.tok.kind≠0->r.inc.Inv:=fun hk=>(Rd.bs h hk).1.inv h
 by_cases hx:r.is (⟨#[105,110,112,117,116]⟩:TF)=true
 ·have hi:=Vz (Rd.aY hx).2;rw[lH,if_pos hx];refine aL func231 ntmps231 ?_;refine S ?_
  (have W:=hx;repeat' (first|refine aq fun K hK=>?_|refine au ?_|(refine hK _ _ ?_;clear hK K)|(refine ap ?_ ?_<;>intro hc<;>try exact jz)|refine cm (gY r (bw h)) ?_|refine cm (gx r _ (bw h)) ?_|refine cm (k6 r.inc _ _ _ _ [] _ gF.nil (bw hi)) ?_|refine ar ?_|exact jI|(clear hK K)))
  (refine bW [.tmp 2] ?_ ?_<;>(try simp only[go_sem]))
 rw[lH,if_neg hx];have TW:r.is (⟨#[105,110,112,117,116]⟩:TF)=false:=by simpa using hx
 by_cases hy:r.is (⟨#[110,101,119]⟩:TF)=true
 ·have hi:=Vz (Rd.aY hy).2;have h1:=(Rd.aJ hi (⟨#[40]⟩:TF)).inv hi;have h2:=(jU h1).inv h1;have h3:=(Rd.aJ h2 (⟨#[41]⟩:TF)).inv h2;rw[if_pos hy];refine aL func231 ntmps231 ?_;refine S ?_
  (have W:=jA TW hy;repeat' (first|refine aq fun K hK=>?_|refine au ?_|(refine hK _ _ ?_;clear hK K)|(refine ap ?_ ?_<;>intro hc<;>try exact jz)|refine cm (gY r (bw h)) ?_|refine cm (gx r _ (bw h)) ?_|refine cm (iP r.inc _ (bw hi)) ?_|refine cm (qb h1) ?_|refine cm (iP (df (r.inc.ao (⟨#[40]⟩:TF))).1 _ (bw h2)) ?_|refine cm (k6 ((df (r.inc.ao (⟨#[40]⟩:TF))).1.ao (⟨#[41]⟩:TF)) _ _ _ _ [(df (r.inc.ao (⟨#[40]⟩:TF))).2] _ gF.sl (bw h3)) ?_|refine ar ?_|exact jI|(clear hK K)))
  (refine bW [.tmp 2] ?_ ?_<;>(try simp only[go_sem]))
 rw[if_neg hy];have XX:r.is (⟨#[110,101,119]⟩:TF)=false:=by simpa using hy
 by_cases Tc:r.calls=true
 ·rw[if_pos Tc];refine aL func231 ntmps231 ?_;refine S ?_
  (have W:=jA TW (jA XX (Tc));repeat' (first|refine aq fun K hK=>?_|refine au ?_|(refine hK _ _ ?_;clear hK K)|(refine ap ?_ ?_<;>intro hc<;>try exact jz)|refine cm (gY r (bw h)) ?_|refine cm (gx r _ (bw h)) ?_|refine cm (xc h) ?_|refine cm (GH h) ?_|refine ar ?_|exact jI|(clear hK K)))
  (refine bW [.tmp 2] ?_ ?_<;>(try simp only[go_sem]))
 ·rw[if_neg Tc];have Uw:r.calls=false:=by simpa using Tc
  refine aL func231 ntmps231 ?_;refine S ?_
  (have W:=jA TW (jA XX (Uw));repeat' (first|refine aq fun K hK=>?_|refine au ?_|(refine hK _ _ ?_;clear hK K)|(refine ap ?_ ?_<;>intro hc<;>try exact jz)|refine cm (gY r (bw h)) ?_|refine cm (gx r _ (bw h)) ?_|refine cm (xc h) ?_|refine cm (qb h) ?_|refine ar ?_|exact jI|(clear hK K)))
  (refine bW [.tmp 2] ?_ ?_<;>(try simp only[go_sem]))
def LM(h:r.Inv)(he:r.e=0)(ln:Int):ab prog 233 [pR,rI ln] (cA r) (fun v l=>v=rI (pB r ln).2/\l=cA (pB r ln).1):=by
 have hri:=h.lt;have hrp:=h.pos;have Vc:=h.len;by_cases Tc:r.calls=true
 ·have h1:=(BH h Tc).1.inv h;have h2:=(Rd.aJ h1 (⟨#[59]⟩:TF)).inv h1;rw[pB,if_pos Tc];refine aL func233 ntmps233 ?_;refine S ?_
  (have W:=Tc;repeat' (first|refine aq fun K hK=>?_|refine au ?_|(refine hK _ _ ?_;clear hK K)|(refine ap ?_ ?_<;>intro hc<;>try exact jz)|refine cm (xc h) ?_|refine cm (GH h) ?_|refine cm (iP (mD r).1 _ (bw h1)) ?_|refine cm (k6 ((mD r).1.ao (⟨#[59]⟩:TF)) _ _ _ _ [(mD r).2] _ gF.sl (bw h2)) ?_|refine ar ?_|exact jI|(clear hK K)))
  (refine bW [.tmp 4] ?_ ?_<;>(try simp only[go_sem]))
 rw[pB,if_neg Tc];have Uw:r.calls=false:=by simpa using Tc
 have h0:=(Rd.dq h).inv h;by_cases hx:r.name.1.is (⟨#[91]⟩:TF)=true
 ·rw[if_pos hx];have d0:=(Rd.bJ h0 (Rd.aY hx).1).1;have d1:=(Rd.aJ d0 (⟨#[91]⟩:TF)).inv d0;have d2:=(jU d1).inv d1;have d3:=(Rd.aJ d2 (⟨#[93]⟩:TF)).inv d2;have d4:=(AI h0 hx).2.inv h0;have d5:=(y8 h0 hx).1.inv h0;have d6:=(y8 h0 hx).2.inv h0;have d7:=(Rd.aJ d6 (⟨#[59]⟩:TF)).inv d6;have d3l:=d3.o5;have d3h:=d3.pD;unfold vW o4 at*;refine aL func233 ntmps233 ?_;refine S ?_
  (have W:=jA Uw hx;repeat' (first|refine aq fun K hK=>?_|refine au ?_|(refine hK _ _ ?_;clear hK K)|(refine ap ?_ ?_<;>intro hc<;>try exact jz)|refine cm (xc h) ?_|refine cm (ux r (bw h)) ?_|refine cm (gx r.name.1 _ (bw h0)) ?_|refine cm (tu r.name.1 (bw h0)) ?_|refine cm (iP r.name.1.down _ (bw d0)) ?_|refine cm (qb d1) ?_|refine cm (iP (df (r.name.1.down.ao (⟨#[91]⟩:TF))).1 _ (bw d2)) ?_|refine cm (iP ((df (r.name.1.down.ao (⟨#[91]⟩:TF))).1.ao (⟨#[93]⟩:TF)).up _ (bw d4)) ?_|refine cm (qb d5) ?_|refine cm (iP (df (((df (r.name.1.down.ao (⟨#[91]⟩:TF))).1.ao (⟨#[93]⟩:TF)).up.ao (⟨#[61]⟩:TF))).1 _ (bw d6)) ?_|refine cm (k6 ((df (((df (r.name.1.down.ao (⟨#[91]⟩:TF))).1.ao (⟨#[93]⟩:TF)).up.ao (⟨#[61]⟩:TF))).1.ao (⟨#[59]⟩:TF)) _ _ _ _ [(df (r.name.1.down.ao (⟨#[91]⟩:TF))).2,(df (((df (r.name.1.down.ao (⟨#[91]⟩:TF))).1.ao (⟨#[93]⟩:TF)).up.ao (⟨#[61]⟩:TF))).2] _ gF.sl (bw d7)) ?_|refine ar ?_|exact jI|(clear hK K)))
  (refine bW [.tmp 4] ?_ ?_<;>(try simp only[go_sem]))
 ·rw[if_neg hx];have TW:r.name.1.is (⟨#[91]⟩:TF)=false:=by simpa using hx
  have d1:=(Rd.aJ h0 (⟨#[61]⟩:TF)).inv h0;have d2:=(yI d1).inv d1;have d3:=(Rd.aJ d2 (⟨#[59]⟩:TF)).inv d2;refine aL func233 ntmps233 ?_;refine S ?_
  (have W:=jA Uw (TW);repeat' (first|refine aq fun K hK=>?_|refine au ?_|(refine hK _ _ ?_;clear hK K)|(refine ap ?_ ?_<;>intro hc<;>try exact jz)|refine cm (xc h) ?_|refine cm (ux r (bw h)) ?_|refine cm (gx r.name.1 _ (bw h0)) ?_|refine cm (iP r.name.1 _ (bw h0)) ?_|refine cm (FY d1) ?_|refine cm (iP (lH (r.name.1.ao (⟨#[61]⟩:TF))).1 _ (bw d2)) ?_|refine cm (k6 ((lH (r.name.1.ao (⟨#[61]⟩:TF))).1.ao (⟨#[59]⟩:TF)) _ _ _ _ [(lH (r.name.1.ao (⟨#[61]⟩:TF))).2] _ gF.sl (bw d3)) ?_|refine ar ?_|exact jI|(clear hK K)))
  (refine bW [.tmp 4] ?_ ?_<;>(try simp only[go_sem]))
def Rg(w:TF):aB prog 193 [rS w] (rI (sj w)):=by
 refine bM func193 ntmps193 ?_
 (repeat' (first|refine aq fun K hK=>?_|refine au ?_|(refine hK _ _ ?_;clear hK K)|(refine ap ?_ ?_<;>intro hc<;>try exact jz)|refine ar ?_|exact jI|(clear hK K)))
 all_goals(refine bW [.tmp 2] ?_ ?_<;>(try simp only[go_sem]))
 all_goals unfold sj
 all_goals repeat' split
 all_goals first|rfl|(exfalso;simp_all;done)
def Df(h:r.Inv):ab prog 148 [pR] (cA r) (fun v l=>v=rI (iO r).2/\l=cA (iO r).1):=by
 have hri:=h.lt;have hrp:=h.pos;have Vc:=h.len;refine aL func148 ntmps148 ?_;refine S ?_
 (repeat' (first|refine aq fun K hK=>?_|refine au ?_|(refine hK _ _ ?_;clear hK K)|(refine ap ?_ ?_<;>intro hc<;>try exact jz)|refine cm (rp r (bw h)) ?_|refine cp (Rg r.word) ?_|refine cm (tX r _ (bw h)) ?_|refine ar ?_|exact jI|(clear hK K)))
 ·(refine bW [.tmp 2] ?_ ?_<;>(try simp only[go_sem]))
  ·simp only[iO,if_pos hc]
  ·simp only[iO,if_pos hc,go_sem]
 ·(refine bW [.tmp 2] ?_ ?_<;>(try simp only[go_sem]))
  ·simp only[iO,if_neg hc]
  ·simp only[iO,if_neg hc];rfl
def BE(n:Nat):Prop:=∀r:Rd,r.Inv->4*r.rem+1<=n->ab prog 149 [pR] (cA r) (fun v l=>v=rI (gb n r).2/\l=cA (gb n r).1)
def Ah(n:Nat):Prop:=∀r:Rd,r.Inv->r.e=0->4*r.rem+2<=n->ab prog 195 [pR] (cA r) (fun v l=>v=rI (nP n r).2/\l=cA (nP n r).1)
def OA(n:Nat)(hs:∀m,m<=n->Ah m):BE (n+1):=by
 intro r h hn;by_cases hx:r.is (⟨#[123]⟩:TF)=true
 ·have he:=(Rd.aY hx).1;have hd:=(Rd.bJ h he).1;have s1:=Rd.aJ hd (⟨#[123]⟩:TF);have h1:=s1.inv hd;have s2:=(sk n).2.1 _ [] h1;have h2:=s2.inv h1;have s3:=Rd.aJ h2 (⟨#[125]⟩:TF);have h3:=s3.inv h2;have h4:=(Rd.fx h he ((s1.trans s2).trans s3)).inv h;have h3l:=h3.o5;have h3h:=h3.pD;have hr:=(Rd.gJ h hx).1;have Yv:r.rem<=2000:=by
   have:=h.pos;have:=h.len;unfold Rd.rem;split<;>omega
  rw[gb,if_pos hx];refine aL func149 ntmps149 ?_;refine S ?_
  (have W:=hx;repeat' (first|refine aq fun K hK=>?_|refine au ?_|(refine hK _ _ ?_;clear hK K)|(refine ap ?_ ?_<;>intro hc<;>try exact jz)|refine cm (gY r (bw h)) ?_|refine cm (gx r _ (bw h)) ?_|refine cm (tu r (bw h)) ?_|refine cm (iP r.down _ (bw hd)) ?_|refine ar ?_|exact jI|(clear hK K)))
  have Tk:=hK;clear hK;refine jq (dO.nil 2 5 3 (sz:=1) rfl jC (Or.inr ⟨_,_,_,rfl,rfl⟩)) ?_
  (refine S ?_;try exact jI)
  refine eu (S:=Nat×Rd×TD) [(5,3),(21,14)] (fun s=>s.2.1.Inv/\4*s.2.1.rem+3<=s.1/\s.1<=n/\s.2.2.length+s.2.1.rem<=2000/\mM s.1 s.2.1 s.2.2=mM n (r.down.ao (⟨#[123]⟩:TF)) []) (fun s=>[(5,.rs 2 s.2.2.length 1 s.2.2.length)]) (fun s=>⟨[0,1],cA s.2.1++[(2,.aF 3 1 (s.2.2.map eI))]⟩) (fun s=>s.1) (n,r.down.ao (⟨#[123]⟩:TF),[]) ⟨h1,jJ,Nat.le_refl _,by(try simp only[List.length_nil]);omega,rfl⟩ (eD rfl cH) ?_;rintro⟨m,q,L⟩ ⟨hq,VM,Ve,UC,hA⟩ Kr Tg;simp only at hq VM Ve UC hA;have hqi:=hq.lt;have hqp:=hq.pos;have XH:=hq.len;obtain⟨m,rfl⟩:∃k,m=k+1:=⟨m-1,jB⟩;rw[mM]at hA;by_cases TP:q.e=0/\q.is (⟨#[125]⟩:TF)=false
  ·rw[if_pos TP]at hA;obtain⟨VN,Wd⟩:=TP;obtain⟨t1,t2⟩:=(sk m).2.2 q hq VN jB;have hj:=t1.inv hq;refine S ?_
   (have W:=jA VN Wd;repeat' (first|refine aq fun K hK=>?_|refine au ?_|(refine hK _ _ ?_;clear hK K)|(refine ap ?_ ?_<;>intro hc<;>try exact jz)|refine cm (gx q _ (bw hq)) ?_|refine cm (hs m jB q hq VN jB) ?_|refine ar ?_|exact jI|(clear hK K)))
   refine Tg _ _ (eJ (m,(nP m q).1,L++[(nP m q).2]) ⟨hj,jJ,jJ,by(try simp only[List.length_append,List.length_cons,List.length_nil]);omega,hA⟩ jJ (by simp only[go_sem,cA,io,List.map_append,List.map_cons,List.map_nil,List.cons_append,List.nil_append];(try rfl)) cH)
  ·rw[if_neg TP]at hA;have e1:q=(mM n (r.down.ao (⟨#[123]⟩:TF)) []).1:=by rw[<-hA]
   have e2:L=(mM n (r.down.ao (⟨#[123]⟩:TF)) []).2:=by rw[<-hA]
   rw[<-e1]at h3 h4 h3l h3h;refine S ?_
   (repeat' (first|refine aq fun K hK=>?_|refine au ?_|(refine hK _ _ ?_;clear hK K)|(refine ap ?_ ?_<;>intro hc<;>try exact jz)|refine cm (gx q _ (bw hq)) ?_|refine ar ?_|exact jI|(clear hK K)))
   all_goals first|(exact absurd ⟨by assumption,by assumption⟩ TP)|skip
   all_goals refine Tk _ _ ?_
   all_goals refine Ip [2] 5 (aM eI 1 L) Sd Sd jh ?_
   all_goals(
    refine S ?_
    (repeat' (first|refine aq fun K hK=>?_|refine au ?_|(refine hK _ _ ?_;clear hK K)|(refine ap ?_ ?_<;>intro hc<;>try exact jz)|refine cm (iP q _ (bw hq)) ?_|refine cm (wK (q.ao (⟨#[125]⟩:TF)).up _ _ _ _ L (bw h4)) ?_|refine ar ?_|exact jI|(clear hK K)))
    (refine bW [.tmp 2] ?_ ?_<;>(try simp only[go_sem]))
    all_goals simp only[<-e1,<-e2])
 ·rw[gb,if_neg hx];have TW:r.is (⟨#[123]⟩:TF)=false:=by simpa using hx
  refine aL func149 ntmps149 ?_;refine S ?_
  (have W:=TW;repeat' (first|refine aq fun K hK=>?_|refine au ?_|(refine hK _ _ ?_;clear hK K)|(refine ap ?_ ?_<;>intro hc<;>try exact jz)|refine cm (gY r (bw h)) ?_|refine cm (gx r _ (bw h)) ?_|refine cm (tX r _ (bw h)) ?_|refine ar ?_|exact jI|(clear hK K)))
  (refine bW [.tmp 2] ?_ ?_<;>(try simp only[go_sem]))
def RW(n:Nat)(hb:BE n):Ah (n+1):=by
 intro r h he hn;have hri:=h.lt;have hrp:=h.pos;have Vc:=h.len;have word:∀w:TF,w≠⟨#[]⟩->r.word=w->r.inc.Inv/\r.inc.rem+1<=r.rem:=fun w h0 hw=>by have hk:=Rd.dF (Rd.gG hw h0) jC;exact⟨(Rd.bs h hk.2).1.inv h,Rd.dc h hk⟩
 rw[nP];by_cases w1:r.word=(⟨#[108,101,116]⟩:TF)
 ·rw[if_pos w1];have w1':=eq_true w1;obtain⟨hi,hr⟩:=word _ jC w1;have h1:=(Rd.dq hi).inv hi;have h2:=(Rd.aJ h1 (⟨#[61]⟩:TF)).inv h1;have h3:=(yI h2).inv h2;have h4:=(Rd.aJ h3 (⟨#[59]⟩:TF)).inv h3;refine aL func195 ntmps195 ?_;refine S ?_
  (have W:=w1';repeat' (first|refine aq fun K hK=>?_|refine au ?_|(refine hK _ _ ?_;clear hK K)|(refine ap ?_ ?_<;>intro hc<;>try exact jz)|refine cm (gY r (bw h)) ?_|refine cm (rp r (bw h)) ?_|refine cm (ux r.inc (bw hi)) ?_|refine cm (iP r.inc.name.1 _ (bw h1)) ?_|refine cm (FY h2) ?_|refine cm (iP (lH (r.inc.name.1.ao (⟨#[61]⟩:TF))).1 _ (bw h3)) ?_|refine cm (k6 ((lH (r.inc.name.1.ao (⟨#[61]⟩:TF))).1.ao (⟨#[59]⟩:TF)) _ _ _ _ [(lH (r.inc.name.1.ao (⟨#[61]⟩:TF))).2] _ gF.sl (bw h4)) ?_|refine ar ?_|exact jI|(clear hK K)))
  (refine bW [.tmp 2] ?_ ?_<;>(try simp only[go_sem]))
 rw[if_neg w1];by_cases w2:r.word=(⟨#[112,114,105,110,116]⟩:TF)
 ·rw[if_pos w2];have w2':=eq_true w2;obtain⟨hi,hr⟩:=word _ jC w2;have h1:=(jU hi).inv hi;have h2:=(Rd.aJ h1 (⟨#[59]⟩:TF)).inv h1;refine aL func195 ntmps195 ?_;refine S ?_
  (have W:=jA w1 (w2');repeat' (first|refine aq fun K hK=>?_|refine au ?_|(refine hK _ _ ?_;clear hK K)|(refine ap ?_ ?_<;>intro hc<;>try exact jz)|refine cm (gY r (bw h)) ?_|refine cm (rp r (bw h)) ?_|refine cm (qb hi) ?_|refine cm (iP (df r.inc).1 _ (bw h1)) ?_|refine cm (k6 ((df r.inc).1.ao (⟨#[59]⟩:TF)) _ _ _ _ [(df r.inc).2] _ gF.sl (bw h2)) ?_|refine ar ?_|exact jI|(clear hK K)))
  (refine bW [.tmp 2] ?_ ?_<;>(try simp only[go_sem]))
 rw[if_neg w2];by_cases w3:r.word=(⟨#[119,104,105,108,101]⟩:TF)
 ·rw[if_pos w3];have w3':=eq_true w3;obtain⟨hi,hr⟩:=word _ jC w3;have h1:=(jU hi).inv hi;have Vy:=(jU hi).rem;have h2:=((sk n).1 _ h1).inv h1;refine aL func195 ntmps195 ?_;refine S ?_
  (have W:=jA w1 (jA w2 (w3'));repeat' (first|refine aq fun K hK=>?_|refine au ?_|(refine hK _ _ ?_;clear hK K)|(refine ap ?_ ?_<;>intro hc<;>try exact jz)|refine cm (gY r (bw h)) ?_|refine cm (rp r (bw h)) ?_|refine cm (qb hi) ?_|refine cm (hb _ h1 jB) ?_|refine cm (k6 (gb n (df r.inc).1).1 _ _ _ _ [(df r.inc).2,(gb n (df r.inc).1).2] _ gF.sl (bw h2)) ?_|refine ar ?_|exact jI|(clear hK K)))
  (refine bW [.tmp 2] ?_ ?_<;>(try simp only[go_sem]))
 rw[if_neg w3];by_cases w4:r.word=(⟨#[105,102]⟩:TF)
 ·rw[if_pos w4];have w4':=eq_true w4;obtain⟨hi,hr⟩:=word _ jC w4;have h1:=(jU hi).inv hi;have Vy:=(jU hi).rem;have s2:=(sk n).1 _ h1;have h2:=s2.inv h1;have WO:=s2.rem;have h2i:=h2.lt;have h2p:=h2.pos;have h2l:=h2.len;by_cases hx:(gb n (df r.inc).1).1.is (⟨#[101,108,115,101]⟩:TF)=true
  ·rw[if_pos hx];have hk:=Rd.aY hx;have h3:=(Rd.bs h2 hk.2).1.inv h2;have hr3:=Rd.dc h2 hk;have h4:=((sk n).1 _ h3).inv h3;refine aL func195 ntmps195 ?_;refine S ?_
   (have W:=jA w1 (jA w2 (jA w3 (jA w4' (hx))));repeat' (first|refine EM (id:=31) [2] [(13,135)] [(12,aM eI 1 [(df r.inc).2,(gb n (df r.inc).1).2,(gb n (gb n (df r.inc).1).1.inc).2])] ?_|refine aq fun K hK=>?_|refine au ?_|(refine hK _ _ ?_;clear hK K)|(refine ap ?_ ?_<;>intro hc<;>try exact jz)|refine cm (gY r (bw h)) ?_|refine cm (rp r (bw h)) ?_|refine cm (qb hi) ?_|refine cm (hb _ h1 jB) ?_|refine cm (gx (gb n (df r.inc).1).1 _ (bw h2)) ?_|refine cm (hb _ h3 jB) ?_|refine cm (wK (gb n (gb n (df r.inc).1).1.inc).1 _ _ _ _ [(df r.inc).2,(gb n (df r.inc).1).2,(gb n (gb n (df r.inc).1).1.inc).2] (bw h4)) ?_|refine ar ?_|exact jI|(clear hK K)))
   (refine bW [.tmp 2] ?_ ?_<;>(try simp only[go_sem]))
  ·rw[if_neg hx];have TW:(gb n (df r.inc).1).1.is (⟨#[101,108,115,101]⟩:TF)=false:=by simpa using hx
   refine aL func195 ntmps195 ?_;refine S ?_
   (have W:=jA w1 (jA w2 (jA w3 (jA w4' (TW))));repeat' (first|refine aq fun K hK=>?_|refine au ?_|(refine hK _ _ ?_;clear hK K)|(refine ap ?_ ?_<;>intro hc<;>try exact jz)|refine cm (gY r (bw h)) ?_|refine cm (rp r (bw h)) ?_|refine cm (qb hi) ?_|refine cm (hb _ h1 jB) ?_|refine cm (gx (gb n (df r.inc).1).1 _ (bw h2)) ?_|refine cm (k6 (gb n (df r.inc).1).1 _ _ _ _ [(df r.inc).2,(gb n (df r.inc).1).2] _ gF.sl (bw h2)) ?_|refine ar ?_|exact jI|(clear hK K)))
   (refine bW [.tmp 2] ?_ ?_<;>(try simp only[go_sem]))
 rw[if_neg w4];by_cases w5:r.word=(⟨#[114,101,116,117,114,110]⟩:TF)
 ·rw[if_pos w5];have w5':=eq_true w5;obtain⟨hi,hr⟩:=word _ jC w5;by_cases hx:r.inc.is (⟨#[59]⟩:TF)=true
  ·rw[if_pos hx];have h1:=(Rd.aJ hi (⟨#[59]⟩:TF)).inv hi;refine aL func195 ntmps195 ?_;refine S ?_
   (have W:=jA w1 (jA w2 (jA w3 (jA w4 (jA w5' (hx)))));repeat' (first|refine aq fun K hK=>?_|refine au ?_|(refine hK _ _ ?_;clear hK K)|(refine ap ?_ ?_<;>intro hc<;>try exact jz)|refine cm (gY r (bw h)) ?_|refine cm (rp r (bw h)) ?_|refine cm (gx r.inc _ (bw hi)) ?_|refine cm (iP r.inc _ (bw hi)) ?_|refine cm (k6 (r.inc.ao (⟨#[59]⟩:TF)) _ _ _ _ [] _ gF.sl (bw h1)) ?_|refine ar ?_|exact jI|(clear hK K)))
   (refine bW [.tmp 2] ?_ ?_<;>(try simp only[go_sem]))
  ·rw[if_neg hx];have TW:r.inc.is (⟨#[59]⟩:TF)=false:=by simpa using hx
   have h1:=(jU hi).inv hi;have h2:=(Rd.aJ h1 (⟨#[59]⟩:TF)).inv h1;refine aL func195 ntmps195 ?_;refine S ?_
   (have W:=jA w1 (jA w2 (jA w3 (jA w4 (jA w5' (TW)))));repeat' (first|refine EM (id:=40) [2] [(16,132)] [(15,aM eI 1 [(df r.inc).2])] ?_|refine aq fun K hK=>?_|refine au ?_|(refine hK _ _ ?_;clear hK K)|(refine ap ?_ ?_<;>intro hc<;>try exact jz)|refine cm (gY r (bw h)) ?_|refine cm (rp r (bw h)) ?_|refine cm (gx r.inc _ (bw hi)) ?_|refine cm (qb hi) ?_|refine cm (iP (df r.inc).1 _ (bw h1)) ?_|refine cm (wK ((df r.inc).1.ao (⟨#[59]⟩:TF)) _ _ _ _ [(df r.inc).2] (bw h2)) ?_|refine ar ?_|exact jI|(clear hK K)))
   (refine bW [.tmp 2] ?_ ?_<;>(try simp only[go_sem]))
 rw[if_neg w5];refine aL func195 ntmps195 ?_;refine S ?_
 (have W:=jA w1 (jA w2 (jA w3 (jA w4 (w5))));repeat' (first|refine aq fun K hK=>?_|refine au ?_|(refine hK _ _ ?_;clear hK K)|(refine ap ?_ ?_<;>intro hc<;>try exact jz)|refine cm (gY r (bw h)) ?_|refine cm (rp r (bw h)) ?_|refine cm (LM h he r.cO) ?_|refine ar ?_|exact jI|(clear hK K)))
 (refine bW [.tmp 2] ?_ ?_<;>(try simp only[go_sem]))
theorem FP:∀m n,n<=m->BE n/\Ah n
 |0,0,_=>⟨fun r h hn=>by omega,fun r h he hn=>by omega⟩
 |m+1,0,_=>⟨fun r h hn=>jB,fun r h he hn=>jB⟩
 |m+1,n+1,hm=>by
  have ih:=fun k (hk:k<=n)=>FP m k jB
  exact⟨OA n fun k hk=>(ih k hk).2,RW n (ih n jl).1⟩
def Jl(h:r.Inv):ab prog 149 [pR] (cA r) (fun v l=>v=rI (oH r).2/\l=cA (oH r).1):=(FP _ _ jl).1 r h jB
def Q0(h:r.Inv):ab prog 103 [pR] (cA r) (fun v l=>v=.agg (fX (mI r).2)/\l=cA (mI r).1):=by
 have h1:=(qu h).1.inv h;have h2:=(qu h).2.1.inv h;have h3:=(qu h).2.2.1.inv h;have h4:=(AY h).inv h1;have h5:=(yE h).inv h1;have h6:=(yT h).inv h1;have h7:=(B4 h6).inv h6;have Yv:(np r).rem<=2000:=by have:=h3.pos;have:=h3.len;unfold Rd.rem;split<;>omega
 have hm:ab prog 145 [pR,rS (⟨#[40]⟩:TF)] (cA (r.ao (⟨#[102,110]⟩:TF)).name.1) (fun v l=>v=.aP []/\l=cA (np r)):=iP (r.ao (⟨#[102,110]⟩:TF)).name.1 _ (bw h2);refine aL func103 ntmps103 ?_;refine S ?_
 (repeat' (first|refine aq fun K hK=>?_|refine au ?_|(refine hK _ _ ?_;clear hK K)|(refine ap ?_ ?_<;>intro hc<;>try exact jz)|refine cm (gY r (bw h)) ?_|refine cm (hm) ?_|refine cm (iP r _ (bw h)) ?_|refine cm (ux (r.ao (⟨#[102,110]⟩:TF)) (bw h1)) ?_|refine cm (gx (np r) _ (bw h3)) ?_|refine ar ?_|exact jI|(clear hK K)))
 have Tk:=hK;clear hK;refine jq (dO.gg 4 3 2 254 2 rfl jC rfl rfl) ?_
 (refine S ?_;try exact jI)
 refine eu (S:=Nat×Bool×Rd×List bK) [(5,3),(30,23)] (fun s=>s.2.2.1.Inv/\(s.2.1=true->s.2.2.1.rem+2<=s.1)/\1<=s.1/\s.2.2.2.length+s.1<=5000/\mo s.1 s.2.1 s.2.2.1 s.2.2.2=sd r) (fun s=>[(5,rB s.2.1)]) (fun s=>⟨[0,1],cA s.2.2.1++[(2,.var 181 [rS ⟨#[]⟩,rI 0,.raw (.slice none 0 0),rI 0,rI 0]),(3,.var 181 [rS (r.ao (⟨#[102,110]⟩:TF)).name.2,rI r.cO,.rs 4 s.2.2.2.length 2 s.2.2.2.length,rI 0,rI 0]),(4,.aF 254 2 (s.2.2.2.map mF))]⟩) (fun s=>s.1) ((np r).rem+2,more (np r),np r,[]) ⟨h3,fun _=>Nat.le_refl _,jJ,by(try simp only[List.length_nil]);omega,rfl⟩ (eD rfl (by simp only[go_sem,kU,Nat.reduceAdd,AV.raw.injEq,Value.int.injEq,Value.slice.injEq,Value.pointer.injEq,AV.rs.injEq,more,List.length_nil];try omega)) ?_;rintro⟨n,b,q,L⟩ ⟨hq,Uf,Vs,Wg,hA⟩ Kr Tg;simp only at hq Uf Vs Wg hA;have hqi:=hq.lt;have hqp:=hq.pos;have XH:=hq.len;obtain⟨n,rfl⟩:∃k,n=k+1:=⟨n-1,jB⟩;cases b with
 |false=>
  rw[mo]at hA;have e1:q=(sd r).1:=by rw[<-hA]
  have e2:L=(sd r).2:=by rw[<-hA]
  have hmm:ab prog 145 [pR,rS (⟨#[41]⟩:TF)] (cA q) (fun v l=>v=.aP []/\l=cA (lB r)):=by rw[e1];exact iP (sd r).1 _ (bw h4)
  by_cases hx:(lB r).is (⟨#[123]⟩:TF)=true
  ·have ed:l8 r=(lB r,0):=by unfold l8;rw[if_pos hx]
   have ef:mI r=((oH (lB r)).1,⟨(r.ao (⟨#[102,110]⟩:TF)).name.2,r.cO,L,0,(oH (lB r)).2⟩):=by unfold mI;rw[ed,<-e2]
   rw[ef]at Tk;refine S ?_
   (have W:=hx;repeat' (first|refine aq fun K hK=>?_|refine au ?_|(refine hK _ _ ?_;clear hK K)|(refine ap ?_ ?_<;>intro hc<;>try exact jz)|refine Tk _ _ ?_|refine cm (hmm) ?_|refine cm (gx (lB r) _ (bw h5)) ?_|refine cm (Jl h5) ?_|refine ar ?_|exact jI|(clear hK K)))
   refine fC [.cell 2 181] ?_;refine bt.agg (ds:=[rS _,rI _,aM mF 2 L,rI _,rI _]) ?_;exact jA (.same _ rfl) (jA (.same _ rfl) (jA (cW.row (enc:=mF) L rfl rfl jE) (jA (.same _ rfl) (jA (.same _ rfl) trivial))))
  ·have TW:(lB r).is (⟨#[123]⟩:TF)=false:=by simpa using hx
   have ed:l8 r=iO (lB r):=by unfold l8;rw[if_neg hx]
   rw[ed]at h6;have ef:mI r=((oH (iO (lB r)).1).1,⟨(r.ao (⟨#[102,110]⟩:TF)).name.2,r.cO,L,(iO (lB r)).2,(oH (iO (lB r)).1).2⟩):=by unfold mI;rw[ed,<-e2]
   rw[ef]at Tk;refine S ?_
   (have W:=TW;repeat' (first|refine aq fun K hK=>?_|refine au ?_|(refine hK _ _ ?_;clear hK K)|(refine ap ?_ ?_<;>intro hc<;>try exact jz)|refine Tk _ _ ?_|refine cm (hmm) ?_|refine cm (gx (lB r) _ (bw h5)) ?_|refine cm (Df h5) ?_|refine cm (Jl h6) ?_|refine ar ?_|exact jI|(clear hK K)))
   refine fC [.cell 2 181] ?_;refine bt.agg (ds:=[rS _,rI _,aM mF 2 L,rI _,rI _]) ?_;exact jA (.same _ rfl) (jA (.same _ rfl) (jA (cW.row (enc:=mF) L rfl rfl jE) (jA (.same _ rfl) (jA (.same _ rfl) trivial))))
 |true=>
  have s1:=I2 hq;have hx:=s1.inv hq;have Vy:=s1.rem;have hxi:=hx.lt;have hxp:=hx.pos;have XF:=hx.len;have Uf:=Uf rfl;have Wj:=(Rd.dq hq).inv hq;have VX:ab prog 148 [pR] (cA q.name.1) (fun v l=>v=rI (iO q.name.1).2/\l=cA (pE q)):=Df Wj;rw[mo]at hA;refine S ?_
  (repeat' (first|refine aq fun K hK=>?_|refine au ?_|(refine hK _ _ ?_;clear hK K)|(refine ap ?_ ?_<;>intro hc<;>try exact jz)|refine cm (ux q (bw hq)) ?_|refine cm (VX) ?_|refine cm (gx (pE q) _ (bw hx)) ?_|refine ar ?_|exact jI|(clear hK K)))
  ·rw[if_pos hc]at hA;have hk:=Rd.aY hc;have WO:=Rd.dc hx hk;refine Tg _ _ (eJ (n,true,(pE q).inc,L++[⟨q.name.2,(iO q.name.1).2⟩]) ⟨(Rd.bs hx hk.2).1.inv hx,fun _=>jJ,jJ,by(try simp only[List.length_append,List.length_cons,List.length_nil]);omega,hA⟩ jJ (by simp only[go_sem,cA,io,List.map_append,List.map_cons,List.map_nil,List.cons_append,List.nil_append,List.length_append,List.length_cons,List.length_nil,Nat.reduceAdd];(try rfl)) (by simp only[go_sem,kU,Nat.reduceAdd,AV.raw.injEq,Value.int.injEq,Value.slice.injEq,Value.pointer.injEq,AV.rs.injEq,hc,List.length_append,List.length_cons,List.length_nil];try omega))
  ·rw[if_neg (by rw[hc];decide)]at hA;refine Tg _ _ (eJ (n,false,pE q,L++[⟨q.name.2,(iO q.name.1).2⟩]) ⟨hx,(by intro h;cases h),jJ,by(try simp only[List.length_append,List.length_cons,List.length_nil]);omega,?_⟩ jJ (by simp only[go_sem,cA,io,List.map_append,List.map_cons,List.map_nil,List.cons_append,List.nil_append,List.length_append,List.length_cons,List.length_nil,Nat.reduceAdd];(try rfl)) (by simp only[go_sem,kU,Nat.reduceAdd,AV.raw.injEq,Value.int.injEq,Value.slice.injEq,Value.pointer.injEq,AV.rs.injEq,hc,List.length_append,List.length_cons,List.length_nil];try omega));rw[<-hA];obtain⟨n,rfl⟩:∃k,n=k+1:=⟨n-1,jB⟩;rw[mo]
def S1{α:Type}[Inhabited α](p:α->Bool)(l:List α){k:Nat}(h:k<l.length):(l.take (k+1)).any p=((l.take k).any p || p (nth l k)):=by rw[List.take_succ_eq_append_getElem h,List.any_append,fJ h];simp
def tf(t:List br)(L:List bh)(k:Nat):Bool:=decide (300<(t.length:Int)) || decide (6<(L.length:Int)) || (L.take k).any fun f=>decide (3<(f.params.length:Int))
def Qw(t:List br)(L:List bh){k:Nat}(h:k<L.length):tf t L (k+1)=(tf t L k || decide (3<((nth L k).params.length:Int))):=by unfold tf;rw[S1 _ _ h];simp only[Bool.or_assoc]
def LS(t:List br)(L:List bh){k:Nat}(h:L.length<=k):tf t L k=tY t L:=by
 unfold tf tY;rw[List.take_of_length_le h];have e1:∀n:Nat,decide (300<(n:Int))=decide (300<n):=fun n=>decide_eq_decide.2 jB
 have e2:∀n:Nat,decide (6<(n:Int))=decide (6<n):=fun n=>decide_eq_decide.2 jB
 have e3:∀n:Nat,decide (3<(n:Int))=decide (3<n):=fun n=>decide_eq_decide.2 jB
 simp only[e1,e2,e3]
def JS(s:TF)(hs:s.size<=1000000):aB prog 52 [rS s] (.aP [.agg (lr (gP s).1),rI (gP s).2.1,rI (gP s).2.2]):=by
 by_cases he:(kK s).2.2=0
 ·have hi:=H7 he;have Yv:(oj s).rem<=2000:=by
   have:=hi.pos;have:=hi.len;unfold Rd.rem;split<;>omega
  refine bM func52 ntmps52 ?_
  (have W:=he;repeat' (first|refine aq fun K hK=>?_|refine au ?_|(refine hK _ _ ?_;clear hK K)|(refine ap ?_ ?_<;>intro hc<;>try exact jz)|refine cp (D8 s hs) ?_|(refine yH (t:=30) 10 (by simp only[go_sem];rfl) rfl ?_;refine S ?_)|(refine zE 0 jD rfl ?_;refine S ?_)|refine ar ?_|exact jI|(clear hK K)))
  have Tk:=hK;clear hK;refine jq (dO.gg 1 0 3 116 5 rfl jC rfl rfl) ?_
  (refine S ?_;try exact jI)
  refine jq (dO.gg 12 11 1 181 5 rfl jC rfl rfl) ?_
  (refine S ?_;try exact jI)
  refine eu (S:=Nat×Rd×List bh) [(10,2),(30,16)] (fun p=>p.2.1.Inv/\p.2.1.rem+1<=p.1/\p.2.2.length+p.1<=5000/\qt p.1 p.2.1 p.2.2=nL s) (fun _=>[]) (fun p=>⟨[],[(10,.var 30 [.raw (.slice none 0 0),.raw (.slice none 0 0)]),(0,.var 177 (io p.2.1)),(11,.var 30 [.raw (.slice none 0 0),.rs 12 p.2.2.length 5 p.2.2.length]),(1,.aF 116 5 (p.2.1.nodes.map eF)),(12,.aF 181 5 (p.2.2.map fX))]⟩) (fun p=>p.1) ((oj s).rem+1,oj s,[]) ⟨hi,Nat.le_refl _,by(try simp only[List.length_nil]);omega,rfl⟩ (eD rfl cH) ?_;rintro⟨n,q,L⟩ ⟨hq,Uf,Vs,hA⟩ Kr Tg;simp only at hq Uf Vs hA;have hqi:=hq.lt;have hqp:=hq.pos;have XH:=hq.len;obtain⟨n,rfl⟩:∃k,n=k+1:=⟨n-1,jB⟩;rw[qt]at hA;by_cases TP:q.e=0/\q.kind 0=false
  ·rw[if_pos TP]at hA;obtain⟨VN,Wd⟩:=TP;obtain⟨t1,t2⟩:=Jj hq;have t2:=t2 VN;have hj:=t1.inv hq;refine S ?_
   (have W:=jA VN Wd;repeat' (first|refine aq fun K hK=>?_|refine au ?_|(refine hK _ _ ?_;clear hK K)|(refine ap ?_ ?_<;>intro hc<;>try exact jz)|refine cm (wS q _ (bw hq)) ?_|refine cm (Q0 hq) ?_|refine ar ?_|exact jI|(clear hK K)))
   refine Tg _ _ (pg [13] (n,(mI q).1,L++[(mI q).2]) ⟨hj,jJ,by(try simp only[List.length_append,List.length_cons,List.length_nil]);omega,hA⟩ jJ rfl Sd (by simp only[go_sem,io,List.map_append,List.map_cons,List.map_nil,List.length_append,List.length_cons,List.length_nil,Nat.reduceAdd];(try rfl)) jh)
  ·rw[if_neg TP]at hA;have e1:q=(nL s).1:=by rw[<-hA]
   have e2:L=(nL s).2:=by rw[<-hA]
   refine S ?_
   (repeat' (first|refine aq fun K hK=>?_|refine au ?_|(refine hK _ _ ?_;clear hK K)|(refine ap ?_ ?_<;>intro hc<;>try exact jz)|refine cm (wS q _ (bw hq)) ?_|refine ar ?_|exact jI|(clear hK K)))
   all_goals first|(exact absurd ⟨by assumption,by assumption⟩ TP)|skip
   ·have VN:q.e=0:=by assumption
    have hee:¬(nL s).1.e≠0:=by rw[<-e1];simp[VN]
    refine Tk _ _ ?_;clear Tk
    (have W:=VN;repeat' (first|refine aq fun K hK=>?_|refine au ?_|(refine hK _ _ ?_;clear hK K)|(refine ap ?_ ?_<;>intro hc<;>try exact jz)|refine ar ?_|exact jI|(clear hK K)))
    have Tk:=hK;clear hK;refine eu (S:=Nat) [(12,2),(75,18)] (fun k=>k<=L.length) (fun k=>[(12,rB (tf q.nodes L k)),(13,rI k)]) (fun _=>⟨[],[(10,.var 30 [.raw (.slice none 0 0),.raw (.slice none 0 0)]),(0,.var 177 (io q)),(11,.var 30 [.rs 1 q.nodes.length 5 q.nodes.length,.rs 12 L.length 5 L.length]),(1,.aF 116 5 (q.nodes.map eF)),(12,.aF 181 5 (L.map fX))]⟩) (fun k=>L.length-k) 0 (Nat.zero_le _) (eD (by simp only[io,VN]) (by simp only[go_sem,kU,Nat.reduceAdd,AV.raw.injEq,Value.int.injEq,Value.slice.injEq,Value.pointer.injEq,AV.rs.injEq,tf,List.take_zero,List.any_nil,Bool.or_false];try omega)) ?_;intro k hk Kr Tg;refine S ?_
    (repeat' (first|refine aq fun K hK=>?_|refine au ?_|(refine hK _ _ ?_;clear hK K)|(refine ap ?_ ?_<;>intro hc<;>try exact jz)|refine ar ?_|exact jI|(clear hK K)))
    ·have UU:k<L.length:=jB;refine Tg _ _ (eJ (k+1) jJ jJ (by simp only[io,VN]) (by simp only[go_sem,kU,Nat.reduceAdd,AV.raw.injEq,Value.int.injEq,Value.slice.injEq,Value.pointer.injEq,AV.rs.injEq,Qw _ _ UU];try omega))
    ·have hbu:tf q.nodes L k=tY q.nodes L:=LS _ _ jB;by_cases U2:tY q.nodes L=true
     ·have ep:gP s=(⟨[],[]⟩,0,4):=by unfold gP;rw[if_neg (by simp[he]),if_neg hee,<-e1,<-e2,if_pos U2]
      rw[ep]at Tk;refine Tk _ _ ?_
      (have W:=jA hbu U2;repeat' (first|refine aq fun K hK=>?_|refine au ?_|(refine hK _ _ ?_;clear hK K)|(refine ap ?_ ?_<;>intro hc<;>try exact jz)|refine ar ?_|exact jI|(clear hK K)))
      refine fC [.cell 2 30,.tmp 3,.tmp 4] ?_;refine bt.aP (ds:=[.agg (lr ⟨[],[]⟩),rI _,rI _]) ?_;exact jA (bt.agg (ds:=[aM eF 5 [],aM fX 5 []]) (jA (cW.nil _ _) (jA (cW.nil _ _) trivial))) (jA (.same _ rfl) (jA (.same _ rfl) trivial))
     ·have hbf:tY q.nodes L=false:=by simpa using U2
      have ep:gP s=(⟨q.nodes,L⟩,0,0):=by unfold gP;rw[if_neg (by simp[he]),if_neg hee,<-e1,<-e2,if_neg U2]
      rw[ep]at Tk;refine Tk _ _ ?_
      (have W:=jA hbu hbf;repeat' (first|refine aq fun K hK=>?_|refine au ?_|(refine hK _ _ ?_;clear hK K)|(refine ap ?_ ?_<;>intro hc<;>try exact jz)|refine ar ?_|exact jI|(clear hK K)))
      refine fC [.cell 2 30,.tmp 3,.tmp 4] ?_;refine bt.aP (ds:=[.agg (lr ⟨q.nodes,L⟩),rI _,rI _]) ?_;exact jA (bt.agg (ds:=[aM eF 5 q.nodes,aM fX 5 L]) (jA (cW.row (enc:=eF) q.nodes rfl rfl jE) (jA (cW.row (enc:=fX) L rfl rfl jE) trivial))) (jA (.same _ rfl) (jA (.same _ rfl) trivial))
   ·have VN:¬q.e=0:=by assumption
    have ep:gP s=(⟨[],[]⟩,q.at_,q.e):=by unfold gP;rw[if_neg (by simp[he]),<-e1,if_pos VN]
    rw[ep]at Tk;refine Tk _ _ ?_
    (have W:=VN;repeat' (first|refine aq fun K hK=>?_|refine au ?_|(with_reducible refine gR 12 ?_);refine dA 12 [10] (bc 0 12) mixed ?_|(refine hK _ _ ?_;clear hK K)|(refine ap ?_ ?_<;>intro hc<;>try exact jz)|refine ar ?_|exact jI|(clear hK K)))
    refine fC [.cell 2 30,.tmp 3,.tmp 4] ?_;refine bt.aP (ds:=[.agg (lr ⟨[],[]⟩),rI _,rI _]) ?_;exact jA (bt.agg (ds:=[aM eF 5 [],aM fX 5 []]) (jA (cW.nil _ _) (jA (cW.nil _ _) trivial))) (jA (.same _ rfl) (jA (.same _ rfl) trivial))
 ·have ep:gP s=(⟨[],[]⟩,(kK s).2.1,(kK s).2.2):=by unfold gP;rw[if_pos he]
  rw[ep];refine bM func52 ntmps52 ?_
  (have W:=he;repeat' (first|refine aq fun K hK=>?_|refine au ?_|(refine hK _ _ ?_;clear hK K)|(refine ap ?_ ?_<;>intro hc<;>try exact jz)|refine cp (D8 s hs) ?_|refine ar ?_|exact jI|(clear hK K)))
  refine fC [.cell 2 30,.tmp 3,.tmp 4] ?_;refine bt.aP (ds:=[.agg (lr ⟨[],[]⟩),rI _,rI _]) ?_;exact jA (bt.agg (ds:=[aM eF 5 [],aM fX 5 []]) (jA (cW.nil _ _) (jA (cW.nil _ _) trivial))) (jA (.same _ rfl) (jA (.same _ rfl) trivial))
def u0(c:Ck):TB:=[aM eF 5 c.aa.nodes,aM fX 5 c.aa.av,.rs 1 c.types.length 1 c.types.length,.rs 2 c.slots.length 1 c.slots.length,.rs 3 c.av.length 1 c.av.length,.rs 4 c.aO.length 1 c.aO.length,rI c.fn,.rs 5 (c.vars.length+c.more.length) 3 c.vars.length,rI c.size,rI c.e,rI c.at_]
def fI(c:Ck):TA:=[(0,.var 186 (u0 c)),(1,.aF 3 1 (c.types.map eI)),(2,.aF 3 1 (c.slots.map eI)),(3,.aF 3 1 (c.av.map eI)),(4,.aF 3 1 (c.aO.map eI)),(5,.aF 258 3 ((c.vars++c.more).map kY))]
attribute [go_sem] fI u0 Ck.slot Ck.note Ck.ai
structure bE(c:Ck):Prop where
 aa:aQ c.aa
 types:c.types.length=c.aa.nodes.length
 slots:c.slots.length=c.aa.nodes.length
 av:c.av.length=c.aa.nodes.length
 aO:c.aO.length<=6
 uW:0<=c.fn
 uG:c.fn<c.aa.av.length
 vars:(c.vars.length:Int)<=c.size
 size:c.size<=25
 room:c.e=0->c.size<=24
theorem zk{α:Type}(f:α->TF)(nm:TF):∀(l:List α) (i:Int),0<=i->(ja f nm l i=-1/\∀v∈l,f v≠nm)\/(i<=ja f nm l i/\ja f nm l i<i+l.length)
 |[],i,_=>.inl ⟨rfl,fun v hv=>by simp at hv⟩
 |v::l,i,hi=>by
  unfold ja;by_cases h:f v=nm
  ·rw[if_pos h];exact .inr jF
  ·rw[if_neg h];rcases zk f nm l (i+1) jB with⟨h1,h2⟩|h1
   ·exact .inl ⟨h1,fun u hu=>by
     rcases List.mem_cons.1 hu with rfl|hu
     ·exact h
     ·exact h2 u hu⟩
   ·exact .inr jF
def kQ{α:Type}[Inhabited α]{l:List α}{i:Nat}(h:i<l.length):l.drop i=nth l i::l.drop (i+1):=by rw[fJ h];exact List.drop_eq_getElem_cons h
def sC(c:Ck)(e a:Int):ab prog 150 [pR,rI e,rI a] (fI c) (fun v l=>v=.aP []/\l=fI (c.aC e a)):=by
 refine aL func150 ntmps150 ?_;refine S ?_
 (repeat' (first|refine aq fun K hK=>?_|refine au ?_|(refine hK _ _ ?_;clear hK K)|(refine ap ?_ ?_<;>intro hc<;>try exact jz)|refine ar ?_|exact jI|(clear hK K)))
 ·(refine bW [] ?_ ?_<;>(try simp only[go_sem]))
  simp only[Ck.aC,if_pos hc,fI,u0]
 ·(refine bW [] ?_ ?_<;>(try simp only[go_sem]))
  simp only[Ck.aC,if_neg hc,fI,u0]
def Ce(c:Ck)(nm:TF)(h:bE c):ab prog 151 [pR,rS nm] (fI c) (fun v l=>v=rI (c.find nm)/\l=fI c):=by
 have h1:=h.vars;have h2:=h.size;refine aL func151 ntmps151 ?_;refine S ?_
 (repeat' (first|refine aq fun K hK=>?_|refine au ?_|(refine hK _ _ ?_;clear hK K)|(refine ap ?_ ?_<;>intro hc<;>try exact jz)|refine ar ?_|exact jI|(clear hK K)))
 have Tk:=hK;clear hK;refine eu (S:=Nat) [(4,22)] (fun k=>k<=c.vars.length/\ja bD.name nm (c.vars.drop k) k=c.find nm) (fun k=>[(5,rI k)]) (fun _=>⟨[0,1,2,3,4,5],fI c⟩) (fun k=>c.vars.length-k) 0 ⟨jB,rfl⟩ (eD jD cH) ?_;rintro k ⟨TQ,Tl⟩ Kr Tg
 (refine S ?_;try exact jI)
 by_cases hk:k<c.vars.length
 ·rw[kQ hk]at Tl;unfold ja at Tl;have Yk:nth (c.vars++c.more) k=nth c.vars k:=pJ hk
  (have W:=Yk;repeat' (first|refine aq fun K hK=>?_|refine au ?_|(refine hK _ _ ?_;clear hK K)|(refine ap ?_ ?_<;>intro hc<;>try exact jz)|refine ar ?_|exact jI|(clear hK K)))
  ·(refine bW [.tmp 4] ?_ ?_<;>(try simp only[go_sem]))
   rw[if_pos hc]at Tl;rw[<-Tl]
  ·rw[if_neg hc]at Tl;refine Tg _ _ (eJ (k+1) ⟨jB,by rw[<-Tl];rfl⟩ jJ jD cH)
 ·rw[List.drop_eq_nil_of_le jB]at Tl
  (repeat' (first|refine aq fun K hK=>?_|refine au ?_|(refine hK _ _ ?_;clear hK K)|(refine ap ?_ ?_<;>intro hc<;>try exact jz)|refine Tk _ _ ?_|refine ar ?_|exact jI|(clear hK K)))
  (refine bW [.tmp 4] ?_ ?_<;>(try simp only[go_sem]))
  rw[<-Tl];rfl
def oJ(c:Ck)(b:Bool)(a:Int):ab prog 237 [pR,rB b,rI a] (fI c) (fun v l=>v=.aP []/\l=fI (c.ao b a)):=by
 refine aL func237 ntmps237 ?_;refine S ?_
 (repeat' (first|refine aq fun K hK=>?_|refine au ?_|(refine hK _ _ ?_;clear hK K)|(refine ap ?_ ?_<;>intro hc<;>try exact jz)|refine cm (sC c 42 a) ?_|refine ar ?_|exact jI|(clear hK K)))
 ·(refine bW [] ?_ ?_<;>(try simp only[go_sem]))
  simp only[Ck.ao,hc,Bool.false_eq_true,if_false,fI,u0]
 ·(refine bW [] ?_ ?_<;>(try simp only[go_sem]))
  simp only[Ck.ao,hc,if_true,fI,u0]
variable{a:Int}
def uC{c:Ck}(h:bE c)(h0:0<=a)(h1:a<c.aa.nodes.length):Shape c.aa.nodes (c.node a)/\∀x∈(c.node a).l,0<=x/\x.toNat<a.toNat:=by have:=h.aa.shape a.toNat jB;exact⟨this.1,this.2.1⟩
def ym{c:Ck}(h:bE c)(h0:0<=a)(h1:a<c.aa.nodes.length):(c.node a).l.length<=300:=by obtain⟨_,_,lo,hc⟩:=h.aa.shape a.toNat jB;have:=hc.len;have:=h.aa.many;show(nth c.aa.nodes a.toNat).l.length<=300;omega
def Hr(c:Ck)(a:Int)(h:bE c)(h0:0<=a)(h1:a<c.aa.nodes.length):ab prog 235 [pR,rI a] (fI c) (fun v l=>v=rI (c.named a).2/\l=fI (c.named a).1):=by
 have hv:=h.vars;have hz:=h.size;have Uq:=h.slots;have hfd:=zk bD.name (c.node a).name c.vars 0 jB;have VL:=Ce c (c.node a).name h;have Xq:=sC c 40 a;have Yk:0<=c.find (c.node a).name->nth (c.vars++c.more) (c.find (c.node a).name).toNat=nth c.vars (c.find (c.node a).name).toNat:=fun h=>pJ (by have hfd:(c.find (c.node a).name=-1/\_)\/(0<=c.find (c.node a).name/\c.find (c.node a).name<0+c.vars.length):=hfd;omega)
 have hfd:(c.find (c.node a).name=-1/\_)\/(0<=c.find (c.node a).name/\c.find (c.node a).name<0+c.vars.length):=hfd;unfold Ck.named;by_cases hf:c.find (c.node a).name<0
 ·rw[if_pos hf];refine aL func235 ntmps235 ?_;refine S ?_
  (repeat' (first|refine aq fun K hK=>?_|refine au ?_|(refine hK _ _ ?_;clear hK K)|(refine ap ?_ ?_<;>intro hc<;>try exact jz)|refine cm (VL) ?_|refine cm (Xq) ?_|refine ar ?_|exact jI|(clear hK K)))
  (refine bW [.tmp 4] ?_ ?_<;>(try simp only[go_sem]))
 ·rw[if_neg hf];have Yk:=Yk jB;refine aL func235 ntmps235 ?_;refine S ?_
  (have W:=Yk;repeat' (first|refine aq fun K hK=>?_|refine au ?_|(with_reducible refine gR 5 ?_);refine dE 5 (bc 0 16) mixed ?_|(refine hK _ _ ?_;clear hK K)|(refine ap ?_ ?_<;>intro hc<;>try exact jz)|refine cm (VL) ?_|refine ar ?_|exact jI|(clear hK K)))
  (refine bW [.tmp 4] ?_ ?_<;>(try simp only[go_sem]))
structure Ev(c c':Ck):Prop where
 aa:c'.aa=c.aa
 fn:c'.fn=c.fn
 vars:c'.vars=c.vars
 more:c'.more=c.more
 size:c'.size=c.size
 aO:c'.aO=c.aO
 types:c'.types.length=c.types.length
 slots:c'.slots.length=c.slots.length
 av:c'.av.length=c.av.length
 err:c.e≠0->c'.e≠0
def Ev.refl(c:Ck):Ev c c:=⟨rfl,rfl,rfl,rfl,rfl,rfl,rfl,rfl,rfl,id⟩
theorem Ev.trans{a b c:Ck}(h:Ev a b)(k:Ev b c):Ev a c:=⟨k.aa.trans h.aa,k.fn.trans h.fn,k.vars.trans h.vars,k.more.trans h.more,k.size.trans h.size,k.aO.trans h.aO,k.types.trans h.types,k.slots.trans h.slots,k.av.trans h.av,fun e=>k.err (h.err e)⟩
def bE.ev{c c':Ck}(h:bE c)(s:Ev c c'):bE c' where
 aa:=by rw[s.aa];exact h.aa
 types:=by rw[s.types,s.aa];exact h.types
 slots:=by rw[s.slots,s.aa];exact h.slots
 av:=by rw[s.av,s.aa];exact h.av
 aO:=by rw[s.aO];exact h.aO
 uW:=by rw[s.fn];exact h.uW
 uG:=by rw[s.fn,s.aa];exact h.uG
 vars:=by rw[s.vars,s.size];exact h.vars
 size:=by rw[s.size];exact h.size
 room:=fun e=>by rw[s.size];exact h.room (Classical.byContradiction fun h=>s.err h e)
theorem Ev.node{c c':Ck}(s:Ev c c')(a:Int):c'.node a=c.node a:=by unfold Ck.node;rw[s.aa]
def nD(c:Ck){e:Int}(he:e≠0)(a:Int):Ev c (c.aC e a):=by
 unfold Ck.aC;split
 ·exact⟨rfl,rfl,rfl,rfl,rfl,rfl,rfl,rfl,rfl,fun _=>he⟩
 ·exact .refl c
def kv(c:Ck)(b:Bool)(a:Int):Ev c (c.ao b a):=by
 unfold Ck.ao;split
 ·exact .refl c
 ·exact nD c jC a
def JN(c:Ck)(a s:Int):Ev c (c.slot a s):=⟨rfl,rfl,rfl,rfl,rfl,rfl,rfl,by simp[Ck.slot],rfl,id⟩
def PJ(c:Ck)(a t:Int):Ev c (c.note a t):=⟨rfl,rfl,rfl,rfl,rfl,rfl,by simp[Ck.note],rfl,by simp[Ck.note],id⟩
def qL(c:Ck)(a:Int):Ev c (c.ai a):=⟨rfl,rfl,rfl,rfl,rfl,rfl,rfl,rfl,by simp[Ck.ai],id⟩
def nE(c:Ck)(a:Int):Ev c (c.named a).1:=by
 unfold Ck.named;split
 ·exact nD c jC a
 ·exact JN c a _
theorem tQ{ex:Ck->Int->Ck×Int}(hex:∀c a,Ev c (ex c a).1):∀(l:TD) (c:Ck) (ts:TD),Ev c (gC ex c l ts).1
 |[],c,ts=>by unfold gC;exact .refl c
 |a::l,c,ts=>by
  unfold gC;split
  ·exact(hex c a).trans (tQ hex l _ _)
  ·exact .refl c
theorem yU(a:Int):∀(ts:TD) (ps:List bK) (c:Ck),Ev c (iC a c ts ps)
 |[],_,c=>by unfold iC;exact .refl c
 |_::_,[],c=>by unfold iC;exact .refl c
 |t::ts,p::ps,c=>by
  unfold iC;split
  ·exact(kv c _ a).trans (yU a ts ps _)
  ·exact .refl c
variable{ex:Ck->Int->Ck×Int}
def JK(hex:∀c a,Ev c (ex c a).1)(c:Ck)(a:Int):Ev c (iX ex c a).1:=by
 unfold iX;split
 ·exact nD c jC a
 ·refine Ev.trans ?_ (yU _ _ _ _);split
  ·exact(tQ hex _ _ _).trans (nD _ jC a)
  ·exact tQ hex _ _ _
def Cj(hex:∀c a,Ev c (ex c a).1)(c:Ck)(a:Int):Ev c (cv ex c a).1:=by
 unfold cv;simp only;repeat' split
 all_goals first
  |exact .refl c
  |exact nE c a
  |exact JK hex c a
  |exact((nE c a).trans (hex _ _)).trans (kv _ _ _)
  |exact((hex c _).trans (hex _ _)).trans (kv _ _ _)
  |exact(hex c _).trans (kv _ _ _)
theorem fg:∀(n:Nat) (c:Ck) (a:Int),Ev c (az n c a).1
 |0,c,a=>by unfold az;exact .refl c
 |n+1,c,a=>by
  unfold az;split
  ·exact .refl c
  ·exact(Cj (fg n) c a).trans (PJ _ _ _)
def tn(n:Nat):Prop:=∀(c:Ck) (a:Int),bE c->0<=a->a<c.aa.nodes.length->a.toNat<n->fm (c.node a).kind->ab prog 236 [pR,rI a] (fI c) (fun v l=>v=rI (az n c a).2/\l=fI (az n c a).1)
def ED(n:Nat):Prop:=∀(c:Ck) (a:Int),bE c->c.e=0->0<=a->a<c.aa.nodes.length->a.toNat<=n->fm (c.node a).kind->ab prog 257 [pR,rI a] (fI c) (fun v l=>v=rI (cv (az n) c a).2/\l=fI (cv (az n) c a).1)
def Gy(n:Nat):Prop:=∀(c:Ck) (a:Int),bE c->0<=a->a<c.aa.nodes.length->a.toNat<=n->(c.node a).kind=21->ab prog 271 [pR,rI a] (fI c) (fun v l=>v=rI (iX (az n) c a).2/\l=fI (iX (az n) c a).1)
def Lq(s:TF)(a b:Int):aB prog 272 [rS s,rI a,rI b] (rI (lV s a b)):=by
 refine bM func272 ntmps272 ?_
 (repeat' (first|refine aq fun K hK=>?_|refine au ?_|(refine hK _ _ ?_;clear hK K)|(refine ap ?_ ?_<;>intro hc<;>try exact jz)|refine ar ?_|exact jI|(clear hK K)))
 all_goals(refine bW [.tmp 6] ?_ ?_<;>(try simp only[go_sem]))
 all_goals simp_all [lV]
 all_goals omega
def My(n:Nat)(ht:ED n):tn (n+1):=by
 intro c a h h0 h1 hn hk;have hz:=h.size;have hv:=h.vars;by_cases he:c.e=0
 ·have htc:=ht c a h he h0 h1 jB hk;have s:=Cj (fg n) c a;have h2:=h.ev s;have l1:=h2.types;have l2:=h2.av;rw[s.aa]at l1 l2;rw[az,jN];refine aL func236 ntmps236 ?_;refine S ?_
  (repeat' (first|refine aq fun K hK=>?_|refine au ?_|(with_reducible refine gR 5 ?_);refine dE 5 (bc 0 12) mixed ?_|(refine hK _ _ ?_;clear hK K)|(refine ap ?_ ?_<;>intro hc<;>try exact jz)|refine cm (htc) ?_|refine ar ?_|exact jI|(clear hK K)))
  (refine bW [.tmp 4] ?_ ?_<;>(try simp only[go_sem]))
 ·rw[az,if_pos he];refine aL func236 ntmps236 ?_;refine S ?_
  (repeat' (first|refine aq fun K hK=>?_|refine au ?_|(refine hK _ _ ?_;clear hK K)|(refine ap ?_ ?_<;>intro hc<;>try exact jz)|refine ar ?_|exact jI|(clear hK K)))
  (refine bW [.tmp 4] ?_ ?_<;>(try simp only[go_sem]))
def OF(n:Nat)(hx:tn n)(TY:Gy n):ED n:=by
 intro c a h he h0 h1 hn hk;have hz:=h.size;have hv:=h.vars;obtain⟨sh,UR⟩:=uC h h0 h1;have Ub:∀i,i<(c.node a).l.length->(c.aE a i).toNat<n/\0<=c.aE a i/\c.aE a i<c.aa.nodes.length:=fun i hi=>by have hm:c.aE a i∈(c.node a).l:=fh hi;have:=UR _ hm;omega
 have ev0:=nE c a;have Wu:=h.ev ev0;have Th:=Hr c a h h0 h1;unfold fm cQ at hk;have e19:(c.node a).kind=1\/(c.node a).kind=19\/(c.node a).kind=2\/(c.node a).kind=3\/(c.node a).kind=4\/(c.node a).kind=21\/(c.node a).kind=5\/(c.node a).kind=9\/(c.node a).kind=6\/(c.node a).kind=7\/(c.node a).kind=8\/(c.node a).kind=20:=jB;rcases e19 with k|k|k|k|k|k|k|k|k|k|k|k
 ·have Tv:(nth c.aa.nodes a.toNat).kind=1:=k;rw[show cv (az n) c a=(c,1) from by unfold cv;rw[k];rfl];refine aL func257 ntmps257 ?_;refine S ?_
  (have W:=Tv;repeat' (first|refine aq fun K hK=>?_|refine au ?_|(refine hK _ _ ?_;clear hK K)|(refine ap ?_ ?_<;>intro hc<;>try exact jz)|refine ar ?_|exact jI|(clear hK K)))
  (refine aZ [.tmp 4] ?_;try simp only[go_sem])
 ·have Tv:(nth c.aa.nodes a.toNat).kind=19:=k;rw[show cv (az n) c a=(c,1) from by unfold cv;rw[k];rfl];refine aL func257 ntmps257 ?_;refine S ?_
  (have W:=Tv;repeat' (first|refine aq fun K hK=>?_|refine au ?_|(refine hK _ _ ?_;clear hK K)|(refine ap ?_ ?_<;>intro hc<;>try exact jz)|refine ar ?_|exact jI|(clear hK K)))
  (refine aZ [.tmp 4] ?_;try simp only[go_sem])
 ·have Tv:(nth c.aa.nodes a.toNat).kind=2:=k;rw[show cv (az n) c a=(c,2) from by unfold cv;rw[k];rfl];refine aL func257 ntmps257 ?_;refine S ?_
  (have W:=Tv;repeat' (first|refine aq fun K hK=>?_|refine au ?_|(refine hK _ _ ?_;clear hK K)|(refine ap ?_ ?_<;>intro hc<;>try exact jz)|refine ar ?_|exact jI|(clear hK K)))
  (refine aZ [.tmp 4] ?_;try simp only[go_sem])
 ·have Tv:(nth c.aa.nodes a.toNat).kind=3:=k;rw[show cv (az n) c a=(c,3) from by unfold cv;rw[k];rfl];refine aL func257 ntmps257 ?_;refine S ?_
  (have W:=Tv;repeat' (first|refine aq fun K hK=>?_|refine au ?_|(refine hK _ _ ?_;clear hK K)|(refine ap ?_ ?_<;>intro hc<;>try exact jz)|refine ar ?_|exact jI|(clear hK K)))
  (refine aZ [.tmp 4] ?_;try simp only[go_sem])
 ·have Tv:(nth c.aa.nodes a.toNat).kind=4:=k;rw[show cv (az n) c a=c.named a from by unfold cv;rw[k];rfl];refine aL func257 ntmps257 ?_;refine S ?_
  (have W:=Tv;repeat' (first|refine aq fun K hK=>?_|refine au ?_|(refine hK _ _ ?_;clear hK K)|(refine ap ?_ ?_<;>intro hc<;>try exact jz)|refine cm (Th) ?_|refine ar ?_|exact jI|(clear hK K)))
  (refine aZ [.tmp 4] ?_;try simp only[go_sem])
 ·have Tv:(nth c.aa.nodes a.toNat).kind=21:=k;rw[show cv (az n) c a=iX (az n) c a from by unfold cv;rw[k];rfl];have Tc:=TY c a h h0 h1 hn k;refine aL func257 ntmps257 ?_;refine S ?_
  (have W:=Tv;repeat' (first|refine aq fun K hK=>?_|refine au ?_|(refine hK _ _ ?_;clear hK K)|(refine ap ?_ ?_<;>intro hc<;>try exact jz)|refine cm (Tc) ?_|refine ar ?_|exact jI|(clear hK K)))
  (refine aZ [.tmp 4] ?_;try simp only[go_sem])
 ·have Tv:(nth c.aa.nodes a.toNat).kind=5:=k;obtain⟨x,hl,TR⟩:=sh.one jB;have U8:(c.node a).l.length=1:=by rw[hl];rfl
  have UL:(nth c.aa.nodes a.toNat).l.length=1:=U8;obtain⟨g1,g2,g3⟩:=Ub 0 jB;have Wk:fm (c.node (c.aE a 0)).kind:=by
   have:c.aE a 0=x:=by unfold Ck.aE;rw[hl];rfl
   rw[this];exact .inl TR
  have hex:=hx (c.named a).1 (c.aE a 0) Wu g2 (by rw[ev0.aa];exact g3) g1 (by rw[ev0.node];exact Wk);have hm:=oJ (az n (c.named a).1 (c.aE a 0)).1 (decide ((c.named a).2=4) && decide ((az n (c.named a).1 (c.aE a 0)).2=1)) a;rw[show cv (az n) c a=((az n (c.named a).1 (c.aE a 0)).1.ao (decide ((c.named a).2=4) && decide ((az n (c.named a).1 (c.aE a 0)).2=1)) a,1) from by unfold cv;rw[k];rfl];refine aL func257 ntmps257 ?_;refine S ?_
  (have W:=Tv;repeat' (first|refine aq fun K hK=>?_|refine au ?_|(refine hK _ _ ?_;clear hK K)|(refine ap ?_ ?_<;>intro hc<;>try exact jz)|refine cm (Th) ?_|refine cm (hex) ?_|refine cm (hm) ?_|refine ar ?_|exact jI|(clear hK K)))
  (refine aZ [.tmp 4] ?_;try simp only[go_sem])
 ·have Tv:(nth c.aa.nodes a.toNat).kind=9:=k;obtain⟨x,y,hl,TR,Wx⟩:=sh.two jB;have U8:(c.node a).l.length=2:=by rw[hl];rfl
  have UL:(nth c.aa.nodes a.toNat).l.length=2:=U8;obtain⟨g1,g2,g3⟩:=Ub 0 jB;obtain⟨g4,g5,g6⟩:=Ub 1 jB;have Wk:fm (c.node (c.aE a 0)).kind:=by
   have:c.aE a 0=x:=by unfold Ck.aE;rw[hl];rfl
   rw[this];exact .inl TR
  have hky:fm (c.node (c.aE a 1)).kind:=by
   have:c.aE a 1=y:=by unfold Ck.aE;rw[hl];rfl
   rw[this];exact .inl Wx
  have ev1:=fg n c (c.aE a 0);have hex:=hx c (c.aE a 0) h g2 g3 g1 Wk;have hey:=hx (az n c (c.aE a 0)).1 (c.aE a 1) (h.ev ev1) g5 (by rw[ev1.aa];exact g6) g4 (by rw[ev1.node];exact hky);have hb:=Lq (c.node a).name (az n c (c.aE a 0)).2 (az n (az n c (c.aE a 0)).1 (c.aE a 1)).2;have hm:=oJ (az n (az n c (c.aE a 0)).1 (c.aE a 1)).1 (!decide (lV (c.node a).name (az n c (c.aE a 0)).2 (az n (az n c (c.aE a 0)).1 (c.aE a 1)).2=0)) a;rw[show cv (az n) c a=((az n (az n c (c.aE a 0)).1 (c.aE a 1)).1.ao (!decide (lV (c.node a).name (az n c (c.aE a 0)).2 (az n (az n c (c.aE a 0)).1 (c.aE a 1)).2=0)) a,lV (c.node a).name (az n c (c.aE a 0)).2 (az n (az n c (c.aE a 0)).1 (c.aE a 1)).2) from by unfold cv;rw[k];rfl];refine aL func257 ntmps257 ?_;refine S ?_
  (have W:=Tv;repeat' (first|refine aq fun K hK=>?_|refine au ?_|(refine hK _ _ ?_;clear hK K)|(refine ap ?_ ?_<;>intro hc<;>try exact jz)|refine cm (hex) ?_|refine cm (hey) ?_|refine cp (hb) ?_|refine cm (hm) ?_|refine ar ?_|exact jI|(clear hK K)))
  (refine aZ [.tmp 4] ?_;try simp only[go_sem])
 ·have Tv:(nth c.aa.nodes a.toNat).kind=6:=k;obtain⟨x,hl,TR⟩:=sh.one jB;have U8:(c.node a).l.length=1:=by rw[hl];rfl
  have UL:(nth c.aa.nodes a.toNat).l.length=1:=U8;obtain⟨g1,g2,g3⟩:=Ub 0 jB;have Wk:fm (c.node (c.aE a 0)).kind:=by
   have:c.aE a 0=x:=by unfold Ck.aE;rw[hl];rfl
   rw[this];exact .inl TR
  have hex:=hx c (c.aE a 0) h g2 g3 g1 Wk;have hm:=oJ (az n c (c.aE a 0)).1 (decide ((az n c (c.aE a 0)).2=3) || decide ((az n c (c.aE a 0)).2=4)) a;rw[show cv (az n) c a=((az n c (c.aE a 0)).1.ao (decide ((az n c (c.aE a 0)).2=3) || decide ((az n c (c.aE a 0)).2=4)) a,1) from by unfold cv;rw[k];rfl];refine aL func257 ntmps257 ?_;refine S ?_
  (have W:=Tv;repeat' (first|refine aq fun K hK=>?_|refine au ?_|(refine hK _ _ ?_;clear hK K)|(refine ap ?_ ?_<;>intro hc<;>try exact jz)|refine cm (hex) ?_|refine cm (hm) ?_|refine ar ?_|exact jI|(clear hK K)))
  (refine aZ [.tmp 4] ?_;try simp only[go_sem])
 ·have Tv:(nth c.aa.nodes a.toNat).kind=7:=k;obtain⟨x,hl,TR⟩:=sh.one jB;have U8:(c.node a).l.length=1:=by rw[hl];rfl
  have UL:(nth c.aa.nodes a.toNat).l.length=1:=U8;obtain⟨g1,g2,g3⟩:=Ub 0 jB;have Wk:fm (c.node (c.aE a 0)).kind:=by
   have:c.aE a 0=x:=by unfold Ck.aE;rw[hl];rfl
   rw[this];exact .inl TR
  have hex:=hx c (c.aE a 0) h g2 g3 g1 Wk;have hm:=oJ (az n c (c.aE a 0)).1 (decide ((az n c (c.aE a 0)).2=1)) a;rw[show cv (az n) c a=((az n c (c.aE a 0)).1.ao (decide ((az n c (c.aE a 0)).2=1)) a,1) from by unfold cv;rw[k];rfl];refine aL func257 ntmps257 ?_;refine S ?_
  (have W:=Tv;repeat' (first|refine aq fun K hK=>?_|refine au ?_|(refine hK _ _ ?_;clear hK K)|(refine ap ?_ ?_<;>intro hc<;>try exact jz)|refine cm (hex) ?_|refine cm (hm) ?_|refine ar ?_|exact jI|(clear hK K)))
  (refine aZ [.tmp 4] ?_;try simp only[go_sem])
 ·have Tv:(nth c.aa.nodes a.toNat).kind=8:=k;obtain⟨x,hl,TR⟩:=sh.one jB;have U8:(c.node a).l.length=1:=by rw[hl];rfl
  have UL:(nth c.aa.nodes a.toNat).l.length=1:=U8;obtain⟨g1,g2,g3⟩:=Ub 0 jB;have Wk:fm (c.node (c.aE a 0)).kind:=by
   have:c.aE a 0=x:=by unfold Ck.aE;rw[hl];rfl
   rw[this];exact .inl TR
  have hex:=hx c (c.aE a 0) h g2 g3 g1 Wk;have hm:=oJ (az n c (c.aE a 0)).1 (decide ((az n c (c.aE a 0)).2=2)) a;rw[show cv (az n) c a=((az n c (c.aE a 0)).1.ao (decide ((az n c (c.aE a 0)).2=2)) a,2) from by unfold cv;rw[k];rfl];refine aL func257 ntmps257 ?_;refine S ?_
  (have W:=Tv;repeat' (first|refine aq fun K hK=>?_|refine au ?_|(refine hK _ _ ?_;clear hK K)|(refine ap ?_ ?_<;>intro hc<;>try exact jz)|refine cm (hex) ?_|refine cm (hm) ?_|refine ar ?_|exact jI|(clear hK K)))
  (refine aZ [.tmp 4] ?_;try simp only[go_sem])
 ·have Tv:(nth c.aa.nodes a.toNat).kind=20:=k;obtain⟨x,hl,TR⟩:=sh.one jB;have U8:(c.node a).l.length=1:=by rw[hl];rfl
  have UL:(nth c.aa.nodes a.toNat).l.length=1:=U8;obtain⟨g1,g2,g3⟩:=Ub 0 jB;have Wk:fm (c.node (c.aE a 0)).kind:=by
   have:c.aE a 0=x:=by unfold Ck.aE;rw[hl];rfl
   rw[this];exact .inl TR
  have hex:=hx c (c.aE a 0) h g2 g3 g1 Wk;have hm:=oJ (az n c (c.aE a 0)).1 (decide ((az n c (c.aE a 0)).2=1)) a;rw[show cv (az n) c a=((az n c (c.aE a 0)).1.ao (decide ((az n c (c.aE a 0)).2=1)) a,4) from by unfold cv;rw[k];rfl];refine aL func257 ntmps257 ?_;refine S ?_
  (have W:=Tv;repeat' (first|refine aq fun K hK=>?_|refine au ?_|(refine hK _ _ ?_;clear hK K)|(refine ap ?_ ?_<;>intro hc<;>try exact jz)|refine cm (hex) ?_|refine cm (hm) ?_|refine ar ?_|exact jI|(clear hK K)))
  (refine aZ [.tmp 4] ?_;try simp only[go_sem])
def tI(a:Int)(c:Ck)(ps:List bK):iC a c [] ps=c:=by cases ps<;>rfl
def ug(a:Int)(c:Ck)(ts:TD):iC a c ts []=c:=by cases ts<;>rfl
theorem Fv{α:Type}(f:α->TF)(nm:TF):∀(l:List α) (i k:Int),0<=i->(js f nm l i k=k\/i<=js f nm l i k)/\(js f nm l i k=k\/js f nm l i k<i+l.length)
 |[],i,k,_=>by unfold js;exact⟨.inl rfl,.inl rfl⟩
 |v::l,i,k,hi=>by
  unfold js;obtain⟨h1,h2⟩:=Fv f nm l (i+1) (if f v=nm then i else k) jB;simp only[List.length_cons];split at h1<;>rename_i hv
  ·rw[if_pos hv]at h2 ⊢;omega
  ·rw[if_neg hv]at h2 ⊢;omega
def Q5(n:Nat)(hx:tn n):Gy n:=by
 intro c a h h0 h1 hn hk;have hz:=h.size;have hv:=h.vars;have htf:=h.aa.av;have Wy:=h.aa.many;obtain⟨sh,UR⟩:=uC h h0 h1;have hck:=h.aa.chain;have I':(nth c.aa.nodes a.toNat).l.length<=300:=ym h h0 h1;have WN:∀i,i<(c.node a).l.length->fm (c.node (nth (c.node a).l i)).kind/\(nth (c.node a).l i).toNat<n/\0<=nth (c.node a).l i/\nth (c.node a).l i<c.aa.nodes.length:=fun i hi=>by have hm:nth (c.node a).l i∈(c.node a).l:=fh hi;have:=UR _ hm;exact⟨.inl (sh.call hk _ hm),jB,this.1,jB⟩
 obtain⟨lg1,lg2⟩:=Fv bh.name (c.node a).name c.aa.av 0 (-1) jB;have lg1:fR c a=-1\/0<=fR c a:=lg1;have lg2:fR c a=-1\/fR c a<0+c.aa.av.length:=lg2;refine aL func271 ntmps271 ?_;refine S ?_
 (repeat' (first|refine aq fun K hK=>?_|refine au ?_|(refine hK _ _ ?_;clear hK K)|(refine ap ?_ ?_<;>intro hc<;>try exact jz)|refine ar ?_|exact jI|(clear hK K)))
 have Tk:=hK;clear hK;refine eu (S:=Nat×Int) [(6,2),(22,25)] (fun s=>s.1<=c.aa.av.length/\js bh.name (c.node a).name (c.aa.av.drop s.1) s.1 s.2=fR c a) (fun s=>[(7,rI s.1),(6,rI s.2)]) (fun _=>⟨[0,1,2,3,4,5],fI c++[(6,.var 116 (eF (c.node a)))]⟩) (fun s=>c.aa.av.length-s.1) (0,-1) ⟨jJ,rfl⟩ (eD jM cH) ?_;rintro⟨k,j⟩ ⟨TQ,Tl⟩ Kr Tg;simp only at TQ Tl
 (refine S ?_;try exact jI)
 by_cases O':k<c.aa.av.length
 ·rw[kQ O']at Tl;unfold js at Tl
  (repeat' (first|refine aq fun K hK=>?_|refine au ?_|(with_reducible refine gR 6 ?_);refine dE 6 (bc 0 13) mixed ?_|(refine hK _ _ ?_;clear hK K)|(refine ap ?_ ?_<;>intro hc<;>try exact jz)|refine ar ?_|exact jI|(clear hK K)))
  ·rw[if_pos hc]at Tl;refine Tg _ _ (eJ (k+1,(k:Int)) ⟨jJ,by rw[<-Tl];rfl⟩ jJ jM cH)
  ·rw[if_neg hc]at Tl;refine Tg _ _ (eJ (k+1,j) ⟨jJ,by rw[<-Tl];rfl⟩ jJ jM cH)
 ·rw[List.drop_eq_nil_of_le jB]at Tl;have Tl:j=fR c a:=Tl;subst Tl;by_cases ZD:fR c a<0
  ·rw[iX,if_pos ZD]at*
   (repeat' (first|refine aq fun K hK=>?_|refine au ?_|(refine hK _ _ ?_;clear hK K)|(refine ap ?_ ?_<;>intro hc<;>try exact jz)|refine Tk _ _ ?_|refine cm (sC c 40 a) ?_|refine ar ?_|exact jI|(clear hK K)))
   (refine aZ [.tmp 4] ?_;try simp only[go_sem])
  ·have XK:0<=fR c a:=jB;have W5:(fR c a).toNat<c.aa.av.length:=jB;have hfp:=(h.aa.fn _ (fh W5)).2;have e0:iX (az n) c a=(iC a (if(c.node a).l.length≠(nth c.aa.av (fR c a).toNat).params.length then(gC (az n) c (c.node a).l []).1.aC 43 a else(gC (az n) c (c.node a).l []).1) (gC (az n) c (c.node a).l []).2 (nth c.aa.av (fR c a).toNat).params,(nth c.aa.av (fR c a).toNat).ret):=by
    rw[iX,if_neg ZD]
   (repeat' (first|refine aq fun K hK=>?_|refine au ?_|(refine hK _ _ ?_;clear hK K)|(refine ap ?_ ?_<;>intro hc<;>try exact jz)|refine Tk _ _ ?_|refine ar ?_|exact jI|(clear hK K)))
   have Xr:=hK;clear hK;refine jq (dO.nil 8 9 3 (sz:=1) rfl jC (Or.inr ⟨_,_,_,rfl,rfl⟩)) ?_
   (refine S ?_;try exact jI)
   refine eu (S:=Nat×Ck×TD) [(9,3),(62,25)] (fun s=>s.1<=(c.node a).l.length/\Ev c s.2.1/\s.2.2.length=s.1/\gC (az n) s.2.1 ((c.node a).l.drop s.1) s.2.2=gC (az n) c (c.node a).l []) (fun s=>[(10,rI s.1),(9,.rs 8 s.2.2.length 1 s.2.2.length)]) (fun s=>⟨[0,1,2,3,4,5],fI s.2.1++[(6,.var 116 (eF (c.node a))),(7,.var 181 (fX (nth c.aa.av (fR c a).toNat))),(8,.aF 3 1 (s.2.2.map eI))]⟩) (fun s=>(c.node a).l.length-s.1) (0,c,[]) ⟨jJ,.refl c,rfl,rfl⟩ (eD jM cH) ?_;rintro⟨i,q,ts⟩ ⟨VQ,ev,Z9,hA⟩ Kr2 WR;simp only at VQ ev Z9 hA;have hq:=h.ev ev;have lt1:=hq.types;have lt2:=hq.slots;have lt3:=hq.av;have lt4:=hq.vars;have lt5:=hq.size;have hlq:(c.node a).l.length<=300:=I'
   (refine S ?_;try exact jI)
   by_cases Uu:i<(c.node a).l.length/\q.e=0
   ·obtain⟨T4,US⟩:=Uu;rw[kQ T4,gC,if_pos US]at hA;obtain⟨g1,g2,g3,g4⟩:=WN i T4;have hxc:=hx q (nth (c.node a).l i) hq g3 (by rw[ev.aa];exact g4) g2 (by rw[ev.node];exact g1)
    (have W:=US;repeat' (first|refine aq fun K hK=>?_|refine au ?_|(refine hK _ _ ?_;clear hK K)|(refine ap ?_ ?_<;>intro hc<;>try exact jz)|refine cm (hxc) ?_|refine ar ?_|exact jI|(clear hK K)))
    refine WR _ _ (eJ (i+1,(az n q (nth (c.node a).l i)).1,ts++[(az n q (nth (c.node a).l i)).2]) ⟨jJ,ev.trans (fg _ _ _),by simp[Z9],hA⟩ jJ jM cH)
   have hA2:gC (az n) c (c.node a).l []=(q,ts):=by
    rw[<-hA];by_cases T4:i<(c.node a).l.length
    ·rw[kQ T4,gC,if_neg fun e=>Uu ⟨T4,e⟩]
    ·rw[List.drop_eq_nil_of_le jB,gC]
   have Wj:q=(gC (az n) c (c.node a).l []).1:=by rw[hA2]
   have ZE:ts=(gC (az n) c (c.node a).l []).2:=by rw[hA2]
   by_cases UD:(c.node a).l.length≠(nth c.aa.av (fR c a).toNat).params.length
   ·have YN:(((c.node a).l.length:Int)=((nth c.aa.av (fR c a).toNat).params.length:Int))=False:=eq_false jB;have Wz:(q.aC 43 a).e≠0:=by unfold Ck.aC;split;(exact fun h=>by cases h);assumption
    have evx:Ev c (q.aC 43 a):=ev.trans (nD q jC a);have hb:((q.aC 43 a)).e=0->ts.length<=(nth c.aa.av (fR c a).toNat).params.length:=fun h=>(Wz h).elim
    (have W:=YN;repeat' (first|refine aq fun K hK=>?_|refine au ?_|(refine hK _ _ ?_;clear hK K)|(refine ap ?_ ?_<;>intro hc<;>try exact jz)|(refine Xr _ _ ?_)|refine cm (sC q 43 a) ?_|refine ar ?_|exact jI|(clear hK K)))
    have YO:=hK;clear hK;refine eu (S:=Nat×Ck) [(12,1),(97,27)] (fun s=>s.1<=ts.length/\Ev (q.aC 43 a) s.2/\iC a s.2 (ts.drop s.1) ((nth c.aa.av (fR c a).toNat).params.drop s.1)=iC a (q.aC 43 a) ts (nth c.aa.av (fR c a).toNat).params) (fun s=>[(12,rI s.1)]) (fun s=>⟨[0,1,2,3,4,5],fI s.2++[(6,.var 116 (eF (c.node a))),(7,.var 181 (fX (nth c.aa.av (fR c a).toNat))),(8,.aF 3 1 (ts.map eI))]⟩) (fun s=>ts.length-s.1) (0,(q.aC 43 a)) ⟨jJ,.refl _,rfl⟩ (eD jM cH) ?_;rintro⟨m,z⟩ ⟨VM,Ve,UC⟩ Kr3 ZF;simp only at VM Ve UC
    (refine S ?_;try exact jI)
    by_cases Uu:m<ts.length/\z.e=0
    ·obtain⟨T4,US⟩:=Uu;have V3:((q.aC 43 a)).e=0:=Classical.byContradiction fun h=>Ve.err h US
     exact(Wz V3).elim
    ·have hz:z=iC a (q.aC 43 a) ts (nth c.aa.av (fR c a).toNat).params:=by
      by_cases T4:m<ts.length
      ·have US:z.e≠0:=fun e=>Uu ⟨T4,e⟩
       rw[kQ T4]at UC;cases hp:(nth c.aa.av (fR c a).toNat).params.drop m with
       |nil=>rw[hp,ug]at UC;exact UC
       |cons x y=>rw[hp,iC,if_neg US]at UC;exact UC
      ·rw[List.drop_eq_nil_of_le jB,tI]at UC;exact UC
     (repeat' (first|refine aq fun K hK=>?_|refine au ?_|(refine hK _ _ ?_;clear hK K)|(refine ap ?_ ?_<;>intro hc<;>try exact jz)|(refine YO _ _ ?_)|refine ar ?_|exact jI|(clear hK K)))
     all_goals first|(exact absurd ⟨jB,by assumption⟩ Uu)|skip
     have e1:iX (az n) c a=(z,(nth c.aa.av (fR c a).toNat).ret):=by rw[e0,if_pos UD,<-Wj,<-ZE,hz]
     all_goals(
      rw[e1]
      (refine aZ [.tmp 4] ?_;try simp only[go_sem]))
   ·have YN:((c.node a).l.length:Int)=((nth c.aa.av (fR c a).toNat).params.length:Int):=jB;have Wz:True:=trivial;have evx:Ev c q:=ev;have hb:(q).e=0->ts.length<=(nth c.aa.av (fR c a).toNat).params.length:=fun _=>jB
    (have W:=YN;repeat' (first|refine aq fun K hK=>?_|refine au ?_|(refine hK _ _ ?_;clear hK K)|(refine ap ?_ ?_<;>intro hc<;>try exact jz)|(refine Xr _ _ ?_)|refine ar ?_|exact jI|(clear hK K)))
    have YO:=hK;clear hK;refine eu (S:=Nat×Ck) [(12,1),(97,27)] (fun s=>s.1<=ts.length/\Ev q s.2/\iC a s.2 (ts.drop s.1) ((nth c.aa.av (fR c a).toNat).params.drop s.1)=iC a q ts (nth c.aa.av (fR c a).toNat).params) (fun s=>[(12,rI s.1)]) (fun s=>⟨[0,1,2,3,4,5],fI s.2++[(6,.var 116 (eF (c.node a))),(7,.var 181 (fX (nth c.aa.av (fR c a).toNat))),(8,.aF 3 1 (ts.map eI))]⟩) (fun s=>ts.length-s.1) (0,q) ⟨jJ,.refl _,rfl⟩ (eD jM cH) ?_;rintro⟨m,z⟩ ⟨VM,Ve,UC⟩ Kr3 ZF;simp only at VM Ve UC
    (refine S ?_;try exact jI)
    by_cases Uu:m<ts.length/\z.e=0
    ·obtain⟨T4,US⟩:=Uu;have V3:(q).e=0:=Classical.byContradiction fun h=>Ve.err h US
     have hmp:m<(nth c.aa.av (fR c a).toNat).params.length:=by have:=hb V3;omega
     rw[kQ T4,kQ hmp,iC,if_pos US]at UC
     (have W:=US;repeat' (first|refine aq fun K hK=>?_|refine au ?_|(with_reducible refine gR 23 ?_);refine dE 23 (bc 0 14) mixed ?_|(refine hK _ _ ?_;clear hK K)|(refine ap ?_ ?_<;>intro hc<;>try exact jz)|refine cm (oJ z (decide (nth ts m=(nth (nth c.aa.av (fR c a).toNat).params m).ty)) a) ?_|refine ar ?_|exact jI|(clear hK K)))
     refine ZF _ _ (eJ (m+1,z.ao (decide (nth ts m=(nth (nth c.aa.av (fR c a).toNat).params m).ty)) a) ⟨jJ,Ve.trans (kv _ _ _),UC⟩ jJ jM cH)
    ·have hz:z=iC a q ts (nth c.aa.av (fR c a).toNat).params:=by
      by_cases T4:m<ts.length
      ·have US:z.e≠0:=fun e=>Uu ⟨T4,e⟩
       rw[kQ T4]at UC;cases hp:(nth c.aa.av (fR c a).toNat).params.drop m with
       |nil=>rw[hp,ug]at UC;exact UC
       |cons x y=>rw[hp,iC,if_neg US]at UC;exact UC
      ·rw[List.drop_eq_nil_of_le jB,tI]at UC;exact UC
     (repeat' (first|refine aq fun K hK=>?_|refine au ?_|(refine hK _ _ ?_;clear hK K)|(refine ap ?_ ?_<;>intro hc<;>try exact jz)|(refine YO _ _ ?_)|refine ar ?_|exact jI|(clear hK K)))
     all_goals first|(exact absurd ⟨jB,by assumption⟩ Uu)|skip
     have e1:iX (az n) c a=(z,(nth c.aa.av (fR c a).toNat).ret):=by rw[e0,if_neg UD,<-Wj,<-ZE,hz]
     all_goals(
      rw[e1]
      (refine aZ [.tmp 4] ?_;try simp only[go_sem]))
structure Sv(c c':Ck):Prop where
 aa:c'.aa=c.aa
 fn:c'.fn=c.fn
 aO:c'.aO=c.aO
 err:c.e≠0->c'.e≠0
 inv:bE c'
 pre:∃u,c'.vars=c.vars++u
def Sv.refl{c:Ck}(h:bE c):Sv c c:=⟨rfl,rfl,rfl,id,h,[],jE⟩
def Sv.iu{c c':Ck}(h:bE c)(s:Ev c c'):Sv c c':=⟨s.aa,s.fn,s.aO,s.err,h.ev s,[],by rw[s.vars];simp⟩
theorem Sv.trans{a b c:Ck}(h:Sv a b)(k:Sv b c):Sv a c:=⟨k.aa.trans h.aa,k.fn.trans h.fn,k.aO.trans h.aO,fun e=>k.err (h.err e),k.inv,by obtain⟨u,hu⟩:=h.pre;obtain⟨v,hv⟩:=k.pre;exact⟨u++v,by rw[hv,hu,List.append_assoc]⟩⟩
def iF(ex:Ck->Int->Ck×Int)(c:Ck)(a:Int):Ck:=(ex c (c.aE a 0)).1.ao (!decide ((ex c (c.aE a 0)).2=0)) a
def jr(ex:Ck->Int->Ck×Int)(c:Ck)(a:Int):Ck:=if 0<=(iF ex c a).find (c.node a).name then(iF ex c a).aC 41 a else iF ex c a
def ee(ex:Ck->Int->Ck×Int)(c:Ck)(a:Int):Ck:=if 24<=(jr ex c a).size then(jr ex c a).aC 4 a else jr ex c a
def CC(c:Ck)(a:Int)(v:bD):Ck:={ (c.slot a c.size)with vars:=c.vars++[v],more:=c.more.drop 1,size:=c.size+1 }
def uq(ex:Ck->Int->Ck×Int)(c:Ck)(a:Int):oW ex c a=CC (ee ex c a) a ⟨(c.node a).name,(ex c (c.aE a 0)).2,(ee ex c a).size⟩:=rfl
def Cf(hex:∀c a,Ev c (ex c a).1)(c:Ck)(a:Int):Ev c (iF ex c a):=(hex c _).trans (kv _ _ _)
def AL(hex:∀c a,Ev c (ex c a).1)(c:Ck)(a:Int):Ev c (jr ex c a):=by
 unfold jr;split
 ·exact(Cf hex c a).trans (nD _ jC a)
 ·exact Cf hex c a
def yZ(hex:∀c a,Ev c (ex c a).1)(c:Ck)(a:Int):Ev c (ee ex c a):=by
 unfold ee;split
 ·exact(AL hex c a).trans (nD _ jC a)
 ·exact AL hex c a
def Re{c:Ck}(h:(ee ex c a).e=0):(ee ex c a).size<24:=by
 unfold ee at h ⊢;split
 ·rename_i hs;rw[if_pos hs]at h;exfalso;unfold Ck.aC at h;split at h
  ·cases h
  ·contradiction
 ·omega
def ND{c:Ck}(h:bE c)(a:Int)(v:bD)(h24:c.size<=24)(hr:c.e=0->c.size<24):Sv c (CC c a v):=by refine⟨rfl,rfl,rfl,id,⟨h.aa,h.types,by show(c.slots.set _ _).length=_;rw[List.length_set];exact h.slots,h.av,h.aO,h.uW,h.uG,?_,by show c.size+1<=25;omega,fun e=>by show c.size+1<=24;have:=hr e;omega⟩,[v],rfl⟩;show((c.vars++[v]).length:Int)<=c.size+1;have:=h.vars;simp;omega
def Qq(hex:∀c a,Ev c (ex c a).1){c:Ck}(h:bE c)(he:c.e=0)(a:Int):Sv c (oW ex c a):=by rw[uq];have s:=yZ hex c a;refine(Sv.iu h s).trans (ND (h.ev s) a _ ?_ Re);rw[s.size];exact h.room he
def Rl(hex:∀c a,Ev c (ex c a).1){c:Ck}(h:bE c)(a:Int):Sv c (kH ex c a):=by
 refine Sv.iu h ?_;unfold kH;simp only;split
 ·exact nD c jC a
 split
 ·exact(hex c _).trans (kv _ _ _)
 ·exact .refl c
theorem q5{st:Ck->Int->Ck}(P':∀c a,bE c->c.e=0->Sv c (st c a)):∀(l:TD) (c:Ck),bE c->Sv c (dK st c l)
 |[],c,h=>by unfold dK;exact .refl h
 |a::l,c,h=>by
  unfold dK;split
  ·rename_i he;have s:=P' c a h he;exact s.trans (q5 P' l _ s.inv)
  ·exact .refl h
def qf{st:Ck->Int->Ck}(P':∀c a,bE c->c.e=0->Sv c (st c a)){c:Ck}(h:bE c)(a:Int):Sv c (fi st c a)/\(fi st c a).vars=c.vars:=by
 have s:=(Sv.iu h (qL c a)).trans (q5 P' (c.node a).l _ (h.ev (qL c a)));obtain⟨u,hu⟩:=s.pre;have hv:(dK st (c.ai a) (c.node a).l).vars.take (min c.vars.length (dK st (c.ai a) (c.node a).l).vars.length)=c.vars:=by rw[hu,Nat.min_eq_left jE,List.take_left'];rfl
 have hi:=s.inv;refine⟨⟨s.aa,s.fn,s.aO,s.err,⟨hi.aa,hi.types,hi.slots,hi.av,hi.aO,hi.uW,hi.uG,?_,hi.size,hi.room⟩,[],by rw[List.append_nil];exact hv⟩,hv⟩;have:=hi.vars;show(((dK st (c.ai a) (c.node a).l).vars.take _).length:Int)<=_;rw[List.length_take];show _<=(dK st (c.ai a) (c.node a).l).size;omega
theorem oC:∀(n:Nat) (c:Ck) (a:Int),bE c->c.e=0->Sv c (bP n c a)
 |0,c,a,h,he=>by unfold bP;exact .refl h
 |n+1,c,a,h,he=>by
  have e0:=qL c a;have h0:=h.ev e0;have s0:=Sv.iu h e0;have hx:=fg n;unfold bP;simp only;repeat' split
  ·exact s0.trans (Qq hx h0 he a)
  ·exact s0.trans (Sv.iu h0 (((nE _ a).trans (hx _ _)).trans (kv _ _ _)))
  ·exact s0.trans (Sv.iu h0 ((((nE _ a).trans (hx _ _)).trans (hx _ _)).trans (kv _ _ _)))
  ·exact s0.trans (Sv.iu h0 (hx _ _))
  ·exact s0.trans (Sv.iu h0 ((hx _ _).trans (kv _ _ _)))
  ·exact s0.trans (Rl hx h0 a)
  ·have s1:=s0.trans (Sv.iu h0 ((hx (c.ai a) ((c.ai a).aE a 0)).trans (kv _ (decide ((az n (c.ai a) ((c.ai a).aE a 0)).2=2)) a)));exact s1.trans (q5 (fun q b hq _=>(qf (oC n) hq b).1) _ _ s1.inv)
def Aa(n:Nat):Prop:=∀(c:Ck) (a:Int),bE c->c.e=0->0<=a->a<c.aa.nodes.length->a.toNat<n->fu (c.node a).kind->ab prog 197 [pR,rI a] (fI c) (fun v l=>v=.aP []/\l=fI (bP n c a))
def DJ(n:Nat):Prop:=∀(c:Ck) (a:Int),bE c->0<=a->a<c.aa.nodes.length->a.toNat<=n->(c.node a).kind=18->ab prog 152 [pR,rI a] (fI c) (fun v l=>v=.aP []/\l=fI (fi (bP n) c a))
attribute [go_sem] CC List.length_drop
def Rs(n:Nat)(hx:tn n)(c:Ck)(a:Int)(h:bE c)(he:c.e=0)(h0:0<=a)(h1:a<c.aa.nodes.length)(hn:a.toNat<=n)(hk:(c.node a).kind=10):ab prog 234 [pR,rI a] (fI c) (fun v l=>v=.aP []/\l=fI (oW (az n) c a)):=by
 obtain⟨sh,UR⟩:=uC h h0 h1;obtain⟨x,hl,TR⟩:=sh.right jB;have UL:(nth c.aa.nodes a.toNat).l.length=1:=by
  have:(c.node a).l.length=1:=by rw[hl];rfl
  exact this
 have Wk:c.aE a 0=x:=by unfold Ck.aE;rw[hl];rfl
 have hm:=UR x (by rw[hl];simp);have hex:=hx c (c.aE a 0) h jB jB jB (by rw[Wk];exact TR);have Uc:ab prog 237 _ _ (fun v l=>v=.aP []/\l=fI (iF (az n) c a)):=oJ (az n c (c.aE a 0)).1 (!decide ((az n c (c.aE a 0)).2=0)) a;have eA:=Cf (fg n) c a;have eB:=AL (fg n) c a;have eC:=yZ (fg n) c a;have hA:=h.ev eA;have hC:=h.ev eC;have Um:=Ce (iF (az n) c a) (c.node a).name hA;have Xq:=sC (iF (az n) c a) 41 a;have XY:=sC (jr (az n) c a) 4 a;have Uq:=hC.slots;have hcz:=hC.size;have W0:=hC.vars;have V2:=eC.size;have hc24:=h.room he;rw[eC.aa]at Uq;rw[uq];refine aL func234 ntmps234 ?_
 (refine S ?_;try exact jI)
 by_cases c1:0<=(iF (az n) c a).find (c.node a).name
 ·have e1:jr (az n) c a=(iF (az n) c a).aC 41 a:=if_pos c1;rw[<-e1]at Xq;by_cases c2:24<=(jr (az n) c a).size
  ·have e2:ee (az n) c a=(jr (az n) c a).aC 4 a:=if_pos c2;rw[<-e2]at XY
   (repeat' (first|refine aq fun K hK=>?_|refine au ?_|(with_reducible refine gR 7 ?_);refine dE 7 (bc 0 12) mixed ?_|(with_reducible refine gR 8 ?_);refine dE 8 (bc 0 18) mixed ?_|(refine hK _ _ ?_;clear hK K)|(refine ap ?_ ?_<;>intro hc<;>try exact jz)|refine cm (hex) ?_|refine cm (Uc) ?_|refine cm (Um) ?_|refine cm (Xq) ?_|refine cm (XY) ?_|refine rA (ee (az n) c a).vars (ee (az n) c a).more [⟨(c.node a).name,(az n c (c.aE a 0)).2,(ee (az n) c a).size⟩] ?_|refine ar ?_|exact jI|(clear hK K)))
   (refine aZ [] ?_;try simp only[go_sem])
  ·have e2:ee (az n) c a=jr (az n) c a:=if_neg c2;rw[e2]at Uq hcz W0 V2;rw[e2]
   (repeat' (first|refine aq fun K hK=>?_|refine au ?_|(with_reducible refine gR 7 ?_);refine dE 7 (bc 0 12) mixed ?_|(with_reducible refine gR 8 ?_);refine dE 8 (bc 0 18) mixed ?_|(refine hK _ _ ?_;clear hK K)|(refine ap ?_ ?_<;>intro hc<;>try exact jz)|refine cm (hex) ?_|refine cm (Uc) ?_|refine cm (Um) ?_|refine cm (Xq) ?_|refine rA (jr (az n) c a).vars (jr (az n) c a).more [⟨(c.node a).name,(az n c (c.aE a 0)).2,(jr (az n) c a).size⟩] ?_|refine ar ?_|exact jI|(clear hK K)))
   (refine aZ [] ?_;try simp only[go_sem])
 ·have e1:jr (az n) c a=iF (az n) c a:=if_neg c1;rw[e1]at XY;by_cases c2:24<=(iF (az n) c a).size
  ·have e2:ee (az n) c a=(iF (az n) c a).aC 4 a:=by unfold ee;rw[e1];exact if_pos c2
   rw[<-e2]at XY
   (repeat' (first|refine aq fun K hK=>?_|refine au ?_|(with_reducible refine gR 7 ?_);refine dE 7 (bc 0 12) mixed ?_|(with_reducible refine gR 8 ?_);refine dE 8 (bc 0 18) mixed ?_|(refine hK _ _ ?_;clear hK K)|(refine ap ?_ ?_<;>intro hc<;>try exact jz)|refine cm (hex) ?_|refine cm (Uc) ?_|refine cm (Um) ?_|refine cm (XY) ?_|refine rA (ee (az n) c a).vars (ee (az n) c a).more [⟨(c.node a).name,(az n c (c.aE a 0)).2,(ee (az n) c a).size⟩] ?_|refine ar ?_|exact jI|(clear hK K)))
   (refine aZ [] ?_;try simp only[go_sem])
  ·have e2:ee (az n) c a=iF (az n) c a:=by unfold ee;rw[e1];exact if_neg c2
   rw[e2]at Uq hcz W0 V2;rw[e2]
   (repeat' (first|refine aq fun K hK=>?_|refine au ?_|(with_reducible refine gR 7 ?_);refine dE 7 (bc 0 12) mixed ?_|(with_reducible refine gR 8 ?_);refine dE 8 (bc 0 18) mixed ?_|(refine hK _ _ ?_;clear hK K)|(refine ap ?_ ?_<;>intro hc<;>try exact jz)|refine cm (hex) ?_|refine cm (Uc) ?_|refine cm (Um) ?_|refine rA (iF (az n) c a).vars (iF (az n) c a).more [⟨(c.node a).name,(az n c (c.aE a 0)).2,(iF (az n) c a).size⟩] ?_|refine ar ?_|exact jI|(clear hK K)))
   (refine aZ [] ?_;try simp only[go_sem])
def FG(n:Nat)(hs:Aa n):DJ n:=by
 intro c a h h0 h1 hn hk;obtain⟨sh,UR⟩:=uC h h0 h1;have I':(nth c.aa.nodes a.toNat).l.length<=300:=ym h h0 h1;have e0:=qL c a;have hq0:=h.ev e0;have Ux:=h.av;have hvz:=h.vars;have Ti:=h.size;refine aL func152 ntmps152 ?_;refine S ?_
 (repeat' (first|refine aq fun K hK=>?_|refine au ?_|(with_reducible refine gR 0 ?_);refine dE 0 (bc 0 12) mixed ?_|(refine hK _ _ ?_;clear hK K)|(refine ap ?_ ?_<;>intro hc<;>try exact jz)|refine ar ?_|exact jI|(clear hK K)))
 have Tk:=hK;clear hK;refine eu (S:=Nat×Ck) [(6,1),(33,19)] (fun s=>s.1<=(c.node a).l.length/\Sv (c.ai a) s.2/\dK (bP n) s.2 ((c.node a).l.drop s.1)=dK (bP n) (c.ai a) (c.node a).l) (fun s=>[(6,rI s.1)]) (fun s=>⟨[0,1,2,3,4,5],fI s.2⟩) (fun s=>(c.node a).l.length-s.1) (0,c.ai a) ⟨jJ,.refl hq0,rfl⟩ (eD jM cH) ?_;rintro⟨i,q⟩ ⟨hi,hq,hA⟩ Kr Tg;simp only at hi hq hA
 (refine S ?_;try exact jI)
 have lt1:=hq.inv.types;have lt3:=hq.inv.av;have lt4:=hq.inv.vars;have lt5:=hq.inv.size;by_cases Uu:i<(c.node a).l.length/\q.e=0
 ·obtain⟨T4,US⟩:=Uu;have ZG:i<(nth c.aa.nodes a.toNat).l.length:=T4;rw[kQ T4,dK,if_pos US]at hA;have hm:nth (c.node a).l i∈(c.node a).l:=fh T4;have hb:=UR _ hm;have P':=hs q (nth (c.node a).l i) hq.inv US hb.1 (by rw[hq.aa];show _<(c.aa.nodes.length:Int);omega) jB (by
   have:q.node (nth (c.node a).l i)=c.node (nth (c.node a).l i):=by unfold Ck.node;rw[hq.aa];rfl
   rw[this];exact sh.block hk _ hm)
  (have W:=US;repeat' (first|refine aq fun K hK=>?_|refine au ?_|(refine hK _ _ ?_;clear hK K)|(refine ap ?_ ?_<;>intro hc<;>try exact jz)|refine cm (P') ?_|refine ar ?_|exact jI|(clear hK K)))
  refine Tg _ _ (eJ (i+1,bP n q (nth (c.node a).l i)) ⟨jJ,hq.trans (oC n q _ hq.inv US),hA⟩ jJ jM cH)
 ·have hz:q=dK (bP n) (c.ai a) (c.node a).l:=by
   by_cases T4:i<(c.node a).l.length
   ·rw[kQ T4,dK,if_neg fun e=>Uu ⟨T4,e⟩]at hA;exact hA
   ·rw[List.drop_eq_nil_of_le jB,dK]at hA;exact hA
  have e1:fi (bP n) c a={ q with vars:=q.vars.take (min c.vars.length q.vars.length),more:=q.vars.drop (min c.vars.length q.vars.length)++q.more }:=by unfold fi;rw[<-hz]
  obtain⟨u,hu⟩:=hq.pre;have hu:q.vars=c.vars++u:=hu;have Xn:min c.vars.length q.vars.length=c.vars.length:=by rw[hu];simp
  have Xs:¬(i<(nth c.aa.nodes a.toNat).l.length/\q.e=0):=Uu
  (repeat' (first|refine aq fun K hK=>?_|refine au ?_|(with_reducible refine gR 7 ?_);refine dE 7 (bc 0 16) mixed ?_|(refine hK _ _ ?_;clear hK K)|(refine ap ?_ ?_<;>intro hc<;>try exact jz)|refine Tk _ _ ?_|refine ar ?_|exact jI|(clear hK K)))
  all_goals first|(exact absurd ⟨by have:=hc.1;omega,hc.2⟩ Xs)|skip
  have ht:q.vars.take c.vars.length=c.vars:=by rw[hu,List.take_left' rfl]
  have hd:q.vars.drop c.vars.length=u:=by rw[hu,List.drop_left' rfl]
  rw[e1,Xn,ht,hd]
  (refine bW [] ?_ ?_<;>(try simp only[go_sem]))
  simp only[hu,List.map_append,List.append_assoc,List.length_append,Nat.add_assoc];rw[jN,Int.toNat_natCast]
def MU(n:Nat)(hx:tn n)(c:Ck)(a:Int)(h:bE c)(h0:0<=a)(h1:a<c.aa.nodes.length)(hn:a.toNat<=n)(hk:(c.node a).kind=17):ab prog 238 [pR,rI a] (fI c) (fun v l=>v=.aP []/\l=fI (kH (az n) c a)):=by
 obtain⟨sh,UR⟩:=uC h h0 h1;have UA:=h.uW;have hfh:=h.uG;have I':(nth c.aa.nodes a.toNat).l.length<=300:=ym h h0 h1;have ZH:=sC c 43 a;have Xt:decide (((c.node a).l.length:Int)=1)=decide ((c.node a).l.length=1):=by rw[decide_eq_decide];omega
 by_cases b:decide ((c.node a).l.length=1)≠(!decide ((nth c.aa.av c.fn.toNat).ret=0))
 ·have e1:kH (az n) c a=c.aC 43 a:=if_pos b;have hb:(decide (((nth c.aa.nodes a.toNat).l.length:Int)=1) == !decide ((nth c.aa.av c.fn.toNat).ret=0))=false:=by
   rw[show((nth c.aa.nodes a.toNat).l.length)=(c.node a).l.length from rfl,Xt];simpa using b
  rw[e1];refine aL func238 ntmps238 ?_;refine S ?_
  (have W:=hb;repeat' (first|refine aq fun K hK=>?_|refine au ?_|(with_reducible refine gR 1 ?_);refine dE 1 (bc 0 14) mixed ?_|(refine hK _ _ ?_;clear hK K)|(refine ap ?_ ?_<;>intro hc<;>try exact jz)|refine cm (ZH) ?_|refine ar ?_|exact jI|(clear hK K)))
  (refine aZ [] ?_;try simp only[go_sem])
 ·have hb:(decide (((nth c.aa.nodes a.toNat).l.length:Int)=1) == !decide ((nth c.aa.av c.fn.toNat).ret=0))=true:=by
   rw[show((nth c.aa.nodes a.toNat).l.length)=(c.node a).l.length from rfl,Xt];rw[Classical.not_not.1 b];exact beq_self_eq_true _
  by_cases hl:(c.node a).l.length=1
  ·have UL:(nth c.aa.nodes a.toNat).l.length=1:=hl;have e1:kH (az n) c a=(az n c (c.aE a 0)).1.ao (decide ((az n c (c.aE a 0)).2=(nth c.aa.av c.fn.toNat).ret)) a:=by unfold kH;simp only;rw[if_neg b,if_pos hl]
   rcases sh.ret hk with h2|⟨x,h2,h3⟩
   ·rw[h2]at hl;cases hl
   have Wk:c.aE a 0=x:=by unfold Ck.aE;rw[h2];rfl
   have hm:=UR x (by rw[h2];simp);have hex:=hx c (c.aE a 0) h jB jB jB (by rw[Wk];exact .inl h3);have Uc:=oJ (az n c (c.aE a 0)).1 (decide ((az n c (c.aE a 0)).2=(nth c.aa.av c.fn.toNat).ret)) a;rw[e1];refine aL func238 ntmps238 ?_;refine S ?_
   (have W:=hb;repeat' (first|refine aq fun K hK=>?_|refine au ?_|(with_reducible refine gR 1 ?_);refine dE 1 (bc 0 14) mixed ?_|(refine hK _ _ ?_;clear hK K)|(refine ap ?_ ?_<;>intro hc<;>try exact jz)|refine cm (hex) ?_|refine cm (Uc) ?_|refine ar ?_|exact jI|(clear hK K)))
   (refine aZ [] ?_;try simp only[go_sem])
  ·have UL:¬(nth c.aa.nodes a.toNat).l.length=1:=hl;have e1:kH (az n) c a=c:=by unfold kH;simp only;rw[if_neg b,if_neg hl]
   rw[e1];refine aL func238 ntmps238 ?_;refine S ?_
   (have W:=hb;repeat' (first|refine aq fun K hK=>?_|refine au ?_|(with_reducible refine gR 1 ?_);refine dE 1 (bc 0 14) mixed ?_|(refine hK _ _ ?_;clear hK K)|(refine ap ?_ ?_<;>intro hc<;>try exact jz)|refine ar ?_|exact jI|(clear hK K)))
   (refine aZ [] ?_;try simp only[go_sem])
def SW(n:Nat):Prop:=∀(c:Ck) (a:Int),bE c->c.e=0->0<=a->a<c.aa.nodes.length->a.toNat<=n->(c.node a).kind=10->ab prog 234 [pR,rI a] (fI c) (fun v l=>v=.aP []/\l=fI (oW (az n) c a))
def PR(n:Nat):Prop:=∀(c:Ck) (a:Int),bE c->0<=a->a<c.aa.nodes.length->a.toNat<=n->(c.node a).kind=17->ab prog 238 [pR,rI a] (fI c) (fun v l=>v=.aP []/\l=fI (kH (az n) c a))
def Pr(n:Nat)(hx:tn n)(hl:SW n)(hr:PR n)(Zt:DJ n):Aa (n+1):=by
 intro c a h he h0 h1 hn hk;have ev:=qL c a;have hq:=h.ev ev;obtain⟨sh,UR⟩:=uC h h0 h1;have I':(nth c.aa.nodes a.toNat).l.length<=300:=ym h h0 h1;have Ux:=h.av;have hvz:=h.vars;have Ti:=h.size;have Ub:∀i,i<(c.node a).l.length->(c.aE a i).toNat<n/\0<=c.aE a i/\c.aE a i<c.aa.nodes.length:=fun i hi=>by have hm:c.aE a i∈(c.node a).l:=fh hi;have:=UR _ hm;omega
 have en:=nE (c.ai a) a;have hqn:=hq.ev en;have Th:=Hr (c.ai a) a hq h0 h1;have e17:(c.node a).kind=10\/(c.node a).kind=11\/(c.node a).kind=12\/(c.node a).kind=13\/(c.node a).kind=14\/(c.node a).kind=17\/((c.node a).kind=15\/(c.node a).kind=16):=by unfold fu at hk;omega
 rcases e17 with k|k|k|k|k|k|k
 ·have Tv:(nth c.aa.nodes a.toNat).kind=10:=k;have k0:((c.ai a).node a).kind=10:=k;have Z':=hl (c.ai a) a hq he h0 h1 jB k0;rw[show bP (n+1) c a=oW (az n) (c.ai a) a from by unfold bP;simp only;rw[k0];rfl];refine aL func197 ntmps197 ?_;refine S ?_
  (have W:=Tv;repeat' (first|refine aq fun K hK=>?_|refine au ?_|(with_reducible refine gR 1 ?_);refine dE 1 (bc 0 12) mixed ?_|(refine hK _ _ ?_;clear hK K)|(refine ap ?_ ?_<;>intro hc<;>try exact jz)|refine cm (Z') ?_|refine ar ?_|exact jI|(clear hK K)))
  (refine aZ [] ?_;try simp only[go_sem])
 ·have Tv:(nth c.aa.nodes a.toNat).kind=11:=k;have k0:((c.ai a).node a).kind=11:=k;obtain⟨x,U4,Ur⟩:=sh.right jB;have U8:(c.node a).l.length=1:=by rw[U4];rfl
  have UL:(nth c.aa.nodes a.toNat).l.length=1:=U8;obtain⟨g0a,g0b,g0c⟩:=Ub 0 jB;have Tt:c.aE a 0=x:=by unfold Ck.aE;rw[U4];rfl
  have hex:=hx ((c.ai a).named a).1 (c.aE a 0) hqn g0b (by rw[en.aa];exact g0c) g0a (by rw[en.node];show fm (c.node (c.aE a 0)).kind;rw[Tt];exact Ur);have Uc:=oJ (az n ((c.ai a).named a).1 (c.aE a 0)).1 (decide (((c.ai a).named a).2=(az n ((c.ai a).named a).1 (c.aE a 0)).2)) a;rw[show bP (n+1) c a=(az n ((c.ai a).named a).1 (c.aE a 0)).1.ao (decide (((c.ai a).named a).2=(az n ((c.ai a).named a).1 (c.aE a 0)).2)) a from by unfold bP;simp only;rw[k0];rfl];refine aL func197 ntmps197 ?_;refine S ?_
  (have W:=Tv;repeat' (first|refine aq fun K hK=>?_|refine au ?_|(with_reducible refine gR 1 ?_);refine dE 1 (bc 0 12) mixed ?_|(refine hK _ _ ?_;clear hK K)|(refine ap ?_ ?_<;>intro hc<;>try exact jz)|refine cm (Th) ?_|refine cm (hex) ?_|refine cm (Uc) ?_|refine ar ?_|exact jI|(clear hK K)))
  (refine aZ [] ?_;try simp only[go_sem])
 ·have Tv:(nth c.aa.nodes a.toNat).kind=12:=k;have k0:((c.ai a).node a).kind=12:=k;obtain⟨x,y,U4,Ur,Vt⟩:=sh.two jB;have U8:(c.node a).l.length=2:=by rw[U4];rfl
  have UL:(nth c.aa.nodes a.toNat).l.length=2:=U8;obtain⟨g0a,g0b,g0c⟩:=Ub 0 jB;have Tt:c.aE a 0=x:=by unfold Ck.aE;rw[U4];rfl
  obtain⟨g1a,g1b,g1c⟩:=Ub 1 jB;have TQ:c.aE a 1=y:=by unfold Ck.aE;rw[U4];rfl
  have ex1:=fg n ((c.ai a).named a).1 (c.aE a 0);have hex:=hx ((c.ai a).named a).1 (c.aE a 0) hqn g0b (by rw[en.aa];exact g0c) g0a (by rw[en.node];show fm (c.node (c.aE a 0)).kind;rw[Tt];exact .inl Ur);have hey:=hx (az n ((c.ai a).named a).1 (c.aE a 0)).1 (c.aE a 1) (hqn.ev ex1) g1b (by rw[ex1.aa,en.aa];exact g1c) g1a (by rw[ex1.node,en.node];show fm (c.node (c.aE a 1)).kind;rw[TQ];exact .inl Vt);have Uc:=oJ (az n (az n ((c.ai a).named a).1 (c.aE a 0)).1 (c.aE a 1)).1 (decide (((c.ai a).named a).2=4) && decide ((az n ((c.ai a).named a).1 (c.aE a 0)).2=1) && decide ((az n (az n ((c.ai a).named a).1 (c.aE a 0)).1 (c.aE a 1)).2=1)) a;rw[show bP (n+1) c a=(az n (az n ((c.ai a).named a).1 (c.aE a 0)).1 (c.aE a 1)).1.ao (decide (((c.ai a).named a).2=4) && decide ((az n ((c.ai a).named a).1 (c.aE a 0)).2=1) && decide ((az n (az n ((c.ai a).named a).1 (c.aE a 0)).1 (c.aE a 1)).2=1)) a from by unfold bP;simp only;rw[k0];rfl];refine aL func197 ntmps197 ?_;refine S ?_
  (have W:=Tv;repeat' (first|refine aq fun K hK=>?_|refine au ?_|(with_reducible refine gR 1 ?_);refine dE 1 (bc 0 12) mixed ?_|(refine hK _ _ ?_;clear hK K)|(refine ap ?_ ?_<;>intro hc<;>try exact jz)|refine cm (Th) ?_|refine cm (hex) ?_|refine cm (hey) ?_|refine cm (Uc) ?_|refine ar ?_|exact jI|(clear hK K)))
  (refine aZ [] ?_;try simp only[go_sem])
 ·have Tv:(nth c.aa.nodes a.toNat).kind=13:=k;have k0:((c.ai a).node a).kind=13:=k;obtain⟨x,U4,Ur⟩:=sh.sX jB;have U8:(c.node a).l.length=1:=by rw[U4];rfl
  have UL:(nth c.aa.nodes a.toNat).l.length=1:=U8;obtain⟨g0a,g0b,g0c⟩:=Ub 0 jB;have Tt:c.aE a 0=x:=by unfold Ck.aE;rw[U4];rfl
  have hex:=hx (c.ai a) (c.aE a 0) hq g0b g0c g0a (by show fm (c.node (c.aE a 0)).kind;rw[Tt];exact .inr (.inr (.inr Ur)));rw[show bP (n+1) c a=(az n (c.ai a) (c.aE a 0)).1 from by unfold bP;simp only;rw[k0];rfl];refine aL func197 ntmps197 ?_;refine S ?_
  (have W:=Tv;repeat' (first|refine aq fun K hK=>?_|refine au ?_|(with_reducible refine gR 1 ?_);refine dE 1 (bc 0 12) mixed ?_|(refine hK _ _ ?_;clear hK K)|(refine ap ?_ ?_<;>intro hc<;>try exact jz)|refine cm (hex) ?_|refine ar ?_|exact jI|(clear hK K)))
  (refine aZ [] ?_;try simp only[go_sem])
 ·have Tv:(nth c.aa.nodes a.toNat).kind=14:=k;have k0:((c.ai a).node a).kind=14:=k;obtain⟨x,U4,Ur⟩:=sh.one jB;have U8:(c.node a).l.length=1:=by rw[U4];rfl
  have UL:(nth c.aa.nodes a.toNat).l.length=1:=U8;obtain⟨g0a,g0b,g0c⟩:=Ub 0 jB;have Tt:c.aE a 0=x:=by unfold Ck.aE;rw[U4];rfl
  have hex:=hx (c.ai a) (c.aE a 0) hq g0b g0c g0a (by show fm (c.node (c.aE a 0)).kind;rw[Tt];exact .inl Ur);have Uc:=oJ (az n (c.ai a) (c.aE a 0)).1 (!decide ((az n (c.ai a) (c.aE a 0)).2=4)) a;rw[show bP (n+1) c a=(az n (c.ai a) (c.aE a 0)).1.ao (!decide ((az n (c.ai a) (c.aE a 0)).2=4)) a from by unfold bP;simp only;rw[k0];rfl];refine aL func197 ntmps197 ?_;refine S ?_
  (have W:=Tv;repeat' (first|refine aq fun K hK=>?_|refine au ?_|(with_reducible refine gR 1 ?_);refine dE 1 (bc 0 12) mixed ?_|(refine hK _ _ ?_;clear hK K)|(refine ap ?_ ?_<;>intro hc<;>try exact jz)|refine cm (hex) ?_|refine cm (Uc) ?_|refine ar ?_|exact jI|(clear hK K)))
  (refine aZ [] ?_;try simp only[go_sem])
 ·have Tv:(nth c.aa.nodes a.toNat).kind=17:=k;have k0:((c.ai a).node a).kind=17:=k;have hrc:=hr (c.ai a) a hq h0 h1 jB k0;rw[show bP (n+1) c a=kH (az n) (c.ai a) a from by unfold bP;simp only;rw[k0];rfl];refine aL func197 ntmps197 ?_;refine S ?_
  (have W:=Tv;repeat' (first|refine aq fun K hK=>?_|refine au ?_|(with_reducible refine gR 1 ?_);refine dE 1 (bc 0 12) mixed ?_|(refine hK _ _ ?_;clear hK K)|(refine ap ?_ ?_<;>intro hc<;>try exact jz)|refine cm (hrc) ?_|refine ar ?_|exact jI|(clear hK K)))
  (refine aZ [] ?_;try simp only[go_sem])
 ·have Tu:1<=(c.node a).l.length/\cQ (c.node (c.aE a 0)).kind/\∀i,i<(c.node a).l.length->1<=i->(c.node (nth (c.node a).l i)).kind=18:=by
   have fin:∀{x y:Int},(c.node a).l=[x,y]->cQ (bX c.aa.nodes x)->bX c.aa.nodes y=18->1<=(c.node a).l.length/\cQ (c.node (c.aE a 0)).kind/\∀i,i<(c.node a).l.length->1<=i->(c.node (nth (c.node a).l i)).kind=18:=fun{x y} e hx hy=>by
    refine⟨by rw[e];simp,by have:c.aE a 0=x:=(by unfold Ck.aE;rw[e];rfl);rw[this];exact hx,fun i hi h1=>?_⟩;rw[e]at hi ⊢;obtain rfl:i=1:=by simp at hi;omega
    exact hy
   rcases k with k|k
   ·obtain⟨x,y,TR,Wx,U4⟩:=sh.lC k;rcases U4 with U4|⟨d,U4,hd⟩
    ·exact fin U4 TR Wx
    ·refine⟨by rw[U4];simp,by have:c.aE a 0=x:=(by unfold Ck.aE;rw[U4];rfl);rw[this];exact TR,fun i hi h1=>?_⟩;rw[U4]at hi ⊢;rcases(show i=1\/i=2 by simp at hi;omega)with rfl|rfl
     ·exact Wx
     ·exact hd
   ·obtain⟨x,y,U4,TR,Wx⟩:=sh.dX k;exact fin U4 TR Wx
  obtain⟨U8,TR,XZ⟩:=Tu;have UL:1<=(nth c.aa.nodes a.toNat).l.length:=U8;obtain⟨g0a,g0b,g0c⟩:=Ub 0 jB;have hex:=hx (c.ai a) (c.aE a 0) hq g0b g0c g0a (.inl TR);have eM:Ev c ((az n (c.ai a) (c.aE a 0)).1.ao (decide ((az n (c.ai a) (c.aE a 0)).2=2)) a):=(ev.trans (fg n _ _)).trans (kv _ _ _);have hM:=h.ev eM;have Uc:=oJ (az n (c.ai a) (c.aE a 0)).1 (decide ((az n (c.ai a) (c.aE a 0)).2=2)) a;rcases k with k|k
  ·have Tv:(nth c.aa.nodes a.toNat).kind=15:=k;have k0:((c.ai a).node a).kind=15:=k;rw[show bP (n+1) c a=dK (fi (bP n)) ((az n (c.ai a) (c.aE a 0)).1.ao (decide ((az n (c.ai a) (c.aE a 0)).2=2)) a) ((c.node a).l.drop 1) from by unfold bP;simp only;rw[k0];rfl];generalize hY:dK (fi (bP n)) ((az n (c.ai a) (c.aE a 0)).1.ao (decide ((az n (c.ai a) (c.aE a 0)).2=2)) a) ((c.node a).l.drop 1)=Y;refine aL func197 ntmps197 ?_;refine S ?_
   (have W:=Tv;repeat' (first|refine aq fun K hK=>?_|refine au ?_|(with_reducible refine gR 1 ?_);refine dE 1 (bc 0 12) mixed ?_|(refine hK _ _ ?_;clear hK K)|(refine ap ?_ ?_<;>intro hc<;>try exact jz)|refine cm (hex) ?_|refine cm (Uc) ?_|refine ar ?_|exact jI|(clear hK K)))
   refine eu (S:=Nat×Ck) [(12,1),(46,21)] (fun s=>s.1<=(c.node a).l.length/\1<=s.1/\bE s.2/\s.2.aa=c.aa/\dK (fi (bP n)) s.2 ((c.node a).l.drop s.1)=Y) (fun s=>[(12,rI s.1)]) (fun s=>⟨[0,1,2,3,4,5],fI s.2++[(6,.var 116 (eF (c.node a)))]⟩) (fun s=>(c.node a).l.length-s.1) (1,(az n (c.ai a) (c.aE a 0)).1.ao (decide ((az n (c.ai a) (c.aE a 0)).2=2)) a) ⟨jJ,Nat.le_refl _,hM,eM.aa,hY⟩ (eD jM cH) ?_;rintro⟨i,z⟩ ⟨hi,VQ,hz,X0,hA⟩ Kr Tg;simp only at hi VQ hz X0 hA;have U7:i<=(nth c.aa.nodes a.toNat).l.length:=hi
   (refine S ?_;try exact jI)
   by_cases Uu:i<(c.node a).l.length/\z.e=0
   ·obtain⟨T4,US⟩:=Uu;have ZG:i<(nth c.aa.nodes a.toNat).l.length:=T4;rw[kQ T4,dK,if_pos US]at hA;have hm:nth (c.node a).l i∈(c.node a).l:=fh T4;have hb:=UR _ hm;have ZI:=Zt z (nth (c.node a).l i) hz hb.1 (by rw[X0];omega) jB (by
     have:z.node (nth (c.node a).l i)=c.node (nth (c.node a).l i):=by unfold Ck.node;rw[X0]
     rw[this];exact XZ i T4 VQ)
    have sz:=(qf (fun q b hq he=>oC n q b hq he) hz (nth (c.node a).l i)).1
    (have W:=US;repeat' (first|refine aq fun K hK=>?_|refine au ?_|(refine hK _ _ ?_;clear hK K)|(refine ap ?_ ?_<;>intro hc<;>try exact jz)|refine cm (ZI) ?_|refine ar ?_|exact jI|(clear hK K)))
    refine Tg _ _ (eJ (i+1,fi (bP n) z (nth (c.node a).l i)) ⟨jJ,jJ,sz.inv,sz.aa.trans X0,hA⟩ jJ jM cH)
   ·have YA:z=Y:=by
     by_cases T4:i<(c.node a).l.length
     ·rw[kQ T4,dK,if_neg fun e=>Uu ⟨T4,e⟩]at hA;exact hA
     ·rw[List.drop_eq_nil_of_le jB,dK]at hA;exact hA
    have Xs:¬(i<(nth c.aa.nodes a.toNat).l.length/\z.e=0):=Uu
    (repeat' (first|refine aq fun K hK=>?_|refine au ?_|(refine hK _ _ ?_;clear hK K)|(refine ap ?_ ?_<;>intro hc<;>try exact jz)|refine ar ?_|exact jI|(clear hK K)))
    all_goals first|(exact absurd ⟨by have:=hc.1;omega,hc.2⟩ Xs)|skip
    rw[<-YA]
    (refine aZ [] ?_;try simp only[go_sem])
  ·have Tv:(nth c.aa.nodes a.toNat).kind=16:=k;have k0:((c.ai a).node a).kind=16:=k;rw[show bP (n+1) c a=dK (fi (bP n)) ((az n (c.ai a) (c.aE a 0)).1.ao (decide ((az n (c.ai a) (c.aE a 0)).2=2)) a) ((c.node a).l.drop 1) from by unfold bP;simp only;rw[k0];rfl];generalize hY:dK (fi (bP n)) ((az n (c.ai a) (c.aE a 0)).1.ao (decide ((az n (c.ai a) (c.aE a 0)).2=2)) a) ((c.node a).l.drop 1)=Y;refine aL func197 ntmps197 ?_;refine S ?_
   (have W:=Tv;repeat' (first|refine aq fun K hK=>?_|refine au ?_|(with_reducible refine gR 1 ?_);refine dE 1 (bc 0 12) mixed ?_|(refine hK _ _ ?_;clear hK K)|(refine ap ?_ ?_<;>intro hc<;>try exact jz)|refine cm (hex) ?_|refine cm (Uc) ?_|refine ar ?_|exact jI|(clear hK K)))
   refine eu (S:=Nat×Ck) [(12,1),(46,21)] (fun s=>s.1<=(c.node a).l.length/\1<=s.1/\bE s.2/\s.2.aa=c.aa/\dK (fi (bP n)) s.2 ((c.node a).l.drop s.1)=Y) (fun s=>[(12,rI s.1)]) (fun s=>⟨[0,1,2,3,4,5],fI s.2++[(6,.var 116 (eF (c.node a)))]⟩) (fun s=>(c.node a).l.length-s.1) (1,(az n (c.ai a) (c.aE a 0)).1.ao (decide ((az n (c.ai a) (c.aE a 0)).2=2)) a) ⟨jJ,Nat.le_refl _,hM,eM.aa,hY⟩ (eD jM cH) ?_;rintro⟨i,z⟩ ⟨hi,VQ,hz,X0,hA⟩ Kr Tg;simp only at hi VQ hz X0 hA;have U7:i<=(nth c.aa.nodes a.toNat).l.length:=hi
   (refine S ?_;try exact jI)
   by_cases Uu:i<(c.node a).l.length/\z.e=0
   ·obtain⟨T4,US⟩:=Uu;have ZG:i<(nth c.aa.nodes a.toNat).l.length:=T4;rw[kQ T4,dK,if_pos US]at hA;have hm:nth (c.node a).l i∈(c.node a).l:=fh T4;have hb:=UR _ hm;have ZI:=Zt z (nth (c.node a).l i) hz hb.1 (by rw[X0];omega) jB (by
     have:z.node (nth (c.node a).l i)=c.node (nth (c.node a).l i):=by unfold Ck.node;rw[X0]
     rw[this];exact XZ i T4 VQ)
    have sz:=(qf (fun q b hq he=>oC n q b hq he) hz (nth (c.node a).l i)).1
    (have W:=US;repeat' (first|refine aq fun K hK=>?_|refine au ?_|(refine hK _ _ ?_;clear hK K)|(refine ap ?_ ?_<;>intro hc<;>try exact jz)|refine cm (ZI) ?_|refine ar ?_|exact jI|(clear hK K)))
    refine Tg _ _ (eJ (i+1,fi (bP n) z (nth (c.node a).l i)) ⟨jJ,jJ,sz.inv,sz.aa.trans X0,hA⟩ jJ jM cH)
   ·have YA:z=Y:=by
     by_cases T4:i<(c.node a).l.length
     ·rw[kQ T4,dK,if_neg fun e=>Uu ⟨T4,e⟩]at hA;exact hA
     ·rw[List.drop_eq_nil_of_le jB,dK]at hA;exact hA
    have Xs:¬(i<(nth c.aa.nodes a.toNat).l.length/\z.e=0):=Uu
    (repeat' (first|refine aq fun K hK=>?_|refine au ?_|(refine hK _ _ ?_;clear hK K)|(refine ap ?_ ?_<;>intro hc<;>try exact jz)|refine ar ?_|exact jI|(clear hK K)))
    all_goals first|(exact absurd ⟨by have:=hc.1;omega,hc.2⟩ Xs)|skip
    rw[<-YA]
    (refine aZ [] ?_;try simp only[go_sem])
theorem wQ:∀n,tn n
 |0=>fun c a h h0 h1 hn=>by omega
 |n+1=>My n (OF n (wQ n) (Q5 n (wQ n)))
theorem Ec:∀n,Aa n
 |0=>fun c a h he h0 h1 hn=>by omega
 |n+1=>Pr n (wQ n) (fun c a h he h0 h1 hn hk=>Rs n (wQ n) c a h he h0 h1 hn hk) (fun c a h h0 h1 hn hk=>MU n (wQ n) c a h h0 h1 hn hk) (FG n (Ec n))
def yt(c:Ck):TB:=[aM eF 5 c.aa.nodes,aM fX 5 c.aa.av,.rs 1 c.types.length 1 c.types.length,.rs 2 c.slots.length 1 c.slots.length,.rs 3 c.av.length 1 c.av.length,.rs 4 c.aO.length 1 c.aO.length,rI c.fn,.any,rI c.size,rI c.e,rI c.at_]
def nz(c:Ck):TA:=[(0,.var 186 (yt c)),(1,.aF 3 1 (c.types.map eI)),(2,.aF 3 1 (c.slots.map eI)),(3,.aF 3 1 (c.av.map eI)),(4,.aF 3 1 (c.aO.map eI))]
attribute [go_sem] nz yt
structure gr(c:Ck):Prop where
 aa:aQ c.aa
 types:c.types.length=c.aa.nodes.length
 slots:c.slots.length=c.aa.nodes.length
 av:c.av.length=c.aa.nodes.length
def mK(c:Ck)(v:bD):Ck:={ c with vars:=c.vars++[v],more:=c.more.drop 1,size:=c.size+1 }
attribute [go_sem] mK
def Ct{c:Ck}(h:bE c)(v:bD)(hs:c.size<=20):bE (mK c v):=⟨h.aa,h.types,h.slots,h.av,h.aO,h.uW,h.uG,by have:=h.vars;show((c.vars++[v]).length:Int)<=c.size+1;simp;omega,by show c.size+1<=25;omega,fun _=>by show c.size+1<=24;omega⟩
def Rf(c:Ck)(k:Nat)(h:gr c)(hk:k<c.aa.av.length)(Ti:c.aO.length<6):ab prog 105 [pR,rI k] (nz c) (fun v l=>v=.aP []/\l=nz (gH c k)):=by
 have hff:=h.aa.av;have UA:=h.aa.fn _ (fh hk);have Y9:=UA.2;have Wl:=h.aa.body _ (fh hk);have hbm:=h.aa.chain.mem (nth c.aa.av k).body (List.mem_map.2 ⟨_,fh hk,rfl⟩);refine aL func105 ntmps105 ?_;refine S ?_
 (repeat' (first|refine aq fun K hK=>?_|refine au ?_|(refine hK _ _ ?_;clear hK K)|(refine ap ?_ ?_<;>intro hc<;>try exact jz)|refine al 6 ?_|refine ar ?_|exact jI|(clear hK K)))
 have Tk:=hK;clear hK;refine jq (dO.gg 5 0 7 258 3 rfl jC rfl rfl) ?_
 (refine S ?_;try exact jI)
 generalize U3:({ c with fn:=(k:Int),vars:=[],more:=[],size:=0 }:Ck)=c0;have VD:bE c0:=by subst U3;exact⟨h.aa,h.types,h.slots,h.av,by show c.aO.length<=6;omega,by show(0:Int)<=k;omega,by show(k:Int)<(c.aa.av.length:Int);omega,by show((0:Nat):Int)<=0;omega,by show(0:Int)<=25;omega,fun _=>by show(0:Int)<=24;omega⟩
 have TP:gH c k=(fun c2:Ck=>{ c2 with aO:=c2.aO++[c2.size],vars:=[],more:=[] }) (if(fw (nth c.aa.av k).body c0 (nth c.aa.av k).params 0).e=0 then fi (bP c.aa.nodes.length) (fw (nth c.aa.av k).body c0 (nth c.aa.av k).params 0) (nth c.aa.av k).body else fw (nth c.aa.av k).body c0 (nth c.aa.av k).params 0):=by subst U3;rfl
 refine jq (dO.perm (fI c0++[(6,.var 181 (fX (nth c.aa.av k)))]) (fun i=>by subst U3;simp only[go_sem,aA];(repeat' split)<;>first|rfl|omega)) ?_;refine eu (S:=Nat×Ck) [(5,1),(25,50)] (fun s=>s.1<=(nth c.aa.av k).params.length/\bE s.2/\s.2.size=s.1/\s.2.vars.length=s.1/\s.2.aa=c.aa/\s.2.aO=c.aO/\fw (nth c.aa.av k).body s.2 ((nth c.aa.av k).params.drop s.1) s.1=fw (nth c.aa.av k).body c0 (nth c.aa.av k).params 0) (fun s=>[(5,rI s.1)]) (fun s=>⟨[0,1,2,3,4],fI s.2++[(6,.var 181 (fX (nth c.aa.av k)))]⟩) (fun s=>(nth c.aa.av k).params.length-s.1) (0,c0) ⟨jJ,VD,by subst U3;rfl,by subst U3;rfl,by subst U3;rfl,by subst U3;rfl,rfl⟩ (eD rfl cH) ?_;rintro⟨i,q⟩ ⟨hi,hq,hqs,YD,W9,YP,hA⟩ Kr Tg;simp only at hi hq hqs YD W9 YP hA
 (refine S ?_;try exact jI)
 by_cases O':i<(nth c.aa.av k).params.length
 ·rw[kQ O',fw]at hA;have Um:=Ce q (nth (nth c.aa.av k).params i).name hq;have Xq:=sC q 41 (nth c.aa.av k).body;by_cases hf:0<=q.find (nth (nth c.aa.av k).params i).name
  ·rw[if_pos hf]at hA;have ef:=nD q (e:=41) jC (nth c.aa.av k).body;have XL:=ef.vars;have Ty:=ef.size;have VQ:=hq.ev ef;have XP:(q.aC 41 (nth c.aa.av k).body).vars.length=i:=by rw[XL,YD]
   (repeat' (first|refine aq fun K hK=>?_|refine au ?_|(with_reducible refine gR 9 ?_);refine dE 9 (bc 0 24) mixed ?_|(refine hK _ _ ?_;clear hK K)|(refine ap ?_ ?_<;>intro hc<;>try exact jz)|refine cm (Um) ?_|refine cm (Xq) ?_|refine rA (q.aC 41 (nth c.aa.av k).body).vars (q.aC 41 (nth c.aa.av k).body).more [⟨(nth (nth c.aa.av k).params i).name,(nth (nth c.aa.av k).params i).ty,(i:Int)⟩] ?_|refine ar ?_|exact jI|(clear hK K)))
   refine Tg _ _ (eJ (i+1,mK (q.aC 41 (nth c.aa.av k).body) ⟨(nth (nth c.aa.av k).params i).name,(nth (nth c.aa.av k).params i).ty,(i:Int)⟩) ⟨jJ,Ct VQ _ jB,by show(q.aC 41 (nth c.aa.av k).body).size+1=_;omega,by show((q.aC 41 (nth c.aa.av k).body).vars++[_]).length=i+1;rw[List.length_append,XP];rfl,ef.aa.trans W9,ef.aO.trans YP,hA⟩ jJ jM cH)
  ·rw[if_neg hf]at hA
   (repeat' (first|refine aq fun K hK=>?_|refine au ?_|(with_reducible refine gR 9 ?_);refine dE 9 (bc 0 24) mixed ?_|(refine hK _ _ ?_;clear hK K)|(refine ap ?_ ?_<;>intro hc<;>try exact jz)|refine cm (Um) ?_|refine rA q.vars q.more [⟨(nth (nth c.aa.av k).params i).name,(nth (nth c.aa.av k).params i).ty,(i:Int)⟩] ?_|refine ar ?_|exact jI|(clear hK K)))
   refine Tg _ _ (eJ (i+1,mK q ⟨(nth (nth c.aa.av k).params i).name,(nth (nth c.aa.av k).params i).ty,(i:Int)⟩) ⟨jJ,Ct hq _ jB,by show q.size+1=_;omega,by show(q.vars++[_]).length=i+1;rw[List.length_append,YD];rfl,W9,YP,hA⟩ jJ jM cH)
 ·have hz:q=fw (nth c.aa.av k).body c0 (nth c.aa.av k).params 0:=by
   rw[List.drop_eq_nil_of_le jB]at hA;exact hA
  rw[<-hz]at TP;by_cases he:q.e=0
  ·rw[if_pos he]at TP;have sb:=(qf (fun q b hq he=>oC c.aa.nodes.length q b hq he) hq (nth c.aa.av k).body).1;have ZI:=FG c.aa.nodes.length (Ec _) q (nth c.aa.av k).body hq hbm.1 (by rw[W9];omega) jB (by unfold Ck.node;rw[W9];exact Wl);have VC:(fi (bP c.aa.nodes.length) q (nth c.aa.av k).body).aO.length<6:=by rw[sb.aO,YP];exact Ti
   (have W:=he;repeat' (first|refine FC (id:=13) 0 7 ?_|refine aq fun K hK=>?_|refine au ?_|(with_reducible refine gR 13 ?_);refine dE 13 (bc 0 16) mixed ?_|(refine hK _ _ ?_;clear hK K)|(refine ap ?_ ?_<;>intro hc<;>try exact jz)|refine Tk _ _ ?_|refine cm (ZI) ?_|refine ar ?_|exact jI|(clear hK K)))
   rw[TP]
   (refine aZ [] ?_;try simp only[go_sem])
  ·rw[if_neg he]at TP;have VC:q.aO.length<6:=by rw[YP];exact Ti
   (have W:=he;repeat' (first|refine FC (id:=13) 0 7 ?_|refine aq fun K hK=>?_|refine au ?_|(with_reducible refine gR 13 ?_);refine dE 13 (bc 0 16) mixed ?_|(refine hK _ _ ?_;clear hK K)|(refine ap ?_ ?_<;>intro hc<;>try exact jz)|refine Tk _ _ ?_|refine ar ?_|exact jI|(clear hK K)))
   rw[TP]
   (refine aZ [] ?_;try simp only[go_sem])
def GC(c:Ck)(e a:Int):ab prog 150 [pR,rI e,rI a] (nz c) (fun v l=>v=.aP []/\l=nz (c.aC e a)):=by
 refine aL func150 ntmps150 ?_;refine S ?_
 (repeat' (first|refine aq fun K hK=>?_|refine au ?_|(refine hK _ _ ?_;clear hK K)|(refine ap ?_ ?_<;>intro hc<;>try exact jz)|refine ar ?_|exact jI|(clear hK K)))
 ·(refine bW [] ?_ ?_<;>(try simp only[go_sem]))
  simp only[Ck.aC,if_pos hc,nz,yt]
 ·(refine bW [] ?_ ?_<;>(try simp only[go_sem]))
  simp only[Ck.aC,if_neg hc,nz,yt]
theorem CO(x:bh):∀(l:List bh) (c:Ck),Ev c (kM x c l)
 |[],c=>by unfold kM;exact .refl c
 |f::l,c=>by
  unfold kM;refine Ev.trans ?_ (CO x l _);split
  ·exact nD c jC _
  ·exact .refl c
theorem Be(av:List bh):∀(n:Nat) (c:Ck) (m:Bool) (i:Nat),Ev c (jZ av c m i n).1
 |0,c,m,i=>by unfold jZ;exact .refl c
 |n+1,c,m,i=>by unfold jZ;exact(CO _ _ _).trans (Be av n _ _ _)
def GM(c:Ck):Ev c (iW c):=by
 unfold iW;simp only;split
 ·exact Be _ _ _ _ _
 ·exact(Be _ _ _ _ _).trans (nD _ jC _)
def Sz(c:Ck)(h:c.aa.av.length<=6):ab prog 104 [pR] (nz c) (fun v l=>v=.aP []/\l=nz (iW c)):=by
 refine aL func104 ntmps104 ?_;refine S ?_
 (repeat' (first|refine aq fun K hK=>?_|refine au ?_|(refine hK _ _ ?_;clear hK K)|(refine ap ?_ ?_<;>intro hc<;>try exact jz)|refine ar ?_|exact jI|(clear hK K)))
 have Tk:=hK;clear hK;refine eu (S:=Nat×Ck×Bool) [(3,3),(12,55)] (fun s=>s.1<=c.aa.av.length/\jZ c.aa.av s.2.1 s.2.2 s.1 (c.aa.av.length-s.1)=jZ c.aa.av c false 0 c.aa.av.length/\s.2.1.aa=c.aa) (fun s=>[(4,rI s.1),(3,rB s.2.2)]) (fun s=>⟨[0,1,2,3,4],nz s.2.1⟩) (fun s=>c.aa.av.length-s.1) (0,c,false) ⟨jJ,rfl,rfl⟩ (eD jM cH) ?_;rintro⟨i,q,m⟩ ⟨hi,hA,W9⟩ Kr Tg;simp only at hi hA W9
 (refine S ?_;try exact jI)
 by_cases O':i<c.aa.av.length
 ·rw[show c.aa.av.length-i=(c.aa.av.length-(i+1))+1 from jB,jZ]at hA
  (repeat' (first|refine aq fun K hK=>?_|refine au ?_|(refine hK _ _ ?_;clear hK K)|(refine ap ?_ ?_<;>intro hc<;>try exact jz)|refine ar ?_|exact jI|(clear hK K)))
  have hKi:=hK;clear hK;have ZJ:=hK;clear hK;refine eu (S:=Nat×Ck) [(5,1),(18,23)] (fun s=>s.1<=i/\kM (nth c.aa.av i) s.2 ((c.aa.av.take i).drop s.1)=kM (nth c.aa.av i) q (c.aa.av.take i)) (fun s=>[(5,rI s.1)]) (fun s=>⟨[0,1,2,3,4],nz s.2⟩) (fun s=>i-s.1) (0,q) ⟨jJ,rfl⟩ (eD jM cH) ?_;rintro⟨k,z⟩ ⟨hk,hB⟩ Kj Y8;simp only at hk hB
  (refine S ?_;try exact jI)
  by_cases UU:k<i
  ·have Yl:k<(c.aa.av.take i).length:=by rw[List.length_take];omega
   have W8:nth (c.aa.av.take i) k=nth c.aa.av k:=by simp[nth,List.getD_eq_getElem?_getD,List.getElem?_take,UU]
   rw[kQ Yl,W8,kM]at hB;have Xq:=GC z 41 (nth c.aa.av i).body
   (repeat' (first|refine aq fun K hK=>?_|refine au ?_|(with_reducible refine gR 8 ?_);refine dE 8 (bc 0 11) mixed ?_|(refine hK _ _ ?_;clear hK K)|(refine ap ?_ ?_<;>intro hc<;>try exact jz)|refine cm (Xq) ?_|refine ar ?_|exact jI|(clear hK K)))
   ·rw[if_pos hc]at hB;refine Y8 _ _ (eJ (k+1,z.aC 41 (nth c.aa.av i).body) ⟨jJ,hB⟩ jJ jM cH)
   ·rw[if_neg hc]at hB;refine Y8 _ _ (eJ (k+1,z) ⟨jJ,hB⟩ jJ jM cH)
  ·rw[List.drop_eq_nil_of_le (by rw[List.length_take];omega),kM]at hB
   (repeat' (first|refine aq fun K hK=>?_|refine au ?_|(refine hK _ _ ?_;clear hK K)|(refine ap ?_ ?_<;>intro hc<;>try exact jz)|refine hKi _ _ ?_|refine ZJ _ _ ?_|refine ar ?_|exact jI|(clear hK K)))
   refine Tg _ _ (eJ (i+1,z,m || uR (nth c.aa.av i)) ⟨jJ,by rw[<-hB]at hA;exact hA,by rw[hB];exact(CO _ _ _).aa.trans W9⟩ jJ jM (by simp only[go_sem,kU,Nat.reduceAdd,AV.raw.injEq,Value.int.injEq,Value.slice.injEq,Value.pointer.injEq,AV.rs.injEq,uR];try omega))
 ·rw[show c.aa.av.length-i=0 from jB,jZ]at hA;have hz:iW c=if m=true then q else q.aC 44 0:=by unfold iW;rw[<-hA]
  have Xq:=GC q 44 0;cases m
  ·rw[if_neg jC]at hz
   (repeat' (first|refine aq fun K hK=>?_|refine au ?_|(refine hK _ _ ?_;clear hK K)|(refine ap ?_ ?_<;>intro hc<;>try exact jz)|refine Tk _ _ ?_|refine cm (Xq) ?_|refine ar ?_|exact jI|(clear hK K)))
   rw[hz]
   (refine bW [] ?_ ?_<;>(try simp only[go_sem]))
  ·rw[if_pos rfl]at hz
   (repeat' (first|refine aq fun K hK=>?_|refine au ?_|(refine hK _ _ ?_;clear hK K)|(refine ap ?_ ?_<;>intro hc<;>try exact jz)|refine Tk _ _ ?_|refine ar ?_|exact jI|(clear hK K)))
   rw[hz]
   (refine bW [] ?_ ?_<;>(try simp only[go_sem]))
theorem yh(body:Int):∀(ps:List bK) (c:Ck) (i:Int),bE c->c.size+ps.length<=20->bE (fw body c ps i)/\(fw body c ps i).aa=c.aa/\(fw body c ps i).aO=c.aO
 |[],c,i,h,hs=>by unfold fw;exact⟨h,rfl,rfl⟩
 |p::ps,c,i,h,hs=>by
  unfold fw;simp only[List.length_cons]at hs;have fin:∀c1:Ck,Ev c c1->bE (fw body (mK c1 ⟨p.name,p.ty,i⟩) ps (i+1))/\(fw body (mK c1 ⟨p.name,p.ty,i⟩) ps (i+1)).aa=c.aa/\(fw body (mK c1 ⟨p.name,p.ty,i⟩) ps (i+1)).aO=c.aO:=fun c1 s=>by have h1:=h.ev s;have hz:=s.size;obtain⟨a,b,d⟩:=yh body ps (mK c1 ⟨p.name,p.ty,i⟩) (i+1) (Ct h1 _ jB) (by show c1.size+1+_<=20;omega);exact⟨a,b.trans s.aa,d.trans s.aO⟩
  simp only;split
  ·exact fin _ (nD c jC body)
  ·exact fin _ (.refl c)
def BA{c:Ck}(h:gr c){k:Nat}(hk:k<c.aa.av.length)(Ti:c.aO.length<6):gr (gH c k)/\(gH c k).aa=c.aa/\(gH c k).aO.length=c.aO.length+1:=by
 have Y9:=(h.aa.fn _ (fh hk)).2;have VD:bE { c with fn:=(k:Int),vars:=[],more:=[],size:=0 }:=⟨h.aa,h.types,h.slots,h.av,by show c.aO.length<=6;omega,by show(0:Int)<=k;omega,by show(k:Int)<(c.aa.av.length:Int);omega,by show((0:Nat):Int)<=0;omega,by show(0:Int)<=25;omega,fun _=>by show(0:Int)<=24;omega⟩;obtain⟨a,b,d⟩:=yh (nth c.aa.av k).body (nth c.aa.av k).params _ 0 VD (by show(0:Int)+_<=20;omega);unfold gH;simp only;split
 ·have s:=(qf (fun q b hq he=>oC c.aa.nodes.length q b hq he) a (nth c.aa.av k).body).1;have hi:=s.inv;refine⟨⟨hi.aa,hi.types,hi.slots,hi.av⟩,s.aa.trans b,?_⟩;show((fi (bP c.aa.nodes.length) _ _).aO++[_]).length=_;rw[List.length_append,s.aO,d];rfl
 ·refine⟨⟨a.aa,a.types,a.slots,a.av⟩,b,?_⟩;show((fw _ _ _ _).aO++[_]).length=_;rw[List.length_append,d];rfl
def mZ(t:aG)(n:Nat):Ck:=⟨t,(t.nodes.take n).map fun _=>0,(t.nodes.take n).map fun _=>-1,(t.nodes.take n).map fun _=>0,[],0,[],[],0,0,0⟩
variable{n:Nat}
def J0(t:aG)(h:t.nodes.length<=n):mZ t n=jw t:=by simp[mZ,jw,List.take_of_length_le h]
def JR(t:aG)(h:n<t.nodes.length):mZ t (n+1)={ mZ t n with types:=(mZ t n).types++[0],slots:=(mZ t n).slots++[-1],av:=(mZ t n).av++[0] }:=by simp[mZ,ub h]
def K4(t:aG)(h:n<=t.nodes.length):(mZ t n).types.length=n/\(mZ t n).slots.length=n/\(mZ t n).av.length=n:=by simp[mZ];omega
@[go_sem] def j0Z(t:aG)(l:TB):lr t++l=aM eF 5 t.nodes::aM fX 5 t.av::l:=rfl
def Ow(t:aG)(h:aQ t):aB prog 53 [.agg (lr t)] (.aP [.agg (ci (ir t).1),rI (ir t).2.1,rI (ir t).2.2]):=by
 have hf:=h.av;have hm:=h.many;refine bM func53 ntmps53 ?_
 (repeat' (first|refine aq fun K hK=>?_|refine au ?_|(refine hK _ _ ?_;clear hK K)|(refine ap ?_ ?_<;>intro hc<;>try exact jz)|refine bx 10 ?_|refine al 11 ?_|refine bx 0 ?_|refine ar ?_|exact jI|(clear hK K)))
 have Tk:=hK;clear hK;refine jq (dO.gg 1 0 2 3 1 rfl jC rfl rfl) ?_
 (refine S ?_;try exact jI)
 refine jq (dO.gg 2 0 3 3 1 rfl jC rfl rfl) ?_
 (refine S ?_;try exact jI)
 refine jq (dO.gg 3 0 4 3 1 rfl jC rfl rfl) ?_
 (refine S ?_;try exact jI)
 refine jq (dO.gg 4 0 5 3 1 rfl jC rfl rfl) ?_
 (refine S ?_;try exact jI)
 refine jq (dO.sU 0 7 rfl) ?_
 (refine S ?_;try exact jI)
 refine jq (dO.perm (nz (mZ t 0)++[(10,.var 30 (lr t)),(11,.var 32 [.raw (.slice none 0 0),.raw (.slice none 0 0),.raw (.slice none 0 0),.raw (.slice none 0 0),.raw (.slice none 0 0),.raw (.slice none 0 0)])]) (fun i=>by simp only[go_sem,aA,mZ];(repeat' split)<;>first|rfl|omega)) ?_;refine eu (S:=Nat) [(6,1),(12,40)] (fun k=>k<=t.nodes.length) (fun k=>[(6,rI k)]) (fun k=>⟨[],nz (mZ t k)++[(10,.var 30 (lr t)),(11,.var 32 [.raw (.slice none 0 0),.raw (.slice none 0 0),.raw (.slice none 0 0),.raw (.slice none 0 0),.raw (.slice none 0 0),.raw (.slice none 0 0)])]⟩) (fun k=>t.nodes.length-k) 0 (Nat.zero_le _) (eD rfl cH) ?_;rintro k hk Kr Tg;obtain⟨l1,l2,l3⟩:=K4 t hk
 (refine S ?_;try exact jI)
 by_cases O':k<t.nodes.length
 ·(repeat' (first|refine aq fun K hK=>?_|refine au ?_|(refine hK _ _ ?_;clear hK K)|(refine ap ?_ ?_<;>intro hc<;>try exact jz)|refine ar ?_|exact jI|(clear hK K)))
  refine Tg _ _ (eJ (k+1) jB jB (by rw[JR t O'];exact jM) cH)
 ·have Tu:=J0 t (n:=k) jB;rw[Tu]at*;have hh:=Sz (jw t) hf
  (repeat' (first|refine aq fun K hK=>?_|refine au ?_|(refine hK _ _ ?_;clear hK K)|(refine ap ?_ ?_<;>intro hc<;>try exact jz)|refine Tk _ _ ?_|refine cm (hh) ?_|refine ar ?_|exact jI|(clear hK K)))
  have Xr:=hK;clear hK;have eh:=GM (jw t);have VD:gr (iW (jw t)):=⟨by rw[eh.aa];exact h,by rw[eh.types,eh.aa];simp[jw],by rw[eh.slots,eh.aa];simp[jw],by rw[eh.av,eh.aa];simp[jw]⟩;refine eu (S:=Nat×Ck) [(7,1),(54,17)] (fun s=>s.1<=t.av.length/\gr s.2/\s.2.aa=t/\s.2.aO.length=s.1/\gv s.2 s.1 (t.av.length-s.1)=iV t) (fun s=>[(7,rI s.1)]) (fun s=>⟨[],nz s.2++[(10,.var 30 (lr t)),(11,.var 32 [.raw (.slice none 0 0),.raw (.slice none 0 0),.raw (.slice none 0 0),.raw (.slice none 0 0),.raw (.slice none 0 0),.raw (.slice none 0 0)])]⟩) (fun s=>t.av.length-s.1) (0,iW (jw t)) ⟨Nat.zero_le _,VD,eh.aa,by rw[eh.aO];rfl,rfl⟩ (eD jM cH) ?_;rintro⟨i,q⟩ ⟨hi,hq,W9,YP,hA⟩ Kr2 WR;simp only at hi hq W9 YP hA
  (refine S ?_;try exact jI)
  by_cases Uu:i<t.av.length/\q.e=0
  ·obtain⟨T4,US⟩:=Uu;rw[show t.av.length-i=(t.av.length-(i+1))+1 from jB,gv,if_pos US]at hA;have hkf:i<q.aa.av.length:=by rw[W9];exact T4
   have VL:=Rf q i hq hkf jB;obtain⟨f1,f2,f3⟩:=BA hq hkf jB
   (have W:=US;repeat' (first|refine aq fun K hK=>?_|refine au ?_|(refine hK _ _ ?_;clear hK K)|(refine ap ?_ ?_<;>intro hc<;>try exact jz)|refine cm (VL) ?_|refine ar ?_|exact jI|(clear hK K)))
   refine WR _ _ (eJ (i+1,gH q i) ⟨jJ,f1,f2.trans W9,jJ,hA⟩ jJ jM cH)
  ·have hz:q=iV t:=by
    rw[<-hA];by_cases T4:i<t.av.length
    ·rw[show t.av.length-i=(t.av.length-(i+1))+1 from jB,gv,if_neg fun e=>Uu ⟨T4,e⟩]
    ·rw[show t.av.length-i=0 from jB,gv]
   by_cases he:q.e=0
   ·have hr:ir t=(q.prog,0,0):=by unfold ir;rw[<-hz,if_neg (fun h=>h he)]
    have I':¬i<t.av.length:=fun h=>Uu ⟨h,he⟩
    (have W:=he;repeat' (first|refine aq fun K hK=>?_|refine au ?_|(refine hK _ _ ?_;clear hK K)|(refine ap ?_ ?_<;>intro hc<;>try exact jz)|(refine Xr _ _ ?_)|refine ar ?_|exact jI|(clear hK K)))
    rw[hr];refine fC [.cell 2 32,.tmp 3,.tmp 4] ?_;refine bt.aP (ds:=[.agg (ci q.prog),rI 0,rI 0]) ?_;refine jA (bt.agg (ds:=ci q.prog) ?_) (jA (.same _ rfl) (jA (.same _ rfl) trivial));simp only[ci,Ck.prog];exact jh
   ·have hr:ir t=(ld,q.at_,q.e):=by unfold ir;rw[<-hz,if_pos he]
    (have W:=he;repeat' (first|refine aq fun K hK=>?_|refine au ?_|(with_reducible refine gR 14 ?_);refine dA 14 [11] (bc 0 12) mixed ?_|(refine hK _ _ ?_;clear hK K)|(refine ap ?_ ?_<;>intro hc<;>try exact jz)|(refine Xr _ _ ?_)|refine ar ?_|exact jI|(clear hK K)))
    rw[hr];refine fC [.cell 2 32,.tmp 3,.tmp 4] ?_;refine bt.aP (ds:=[.agg (ci ld),rI _,rI _]) ?_;refine jA (bt.agg (ds:=ci ld) ?_) (jA (.same _ rfl) (jA (.same _ rfl) trivial));simp only[ci,ld];exact jh
end Go.Proofs.YtjpcgmjaipfgdaaGreatDoor
/- Lemmas. No conditions. -/
import Derived.Test.YtjpcgmjaipfgdaaGreatDoorBqF
import Derived.Laws.RangeAny
import Derived.Laws.RangeString
set_option linter.all false
set_option maxHeartbeats 4000000
set_option maxRecDepth 10000
namespace Go.Gd
open Go
def MZ{P:TL}{f:FuncId}{args:TB}{r:AV}(cF:TI)(v:Value)(ha:∀(w:NW) vs,bq w args vs->vs=cF)(hr:∀w:NW,aw w r v)(h:∀w:NW,j5 w->Calls P f cF w.toWorld fun e w'=>e=.returned v/\RowKit.Below w.heap.size w.toWorld w'):aB P f args r:=by intro w vs h1 h2;have VG:=ha w vs h2;subst VG;refine(h w h1.bO).mono ?_;rintro e W ⟨rfl,hb⟩;have ex:Ext w (entry []) (w.to W) (entry []):={ size:=hb.size,free:=fun b T5 hO=>⟨hb.block b T5,hO⟩,names:=fun _ _ _ _ h=>h,os:=hb.os,tape:=hb.tape,output:=hb.output,rest:=fun b T5 hO Te=>⟨hb.block b T5,hO,Te⟩,base:=rfl };refine⟨v,r,entry [],w.to W,rfl,rfl,⟨rfl,rfl⟩,{ rows:=fun i row hi=>(by cases hi),cU:=h1.cU,inj:=h1.inj,own:=h1.own,bO:=h1.bO.aU ex.toKeep,fin:=fun b T5=>Nat.lt_of_lt_of_le (h1.fin b T5) hb.size },hr _,ex.ph⟩
def KG{w:NW}{a b:AV}{vs:TI}(h:bq w [a,b] vs):∃x y,vs=#[x,y]/\aw w a x/\aw w b y:=by
 obtain⟨hl,hg⟩:=h;obtain⟨l⟩:=vs;match l,hl with
 |[x,y],_=>exact⟨x,y,rfl,hg 0 a x rfl rfl,hg 1 b y rfl rfl⟩
def JL{P:TL}{f:FuncId}{avs:TB}{v:Value}{args:TI}{W:World}(hg:j5 (n0 W))(h:aB P f avs (.raw v))(ha:cd (n0 W) avs args.toList):Calls P f args W fun e W'=>e=.returned v/\RowKit.Below W.heap.size W W':=by refine(h (n0 W) args (C5 W hg) ⟨by rw[ha.1];simp,fun i a v h1 h2=>ha.2 i a v h1 (by rw[Array.getElem?_toList];exact h2)⟩).mono ?_;rintro e w' ⟨v,r,H',w2,rfl,rfl,⟨rfl,_⟩,_,g2,g3⟩;have:=db g2;subst this;exact⟨rfl,⟨g3.os,g3.tape,g3.output,g3.size,fun k hk=>(g3.free k hk (fun h=>h)).1⟩⟩
def oh(r:Nat):Bool:=(decide (97<=r) && decide (r<=122)) || (decide (48<=r) && decide (r<=57))
def pn(r:Nat):Bool:=!(oh r)
def iB(s:TF):Bool:=decide (1<=s.size) && decide (s.size<=8) && s.data.toList.all fun b=>oh b.toNat
theorem EK(s:TF):∀f pos,s.size<=pos+f->(Lib.idxFuncFrom pn true s f pos<0<->∀k (h:k<s.size),pos<=k->oh (s[k]'h).toNat=true)
 |0,pos,h=>by unfold Lib.idxFuncFrom;exact⟨fun _ k hk hp=>jB,fun _=>jB⟩
 |f+1,pos,h=>by
  unfold Lib.idxFuncFrom;by_cases hp:pos<s.size
  ·rw[if_pos hp];by_cases ha:(s[pos]'hp).toNat<128
   ·rw[decode_ascii s pos hp ha];by_cases hn:oh (s[pos]'hp).toNat=true
    ·rw[if_neg (by unfold pn;rw[hn];decide),EK s f (pos+1) jB];constructor
     ·intro h1 k hk hpk;by_cases e:k=pos
      ·subst e;exact hn
      ·exact h1 k hk jB
     ·intro h1 k hk hpk;exact h1 k hk jB
    ·rw[if_pos (by unfold pn;simpa using hn)];exact⟨fun h1=>jB,fun h1=>(hn (h1 pos hp jl)).elim⟩
   ·obtain⟨h1,h2⟩:=decode_high s pos hp jB;have hb:pn (Utf8.decode s pos).1=true:=by unfold pn oh;simp;omega
    rw[if_pos hb];refine⟨fun h1=>jB,fun h3=>?_⟩;have:=h3 pos hp jl;unfold oh at this;simp at this;omega
  ·rw[if_neg hp];exact⟨fun _ k hk hp'=>jB,fun _=>jB⟩
def Qi(s:TF):decide (0<=Lib.idxFunc pn true s)=!(s.data.toList.all fun b=>oh b.toNat):=by
 have h:=EK s s.size 0 jB;unfold Lib.idxFunc;have e:(s.data.toList.all fun b=>oh b.toNat)=true<->∀k (h:k<s.size),0<=k->oh (s[k]'h).toNat=true:=by
  rw[List.all_eq_true];constructor
  ·intro h k hk _;exact h _ (by
    have:s[k]=s.data.toList[k]'(by simpa using hk):=by simp[ByteArray.getElem_eq_getElem_data]
    rw[this];exact List.getElem_mem _)
  ·intro h b hb;obtain⟨k,hk,rfl⟩:=List.getElem_of_mem hb;have:=h k (by simpa using hk) (Nat.zero_le _);simpa[ByteArray.getElem_eq_getElem_data]using this
 by_cases hA:(s.data.toList.all fun b=>oh b.toNat)=true
 ·rw[hA];have:=h.2 (e.1 hA);simp;omega
 ·have hn:¬Lib.idxFuncFrom pn true s s.size 0<0:=fun h1=>hA (e.2 (h.1 h1))
  rw[Bool.eq_false_iff.2 hA];simp;omega
def Dw{cs ds:TB}(h:nj cs ds):Sub (.agg cs) (.agg ds):=fun w v hv=>by
 obtain⟨I',hg⟩:=h.get;cases hv with
 |agg _ vs hl hr=>
  refine .agg ds vs (I'.symm.trans hl) fun i a v ha hv=>?_
  have hi:i<cs.length:=by rw[I'];exact(List.getElem?_eq_some_iff.1 ha).1
  exact hg i cs[i] a (List.getElem?_eq_getElem hi) ha w v (hr i _ v (List.getElem?_eq_getElem hi) hv)
end Go.Gd
namespace Go.Proofs.YtjpcgmjaipfgdaaGreatDoor
open Go Go.Gd Tryz Go.Gd.MV
def AM:fO 0 []:=⟨fun _ _ _=>rfl,List.nodup_nil,fun i r h=>by cases h⟩
structure gW(b:ay):Prop where
 inl:b.aR.length<=100
 qv:b.base.length<=100
 o6:b.own.length<=100
 inr:∀x∈b.aR,cn x
 zh:∀x∈b.base,cn x.v.n
 xH:∀x∈b.own,cn x.v.n
def gW.od{b:ay}(h:gW b):(fp b).length<=200:=by have:=h.qv;have:=h.o6;unfold fp;rw[zH];omega
def gW.kN{b:ay}(h:gW b):∀x∈fp b,cn x.v.n:=fun x hx=>by
 unfold fp at hx;rcases Ef.1 hx with hx|hx
 ·exact h.zh x hx
 ·exact h.xH x hx
def vK{b:ay}(h:gW b):aB prog 27 [.agg (bu b)] (aM bA 5 (fp b)):=by
 have hm:=MA b.base b.own (by have:=h.qv;omega) (by have:=h.o6;omega);refine bM func27 ntmps27 ?_
 (repeat' (first|refine aq fun K hK=>?_|refine au ?_|(refine hK _ _ ?_;clear hK K)|(refine ap ?_ ?_<;>intro hc<;>try exact jz)|refine bx 3 ?_|refine cp (hm) ?_|(refine bU ?_ ?_<;>intro hc<;>try exact jz)|refine ar ?_|exact jI|(clear hK K)))
 (refine aZ [.tmp 2] ?_;try simp only[go_sem])
 rfl
section
variable {p:af}(hp:mn p)(Tn:fq p){F:TD->MV->MV}(hF:bQ p (cf p) F)
include hp Tn hF
theorem Hk{b:ay}(h:gW b)(t:Int)(ht:cn t):aB prog 70 [.agg (ci p),.agg (bu b),rI t] (.agg (lj (atB p F b t))):=by
 have WX:=vK h;obtain⟨k,EE,XD,Va,_,_⟩:=AX hp hF (by have:=h.inl;omega) h.inr (xq h.kN) Tn (by have:=h.od;omega) t ht;have key:ab prog 70 [.agg (ci p),.agg (bu b),rI t] [] fun r l=>r=.agg (lj (atB p F b t))/\l=EE:=by
  unfold atB;generalize shotM p F b.aR (fp b) t=Sh at*;generalize badM p F b.aR (fp b) t=z at*;generalize fp b=A at*;have Ta:=XD.e2.low;refine aL func70 ntmps70 ?_
  (have W:=Ta;repeat' (first|refine aq fun K hK=>?_|refine au ?_|(with_reducible refine gR 1 ?_);refine dC 1 ([],[14],[16]) [] (bc 0 12) mixed ?_|(refine hK _ _ ?_;clear hK K)|(refine ap ?_ ?_<;>intro hc<;>try exact jz)|refine aV 3 ?_|refine aV 4 ?_|refine bY 6 ?_|refine cp (WX) ?_|refine cq (WX) ?_|(refine nS (e:=[]) XD (fun j _ h=>(h rfl).elim) ?_)|refine cT Va ?_|(refine bU ?_ ?_<;>intro hc<;>try exact jz)|refine ar ?_|exact jI|(clear hK K)))
  have h6:=Ta 6 jC;exact dZ (e:=[]) (B:=[]) rfl AM XD.e2 (tl:=[(3,.var 32 (ci p)),(4,.var 52 (bu b)),(6,.var 45 (lj Sh))]) (fun _=>rfl) (dm jC (dm jC (dm jC dz))) [.cell 6 45] (ho:=by simp(disch:=first|omega|assumption|fail) only[go_sem,↓reduceIte,h6];rfl) (hok:=by simp(disch:=first|omega|assumption|fail) only[go_sem,↓reduceIte,h6];first|done|decide|(repeat' (first|exact trivial|decide|(simp;done)|exact Nat.le_of_ble_eq_true rfl|refine jA ?_ ?_)))
 exact aB.wv key (.same _ rfl)
theorem Q4{inp:TD}(Uk:inp.length<=1000)(hi:∀x∈inp,cn x){E:List aD}(hE:∀x∈E,cn x.v.n)(hl:E.length<=1000):aB prog 100 [.agg (ci p),aM eI 1 inp,aM bA 5 E] (rI (badM p F inp E 200)):=by
 obtain⟨k,EE,XD,Va,_,_⟩:=AX hp hF Uk hi (xq hE) Tn hl 200 ⟨jC,jC⟩;have key:ab prog 100 [.agg (ci p),aM eI 1 inp,aM bA 5 E] [] fun r l=>r=rI (badM p F inp E 200)/\l=EE:=by
  generalize badM p F inp E 200=z at*;have Ta:=XD.e2.low;refine aL func100 ntmps100 ?_
  (have W:=Ta;repeat' (first|refine aq fun K hK=>?_|refine au ?_|(refine hK _ _ ?_;clear hK K)|(refine ap ?_ ?_<;>intro hc<;>try exact jz)|refine aV 3 ?_|(refine cT (e:=[]) XD ?_)|(refine bU ?_ ?_<;>intro hc<;>try exact jz)|refine ar ?_|exact jI|(clear hK K)))
  exact dZ (e:=[]) (B:=[]) rfl AM XD.e2 (tl:=[(3,.var 32 (ci p))]) (fun _=>rfl) (dm jC dz) [.tmp 6]
 exact aB.wv key (.same _ rfl)
end
end Go.Proofs.YtjpcgmjaipfgdaaGreatDoor
namespace Go.Proofs.YtjpcgmjaipfgdaaGreatDoor
open Go Go.Gd Tryz
abbrev qS(s:TF):AV:=.raw (.string s)
abbrev qB(b:Bool):AV:=.raw (.bool b)
def Qh(r:Nat)(hr:r<=1114111):aB prog 122 [.raw (.int .i32 (r:Int))] (qB (pn r)):=by
 have e:pn r=((decide ((r:Int)<97) || decide (122<(r:Int))) && (decide ((r:Int)<48) || decide (57<(r:Int)))):=by unfold pn oh;by_cases h1:(r:Int)<97<;>by_cases h2:122<(r:Int)<;>by_cases h3:(r:Int)<48<;>by_cases h4:57<(r:Int)<;>simp[h1,h2,h3,h4]<;>omega
 rw[e];by_cases h1:(r:Int)<97<;>by_cases h2:122<(r:Int)<;>by_cases h3:(r:Int)<48<;>by_cases h4:57<(r:Int)<;>(try omega)
 all_goals
  refine bM func122 ntmps122 ?_
  (have W:=jA h1 (jA h2 (jA h3 (h4)));repeat' (first|refine aq fun K hK=>?_|refine au ?_|(refine hK _ _ ?_;clear hK K)|(refine ap ?_ ?_<;>intro hc<;>try exact jz)|refine ar ?_|exact jI|(clear hK K)))
  (refine aZ [.tmp 2] ?_;try simp only[go_sem])
  simp[h1,h2,h3,h4]
def Ot(s:TF):aB prog 123 [qS s,.raw (.func (.func 122) #[] #[])] (qB (!(s.data.toList.all fun b=>oh b.toNat))):=by
 rw[<-Qi];refine MZ #[.string s,.func (.func 122) #[] #[]] _ ?_ (fun w=>.raw _) fun w Y6=>?_
 ·intro w vs h;obtain⟨x,y,rfl,h1,h2⟩:=KG h;rw[db h1,db h2]
 ·refine Tryz.strings_ContainsFunc_grows _ #[] (fun args w=>jG) pn s w fun W x hx hb=>?_
  exact JL (fun g vs hm=>by obtain⟨⟨cur,el,fr,h1,h2⟩,_⟩:=Y6 g vs hm;have O':=(Array.getElem?_eq_some_iff.1 h1).1;exact⟨⟨cur,el,fr,(hb.block g O').trans h1,h2⟩,fun h=>h⟩) (Qh x hx) (vX (.raw _))
def Bt(s:TF):aB prog 67 [qS s] (qB (iB s)):=by
 have Zm:=Ot s;generalize hA:(s.data.toList.all fun b=>oh b.toNat)=A at Zm;have e:iB s=(decide (1<=(s.size:Int)) && decide ((s.size:Int)<=8) && A):=by
  unfold iB;rw[hA];congr 2
  ·simp;omega
  ·simp;omega
 rw[e];clear hA e;cases A<;>by_cases h1:1<=(s.size:Int)<;>by_cases h2:(s.size:Int)<=8<;>(try omega);all_goals
  refine bM func67 ntmps67 ?_
  (have W:=jA h1 h2;repeat' (first|refine aq fun K hK=>?_|refine au ?_|(refine hK _ _ ?_;clear hK K)|(refine ap ?_ ?_<;>intro hc<;>try exact jz)|refine cq (Zm) ?_|refine⟨qB true,?_⟩|refine ar ?_|exact jI|(clear hK K)))
  (refine aZ [.tmp 2] ?_;try simp only[go_sem])
  try simp[h1,h2]
end Go.Proofs.YtjpcgmjaipfgdaaGreatDoor
namespace Go.Proofs.YtjpcgmjaipfgdaaGreatDoor
open Go Go.Gd Tryz Go.Gd.MV
@[go_sem] def qcQ:(∀(b:ay) (v:TD),List.take 1 (bu b)++[aM eI 1 v]++List.drop 2 (bu b)=bu { b with aR:=v })/\(∀(b:ay) (v:List aD),List.take 2 (bu b)++[aM bA 5 v]++List.drop 3 (bu b)=bu { b with base:=v })/\(∀(b:ay) (v:List aD),List.take 3 (bu b)++[aM bA 5 v]++List.drop 4 (bu b)=bu { b with own:=v })/\(∀(b:ay),(List.take 1 (bu b)).length=1)/\(∀(b:ay),(List.take 2 (bu b)).length=2)/\(∀(b c:ay),bu b++List.drop 4 (bu c)=bu b):=by and_intros<;>(intros;rfl)
def zX(l:TD)(hl:l.length<=1000):aB prog 55 [aM eI 1 l] (aM eI 1 l):=aB.wv (xV l hl 1) (cW.row l rfl rfl rfl)
def wP(l:List aD)(hl:l.length<=1000):aB prog 56 [aM bA 5 l] (aM bA 5 l):=aB.wv (Cs l hl 1) (cW.row l rfl rfl rfl)
def mT{D:TK}{H:Hp}:cW D H (.agg [.raw (.string ⟨#[]⟩),.raw (.slice none 0 0),.raw (.slice none 0 0),.raw (.slice none 0 0)]) (.agg (bu bZ)):=bt.agg (ds:=bu bZ) ⟨.same _ rfl,cW.nil _ _,cW.nil _ _,cW.nil _ _,trivial⟩
def Ri{b:ay}(h:gW b):aB prog 75 [.agg (bu b)] (.agg (bu b)):=by
 have h1:=zX b.aR (by have:=h.inl;omega);have h2:=wP b.base (by have:=h.qv;omega);have h3:=wP b.own (by have:=h.o6;omega);refine bM func75 ntmps75 ?_
 (repeat' (first|refine aq fun K hK=>?_|refine au ?_|(with_reducible refine gR 1 ?_);refine dC 1 ([],[5,8,11],[]) [] (bc 0 15) mixed ?_|(refine hK _ _ ?_;clear hK K)|(refine ap ?_ ?_<;>intro hc<;>try exact jz)|refine aV 3 ?_|refine bY 4 ?_|refine cq (h1) ?_|refine cq (h2) ?_|refine cq (h3) ?_|refine ar ?_|exact jI|(clear hK K)))
 (refine aZ [.cell 2 52] ?_;try simp only[go_sem])
section
variable {p:af}(hp:mn p)(Tn:fq p){F:TD->MV->MV}(hF:bQ p (cf p) F)
include hp Tn hF
theorem FJ{b:ay}(h:gW b):aB prog 84 [.agg (ci p),.agg (bu b)] (rI (badB p F b)):=by
 have h1:=vK h;have h2:=Q4 hp Tn hF (inp:=b.aR) (by have:=h.inl;omega) h.inr h.kN (by have:=h.od;omega);change aB _ _ _ (rI (badB p F b))at h2
 generalize badB p F b=z at*;refine bM func84 ntmps84 ?_
 (repeat' (first|refine aq fun K hK=>?_|refine au ?_|(with_reducible refine gR 1 ?_);refine dC 1 ([],[9,10],[]) [] (bc 0 7) mixed ?_|(refine hK _ _ ?_;clear hK K)|(refine ap ?_ ?_<;>intro hc<;>try exact jz)|refine aV 2 ?_|refine aV 3 ?_|refine cq (h1) ?_|refine cq (h2) ?_|refine ar ?_|exact jI|(clear hK K)))
 (refine aZ [.tmp 4] ?_;try simp only[go_sem])
theorem Iw{b:ay}(h:gW b):aB prog 71 [.agg (ci p),.agg (bu b)] (.aP [.agg (bu (fineB p F b).1),rI (fineB p F b).2]):=by
 have h1:=FJ hp Tn hF h;unfold fineB;generalize badB p F b=z at*;by_cases hz:z=0
 ·rw[if_neg (fun h=>h hz)];refine bM func71 ntmps71 ?_
  (have W:=hz;repeat' (first|refine aq fun K hK=>?_|refine au ?_|(refine hK _ _ ?_;clear hK K)|(refine ap ?_ ?_<;>intro hc<;>try exact jz)|refine aV 2 ?_|refine aV 3 ?_|refine bY 4 ?_|refine cp (h1) ?_|refine ar ?_|exact jI|(clear hK K)))
  (refine aZ [.cell 4 52,.tmp 5] ?_;try simp only[go_sem])
 ·rw[if_pos hz];refine bM func71 ntmps71 ?_
  (have W:=hz;repeat' (first|refine aq fun K hK=>?_|refine au ?_|(refine hK _ _ ?_;clear hK K)|(refine ap ?_ ?_<;>intro hc<;>try exact jz)|refine aV 2 ?_|refine aV 3 ?_|refine bY 4 ?_|refine cp (h1) ?_|refine ar ?_|exact jI|(clear hK K)))
  refine fC [.cell 4 52,.tmp 5] ?_;exact bt.aP (ds:=[.agg (bu bZ),rI 65]) ⟨mT,.same _ rfl,trivial⟩
end
def MF{b:ay}(h:gW b):ab prog 75 [.agg (bu b)] [] (fun r l=>r=.agg [rS b.name,.rs 2 b.aR.length 1 b.aR.length,aM bA 5 b.base,aM bA 5 b.own]/\l=[(2,.aF 3 1 (b.aR.map eI))]):=by
 have h1:=xV b.aR (by have:=h.inl;omega) 2;have h2:=wP b.base (by have:=h.qv;omega);have h3:=wP b.own (by have:=h.o6;omega);obtain⟨nm,inp,base,own⟩:=b;simp only[bu];refine aL func75 ntmps75 ?_
 (repeat' (first|refine aq fun K hK=>?_|refine au ?_|(with_reducible refine gR 1 ?_);refine dC 1 ([],[8,11],[5]) [] [0,1,3,4,6,7,2,5,8,9,10,11,12,13,14] mixed ?_|(refine hK _ _ ?_;clear hK K)|(refine ap ?_ ?_<;>intro hc<;>try exact jz)|refine aV 4 ?_|refine bY 5 ?_|refine cN h1 ?_|refine cq (h2) ?_|refine cq (h3) ?_|refine ar ?_|exact jI|(clear hK K)))
 refine Rk [.cell 2 52] ?_ ?_ ?_ ?_
 ·rfl
 ·simp only[iH,go_sem];decide
 ·rfl
 ·rfl
section
variable {p:af}(hp:mn p)(Tn:fq p){F:TD->MV->MV}(hF:bQ p (cf p) F)
variable{b:ay}{x:aD}
def gW.early(h:gW b)(t:Int)(ht:(eH (fp b) t).length<=100)(nm:TF)(hx:cn x.v.n):gW ⟨nm,b.aR,eH (fp b) t,[x]⟩:=
 ⟨h.inl,ht,by show 1<=100;decide,h.inr,fun y hy=>h.kN y (H4 hy).1,fun y hy=>by rw[List.mem_singleton.1 hy];exact hx⟩
def gW.ins(h:gW b)(hl:b.own.length<100)(hx:cn x.v.n):gW { b with own:=lI x b.own }:=
 ⟨h.inl,h.qv,by show(lI x b.own).length<=100;rw[Go.Gd.iz];omega,h.inr,h.zh,fun y hy=>by
  rcases Cd.1 hy with rfl|hy
  ·exact hx
  ·exact h.xH y hy⟩
def LC(l:List aD)(x:aD)(h1:l.length<=500):aB prog 76 [aM bA 5 l,.sl true 5 [bA x] []] (aM bA 5 (lI x l)):=Il (Fp l [x] h1 jE) ⟨.refl _,.lit 5 [bA x] _ _,trivial⟩
include hp Tn hF
theorem Oo{nm:TF}{inp:TD}{base:List aD}(h:gW ⟨nm,inp,base,[x]⟩):aB prog 71 [.agg (ci p),.agg [rS nm,aM eI 1 inp,aM bA 5 base,.sl true 5 [bA x] []]] (.aP [.agg (bu (fineB p F ⟨nm,inp,base,[x]⟩).1),rI (fineB p F ⟨nm,inp,base,[x]⟩).2]):=Il (Iw hp Tn hF h) ⟨.refl _,Dw ⟨.refl _,.refl _,.refl _,.lit 5 [bA x] _ _,trivial⟩,trivial⟩
theorem Lv(h:gW b)(nm:TF)(hx:cn x.v.n)(hxa:cn x.at_):aB prog 24 [.agg (ci p),.agg (bu b),rS nm,.agg (bA x)] (.aP [.agg (bu (forkB p F (iB nm) b nm x).1),rI (forkB p F (iB nm) b nm x).2]):=by
 have h0:=Bt nm;have h1:=HI x;have h2:=vK h;have h3:=F9 (fp b) x.at_ (by have:=h.od;omega);have h4:=Hk hp Tn hF h x.at_ hxa;have h5:=zX b.aR (by have:=h.inl;omega);have I':=B9 (fp b) x.at_;have Tu:=h.od;have h6:=fun hl=>Oo hp Tn hF (h.early x.at_ hl nm hx)
 unfold forkB;generalize iB nm=ok at*;generalize sW x=my at*;generalize atB p F b x.at_=Sh at*;generalize fp b=A at*;generalize eH A x.at_=U at*;generalize XY:fineB p F ⟨nm,b.aR,U,[x]⟩=fb at*;have hq:(ok=false/\True)\/(ok=true/\my=false)\/(ok=true/\my=true):=by cases ok<;>cases my<;>simp
 rcases hq with⟨q1,q2⟩|⟨q1,q2⟩|⟨q1,q2⟩
 ·rw[if_pos (.inl q1)];rw[q1]at h0;refine bM func24 ntmps24 ?_
  (repeat' (first|refine aq fun K hK=>?_|refine au ?_|(refine hK _ _ ?_;clear hK K)|(refine ap ?_ ?_<;>intro hc<;>try exact jz)|refine aV 4 ?_|refine aV 5 ?_|refine aV 7 ?_|refine bY 8 ?_|refine cp (h0) ?_|refine⟨rB true,?_⟩|refine ar ?_|exact jI|(clear hK K)))
  refine fC [.cell 8 52,.tmp 9] ?_;exact bt.aP (ds:=[.agg (bu bZ),rI 1]) ⟨mT,.same _ rfl,trivial⟩
 ·rw[if_pos (.inr q2)];rw[q1]at h0;rw[q2]at h1;refine bM func24 ntmps24 ?_
  (repeat' (first|refine aq fun K hK=>?_|refine au ?_|(refine hK _ _ ?_;clear hK K)|(refine ap ?_ ?_<;>intro hc<;>try exact jz)|refine aV 4 ?_|refine aV 5 ?_|refine aV 7 ?_|refine bY 8 ?_|refine cp (h0) ?_|refine cq (h1) ?_|refine ar ?_|exact jI|(clear hK K)))
  refine fC [.cell 8 52,.tmp 9] ?_;exact bt.aP (ds:=[.agg (bu bZ),rI 1]) ⟨mT,.same _ rfl,trivial⟩
 rw[if_neg (by rw[q1,q2];simp)];rw[q1]at h0;rw[q2]at h1;by_cases ht:Sh.time<x.at_
 ·rw[if_pos ht];refine bM func24 ntmps24 ?_
  (have W:=ht;repeat' (first|refine aq fun K hK=>?_|refine au ?_|(with_reducible refine gR 3 ?_);refine dC 3 ([],[21,24],[]) [] (bc 0 6) mixed ?_|(with_reducible refine gR 4 ?_);refine dC 4 ([],[30],[]) [] (bc 0 10) mixed ?_|(refine hK _ _ ?_;clear hK K)|(refine ap ?_ ?_<;>intro hc<;>try exact jz)|refine aV 4 ?_|refine aV 5 ?_|refine aV 7 ?_|refine bY 8 ?_|refine cp (h0) ?_|refine cq (h1) ?_|refine cq (h2) ?_|refine cq (h3) ?_|refine cq (h4) ?_|refine ar ?_|exact jI|(clear hK K)))
  refine fC [.cell 8 52,.tmp 9] ?_;exact bt.aP (ds:=[.agg (bu bZ),rI 63]) ⟨mT,.same _ rfl,trivial⟩
 rw[if_neg ht];by_cases hu:8<=U.length
 ·rw[if_pos hu];have huI:(U.length:Int) >= 8:=jB;refine bM func24 ntmps24 ?_
  (have W:=jA ht huI;repeat' (first|refine aq fun K hK=>?_|refine au ?_|(with_reducible refine gR 3 ?_);refine dC 3 ([],[21,24],[]) [] (bc 0 6) mixed ?_|(with_reducible refine gR 4 ?_);refine dC 4 ([],[30],[]) [] (bc 0 10) mixed ?_|(refine hK _ _ ?_;clear hK K)|(refine ap ?_ ?_<;>intro hc<;>try exact jz)|refine aV 4 ?_|refine aV 5 ?_|refine aV 7 ?_|refine bY 8 ?_|refine cp (h0) ?_|refine cq (h1) ?_|refine cq (h2) ?_|refine cq (h3) ?_|refine cq (h4) ?_|refine ar ?_|exact jI|(clear hK K)))
  refine fC [.cell 8 52,.tmp 9] ?_;exact bt.aP (ds:=[.agg (bu bZ),rI 62]) ⟨mT,.same _ rfl,trivial⟩
 ·rw[if_neg hu];have huI:¬(U.length:Int) >= 8:=jB;have h6:=h6 jB;refine bM func24 ntmps24 ?_
  (have W:=jA ht huI;repeat' (first|refine aq fun K hK=>?_|refine au ?_|(with_reducible refine gR 3 ?_);refine dC 3 ([],[21,24],[]) [] (bc 0 6) mixed ?_|(with_reducible refine gR 4 ?_);refine dC 4 ([],[30],[]) [] (bc 0 10) mixed ?_|(with_reducible refine gR 8 ?_);refine dC 8 ([],[45,50],[]) [] (bc 0 14) mixed ?_|(refine hK _ _ ?_;clear hK K)|(refine ap ?_ ?_<;>intro hc<;>try exact jz)|refine aV 4 ?_|refine aV 5 ?_|refine aV 7 ?_|refine bY 8 ?_|refine cp (h0) ?_|refine cq (h1) ?_|refine cq (h2) ?_|refine cq (h3) ?_|refine cq (h4) ?_|refine cq (h5) ?_|refine cq (h6) ?_|refine ar ?_|exact jI|(clear hK K)))
  (refine aZ [.cell 8 52,.tmp 9] ?_;try simp only[go_sem])
theorem Oy(h:gW b)(nm:TF)(t n:Int)(ht:cn t):aB prog 28 [.agg (ci p),.agg (bu b),rS nm,rI t,rI n] (.aP [.agg (bu (inputB p F (iB nm) b nm t n).1),rI (inputB p F (iB nm) b nm t n).2]):=by
 have h0:=Bt nm;have h2:=vK h;have h3:=F9 (fp b) t (by have:=h.od;omega);have h4:=Hk hp Tn hF h t ht;have hfi:=(xZ hp.ok hF h.inr h.kN t).1;have VD:0<=(atB p F b t).in_:=hfi.i0;have VQ:(atB p F b t).in_<=b.aR.length:=hfi.i1;have UX:=h.inl;unfold inputB;generalize iB nm=ok at*;generalize atB p F b t=Sh at*;generalize fp b=A at*;generalize eH A t=U at*;obtain⟨q,hq⟩:∃q:Nat,Sh.in_=(q:Int):=⟨Sh.in_.toNat,jB⟩;have h5:=xV (b.aR.take q) (by rw[List.length_take];omega) 2;have XH:(b.aR.take q).length=q:=by rw[List.length_take];omega
 rw[XH]at h5;have hqb:q<=b.aR.length:=jB;have hqI:(q:Int)<=(b.aR.length:Int):=jB;have TP:(ok=false/\True/\True)\/(ok=true/\t<0/\True)\/(ok=true/\¬t<0/\200<t)\/(ok=true/\¬t<0/\¬200<t):=by
  cases ok
  ·exact .inl ⟨rfl,trivial,trivial⟩
  ·by_cases a:t<0
   ·exact .inr (.inl ⟨rfl,a,trivial⟩)
   ·by_cases c:200<t
    ·exact .inr (.inr (.inl ⟨rfl,a,c⟩))
    ·exact .inr (.inr (.inr ⟨rfl,a,c⟩))
 rcases TP with⟨q1,q2,q3⟩|⟨q1,q2,q3⟩|⟨q1,q2,q3⟩|⟨q1,q2,q3⟩
 ·rw[if_pos (.inl q1)];rw[q1]at h0;refine bM func28 ntmps28 ?_
  (repeat' (first|refine aq fun K hK=>?_|refine au ?_|(refine hK _ _ ?_;clear hK K)|(refine ap ?_ ?_<;>intro hc<;>try exact jz)|refine aV 5 ?_|refine aV 6 ?_|refine bY 10 ?_|refine cp (h0) ?_|refine ar ?_|exact jI|(clear hK K)))
  refine fC [.cell 10 52,.tmp 11] ?_;exact bt.aP (ds:=[.agg (bu bZ),rI 1]) ⟨mT,.same _ rfl,trivial⟩
 ·rw[if_pos (.inr (.inl q2))];rw[q1]at h0;refine bM func28 ntmps28 ?_
  (have W:=q2;repeat' (first|refine aq fun K hK=>?_|refine au ?_|(refine hK _ _ ?_;clear hK K)|(refine ap ?_ ?_<;>intro hc<;>try exact jz)|refine aV 5 ?_|refine aV 6 ?_|refine bY 10 ?_|refine cp (h0) ?_|refine ar ?_|exact jI|(clear hK K)))
  refine fC [.cell 10 52,.tmp 11] ?_;exact bt.aP (ds:=[.agg (bu bZ),rI 1]) ⟨mT,.same _ rfl,trivial⟩
 ·rw[if_pos (.inr (.inr q3))];rw[q1]at h0;refine bM func28 ntmps28 ?_
  (have W:=jA q2 q3;repeat' (first|refine aq fun K hK=>?_|refine au ?_|(refine hK _ _ ?_;clear hK K)|(refine ap ?_ ?_<;>intro hc<;>try exact jz)|refine aV 5 ?_|refine aV 6 ?_|refine bY 10 ?_|refine cp (h0) ?_|refine ar ?_|exact jI|(clear hK K)))
  refine fC [.cell 10 52,.tmp 11] ?_;exact bt.aP (ds:=[.agg (bu bZ),rI 1]) ⟨mT,.same _ rfl,trivial⟩
 rw[if_neg (by rw[q1];simp;omega)];rw[q1]at h0;by_cases c1:Sh.time<t
 ·rw[if_pos c1];refine bM func28 ntmps28 ?_
  (have W:=jA q2 (jA q3 (c1));repeat' (first|refine aq fun K hK=>?_|refine au ?_|(refine hK _ _ ?_;clear hK K)|(refine ap ?_ ?_<;>intro hc<;>try exact jz)|refine aV 5 ?_|refine aV 6 ?_|refine bY 10 ?_|refine bY 12 ?_|refine cp (h0) ?_|refine cp (h4) ?_|refine ar ?_|exact jI|(clear hK K)))
  refine fC [.cell 10 52,.tmp 11] ?_;exact bt.aP (ds:=[.agg (bu bZ),rI 63]) ⟨mT,.same _ rfl,trivial⟩
 rw[if_neg c1];by_cases c2:16<=Sh.in_
 ·rw[if_pos c2];have c2':Sh.in_ >= 16:=c2;refine bM func28 ntmps28 ?_
  (have W:=jA q2 (jA q3 (jA c1 (c2')));repeat' (first|refine aq fun K hK=>?_|refine au ?_|(refine hK _ _ ?_;clear hK K)|(refine ap ?_ ?_<;>intro hc<;>try exact jz)|refine aV 5 ?_|refine aV 6 ?_|refine bY 10 ?_|refine bY 12 ?_|refine cp (h0) ?_|refine cp (h4) ?_|refine ar ?_|exact jI|(clear hK K)))
  refine fC [.cell 10 52,.tmp 11] ?_;exact bt.aP (ds:=[.agg (bu bZ),rI 62]) ⟨mT,.same _ rfl,trivial⟩
 ·rw[if_neg c2];have c2':¬(q:Int) >= 16:=jB;rw[hq,Int.toNat_natCast];refine bM func28 ntmps28 ?_
  (have W:=jA q2 (jA q3 (jA c1 (jA hq (jA c2' (hqI)))));repeat' (first|refine aq fun K hK=>?_|refine au ?_|(refine hK _ _ ?_;clear hK K)|(refine ap ?_ ?_<;>intro hc<;>try exact jz)|refine aV 5 ?_|refine aV 6 ?_|refine bY 10 ?_|refine bY 12 ?_|refine cp (h0) ?_|refine cp (h2) ?_|refine cp (h3) ?_|refine cm (h5) ?_|refine cp (h4) ?_|refine ar ?_|exact jI|(clear hK K)))
  refine fC [.cell 10 52,.tmp 11] ?_;exact bt.aP (ds:=[.agg (bu ⟨nm,b.aR.take q++[n],U,[]⟩),rI 0]) ⟨bt.agg (ds:=bu ⟨nm,b.aR.take q++[n],U,[]⟩) ⟨.same _ rfl,cW.row (b.aR.take q++[n]) rfl (by rw[List.map_append];rfl) (by rw[List.length_append,XH];rfl),.same _ rfl,cW.nil _ _,trivial⟩,.same _ rfl,trivial⟩
theorem M7(h:gW b)(hx:cn x.v.n):aB prog 29 [.agg (ci p),.agg (bu b),.agg (bA x)] (.aP [.agg (bu (addB p F b x).1),rI (addB p F b x).2]):=by
 have h1:=HI x;have h2:=Ri h;have hba:=h.qv;have how:=h.o6;have h3:=LC b.own x (by have:=h.o6;omega);have h4:=fun hl=>Iw hp Tn hF (h.ins hl hx)
 unfold addB;generalize sW x=my at*;generalize XY:fineB p F { b with own:=lI x b.own }=fb at*;cases my
 ·rw[if_pos rfl];refine bM func29 ntmps29 ?_
  (repeat' (first|refine aq fun K hK=>?_|refine au ?_|(refine hK _ _ ?_;clear hK K)|(refine ap ?_ ?_<;>intro hc<;>try exact jz)|refine aV 4 ?_|refine aV 5 ?_|refine aV 7 ?_|refine bY 8 ?_|refine cp (h1) ?_|refine ar ?_|exact jI|(clear hK K)))
  refine fC [.cell 6 52,.tmp 7] ?_;exact bt.aP (ds:=[.agg (bu bZ),rI 1]) ⟨mT,.same _ rfl,trivial⟩
 rw[if_neg jE];by_cases c:8<=b.base.length+b.own.length
 ·rw[if_pos c];have c':(b.base.length:Int)+b.own.length >= 8:=jB;refine bM func29 ntmps29 ?_
  (have W:=c';repeat' (first|refine aq fun K hK=>?_|refine au ?_|(refine hK _ _ ?_;clear hK K)|(refine ap ?_ ?_<;>intro hc<;>try exact jz)|refine aV 4 ?_|refine aV 5 ?_|refine aV 7 ?_|refine bY 8 ?_|refine cp (h1) ?_|refine ar ?_|exact jI|(clear hK K)))
  refine fC [.cell 6 52,.tmp 7] ?_;exact bt.aP (ds:=[.agg (bu bZ),rI 62]) ⟨mT,.same _ rfl,trivial⟩
 ·rw[if_neg c];have c':¬(b.base.length:Int)+b.own.length >= 8:=jB;have h4:=h4 jB;refine bM func29 ntmps29 ?_
  (have W:=c';repeat' (first|refine aq fun K hK=>?_|refine au ?_|(refine hK _ _ ?_;clear hK K)|(refine ap ?_ ?_<;>intro hc<;>try exact jz)|refine aV 4 ?_|refine aV 5 ?_|refine aV 7 ?_|refine bY 8 ?_|refine cp (h1) ?_|refine cp (h2) ?_|refine cp (h3) ?_|refine cp (h4) ?_|refine ar ?_|exact jI|(clear hK K)))
  (refine aZ [.cell 6 52,.tmp 7] ?_;try simp only[go_sem])
omit hp Tn hF in
theorem RN(h:gW b)(n:Int):aB prog 35 [.agg (bu b),rI n] (.aP [.agg (bu (rE b n).1),rI (rE b n).2]):=by
 have h2:=MF h;have UX:=h.inl;unfold rE;by_cases c:16<=b.aR.length
 ·rw[if_pos c];have c':(b.aR.length:Int) >= 16:=jB;refine bM func35 ntmps35 ?_
  (have W:=c';repeat' (first|refine aq fun K hK=>?_|refine au ?_|(refine hK _ _ ?_;clear hK K)|(refine ap ?_ ?_<;>intro hc<;>try exact jz)|refine aV 4 ?_|refine bY 5 ?_|refine ar ?_|exact jI|(clear hK K)))
  refine fC [.cell 4 52,.tmp 5] ?_;exact bt.aP (ds:=[.agg (bu bZ),rI 62]) ⟨mT,.same _ rfl,trivial⟩
 ·rw[if_neg c];have c':¬(b.aR.length:Int) >= 16:=jB;obtain⟨nm,inp,base,own⟩:=b;have c':¬(inp.length:Int) >= 16:=c';have UX:inp.length<=100:=UX;simp only[bu]at h2 ⊢;refine bM func35 ntmps35 ?_
  (have W:=c';repeat' (first|refine aq fun K hK=>?_|refine au ?_|(refine hK _ _ ?_;clear hK K)|(refine ap ?_ ?_<;>intro hc<;>try exact jz)|refine aV 4 ?_|refine bY 5 ?_|refine cm (h2) ?_|refine ar ?_|exact jI|(clear hK K)))
  refine fC [.cell 4 52,.tmp 5] ?_;exact bt.aP (ds:=[.agg (bu ⟨nm,inp++[n],base,own⟩),rI 0]) ⟨bt.agg (ds:=bu ⟨nm,inp++[n],base,own⟩) ⟨.same _ rfl,cW.row (inp++[n]) rfl (by rw[List.map_append];rfl) (by rw[List.length_append];rfl),.same _ rfl,.same _ rfl,trivial⟩,.same _ rfl,trivial⟩
omit hp Tn hF in
theorem gW.jQ{a o:ay}(ha:gW a)(ho:gW o)(hl:(fp o).length<=100):gW ⟨a.name,o.aR,fp o,a.own⟩:=⟨ho.inl,hl,ha.o6,ho.inr,ho.kN,ha.xH⟩
theorem Sn{a o:ay}(ha:gW a)(ho:gW o)(hl:(fp o).length<=100):aB prog 36 [.agg (ci p),.agg (bu a),.agg (bu o)] (.aP [.agg (bu (rebaseB p F a o).1),rI (rebaseB p F a o).2.1,rI (rebaseB p F a o).2.2]):=by
 have h1:=zX o.aR (by have:=ho.inl;omega);have h2:=vK ho;have h3:=wP a.own (by have:=ha.o6;omega);have h4:=FJ hp Tn hF (ha.jQ ho hl);have how:=ha.o6;unfold rebaseB;generalize hz:badB p F ⟨a.name,o.aR,fp o,a.own⟩=z at*;clear hz;generalize fp o=A at*;by_cases c:8<A.length+a.own.length
 ·rw[if_pos c];have c':(A.length:Int)+a.own.length>8:=jB;refine bM func36 ntmps36 ?_
  (have W:=c';repeat' (first|refine aq fun K hK=>?_|refine au ?_|(with_reducible refine gR 1 ?_);refine dC 1 ([],[],[15,17,20]) [11] [0,1,2,3,5,7,8,4,6,9,10,11,12] mixed ?_|(refine hK _ _ ?_;clear hK K)|(refine ap ?_ ?_<;>intro hc<;>try exact jz)|refine aV 4 ?_|refine aV 5 ?_|refine aV 6 ?_|refine bY 7 ?_|refine bY 8 ?_|refine cN h1 ?_|refine cN h2 ?_|refine cN h3 ?_|refine ar ?_|exact jI|(clear hK K)))
  refine fC [.cell 6 52,.tmp 7,.tmp 8] ?_;exact bt.aP (ds:=[.agg (bu bZ),rI 0,rI 62]) ⟨mT,.same _ rfl,.same _ rfl,trivial⟩
 rw[if_neg c];have c':¬(A.length:Int)+a.own.length>8:=jB;by_cases d:z=0
 ·rw[if_neg (fun h=>h d)];refine bM func36 ntmps36 ?_
  (have W:=jA c' d;repeat' (first|refine aq fun K hK=>?_|refine au ?_|(with_reducible refine gR 1 ?_);refine dC 1 ([],[],[15,17,20]) [11] [0,1,2,3,5,7,8,4,6,9,10,11,12] mixed ?_|(refine hK _ _ ?_;clear hK K)|(refine ap ?_ ?_<;>intro hc<;>try exact jz)|refine aV 4 ?_|refine aV 5 ?_|refine aV 6 ?_|refine bY 7 ?_|refine bY 8 ?_|refine cp (h4) ?_|refine cN h1 ?_|refine cN h2 ?_|refine cN h3 ?_|refine ar ?_|exact jI|(clear hK K)))
  (refine aZ [.cell 6 52,.tmp 7,.tmp 8] ?_;try simp only[go_sem])
  rfl
 ·rw[if_pos d];refine bM func36 ntmps36 ?_
  (have W:=jA c' d;repeat' (first|refine aq fun K hK=>?_|refine au ?_|(with_reducible refine gR 1 ?_);refine dC 1 ([],[],[15,17,20]) [11] [0,1,2,3,5,7,8,4,6,9,10,11,12] mixed ?_|(refine hK _ _ ?_;clear hK K)|(refine ap ?_ ?_<;>intro hc<;>try exact jz)|refine aV 4 ?_|refine aV 5 ?_|refine aV 6 ?_|refine bY 7 ?_|refine bY 8 ?_|refine cp (h4) ?_|refine cN h1 ?_|refine cN h2 ?_|refine cN h3 ?_|refine ar ?_|exact jI|(clear hK K)))
  refine fC [.cell 6 52,.tmp 7,.tmp 8] ?_;exact bt.aP (ds:=[.agg (bu bZ),rI z,rI 65]) ⟨mT,.same _ rfl,.same _ rfl,trivial⟩
end
end Go.Proofs.YtjpcgmjaipfgdaaGreatDoor
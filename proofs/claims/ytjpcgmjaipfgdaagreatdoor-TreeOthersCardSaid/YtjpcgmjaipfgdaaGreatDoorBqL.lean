/- Lemmas. No conditions. -/
import Derived.Test.YtjpcgmjaipfgdaaGreatDoorBqF
import Derived.Laws.RangeAny
import Derived.Laws.RangeString
set_option linter.all false
set_option maxHeartbeats 4000000
set_option maxRecDepth 10000
namespace Go.Gd
open Go
def OX{P:TO}{f:FuncId}{args:TE}{r:AV}(cC:TL)(v:Value)(ha:∀(w:NW) vs,bs w args vs->vs=cC)(hr:∀w:NW,ax w r v)(h:∀w:NW,jR w->Calls P f cC w.toWorld fun e w'=>e=.returned v/\RowKit.Below w.heap.size w.toWorld w'):aB P f args r:=by intro w vs h1 h2;have V2:=ha w vs h2;subst V2;refine(h w h1.bX).mono ?_;rintro e W ⟨rfl,hb⟩;have ex:Ext w (entry []) (w.to W) (entry []):={ size:=hb.size,free:=fun b Uq hO=>⟨hb.block b Uq,hO⟩,names:=fun _ _ _ _ h=>h,os:=hb.os,tape:=hb.tape,output:=hb.output,rest:=fun b Uq hO TS=>⟨hb.block b Uq,hO,TS⟩,base:=rfl };refine⟨v,r,entry [],w.to W,rfl,rfl,⟨rfl,rfl⟩,{ rows:=fun i row hi=>(by cases hi),df:=h1.df,inj:=h1.inj,own:=h1.own,bX:=h1.bX.aZ ex.toKeep,fin:=fun b Uq=>Nat.lt_of_lt_of_le (h1.fin b Uq) hb.size },hr _,ex.pG⟩
def QN{w:NW}{a b:AV}{vs:TL}(h:bs w [a,b] vs):∃x y,vs=#[x,y]/\ax w a x/\ax w b y:=by
 obtain⟨hl,hg⟩:=h;obtain⟨l⟩:=vs;match l,hl with
 |[x,y],_=>exact⟨x,y,rfl,hg 0 a x rfl rfl,hg 1 b y rfl rfl⟩
def Ld{P:TO}{f:FuncId}{avs:TE}{v:Value}{args:TL}{W:World}(hg:jR (n0 W))(h:aB P f avs (.raw v))(ha:bY (n0 W) avs args.toList):Calls P f args W fun e W'=>e=.returned v/\RowKit.Below W.heap.size W W':=by refine(h (n0 W) args (Em W hg) ⟨by rw[ha.1];simp,fun i a v h1 h2=>ha.2 i a v h1 (by rw[Array.getElem?_toList];exact h2)⟩).mono ?_;rintro e w' ⟨v,r,H',w2,rfl,rfl,⟨rfl,_⟩,_,g2,g3⟩;have:=dc g2;subst this;exact⟨rfl,⟨g3.os,g3.tape,g3.output,g3.size,fun k hk=>(g3.free k hk (fun h=>h)).1⟩⟩
def oE(r:Nat):Bool:=(decide (97<=r) && decide (r<=122)) || (decide (48<=r) && decide (r<=57))
def pC(r:Nat):Bool:=!(oE r)
def io(s:TI):Bool:=decide (1<=s.size) && decide (s.size<=8) && s.data.toList.all fun b=>oE b.toNat
theorem Ep(s:TI):∀f pos,s.size<=pos+f->(Lib.idxFuncFrom pC true s f pos<0<->∀k (h:k<s.size),pos<=k->oE (s[k]'h).toNat=true)
 |0,pos,h=>by unfold Lib.idxFuncFrom;exact⟨fun _ k hk hp=>jB,fun _=>jB⟩
 |f+1,pos,h=>by
  unfold Lib.idxFuncFrom;by_cases hp:pos<s.size
  ·rw[if_pos hp];by_cases ha:(s[pos]'hp).toNat<128
   ·rw[decode_ascii s pos hp ha];by_cases hn:oE (s[pos]'hp).toNat=true
    ·rw[if_neg (by unfold pC;rw[hn];decide),Ep s f (pos+1) jB];constructor
     ·intro h1 k hk hpk;by_cases e:k=pos
      ·subst e;exact hn
      ·exact h1 k hk jB
     ·intro h1 k hk hpk;exact h1 k hk jB
    ·rw[if_pos (by unfold pC;simpa using hn)];exact⟨fun h1=>jB,fun h1=>(hn (h1 pos hp jl)).elim⟩
   ·obtain⟨h1,h2⟩:=decode_high s pos hp jB;have hb:pC (Utf8.decode s pos).1=true:=by unfold pC oE;simp;omega
    rw[if_pos hb];refine⟨fun h1=>jB,fun h3=>?_⟩;have:=h3 pos hp jl;unfold oE at this;simp at this;omega
  ·rw[if_neg hp];exact⟨fun _ k hk hp'=>jB,fun _=>jB⟩
def Py(s:TI):decide (0<=Lib.idxFunc pC true s)=!(s.data.toList.all fun b=>oE b.toNat):=by
 have h:=Ep s s.size 0 jB;unfold Lib.idxFunc;have e:(s.data.toList.all fun b=>oE b.toNat)=true<->∀k (h:k<s.size),0<=k->oE (s[k]'h).toNat=true:=by
  rw[List.all_eq_true];constructor
  ·intro h k hk _;exact h _ (by
    have:s[k]=s.data.toList[k]'(by simpa using hk):=by simp[ByteArray.getElem_eq_getElem_data]
    rw[this];exact List.getElem_mem _)
  ·intro h b hb;obtain⟨k,hk,rfl⟩:=List.getElem_of_mem hb;have:=h k (by simpa using hk) (Nat.zero_le _);simpa[ByteArray.getElem_eq_getElem_data]using this
 by_cases hA:(s.data.toList.all fun b=>oE b.toNat)=true
 ·rw[hA];have:=h.2 (e.1 hA);simp;omega
 ·have hn:¬Lib.idxFuncFrom pC true s s.size 0<0:=fun h1=>hA (e.2 (h.1 h1))
  rw[Bool.eq_false_iff.2 hA];simp;omega
def I2{cs ds:TE}(h:ng cs ds):Sub (.agg cs) (.agg ds):=fun w v hv=>by
 obtain⟨I',hg⟩:=h.get;cases hv with
 |agg _ vs hl hr=>
  refine .agg ds vs (I'.symm.trans hl) fun i a v ha hv=>?_
  have hi:i<cs.length:=by rw[I'];exact(List.getElem?_eq_some_iff.1 ha).1
  exact hg i cs[i] a (List.getElem?_eq_getElem hi) ha w v (hr i _ v (List.getElem?_eq_getElem hi) hv)
end Go.Gd
namespace Go.Proofs.YtjpcgmjaipfgdaaGreatDoor
open Go Go.Gd Tryz Go.Gd.MV
def AD:fI 0 []:=⟨fun _ _ _=>rfl,List.nodup_nil,fun i r h=>by cases h⟩
structure gJ(b:ak):Prop where
 inl:b.aC.length<=100
 qg:b.base.length<=100
 oD:b.own.length<=100
 inr:∀x∈b.aC,cf x
 zg:∀x∈b.base,cf x.v.n
 wQ:∀x∈b.own,cf x.v.n
def gJ.ou{b:ak}(h:gJ b):(eT b).length<=200:=by have:=h.qg;have:=h.oD;unfold eT;rw[zL];omega
def gJ.lJ{b:ak}(h:gJ b):∀x∈eT b,cf x.v.n:=fun x hx=>by
 unfold eT at hx;rcases HS.1 hx with hx|hx
 ·exact h.zg x hx
 ·exact h.wQ x hx
def vf{b:ak}(h:gJ b):aB prog 27 [.agg (bq b)] (aO bw 5 (eT b)):=by
 have hm:=Oz b.base b.own (by have:=h.qg;omega) (by have:=h.oD;omega);refine bG func27 ntmps27 ?_
 (repeat' (first|refine aq fun K hK=>?_|refine ap ?_|(refine hK _ _ ?_;clear hK K)|(refine ao ?_ ?_<;>intro hc<;>try exact jz)|refine bx 3 ?_|refine cp (hm) ?_|(refine bF ?_ ?_<;>intro hc<;>try exact jz)|refine ar ?_|exact jI|(clear hK K)))
 (refine aY [.tmp 2] ?_;try simp only[go_sem])
 rfl
section
variable {p:af}(hp:mA p)(T0:fu p){F:TG->MV->MV}(hF:bQ p (ci p) F)
include hp T0 hF
theorem Gk{b:ak}(h:gJ b)(t:Int)(ht:cf t):aB prog 70 [.agg (cd p),.agg (bq b),rI t] (.agg (lI (atB p F b t))):=by
 have Xi:=vf h;obtain⟨k,EE,XV,Vw,_,_⟩:=AZ hp hF (by have:=h.inl;omega) h.inr (ya h.lJ) T0 (by have:=h.ou;omega) t ht;have key:ab prog 70 [.agg (cd p),.agg (bq b),rI t] [] fun r l=>r=.agg (lI (atB p F b t))/\l=EE:=by
  unfold atB;generalize shotM p F b.aC (eT b) t=Sh at*;generalize badM p F b.aC (eT b) t=z at*;generalize eT b=A at*;have Tu:=XV.e2.low;refine aM func70 ntmps70 ?_
  (have W:=Tu;repeat' (first|refine aq fun K hK=>?_|refine ap ?_|(with_reducible refine gR 1 ?_);refine dC 1 ([],[14],[16]) [] (aW 0 12) mixed ?_|(refine hK _ _ ?_;clear hK K)|(refine ao ?_ ?_<;>intro hc<;>try exact jz)|refine aT 3 ?_|refine aT 4 ?_|refine cH 6 ?_|refine cp (Xi) ?_|refine cq (Xi) ?_|(refine nU (e:=[]) XV (fun j _ h=>(h rfl).elim) ?_)|refine cT Vw ?_|(refine bF ?_ ?_<;>intro hc<;>try exact jz)|refine ar ?_|exact jI|(clear hK K)))
  have h6:=Tu 6 jC;exact dY (e:=[]) (B:=[]) rfl AD XV.e2 (tl:=[(3,.var 32 (cd p)),(4,.var 52 (bq b)),(6,.var 45 (lI Sh))]) (fun _=>rfl) (dm jC (dm jC (dm jC dD))) [.cell 6 45] (ho:=by simp(disch:=first|omega|assumption|fail) only[go_sem,↓reduceIte,h6];rfl) (hok:=by simp(disch:=first|omega|assumption|fail) only[go_sem,↓reduceIte,h6];first|done|decide|(repeat' (first|exact trivial|decide|(simp;done)|exact Nat.le_of_ble_eq_true rfl|refine jA ?_ ?_)))
 exact aB.ws key (.same _ rfl)
theorem Q0{inp:TG}(UE:inp.length<=1000)(hi:∀x∈inp,cf x){E:List aD}(hE:∀x∈E,cf x.v.n)(hl:E.length<=1000):aB prog 100 [.agg (cd p),aO eI 1 inp,aO bw 5 E] (rI (badM p F inp E 200)):=by
 obtain⟨k,EE,XV,Vw,_,_⟩:=AZ hp hF UE hi (ya hE) T0 hl 200 ⟨jC,jC⟩;have key:ab prog 100 [.agg (cd p),aO eI 1 inp,aO bw 5 E] [] fun r l=>r=rI (badM p F inp E 200)/\l=EE:=by
  generalize badM p F inp E 200=z at*;have Tu:=XV.e2.low;refine aM func100 ntmps100 ?_
  (have W:=Tu;repeat' (first|refine aq fun K hK=>?_|refine ap ?_|(refine hK _ _ ?_;clear hK K)|(refine ao ?_ ?_<;>intro hc<;>try exact jz)|refine aT 3 ?_|(refine cT (e:=[]) XV ?_)|(refine bF ?_ ?_<;>intro hc<;>try exact jz)|refine ar ?_|exact jI|(clear hK K)))
  exact dY (e:=[]) (B:=[]) rfl AD XV.e2 (tl:=[(3,.var 32 (cd p))]) (fun _=>rfl) (dm jC dD) [.tmp 6]
 exact aB.ws key (.same _ rfl)
end
end Go.Proofs.YtjpcgmjaipfgdaaGreatDoor
namespace Go.Proofs.YtjpcgmjaipfgdaaGreatDoor
open Go Go.Gd Tryz
abbrev qS(s:TI):AV:=.raw (.string s)
abbrev qB(b:Bool):AV:=.raw (.bool b)
def NS(r:Nat)(hr:r<=1114111):aB prog 122 [.raw (.int .i32 (r:Int))] (qB (pC r)):=by
 have e:pC r=((decide ((r:Int)<97) || decide (122<(r:Int))) && (decide ((r:Int)<48) || decide (57<(r:Int)))):=by unfold pC oE;by_cases h1:(r:Int)<97<;>by_cases h2:122<(r:Int)<;>by_cases h3:(r:Int)<48<;>by_cases h4:57<(r:Int)<;>simp[h1,h2,h3,h4]<;>omega
 rw[e];by_cases h1:(r:Int)<97<;>by_cases h2:122<(r:Int)<;>by_cases h3:(r:Int)<48<;>by_cases h4:57<(r:Int)<;>(try omega)
 all_goals
  refine bG func122 ntmps122 ?_
  (have W:=jA h1 (jA h2 (jA h3 (h4)));repeat' (first|refine aq fun K hK=>?_|refine ap ?_|(refine hK _ _ ?_;clear hK K)|(refine ao ?_ ?_<;>intro hc<;>try exact jz)|refine ar ?_|exact jI|(clear hK K)))
  (refine aY [.tmp 2] ?_;try simp only[go_sem])
  simp[h1,h2,h3,h4]
def QT(s:TI):aB prog 123 [qS s,.raw (.func (.func 122) #[] #[])] (qB (!(s.data.toList.all fun b=>oE b.toNat))):=by
 rw[<-Py];refine OX #[.string s,.func (.func 122) #[] #[]] _ ?_ (fun w=>.raw _) fun w Zt=>?_
 ·intro w vs h;obtain⟨x,y,rfl,h1,h2⟩:=QN h;rw[dc h1,dc h2]
 ·refine Tryz.strings_ContainsFunc_grows _ #[] (fun args w=>jG) pC s w fun W x hx hb=>?_
  exact Ld (fun g vs hm=>by obtain⟨⟨cur,el,fr,h1,h2⟩,_⟩:=Zt g vs hm;have O':=(Array.getElem?_eq_some_iff.1 h1).1;exact⟨⟨cur,el,fr,(hb.block g O').trans h1,h2⟩,fun h=>h⟩) (NS x hx) (vJ (.raw _))
def AW(s:TI):aB prog 67 [qS s] (qB (io s)):=by
 have ZK:=QT s;generalize hA:(s.data.toList.all fun b=>oE b.toNat)=A at ZK;have e:io s=(decide (1<=(s.size:Int)) && decide ((s.size:Int)<=8) && A):=by
  unfold io;rw[hA];congr 2
  ·simp;omega
  ·simp;omega
 rw[e];clear hA e;cases A<;>by_cases h1:1<=(s.size:Int)<;>by_cases h2:(s.size:Int)<=8<;>(try omega);all_goals
  refine bG func67 ntmps67 ?_
  (have W:=jA h1 h2;repeat' (first|refine aq fun K hK=>?_|refine ap ?_|(refine hK _ _ ?_;clear hK K)|(refine ao ?_ ?_<;>intro hc<;>try exact jz)|refine cq (ZK) ?_|refine⟨qB true,?_⟩|refine ar ?_|exact jI|(clear hK K)))
  (refine aY [.tmp 2] ?_;try simp only[go_sem])
  try simp[h1,h2]
end Go.Proofs.YtjpcgmjaipfgdaaGreatDoor
namespace Go.Proofs.YtjpcgmjaipfgdaaGreatDoor
open Go Go.Gd Tryz Go.Gd.MV
@[go_sem] def qc4:(∀(b:ak) (v:TG),List.take 1 (bq b)++[aO eI 1 v]++List.drop 2 (bq b)=bq { b with aC:=v })/\(∀(b:ak) (v:List aD),List.take 2 (bq b)++[aO bw 5 v]++List.drop 3 (bq b)=bq { b with base:=v })/\(∀(b:ak) (v:List aD),List.take 3 (bq b)++[aO bw 5 v]++List.drop 4 (bq b)=bq { b with own:=v })/\(∀(b:ak),(List.take 1 (bq b)).length=1)/\(∀(b:ak),(List.take 2 (bq b)).length=2)/\(∀(b c:ak),bq b++List.drop 4 (bq c)=bq b):=by and_intros<;>(intros;rfl)
def C2(l:TG)(hl:l.length<=1000):aB prog 55 [aO eI 1 l] (aO eI 1 l):=aB.ws (yA l hl 1) (cW.row l rfl rfl rfl)
def wk(l:List aD)(hl:l.length<=1000):aB prog 56 [aO bw 5 l] (aO bw 5 l):=aB.ws (Bb l hl 1) (cW.row l rfl rfl rfl)
def nz{D:TN}{H:Hp}:cW D H (.agg [.raw (.string ⟨#[]⟩),.raw (.slice none 0 0),.raw (.slice none 0 0),.raw (.slice none 0 0)]) (.agg (bq bZ)):=bu.agg (ds:=bq bZ) ⟨.same _ rfl,cW.nil _ _,cW.nil _ _,cW.nil _ _,trivial⟩
def Nc{b:ak}(h:gJ b):aB prog 75 [.agg (bq b)] (.agg (bq b)):=by
 have h1:=C2 b.aC (by have:=h.inl;omega);have h2:=wk b.base (by have:=h.qg;omega);have h3:=wk b.own (by have:=h.oD;omega);refine bG func75 ntmps75 ?_
 (repeat' (first|refine aq fun K hK=>?_|refine ap ?_|(with_reducible refine gR 1 ?_);refine dC 1 ([],[5,8,11],[]) [] (aW 0 15) mixed ?_|(refine hK _ _ ?_;clear hK K)|(refine ao ?_ ?_<;>intro hc<;>try exact jz)|refine aT 3 ?_|refine cH 4 ?_|refine cq (h1) ?_|refine cq (h2) ?_|refine cq (h3) ?_|refine ar ?_|exact jI|(clear hK K)))
 (refine aY [.cell 2 52] ?_;try simp only[go_sem])
section
variable {p:af}(hp:mA p)(T0:fu p){F:TG->MV->MV}(hF:bQ p (ci p) F)
include hp T0 hF
theorem EC{b:ak}(h:gJ b):aB prog 84 [.agg (cd p),.agg (bq b)] (rI (badB p F b)):=by
 have h1:=vf h;have h2:=Q0 hp T0 hF (inp:=b.aC) (by have:=h.inl;omega) h.inr h.lJ (by have:=h.ou;omega);change aB _ _ _ (rI (badB p F b))at h2
 generalize badB p F b=z at*;refine bG func84 ntmps84 ?_
 (repeat' (first|refine aq fun K hK=>?_|refine ap ?_|(with_reducible refine gR 1 ?_);refine dC 1 ([],[9,10],[]) [] (aW 0 7) mixed ?_|(refine hK _ _ ?_;clear hK K)|(refine ao ?_ ?_<;>intro hc<;>try exact jz)|refine aT 2 ?_|refine aT 3 ?_|refine cq (h1) ?_|refine cq (h2) ?_|refine ar ?_|exact jI|(clear hK K)))
 (refine aY [.tmp 4] ?_;try simp only[go_sem])
theorem Fe{b:ak}(h:gJ b):aB prog 71 [.agg (cd p),.agg (bq b)] (.aQ [.agg (bq (fineB p F b).1),rI (fineB p F b).2]):=by
 have h1:=EC hp T0 hF h;unfold fineB;generalize badB p F b=z at*;by_cases hz:z=0
 ·rw[if_neg (fun h=>h hz)];refine bG func71 ntmps71 ?_
  (have W:=hz;repeat' (first|refine aq fun K hK=>?_|refine ap ?_|(refine hK _ _ ?_;clear hK K)|(refine ao ?_ ?_<;>intro hc<;>try exact jz)|refine aT 2 ?_|refine aT 3 ?_|refine cH 4 ?_|refine cp (h1) ?_|refine ar ?_|exact jI|(clear hK K)))
  (refine aY [.cell 4 52,.tmp 5] ?_;try simp only[go_sem])
 ·rw[if_pos hz];refine bG func71 ntmps71 ?_
  (have W:=hz;repeat' (first|refine aq fun K hK=>?_|refine ap ?_|(refine hK _ _ ?_;clear hK K)|(refine ao ?_ ?_<;>intro hc<;>try exact jz)|refine aT 2 ?_|refine aT 3 ?_|refine cH 4 ?_|refine cp (h1) ?_|refine ar ?_|exact jI|(clear hK K)))
  refine fA [.cell 4 52,.tmp 5] ?_;exact bu.aQ (ds:=[.agg (bq bZ),rI 65]) ⟨nz,.same _ rfl,trivial⟩
end
def Rk{b:ak}(h:gJ b):ab prog 75 [.agg (bq b)] [] (fun r l=>r=.agg [rS b.name,.rs 2 b.aC.length 1 b.aC.length,aO bw 5 b.base,aO bw 5 b.own]/\l=[(2,.aG 3 1 (b.aC.map eI))]):=by
 have h1:=yA b.aC (by have:=h.inl;omega) 2;have h2:=wk b.base (by have:=h.qg;omega);have h3:=wk b.own (by have:=h.oD;omega);obtain⟨nm,inp,base,own⟩:=b;simp only[bq];refine aM func75 ntmps75 ?_
 (repeat' (first|refine aq fun K hK=>?_|refine ap ?_|(with_reducible refine gR 1 ?_);refine dC 1 ([],[8,11],[5]) [] [0,1,3,4,6,7,2,5,8,9,10,11,12,13,14] mixed ?_|(refine hK _ _ ?_;clear hK K)|(refine ao ?_ ?_<;>intro hc<;>try exact jz)|refine aT 4 ?_|refine cH 5 ?_|refine cN h1 ?_|refine cq (h2) ?_|refine cq (h3) ?_|refine ar ?_|exact jI|(clear hK K)))
 refine Qe [.cell 2 52] ?_ ?_ ?_ ?_
 ·rfl
 ·simp only[stay,go_sem];decide
 ·rfl
 ·rfl
section
variable {p:af}(hp:mA p)(T0:fu p){F:TG->MV->MV}(hF:bQ p (ci p) F)
variable{b:ak}{x:aD}
def gJ.early(h:gJ b)(t:Int)(ht:(dT (eT b) t).length<=100)(nm:TI)(hx:cf x.v.n):gJ ⟨nm,b.aC,dT (eT b) t,[x]⟩:=
 ⟨h.inl,ht,by show 1<=100;decide,h.inr,fun y hy=>h.lJ y (EM hy).1,fun y hy=>by rw[List.mem_singleton.1 hy];exact hx⟩
def gJ.ins(h:gJ b)(hl:b.own.length<100)(hx:cf x.v.n):gJ { b with own:=kJ x b.own }:=
 ⟨h.inl,h.qg,by show(kJ x b.own).length<=100;rw[Go.Gd.iC];omega,h.inr,h.zg,fun y hy=>by
  rcases CE.1 hy with rfl|hy
  ·exact hx
  ·exact h.wQ y hy⟩
def Nq(l:List aD)(x:aD)(h1:l.length<=500):aB prog 76 [aO bw 5 l,.sl true 5 [bw x] []] (aO bw 5 (kJ x l)):=Ia (DI l [x] h1 jE) ⟨.refl _,.lit 5 [bw x] _ _,trivial⟩
include hp T0 hF
theorem Nn{nm:TI}{inp:TG}{base:List aD}(h:gJ ⟨nm,inp,base,[x]⟩):aB prog 71 [.agg (cd p),.agg [rS nm,aO eI 1 inp,aO bw 5 base,.sl true 5 [bw x] []]] (.aQ [.agg (bq (fineB p F ⟨nm,inp,base,[x]⟩).1),rI (fineB p F ⟨nm,inp,base,[x]⟩).2]):=Ia (Fe hp T0 hF h) ⟨.refl _,I2 ⟨.refl _,.refl _,.refl _,.lit 5 [bw x] _ _,trivial⟩,trivial⟩
theorem Kv(h:gJ b)(nm:TI)(hx:cf x.v.n)(hxa:cf x.at_):aB prog 24 [.agg (cd p),.agg (bq b),rS nm,.agg (bw x)] (.aQ [.agg (bq (forkB p F (io nm) b nm x).1),rI (forkB p F (io nm) b nm x).2]):=by
 have h0:=AW nm;have h1:=DN x;have h2:=vf h;have h3:=GV (eT b) x.at_ (by have:=h.ou;omega);have h4:=Gk hp T0 hF h x.at_ hxa;have h5:=C2 b.aC (by have:=h.inl;omega);have I':=Ch (eT b) x.at_;have T7:=h.ou;have h6:=fun hl=>Nn hp T0 hF (h.early x.at_ hl nm hx)
 unfold forkB;generalize io nm=ok at*;generalize nH x=my at*;generalize atB p F b x.at_=Sh at*;generalize eT b=A at*;generalize dT A x.at_=U at*;generalize Yf:fineB p F ⟨nm,b.aC,U,[x]⟩=fb at*;have hq:(ok=false/\True)\/(ok=true/\my=false)\/(ok=true/\my=true):=by cases ok<;>cases my<;>simp
 rcases hq with⟨q1,q2⟩|⟨q1,q2⟩|⟨q1,q2⟩
 ·rw[if_pos (.inl q1)];rw[q1]at h0;refine bG func24 ntmps24 ?_
  (repeat' (first|refine aq fun K hK=>?_|refine ap ?_|(refine hK _ _ ?_;clear hK K)|(refine ao ?_ ?_<;>intro hc<;>try exact jz)|refine aT 4 ?_|refine aT 5 ?_|refine aT 7 ?_|refine cH 8 ?_|refine cp (h0) ?_|refine⟨rB true,?_⟩|refine ar ?_|exact jI|(clear hK K)))
  refine fA [.cell 8 52,.tmp 9] ?_;exact bu.aQ (ds:=[.agg (bq bZ),rI 1]) ⟨nz,.same _ rfl,trivial⟩
 ·rw[if_pos (.inr q2)];rw[q1]at h0;rw[q2]at h1;refine bG func24 ntmps24 ?_
  (repeat' (first|refine aq fun K hK=>?_|refine ap ?_|(refine hK _ _ ?_;clear hK K)|(refine ao ?_ ?_<;>intro hc<;>try exact jz)|refine aT 4 ?_|refine aT 5 ?_|refine aT 7 ?_|refine cH 8 ?_|refine cp (h0) ?_|refine cq (h1) ?_|refine ar ?_|exact jI|(clear hK K)))
  refine fA [.cell 8 52,.tmp 9] ?_;exact bu.aQ (ds:=[.agg (bq bZ),rI 1]) ⟨nz,.same _ rfl,trivial⟩
 rw[if_neg (by rw[q1,q2];simp)];rw[q1]at h0;rw[q2]at h1;by_cases ht:Sh.time<x.at_
 ·rw[if_pos ht];refine bG func24 ntmps24 ?_
  (have W:=ht;repeat' (first|refine aq fun K hK=>?_|refine ap ?_|(with_reducible refine gR 3 ?_);refine dC 3 ([],[21,24],[]) [] (aW 0 6) mixed ?_|(with_reducible refine gR 4 ?_);refine dC 4 ([],[30],[]) [] (aW 0 10) mixed ?_|(refine hK _ _ ?_;clear hK K)|(refine ao ?_ ?_<;>intro hc<;>try exact jz)|refine aT 4 ?_|refine aT 5 ?_|refine aT 7 ?_|refine cH 8 ?_|refine cp (h0) ?_|refine cq (h1) ?_|refine cq (h2) ?_|refine cq (h3) ?_|refine cq (h4) ?_|refine ar ?_|exact jI|(clear hK K)))
  refine fA [.cell 8 52,.tmp 9] ?_;exact bu.aQ (ds:=[.agg (bq bZ),rI 63]) ⟨nz,.same _ rfl,trivial⟩
 rw[if_neg ht];by_cases hu:8<=U.length
 ·rw[if_pos hu];have huI:(U.length:Int) >= 8:=jB;refine bG func24 ntmps24 ?_
  (have W:=jA ht huI;repeat' (first|refine aq fun K hK=>?_|refine ap ?_|(with_reducible refine gR 3 ?_);refine dC 3 ([],[21,24],[]) [] (aW 0 6) mixed ?_|(with_reducible refine gR 4 ?_);refine dC 4 ([],[30],[]) [] (aW 0 10) mixed ?_|(refine hK _ _ ?_;clear hK K)|(refine ao ?_ ?_<;>intro hc<;>try exact jz)|refine aT 4 ?_|refine aT 5 ?_|refine aT 7 ?_|refine cH 8 ?_|refine cp (h0) ?_|refine cq (h1) ?_|refine cq (h2) ?_|refine cq (h3) ?_|refine cq (h4) ?_|refine ar ?_|exact jI|(clear hK K)))
  refine fA [.cell 8 52,.tmp 9] ?_;exact bu.aQ (ds:=[.agg (bq bZ),rI 62]) ⟨nz,.same _ rfl,trivial⟩
 ·rw[if_neg hu];have huI:¬(U.length:Int) >= 8:=jB;have h6:=h6 jB;refine bG func24 ntmps24 ?_
  (have W:=jA ht huI;repeat' (first|refine aq fun K hK=>?_|refine ap ?_|(with_reducible refine gR 3 ?_);refine dC 3 ([],[21,24],[]) [] (aW 0 6) mixed ?_|(with_reducible refine gR 4 ?_);refine dC 4 ([],[30],[]) [] (aW 0 10) mixed ?_|(with_reducible refine gR 8 ?_);refine dC 8 ([],[45,50],[]) [] (aW 0 14) mixed ?_|(refine hK _ _ ?_;clear hK K)|(refine ao ?_ ?_<;>intro hc<;>try exact jz)|refine aT 4 ?_|refine aT 5 ?_|refine aT 7 ?_|refine cH 8 ?_|refine cp (h0) ?_|refine cq (h1) ?_|refine cq (h2) ?_|refine cq (h3) ?_|refine cq (h4) ?_|refine cq (h5) ?_|refine cq (h6) ?_|refine ar ?_|exact jI|(clear hK K)))
  (refine aY [.cell 8 52,.tmp 9] ?_;try simp only[go_sem])
theorem Nw(h:gJ b)(nm:TI)(t n:Int)(ht:cf t):aB prog 28 [.agg (cd p),.agg (bq b),rS nm,rI t,rI n] (.aQ [.agg (bq (inputB p F (io nm) b nm t n).1),rI (inputB p F (io nm) b nm t n).2]):=by
 have h0:=AW nm;have h2:=vf h;have h3:=GV (eT b) t (by have:=h.ou;omega);have h4:=Gk hp T0 hF h t ht;have Yq:=(Ay hp.ok hF h.inr h.lJ t).1;have VY:0<=(atB p F b t).in_:=Yq.i0;have Wc:(atB p F b t).in_<=b.aC.length:=Yq.i1;have Vh:=h.inl;unfold inputB;generalize io nm=ok at*;generalize atB p F b t=Sh at*;generalize eT b=A at*;generalize dT A t=U at*;obtain⟨q,hq⟩:∃q:Nat,Sh.in_=(q:Int):=⟨Sh.in_.toNat,jB⟩;have h5:=yA (b.aC.take q) (by rw[List.length_take];omega) 2;have XY:(b.aC.take q).length=q:=by rw[List.length_take];omega
 rw[XY]at h5;have hqb:q<=b.aC.length:=jB;have hqI:(q:Int)<=(b.aC.length:Int):=jB;have T9:(ok=false/\True/\True)\/(ok=true/\t<0/\True)\/(ok=true/\¬t<0/\200<t)\/(ok=true/\¬t<0/\¬200<t):=by
  cases ok
  ·exact .inl ⟨rfl,trivial,trivial⟩
  ·by_cases a:t<0
   ·exact .inr (.inl ⟨rfl,a,trivial⟩)
   ·by_cases c:200<t
    ·exact .inr (.inr (.inl ⟨rfl,a,c⟩))
    ·exact .inr (.inr (.inr ⟨rfl,a,c⟩))
 rcases T9 with⟨q1,q2,q3⟩|⟨q1,q2,q3⟩|⟨q1,q2,q3⟩|⟨q1,q2,q3⟩
 ·rw[if_pos (.inl q1)];rw[q1]at h0;refine bG func28 ntmps28 ?_
  (repeat' (first|refine aq fun K hK=>?_|refine ap ?_|(refine hK _ _ ?_;clear hK K)|(refine ao ?_ ?_<;>intro hc<;>try exact jz)|refine aT 5 ?_|refine aT 6 ?_|refine cH 10 ?_|refine cp (h0) ?_|refine ar ?_|exact jI|(clear hK K)))
  refine fA [.cell 10 52,.tmp 11] ?_;exact bu.aQ (ds:=[.agg (bq bZ),rI 1]) ⟨nz,.same _ rfl,trivial⟩
 ·rw[if_pos (.inr (.inl q2))];rw[q1]at h0;refine bG func28 ntmps28 ?_
  (have W:=q2;repeat' (first|refine aq fun K hK=>?_|refine ap ?_|(refine hK _ _ ?_;clear hK K)|(refine ao ?_ ?_<;>intro hc<;>try exact jz)|refine aT 5 ?_|refine aT 6 ?_|refine cH 10 ?_|refine cp (h0) ?_|refine ar ?_|exact jI|(clear hK K)))
  refine fA [.cell 10 52,.tmp 11] ?_;exact bu.aQ (ds:=[.agg (bq bZ),rI 1]) ⟨nz,.same _ rfl,trivial⟩
 ·rw[if_pos (.inr (.inr q3))];rw[q1]at h0;refine bG func28 ntmps28 ?_
  (have W:=jA q2 q3;repeat' (first|refine aq fun K hK=>?_|refine ap ?_|(refine hK _ _ ?_;clear hK K)|(refine ao ?_ ?_<;>intro hc<;>try exact jz)|refine aT 5 ?_|refine aT 6 ?_|refine cH 10 ?_|refine cp (h0) ?_|refine ar ?_|exact jI|(clear hK K)))
  refine fA [.cell 10 52,.tmp 11] ?_;exact bu.aQ (ds:=[.agg (bq bZ),rI 1]) ⟨nz,.same _ rfl,trivial⟩
 rw[if_neg (by rw[q1];simp;omega)];rw[q1]at h0;by_cases c1:Sh.time<t
 ·rw[if_pos c1];refine bG func28 ntmps28 ?_
  (have W:=jA q2 (jA q3 (c1));repeat' (first|refine aq fun K hK=>?_|refine ap ?_|(refine hK _ _ ?_;clear hK K)|(refine ao ?_ ?_<;>intro hc<;>try exact jz)|refine aT 5 ?_|refine aT 6 ?_|refine cH 10 ?_|refine cH 12 ?_|refine cp (h0) ?_|refine cp (h4) ?_|refine ar ?_|exact jI|(clear hK K)))
  refine fA [.cell 10 52,.tmp 11] ?_;exact bu.aQ (ds:=[.agg (bq bZ),rI 63]) ⟨nz,.same _ rfl,trivial⟩
 rw[if_neg c1];by_cases c2:16<=Sh.in_
 ·rw[if_pos c2];have c2':Sh.in_ >= 16:=c2;refine bG func28 ntmps28 ?_
  (have W:=jA q2 (jA q3 (jA c1 (c2')));repeat' (first|refine aq fun K hK=>?_|refine ap ?_|(refine hK _ _ ?_;clear hK K)|(refine ao ?_ ?_<;>intro hc<;>try exact jz)|refine aT 5 ?_|refine aT 6 ?_|refine cH 10 ?_|refine cH 12 ?_|refine cp (h0) ?_|refine cp (h4) ?_|refine ar ?_|exact jI|(clear hK K)))
  refine fA [.cell 10 52,.tmp 11] ?_;exact bu.aQ (ds:=[.agg (bq bZ),rI 62]) ⟨nz,.same _ rfl,trivial⟩
 ·rw[if_neg c2];have c2':¬(q:Int) >= 16:=jB;rw[hq,Int.toNat_natCast];refine bG func28 ntmps28 ?_
  (have W:=jA q2 (jA q3 (jA c1 (jA hq (jA c2' (hqI)))));repeat' (first|refine aq fun K hK=>?_|refine ap ?_|(refine hK _ _ ?_;clear hK K)|(refine ao ?_ ?_<;>intro hc<;>try exact jz)|refine aT 5 ?_|refine aT 6 ?_|refine cH 10 ?_|refine cH 12 ?_|refine cp (h0) ?_|refine cp (h2) ?_|refine cp (h3) ?_|refine cm (h5) ?_|refine cp (h4) ?_|refine ar ?_|exact jI|(clear hK K)))
  refine fA [.cell 10 52,.tmp 11] ?_;exact bu.aQ (ds:=[.agg (bq ⟨nm,b.aC.take q++[n],U,[]⟩),rI 0]) ⟨bu.agg (ds:=bq ⟨nm,b.aC.take q++[n],U,[]⟩) ⟨.same _ rfl,cW.row (b.aC.take q++[n]) rfl (by rw[List.map_append];rfl) (by rw[List.length_append,XY];rfl),.same _ rfl,cW.nil _ _,trivial⟩,.same _ rfl,trivial⟩
theorem Mz(h:gJ b)(hx:cf x.v.n):aB prog 29 [.agg (cd p),.agg (bq b),.agg (bw x)] (.aQ [.agg (bq (addB p F b x).1),rI (addB p F b x).2]):=by
 have h1:=DN x;have h2:=Nc h;have hba:=h.qg;have how:=h.oD;have h3:=Nq b.own x (by have:=h.oD;omega);have h4:=fun hl=>Fe hp T0 hF (h.ins hl hx)
 unfold addB;generalize nH x=my at*;generalize Yf:fineB p F { b with own:=kJ x b.own }=fb at*;cases my
 ·rw[if_pos rfl];refine bG func29 ntmps29 ?_
  (repeat' (first|refine aq fun K hK=>?_|refine ap ?_|(refine hK _ _ ?_;clear hK K)|(refine ao ?_ ?_<;>intro hc<;>try exact jz)|refine aT 4 ?_|refine aT 5 ?_|refine aT 7 ?_|refine cH 8 ?_|refine cp (h1) ?_|refine ar ?_|exact jI|(clear hK K)))
  refine fA [.cell 6 52,.tmp 7] ?_;exact bu.aQ (ds:=[.agg (bq bZ),rI 1]) ⟨nz,.same _ rfl,trivial⟩
 rw[if_neg jE];by_cases c:8<=b.base.length+b.own.length
 ·rw[if_pos c];have c':(b.base.length:Int)+b.own.length >= 8:=jB;refine bG func29 ntmps29 ?_
  (have W:=c';repeat' (first|refine aq fun K hK=>?_|refine ap ?_|(refine hK _ _ ?_;clear hK K)|(refine ao ?_ ?_<;>intro hc<;>try exact jz)|refine aT 4 ?_|refine aT 5 ?_|refine aT 7 ?_|refine cH 8 ?_|refine cp (h1) ?_|refine ar ?_|exact jI|(clear hK K)))
  refine fA [.cell 6 52,.tmp 7] ?_;exact bu.aQ (ds:=[.agg (bq bZ),rI 62]) ⟨nz,.same _ rfl,trivial⟩
 ·rw[if_neg c];have c':¬(b.base.length:Int)+b.own.length >= 8:=jB;have h4:=h4 jB;refine bG func29 ntmps29 ?_
  (have W:=c';repeat' (first|refine aq fun K hK=>?_|refine ap ?_|(refine hK _ _ ?_;clear hK K)|(refine ao ?_ ?_<;>intro hc<;>try exact jz)|refine aT 4 ?_|refine aT 5 ?_|refine aT 7 ?_|refine cH 8 ?_|refine cp (h1) ?_|refine cp (h2) ?_|refine cp (h3) ?_|refine cp (h4) ?_|refine ar ?_|exact jI|(clear hK K)))
  (refine aY [.cell 6 52,.tmp 7] ?_;try simp only[go_sem])
omit hp T0 hF in
theorem RR(h:gJ b)(n:Int):aB prog 35 [.agg (bq b),rI n] (.aQ [.agg (bq (pd b n).1),rI (pd b n).2]):=by
 have h2:=Rk h;have Vh:=h.inl;unfold pd;by_cases c:16<=b.aC.length
 ·rw[if_pos c];have c':(b.aC.length:Int) >= 16:=jB;refine bG func35 ntmps35 ?_
  (have W:=c';repeat' (first|refine aq fun K hK=>?_|refine ap ?_|(refine hK _ _ ?_;clear hK K)|(refine ao ?_ ?_<;>intro hc<;>try exact jz)|refine aT 4 ?_|refine cH 5 ?_|refine ar ?_|exact jI|(clear hK K)))
  refine fA [.cell 4 52,.tmp 5] ?_;exact bu.aQ (ds:=[.agg (bq bZ),rI 62]) ⟨nz,.same _ rfl,trivial⟩
 ·rw[if_neg c];have c':¬(b.aC.length:Int) >= 16:=jB;obtain⟨nm,inp,base,own⟩:=b;have c':¬(inp.length:Int) >= 16:=c';have Vh:inp.length<=100:=Vh;simp only[bq]at h2 ⊢;refine bG func35 ntmps35 ?_
  (have W:=c';repeat' (first|refine aq fun K hK=>?_|refine ap ?_|(refine hK _ _ ?_;clear hK K)|(refine ao ?_ ?_<;>intro hc<;>try exact jz)|refine aT 4 ?_|refine cH 5 ?_|refine cm (h2) ?_|refine ar ?_|exact jI|(clear hK K)))
  refine fA [.cell 4 52,.tmp 5] ?_;exact bu.aQ (ds:=[.agg (bq ⟨nm,inp++[n],base,own⟩),rI 0]) ⟨bu.agg (ds:=bq ⟨nm,inp++[n],base,own⟩) ⟨.same _ rfl,cW.row (inp++[n]) rfl (by rw[List.map_append];rfl) (by rw[List.length_append];rfl),.same _ rfl,.same _ rfl,trivial⟩,.same _ rfl,trivial⟩
omit hp T0 hF in
theorem gJ.j9{a o:ak}(ha:gJ a)(ho:gJ o)(hl:(eT o).length<=100):gJ ⟨a.name,o.aC,eT o,a.own⟩:=⟨ho.inl,hl,ha.oD,ho.inr,ho.lJ,ha.wQ⟩
theorem Lu{a o:ak}(ha:gJ a)(ho:gJ o)(hl:(eT o).length<=100):aB prog 36 [.agg (cd p),.agg (bq a),.agg (bq o)] (.aQ [.agg (bq (rebaseB p F a o).1),rI (rebaseB p F a o).2.1,rI (rebaseB p F a o).2.2]):=by
 have h1:=C2 o.aC (by have:=ho.inl;omega);have h2:=vf ho;have h3:=wk a.own (by have:=ha.oD;omega);have h4:=EC hp T0 hF (ha.j9 ho hl);have how:=ha.oD;unfold rebaseB;generalize hz:badB p F ⟨a.name,o.aC,eT o,a.own⟩=z at*;clear hz;generalize eT o=A at*;by_cases c:8<A.length+a.own.length
 ·rw[if_pos c];have c':(A.length:Int)+a.own.length>8:=jB;refine bG func36 ntmps36 ?_
  (have W:=c';repeat' (first|refine aq fun K hK=>?_|refine ap ?_|(with_reducible refine gR 1 ?_);refine dC 1 ([],[],[15,17,20]) [11] [0,1,2,3,5,7,8,4,6,9,10,11,12] mixed ?_|(refine hK _ _ ?_;clear hK K)|(refine ao ?_ ?_<;>intro hc<;>try exact jz)|refine aT 4 ?_|refine aT 5 ?_|refine aT 6 ?_|refine cH 7 ?_|refine cH 8 ?_|refine cN h1 ?_|refine cN h2 ?_|refine cN h3 ?_|refine ar ?_|exact jI|(clear hK K)))
  refine fA [.cell 6 52,.tmp 7,.tmp 8] ?_;exact bu.aQ (ds:=[.agg (bq bZ),rI 0,rI 62]) ⟨nz,.same _ rfl,.same _ rfl,trivial⟩
 rw[if_neg c];have c':¬(A.length:Int)+a.own.length>8:=jB;by_cases d:z=0
 ·rw[if_neg (fun h=>h d)];refine bG func36 ntmps36 ?_
  (have W:=jA c' d;repeat' (first|refine aq fun K hK=>?_|refine ap ?_|(with_reducible refine gR 1 ?_);refine dC 1 ([],[],[15,17,20]) [11] [0,1,2,3,5,7,8,4,6,9,10,11,12] mixed ?_|(refine hK _ _ ?_;clear hK K)|(refine ao ?_ ?_<;>intro hc<;>try exact jz)|refine aT 4 ?_|refine aT 5 ?_|refine aT 6 ?_|refine cH 7 ?_|refine cH 8 ?_|refine cp (h4) ?_|refine cN h1 ?_|refine cN h2 ?_|refine cN h3 ?_|refine ar ?_|exact jI|(clear hK K)))
  (refine aY [.cell 6 52,.tmp 7,.tmp 8] ?_;try simp only[go_sem])
  rfl
 ·rw[if_pos d];refine bG func36 ntmps36 ?_
  (have W:=jA c' d;repeat' (first|refine aq fun K hK=>?_|refine ap ?_|(with_reducible refine gR 1 ?_);refine dC 1 ([],[],[15,17,20]) [11] [0,1,2,3,5,7,8,4,6,9,10,11,12] mixed ?_|(refine hK _ _ ?_;clear hK K)|(refine ao ?_ ?_<;>intro hc<;>try exact jz)|refine aT 4 ?_|refine aT 5 ?_|refine aT 6 ?_|refine cH 7 ?_|refine cH 8 ?_|refine cp (h4) ?_|refine cN h1 ?_|refine cN h2 ?_|refine cN h3 ?_|refine ar ?_|exact jI|(clear hK K)))
  refine fA [.cell 6 52,.tmp 7,.tmp 8] ?_;exact bu.aQ (ds:=[.agg (bq bZ),rI z,rI 65]) ⟨nz,.same _ rfl,.same _ rfl,trivial⟩
end
end Go.Proofs.YtjpcgmjaipfgdaaGreatDoor
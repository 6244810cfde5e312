/- Lemmas. No conditions. -/
import Derived.Test.YtijdhbokcdpklaaGreatDoorBqF
import Derived.Laws.RangeAny
import Derived.Laws.RangeString
set_option linter.all false
set_option maxHeartbeats 4000000
set_option maxRecDepth 10000
namespace Go.Gd
open Go
def PF{P:UP}{f:FuncId}{args:UE}{r:AV}(cI:UL)(v:Value)(ha:∀(w:NW) vs,bs w args vs->vs=cI)(hr:∀w:NW,ax w r v)(h:∀w:NW,ku w->Calls P f cI w.toWorld fun e w'=>e=.returned v/\RowKit.Below w.heap.size w.toWorld w'):aC P f args r:=by intro w vs h1 h2;have WX:=ha w vs h2;subst WX;refine(h w h1.cd).mono ?_;rintro e W ⟨rfl,hb⟩;have ex:Ext w (entry []) (w.to W) (entry []):={ size:=hb.size,free:=fun b Vv hO=>⟨hb.block b Vv,hO⟩,names:=fun _ _ _ _ h=>h,os:=hb.os,tape:=hb.tape,output:=hb.output,rest:=fun b Vv hO Ur=>⟨hb.block b Vv,hO,Ur⟩,base:=rfl };refine⟨v,r,entry [],w.to W,rfl,rfl,⟨rfl,rfl⟩,{ rows:=fun i row hi=>(by cases hi),di:=h1.di,inj:=h1.inj,own:=h1.own,cd:=h1.cd.aX ex.toKeep,fin:=fun b Vv=>Nat.lt_of_lt_of_le (h1.fin b Vv) hb.size },hr _,ex.pB⟩
def Qk{w:NW}{a b:AV}{vs:UL}(h:bs w [a,b] vs):∃x y,vs=#[x,y]/\ax w a x/\ax w b y:=by
 obtain⟨hl,hg⟩:=h;obtain⟨l⟩:=vs;match l,hl with
 |[x,y],_=>exact⟨x,y,rfl,hg 0 a x rfl rfl,hg 1 b y rfl rfl⟩
def Pq{P:UP}{f:FuncId}{avs:UE}{v:Value}{args:UL}{W:World}(hg:ku (n0 W))(h:aC P f avs (.raw v))(ha:cf (n0 W) avs args.toList):Calls P f args W fun e W'=>e=.returned v/\RowKit.Below W.heap.size W W':=by refine(h (n0 W) args (JR W hg) ⟨by rw[ha.1];simp,fun i a v h1 h2=>ha.2 i a v h1 (by rw[Array.getElem?_toList];exact h2)⟩).mono ?_;rintro e w' ⟨v,r,H',w2,rfl,rfl,⟨rfl,_⟩,_,g2,g3⟩;have:=db g2;subst this;exact⟨rfl,⟨g3.os,g3.tape,g3.output,g3.size,fun k hk=>(g3.free k hk (fun h=>h)).1⟩⟩
def oi(r:Nat):Bool:=(decide (97<=r) && decide (r<=122)) || (decide (48<=r) && decide (r<=57))
def pO(r:Nat):Bool:=!(oi r)
def fW(s:UI):Bool:=decide (1<=s.size) && decide (s.size<=8) && s.data.toList.all fun b=>oi b.toNat
theorem IX(s:UI):∀f pos,s.size<=pos+f->(Lib.idxFuncFrom pO true s f pos<0<->∀k (h:k<s.size),pos<=k->oi (s[k]'h).toNat=true)
 |0,pos,h=>by unfold Lib.idxFuncFrom;exact⟨fun _ k hk hp=>jB,fun _=>jB⟩
 |f+1,pos,h=>by
  unfold Lib.idxFuncFrom;by_cases hp:pos<s.size
  ·rw[if_pos hp];by_cases ha:(s[pos]'hp).toNat<128
   ·rw[decode_ascii s pos hp ha];by_cases hn:oi (s[pos]'hp).toNat=true
    ·rw[if_neg (by unfold pO;rw[hn];decide),IX s f (pos+1) jB];constructor
     ·intro h1 k hk hpk;by_cases e:k=pos
      ·subst e;exact hn
      ·exact h1 k hk jB
     ·intro h1 k hk hpk;exact h1 k hk jB
    ·rw[if_pos (by unfold pO;simpa using hn)];exact⟨fun h1=>jB,fun h1=>(hn (h1 pos hp jl)).elim⟩
   ·obtain⟨h1,h2⟩:=decode_high s pos hp jB;have hb:pO (Utf8.decode s pos).1=true:=by unfold pO oi;simp;omega
    rw[if_pos hb];refine⟨fun h1=>jB,fun h3=>?_⟩;have:=h3 pos hp jl;unfold oi at this;simp at this;omega
  ·rw[if_neg hp];exact⟨fun _ k hk hp'=>jB,fun _=>jB⟩
def Pz(s:UI):decide (0<=Lib.idxFunc pO true s)=!(s.data.toList.all fun b=>oi b.toNat):=by
 have h:=IX s s.size 0 jB;unfold Lib.idxFunc;have e:(s.data.toList.all fun b=>oi b.toNat)=true<->∀k (h:k<s.size),0<=k->oi (s[k]'h).toNat=true:=by
  rw[List.all_eq_true];constructor
  ·intro h k hk _;exact h _ (by
    have:s[k]=s.data.toList[k]'(by simpa using hk):=by simp[ByteArray.getElem_eq_getElem_data]
    rw[this];exact List.getElem_mem _)
  ·intro h b hb;obtain⟨k,hk,rfl⟩:=List.getElem_of_mem hb;have:=h k (by simpa using hk) (Nat.zero_le _);simpa[ByteArray.getElem_eq_getElem_data]using this
 by_cases hA:(s.data.toList.all fun b=>oi b.toNat)=true
 ·rw[hA];have:=h.2 (e.1 hA);simp;omega
 ·have hn:¬Lib.idxFuncFrom pO true s s.size 0<0:=fun h1=>hA (e.2 (h.1 h1))
  rw[Bool.eq_false_iff.2 hA];simp;omega
def HH{cs ds:UE}(h:ny cs ds):Sub (.agg cs) (.agg ds):=fun w v hv=>by
 obtain⟨I',hg⟩:=h.get;cases hv with
 |agg _ vs hl hr=>
  refine .agg ds vs (I'.symm.trans hl) fun i a v ha hv=>?_
  have hi:i<cs.length:=by rw[I'];exact(List.getElem?_eq_some_iff.1 ha).1
  exact hg i cs[i] a (List.getElem?_eq_getElem hi) ha w v (hr i _ v (List.getElem?_eq_getElem hi) hv)
end Go.Gd
namespace Go.Proofs.YtijdhbokcdpklaaGreatDoor
open Go Go.Gd Tryz Go.Gd.MV
def Co:fQ 0 []:=⟨fun _ _ _=>rfl,List.nodup_nil,fun i r h=>by cases h⟩
structure ie(b:ak):Prop where
 inl:b.aD.length<=100
 rN:b.base.length<=100
 oY:b.own.length<=100
 inr:∀x∈b.aD,bD x
 wH:∀x∈b.base,bD x.v.n
 uU:∀x∈b.own,bD x.v.n
def ie.oM{b:ak}(h:ie b):(dB b).length<=200:=by have:=h.rN;have:=h.oY;unfold dB;rw[zA];omega
def ie.fx{b:ak}(h:ie b):∀x∈dB b,bD x.v.n:=fun x hx=>by
 unfold dB at hx;rcases zL.1 hx with hx|hx
 ·exact h.wH x hx
 ·exact h.uU x hx
def we{b:ak}(h:ie b):aC prog 38 [.agg (bu b)] (aP bA 5 (dB b)):=by
 have hm:=NT b.base b.own (by have:=h.rN;omega) (by have:=h.oY;omega);refine bQ func38 ntmps38 ?_
 (repeat' (first|refine av fun K hK=>?_|refine au ?_|(refine hK _ _ ?_;clear hK K)|(refine ar ?_ ?_<;>intro hc<;>try exact jz)|refine bx 3 ?_|refine cp (hm) ?_|(refine bY ?_ ?_<;>intro hc<;>try exact jz)|refine aq ?_|exact jI|(clear hK K)))
 (refine ba [.tmp 2] ?_;try simp only[go_sem])
 rfl
section
variable {p:af}(hp:mJ p)(Uw:fw p){F:UG->MV->MV}(hF:bF p (bz p) F)
include hp Uw hF
theorem Io{b:ak}(h:ie b)(t:Int)(ht:bD t):aC prog 51 [.agg (cn p),.agg (bu b),rI t] (.agg (lp (atB p F b t))):=by
 have Yd:=we h;obtain⟨k,EE,YP,Wq,_,_⟩:=Bl hp hF (by have:=h.inl;omega) h.inr (mh h.fx) Uw (by have:=h.oM;omega) t ht;have key:ab prog 51 [.agg (cn p),.agg (bu b),rI t] [] fun r l=>r=.agg (lp (atB p F b t))/\l=EE:=by
  unfold atB;generalize shotM p F b.aD (dB b) t=Sh at*;generalize badM p F b.aD (dB b) t=z at*;generalize dB b=A at*;have Ul:=YP.e2.low;refine aM func51 ntmps51 ?_
  (have W:=Ul;repeat' (first|refine av fun K hK=>?_|refine au ?_|(with_reducible refine gR 1 ?_);refine dC 1 ([],[14],[16]) [] (bf 0 12) mixed ?_|(refine hK _ _ ?_;clear hK K)|(refine ar ?_ ?_<;>intro hc<;>try exact jz)|refine aV 3 ?_|refine aV 4 ?_|refine cL 6 ?_|refine cp (Yd) ?_|refine cq (Yd) ?_|(refine nN (e:=[]) YP (fun j _ h=>(h rfl).elim) ?_)|refine cT Wq ?_|(refine bY ?_ ?_<;>intro hc<;>try exact jz)|refine aq ?_|exact jI|(clear hK K)))
  have h6:=Ul 6 jC;exact eD (e:=[]) (B:=[]) rfl Co YP.e2 (tl:=[(3,.var 30 (cn p)),(4,.var 49 (bu b)),(6,.var 114 (lp Sh))]) (fun _=>rfl) (dp jC (dp jC (dp jC dK))) [.cell 6 114] (ho:=by simp(disch:=first|omega|assumption|fail) only[go_sem,↓reduceIte,h6];rfl) (hok:=by simp(disch:=first|omega|assumption|fail) only[go_sem,↓reduceIte,h6];first|done|decide|(repeat' (first|exact trivial|decide|(simp;done)|exact Nat.le_of_ble_eq_true rfl|refine jA ?_ ?_)))
 exact aC.xU key (.same _ rfl)
theorem SZ{inp:UG}(VB:inp.length<=1000)(hi:∀x∈inp,bD x){E:List aB}(hE:∀x∈E,bD x.v.n)(hl:E.length<=1000):aC prog 37 [.agg (cn p),aP eI 1 inp,aP bA 5 E] (rI (badM p F inp E 200)):=by
 obtain⟨k,EE,YP,Wq,_,_⟩:=Bl hp hF VB hi (mh hE) Uw hl 200 ⟨jC,jC⟩;have key:ab prog 37 [.agg (cn p),aP eI 1 inp,aP bA 5 E] [] fun r l=>r=rI (badM p F inp E 200)/\l=EE:=by
  generalize badM p F inp E 200=z at*;have Ul:=YP.e2.low;refine aM func37 ntmps37 ?_
  (have W:=Ul;repeat' (first|refine av fun K hK=>?_|refine au ?_|(refine hK _ _ ?_;clear hK K)|(refine ar ?_ ?_<;>intro hc<;>try exact jz)|refine aV 3 ?_|(refine cT (e:=[]) YP ?_)|(refine bY ?_ ?_<;>intro hc<;>try exact jz)|refine aq ?_|exact jI|(clear hK K)))
  exact eD (e:=[]) (B:=[]) rfl Co YP.e2 (tl:=[(3,.var 30 (cn p))]) (fun _=>rfl) (dp jC dK) [.tmp 6]
 exact aC.xU key (.same _ rfl)
end
end Go.Proofs.YtijdhbokcdpklaaGreatDoor
namespace Go.Proofs.YtijdhbokcdpklaaGreatDoor
open Go Go.Gd Tryz
abbrev qS(s:UI):AV:=.raw (.string s)
abbrev qB(b:Bool):AV:=.raw (.bool b)
def QE(r:Nat)(hr:r<=1114111):aC prog 55 [.raw (.int .i32 (r:Int))] (qB (pO r)):=by
 have e:pO r=((decide ((r:Int)<97) || decide (122<(r:Int))) && (decide ((r:Int)<48) || decide (57<(r:Int)))):=by unfold pO oi;by_cases h1:(r:Int)<97<;>by_cases h2:122<(r:Int)<;>by_cases h3:(r:Int)<48<;>by_cases h4:57<(r:Int)<;>simp[h1,h2,h3,h4]<;>omega
 rw[e];by_cases h1:(r:Int)<97<;>by_cases h2:122<(r:Int)<;>by_cases h3:(r:Int)<48<;>by_cases h4:57<(r:Int)<;>(try omega)
 all_goals
  refine bQ func55 ntmps55 ?_
  (have W:=jA h1 (jA h2 (jA h3 (h4)));repeat' (first|refine av fun K hK=>?_|refine au ?_|(refine hK _ _ ?_;clear hK K)|(refine ar ?_ ?_<;>intro hc<;>try exact jz)|refine aq ?_|exact jI|(clear hK K)))
  (refine ba [.tmp 2] ?_;try simp only[go_sem])
  simp[h1,h2,h3,h4]
def Pn(s:UI):aC prog 56 [qS s,.raw (.func (.func 55) #[] #[])] (qB (!(s.data.toList.all fun b=>oi b.toNat))):=by
 rw[<-Pz];refine PF #[.string s,.func (.func 55) #[] #[]] _ ?_ (fun w=>.raw _) fun w hgl=>?_
 ·intro w vs h;obtain⟨x,y,rfl,h1,h2⟩:=Qk h;rw[db h1,db h2]
 ·refine Tryz.strings_ContainsFunc_grows _ #[] (fun args w=>jG) pO s w fun W x hx hb=>?_
  exact Pq (fun g vs hm=>by obtain⟨⟨cur,el,fr,h1,h2⟩,_⟩:=hgl g vs hm;have O':=(Array.getElem?_eq_some_iff.1 h1).1;exact⟨⟨cur,el,fr,(hb.block g O').trans h1,h2⟩,fun h=>h⟩) (QE x hx) (vR (.raw _))
def AA(s:UI):aC prog 34 [qS s] (qB (fW s)):=by
 have hcf:=Pn s;generalize hA:(s.data.toList.all fun b=>oi b.toNat)=A at hcf;have e:fW s=(decide (1<=(s.size:Int)) && decide ((s.size:Int)<=8) && A):=by
  unfold fW;rw[hA];congr 2
  ·simp;omega
  ·simp;omega
 rw[e];clear hA e;cases A<;>by_cases h1:1<=(s.size:Int)<;>by_cases h2:(s.size:Int)<=8<;>(try omega);all_goals
  refine bQ func34 ntmps34 ?_
  (have W:=jA h1 h2;repeat' (first|refine av fun K hK=>?_|refine au ?_|(refine hK _ _ ?_;clear hK K)|(refine ar ?_ ?_<;>intro hc<;>try exact jz)|refine cq (hcf) ?_|refine⟨qB true,?_⟩|refine aq ?_|exact jI|(clear hK K)))
  (refine ba [.tmp 2] ?_;try simp only[go_sem])
  try simp[h1,h2]
end Go.Proofs.YtijdhbokcdpklaaGreatDoor
namespace Go.Proofs.YtijdhbokcdpklaaGreatDoor
open Go Go.Gd Tryz Go.Gd.MV
@[go_sem] def qdm:(∀(b:ak) (v:UG),List.take 1 (bu b)++[aP eI 1 v]++List.drop 2 (bu b)=bu { b with aD:=v })/\(∀(b:ak) (v:List aB),List.take 2 (bu b)++[aP bA 5 v]++List.drop 3 (bu b)=bu { b with base:=v })/\(∀(b:ak) (v:List aB),List.take 3 (bu b)++[aP bA 5 v]++List.drop 4 (bu b)=bu { b with own:=v })/\(∀(b:ak),(List.take 1 (bu b)).length=1)/\(∀(b:ak),(List.take 2 (bu b)).length=2)/\(∀(b c:ak),bu b++List.drop 4 (bu c)=bu b):=by and_intros<;>(intros;rfl)
def Dc(l:UG)(hl:l.length<=1000):aC prog 52 [aP eI 1 l] (aP eI 1 l):=aC.xU (zT l hl 1) (cY.row l rfl rfl rfl)
def wA(l:List aB)(hl:l.length<=1000):aC prog 78 [aP bA 5 l] (aP bA 5 l):=aC.xU (Bz l hl 1) (cY.row l rfl rfl rfl)
def ng{D:UO}{H:Hp}:cY D H (.agg [.raw (.string ⟨#[]⟩),.raw (.slice none 0 0),.raw (.slice none 0 0),.raw (.slice none 0 0)]) (.agg (bu bZ)):=bt.agg (ds:=bu bZ) ⟨.same _ rfl,cY.nil _ _,cY.nil _ _,cY.nil _ _,trivial⟩
def NO{b:ak}(h:ie b):aC prog 76 [.agg (bu b)] (.agg (bu b)):=by
 have h1:=Dc b.aD (by have:=h.inl;omega);have h2:=wA b.base (by have:=h.rN;omega);have h3:=wA b.own (by have:=h.oY;omega);refine bQ func76 ntmps76 ?_
 (repeat' (first|refine av fun K hK=>?_|refine au ?_|(with_reducible refine gR 1 ?_);refine dC 1 ([],[5,8,11],[]) [] (bf 0 15) mixed ?_|(refine hK _ _ ?_;clear hK K)|(refine ar ?_ ?_<;>intro hc<;>try exact jz)|refine aV 3 ?_|refine cL 4 ?_|refine cq (h1) ?_|refine cq (h2) ?_|refine cq (h3) ?_|refine aq ?_|exact jI|(clear hK K)))
 (refine ba [.cell 2 49] ?_;try simp only[go_sem])
section
variable {p:af}(hp:mJ p)(Uw:fw p){F:UG->MV->MV}(hF:bF p (bz p) F)
include hp Uw hF
theorem Hz{b:ak}(h:ie b):aC prog 79 [.agg (cn p),.agg (bu b)] (rI (badB p F b)):=by
 have h1:=we h;have h2:=SZ hp Uw hF (inp:=b.aD) (by have:=h.inl;omega) h.inr h.fx (by have:=h.oM;omega);change aC _ _ _ (rI (badB p F b))at h2
 generalize badB p F b=z at*;refine bQ func79 ntmps79 ?_
 (repeat' (first|refine av fun K hK=>?_|refine au ?_|(with_reducible refine gR 1 ?_);refine dC 1 ([],[9,10],[]) [] (bf 0 7) mixed ?_|(refine hK _ _ ?_;clear hK K)|(refine ar ?_ ?_<;>intro hc<;>try exact jz)|refine aV 2 ?_|refine aV 3 ?_|refine cq (h1) ?_|refine cq (h2) ?_|refine aq ?_|exact jI|(clear hK K)))
 (refine ba [.tmp 4] ?_;try simp only[go_sem])
theorem FQ{b:ak}(h:ie b):aC prog 64 [.agg (cn p),.agg (bu b)] (.aQ [.agg (bu (fineB p F b).1),rI (fineB p F b).2]):=by
 have h1:=Hz hp Uw hF h;unfold fineB;generalize badB p F b=z at*;by_cases hz:z=0
 ·rw[if_neg (fun h=>h hz)];refine bQ func64 ntmps64 ?_
  (have W:=hz;repeat' (first|refine av fun K hK=>?_|refine au ?_|(refine hK _ _ ?_;clear hK K)|(refine ar ?_ ?_<;>intro hc<;>try exact jz)|refine aV 2 ?_|refine aV 3 ?_|refine cL 4 ?_|refine cp (h1) ?_|refine aq ?_|exact jI|(clear hK K)))
  (refine ba [.cell 4 49,.tmp 5] ?_;try simp only[go_sem])
 ·rw[if_pos hz];refine bQ func64 ntmps64 ?_
  (have W:=hz;repeat' (first|refine av fun K hK=>?_|refine au ?_|(refine hK _ _ ?_;clear hK K)|(refine ar ?_ ?_<;>intro hc<;>try exact jz)|refine aV 2 ?_|refine aV 3 ?_|refine cL 4 ?_|refine cp (h1) ?_|refine aq ?_|exact jI|(clear hK K)))
  refine fF [.cell 4 49,.tmp 5] ?_;exact bt.aQ (ds:=[.agg (bu bZ),rI 65]) ⟨ng,.same _ rfl,trivial⟩
end
def Rw{b:ak}(h:ie b):ab prog 76 [.agg (bu b)] [] (fun r l=>r=.agg [rS b.name,.rs 2 b.aD.length 1 b.aD.length,aP bA 5 b.base,aP bA 5 b.own]/\l=[(2,.aG 3 1 (b.aD.map eI))]):=by
 have h1:=zT b.aD (by have:=h.inl;omega) 2;have h2:=wA b.base (by have:=h.rN;omega);have h3:=wA b.own (by have:=h.oY;omega);obtain⟨nm,inp,base,own⟩:=b;simp only[bu];refine aM func76 ntmps76 ?_
 (repeat' (first|refine av fun K hK=>?_|refine au ?_|(with_reducible refine gR 1 ?_);refine dC 1 ([],[8,11],[5]) [] [0,1,3,4,6,7,2,5,8,9,10,11,12,13,14] mixed ?_|(refine hK _ _ ?_;clear hK K)|(refine ar ?_ ?_<;>intro hc<;>try exact jz)|refine aV 4 ?_|refine cL 5 ?_|refine cN h1 ?_|refine cq (h2) ?_|refine cq (h3) ?_|refine aq ?_|exact jI|(clear hK K)))
 refine Uf [.cell 2 49] ?_ ?_ ?_ ?_
 ·rfl
 ·simp only[iL,go_sem];decide
 ·rfl
 ·rfl
section
variable {p:af}(hp:mJ p)(Uw:fw p){F:UG->MV->MV}(hF:bF p (bz p) F)
variable{b:ak}{x:aB}
def ie.early(h:ie b)(t:Int)(ht:(ci (dB b) t).length<=100)(nm:UI)(hx:bD x.v.n):ie ⟨nm,b.aD,ci (dB b) t,[x]⟩:=
 ⟨h.inl,ht,by show 1<=100;decide,h.inr,fun y hy=>h.fx y (rW hy).1,fun y hy=>by rw[List.mem_singleton.1 hy];exact hx⟩
def ie.ins(h:ie b)(hl:b.own.length<100)(hx:bD x.v.n):ie { b with own:=gJ x b.own }:=
 ⟨h.inl,h.rN,by show(gJ x b.own).length<=100;rw[Go.Gd.iE];omega,h.inr,h.wH,fun y hy=>by
  rcases u7.1 hy with rfl|hy
  ·exact hx
  ·exact h.uU y hy⟩
def Lz(l:List aB)(x:aB)(h1:l.length<=500):aC prog 77 [aP bA 5 l,.sl true 5 [bA x] []] (aP bA 5 (gJ x l)):=GW (F6 l [x] h1 jE) ⟨.refl _,.lit 5 [bA x] _ _,trivial⟩
include hp Uw hF
theorem Nh{nm:UI}{inp:UG}{base:List aB}(h:ie ⟨nm,inp,base,[x]⟩):aC prog 64 [.agg (cn p),.agg [rS nm,aP eI 1 inp,aP bA 5 base,.sl true 5 [bA x] []]] (.aQ [.agg (bu (fineB p F ⟨nm,inp,base,[x]⟩).1),rI (fineB p F ⟨nm,inp,base,[x]⟩).2]):=GW (FQ hp Uw hF h) ⟨.refl _,HH ⟨.refl _,.refl _,.refl _,.lit 5 [bA x] _ _,trivial⟩,trivial⟩
theorem TU(h:ie b)(nm:UI)(hx:bD x.v.n)(hxa:bD x.at_):aC prog 41 [.agg (cn p),.agg (bu b),rS nm,.agg (bA x)] (.aQ [.agg (bu (forkB p F (fW nm) b nm x).1),rI (forkB p F (fW nm) b nm x).2]):=by
 have h0:=AA nm;have h1:=Jk x;have h2:=we h;have h3:=DG (dB b) x.at_ (by have:=h.oM;omega);have h4:=Io hp Uw hF h x.at_ hxa;have h5:=Dc b.aD (by have:=h.inl;omega);have I':=A4 (dB b) x.at_;have UX:=h.oM;have h6:=fun hl=>Nh hp Uw hF (h.early x.at_ hl nm hx)
 unfold forkB;generalize fW nm=ok at*;generalize lN x=my at*;generalize atB p F b x.at_=Sh at*;generalize dB b=A at*;generalize ci A x.at_=U at*;generalize Y8:fineB p F ⟨nm,b.aD,U,[x]⟩=fb at*;have hq:(ok=false/\True)\/(ok=true/\my=false)\/(ok=true/\my=true):=by cases ok<;>cases my<;>simp
 rcases hq with⟨q1,q2⟩|⟨q1,q2⟩|⟨q1,q2⟩
 ·rw[if_pos (.inl q1)];rw[q1]at h0;refine bQ func41 ntmps41 ?_
  (repeat' (first|refine av fun K hK=>?_|refine au ?_|(refine hK _ _ ?_;clear hK K)|(refine ar ?_ ?_<;>intro hc<;>try exact jz)|refine aV 4 ?_|refine aV 5 ?_|refine aV 7 ?_|refine cL 8 ?_|refine cp (h0) ?_|refine⟨rB true,?_⟩|refine aq ?_|exact jI|(clear hK K)))
  refine fF [.cell 8 49,.tmp 9] ?_;exact bt.aQ (ds:=[.agg (bu bZ),rI 1]) ⟨ng,.same _ rfl,trivial⟩
 ·rw[if_pos (.inr q2)];rw[q1]at h0;rw[q2]at h1;refine bQ func41 ntmps41 ?_
  (repeat' (first|refine av fun K hK=>?_|refine au ?_|(refine hK _ _ ?_;clear hK K)|(refine ar ?_ ?_<;>intro hc<;>try exact jz)|refine aV 4 ?_|refine aV 5 ?_|refine aV 7 ?_|refine cL 8 ?_|refine cp (h0) ?_|refine cq (h1) ?_|refine aq ?_|exact jI|(clear hK K)))
  refine fF [.cell 8 49,.tmp 9] ?_;exact bt.aQ (ds:=[.agg (bu bZ),rI 1]) ⟨ng,.same _ rfl,trivial⟩
 rw[if_neg (by rw[q1,q2];simp)];rw[q1]at h0;rw[q2]at h1;by_cases ht:Sh.time<x.at_
 ·rw[if_pos ht];refine bQ func41 ntmps41 ?_
  (have W:=ht;repeat' (first|refine av fun K hK=>?_|refine au ?_|(with_reducible refine gR 3 ?_);refine dC 3 ([],[21,24],[]) [] (bf 0 6) mixed ?_|(with_reducible refine gR 4 ?_);refine dC 4 ([],[30],[]) [] (bf 0 10) mixed ?_|(refine hK _ _ ?_;clear hK K)|(refine ar ?_ ?_<;>intro hc<;>try exact jz)|refine aV 4 ?_|refine aV 5 ?_|refine aV 7 ?_|refine cL 8 ?_|refine cp (h0) ?_|refine cq (h1) ?_|refine cq (h2) ?_|refine cq (h3) ?_|refine cq (h4) ?_|refine aq ?_|exact jI|(clear hK K)))
  refine fF [.cell 8 49,.tmp 9] ?_;exact bt.aQ (ds:=[.agg (bu bZ),rI 63]) ⟨ng,.same _ rfl,trivial⟩
 rw[if_neg ht];by_cases hu:8<=U.length
 ·rw[if_pos hu];have huI:(U.length:Int) >= 8:=jB;refine bQ func41 ntmps41 ?_
  (have W:=jA ht huI;repeat' (first|refine av fun K hK=>?_|refine au ?_|(with_reducible refine gR 3 ?_);refine dC 3 ([],[21,24],[]) [] (bf 0 6) mixed ?_|(with_reducible refine gR 4 ?_);refine dC 4 ([],[30],[]) [] (bf 0 10) mixed ?_|(refine hK _ _ ?_;clear hK K)|(refine ar ?_ ?_<;>intro hc<;>try exact jz)|refine aV 4 ?_|refine aV 5 ?_|refine aV 7 ?_|refine cL 8 ?_|refine cp (h0) ?_|refine cq (h1) ?_|refine cq (h2) ?_|refine cq (h3) ?_|refine cq (h4) ?_|refine aq ?_|exact jI|(clear hK K)))
  refine fF [.cell 8 49,.tmp 9] ?_;exact bt.aQ (ds:=[.agg (bu bZ),rI 62]) ⟨ng,.same _ rfl,trivial⟩
 ·rw[if_neg hu];have huI:¬(U.length:Int) >= 8:=jB;have h6:=h6 jB;refine bQ func41 ntmps41 ?_
  (have W:=jA ht huI;repeat' (first|refine av fun K hK=>?_|refine au ?_|(with_reducible refine gR 3 ?_);refine dC 3 ([],[21,24],[]) [] (bf 0 6) mixed ?_|(with_reducible refine gR 4 ?_);refine dC 4 ([],[30],[]) [] (bf 0 10) mixed ?_|(with_reducible refine gR 8 ?_);refine dC 8 ([],[45,50],[]) [] (bf 0 14) mixed ?_|(refine hK _ _ ?_;clear hK K)|(refine ar ?_ ?_<;>intro hc<;>try exact jz)|refine aV 4 ?_|refine aV 5 ?_|refine aV 7 ?_|refine cL 8 ?_|refine cp (h0) ?_|refine cq (h1) ?_|refine cq (h2) ?_|refine cq (h3) ?_|refine cq (h4) ?_|refine cq (h5) ?_|refine cq (h6) ?_|refine aq ?_|exact jI|(clear hK K)))
  (refine ba [.cell 8 49,.tmp 9] ?_;try simp only[go_sem])
theorem NJ(h:ie b)(nm:UI)(t n:Int)(ht:bD t):aC prog 29 [.agg (cn p),.agg (bu b),rS nm,rI t,rI n] (.aQ [.agg (bu (inputB p F (fW nm) b nm t n).1),rI (inputB p F (fW nm) b nm t n).2]):=by
 have h0:=AA nm;have h2:=we h;have h3:=DG (dB b) t (by have:=h.oM;omega);have h4:=Io hp Uw hF h t ht;have hfi:=(rh hp.ok hF h.inr h.fx t).1;have WU:0<=(atB p F b t).in_:=hfi.i0;have Xc:(atB p F b t).in_<=b.aD.length:=hfi.i1;have Wc:=h.inl;unfold inputB;generalize fW nm=ok at*;generalize atB p F b t=Sh at*;generalize dB b=A at*;generalize ci A t=U at*;obtain⟨q,hq⟩:∃q:Nat,Sh.in_=(q:Int):=⟨Sh.in_.toNat,jB⟩;have h5:=zT (b.aD.take q) (by rw[List.length_take];omega) 2;have YS:(b.aD.take q).length=q:=by rw[List.length_take];omega
 rw[YS]at h5;have hqb:q<=b.aD.length:=jB;have hqI:(q:Int)<=(b.aD.length:Int):=jB;have U1:(ok=false/\True/\True)\/(ok=true/\t<0/\True)\/(ok=true/\¬t<0/\200<t)\/(ok=true/\¬t<0/\¬200<t):=by
  cases ok
  ·exact .inl ⟨rfl,trivial,trivial⟩
  ·by_cases a:t<0
   ·exact .inr (.inl ⟨rfl,a,trivial⟩)
   ·by_cases c:200<t
    ·exact .inr (.inr (.inl ⟨rfl,a,c⟩))
    ·exact .inr (.inr (.inr ⟨rfl,a,c⟩))
 rcases U1 with⟨q1,q2,q3⟩|⟨q1,q2,q3⟩|⟨q1,q2,q3⟩|⟨q1,q2,q3⟩
 ·rw[if_pos (.inl q1)];rw[q1]at h0;refine bQ func29 ntmps29 ?_
  (repeat' (first|refine av fun K hK=>?_|refine au ?_|(refine hK _ _ ?_;clear hK K)|(refine ar ?_ ?_<;>intro hc<;>try exact jz)|refine aV 5 ?_|refine aV 6 ?_|refine cL 10 ?_|refine cp (h0) ?_|refine aq ?_|exact jI|(clear hK K)))
  refine fF [.cell 10 49,.tmp 11] ?_;exact bt.aQ (ds:=[.agg (bu bZ),rI 1]) ⟨ng,.same _ rfl,trivial⟩
 ·rw[if_pos (.inr (.inl q2))];rw[q1]at h0;refine bQ func29 ntmps29 ?_
  (have W:=q2;repeat' (first|refine av fun K hK=>?_|refine au ?_|(refine hK _ _ ?_;clear hK K)|(refine ar ?_ ?_<;>intro hc<;>try exact jz)|refine aV 5 ?_|refine aV 6 ?_|refine cL 10 ?_|refine cp (h0) ?_|refine aq ?_|exact jI|(clear hK K)))
  refine fF [.cell 10 49,.tmp 11] ?_;exact bt.aQ (ds:=[.agg (bu bZ),rI 1]) ⟨ng,.same _ rfl,trivial⟩
 ·rw[if_pos (.inr (.inr q3))];rw[q1]at h0;refine bQ func29 ntmps29 ?_
  (have W:=jA q2 q3;repeat' (first|refine av fun K hK=>?_|refine au ?_|(refine hK _ _ ?_;clear hK K)|(refine ar ?_ ?_<;>intro hc<;>try exact jz)|refine aV 5 ?_|refine aV 6 ?_|refine cL 10 ?_|refine cp (h0) ?_|refine aq ?_|exact jI|(clear hK K)))
  refine fF [.cell 10 49,.tmp 11] ?_;exact bt.aQ (ds:=[.agg (bu bZ),rI 1]) ⟨ng,.same _ rfl,trivial⟩
 rw[if_neg (by rw[q1];simp;omega)];rw[q1]at h0;by_cases c1:Sh.time<t
 ·rw[if_pos c1];refine bQ func29 ntmps29 ?_
  (have W:=jA q2 (jA q3 (c1));repeat' (first|refine av fun K hK=>?_|refine au ?_|(refine hK _ _ ?_;clear hK K)|(refine ar ?_ ?_<;>intro hc<;>try exact jz)|refine aV 5 ?_|refine aV 6 ?_|refine cL 10 ?_|refine cL 12 ?_|refine cp (h0) ?_|refine cp (h4) ?_|refine aq ?_|exact jI|(clear hK K)))
  refine fF [.cell 10 49,.tmp 11] ?_;exact bt.aQ (ds:=[.agg (bu bZ),rI 63]) ⟨ng,.same _ rfl,trivial⟩
 rw[if_neg c1];by_cases c2:16<=Sh.in_
 ·rw[if_pos c2];have c2':Sh.in_ >= 16:=c2;refine bQ func29 ntmps29 ?_
  (have W:=jA q2 (jA q3 (jA c1 (c2')));repeat' (first|refine av fun K hK=>?_|refine au ?_|(refine hK _ _ ?_;clear hK K)|(refine ar ?_ ?_<;>intro hc<;>try exact jz)|refine aV 5 ?_|refine aV 6 ?_|refine cL 10 ?_|refine cL 12 ?_|refine cp (h0) ?_|refine cp (h4) ?_|refine aq ?_|exact jI|(clear hK K)))
  refine fF [.cell 10 49,.tmp 11] ?_;exact bt.aQ (ds:=[.agg (bu bZ),rI 62]) ⟨ng,.same _ rfl,trivial⟩
 ·rw[if_neg c2];have c2':¬(q:Int) >= 16:=jB;rw[hq,Int.toNat_natCast];refine bQ func29 ntmps29 ?_
  (have W:=jA q2 (jA q3 (jA c1 (jA hq (jA c2' (hqI)))));repeat' (first|refine av fun K hK=>?_|refine au ?_|(refine hK _ _ ?_;clear hK K)|(refine ar ?_ ?_<;>intro hc<;>try exact jz)|refine aV 5 ?_|refine aV 6 ?_|refine cL 10 ?_|refine cL 12 ?_|refine cp (h0) ?_|refine cp (h2) ?_|refine cp (h3) ?_|refine cm (h5) ?_|refine cp (h4) ?_|refine aq ?_|exact jI|(clear hK K)))
  refine fF [.cell 10 49,.tmp 11] ?_;exact bt.aQ (ds:=[.agg (bu ⟨nm,b.aD.take q++[n],U,[]⟩),rI 0]) ⟨bt.agg (ds:=bu ⟨nm,b.aD.take q++[n],U,[]⟩) ⟨.same _ rfl,cY.row (b.aD.take q++[n]) rfl (by rw[List.map_append];rfl) (by rw[List.length_append,YS];rfl),.same _ rfl,cY.nil _ _,trivial⟩,.same _ rfl,trivial⟩
theorem Me(h:ie b)(hx:bD x.v.n):aC prog 47 [.agg (cn p),.agg (bu b),.agg (bA x)] (.aQ [.agg (bu (addB p F b x).1),rI (addB p F b x).2]):=by
 have h1:=Jk x;have h2:=NO h;have hba:=h.rN;have how:=h.oY;have h3:=Lz b.own x (by have:=h.oY;omega);have h4:=fun hl=>FQ hp Uw hF (h.ins hl hx)
 unfold addB;generalize lN x=my at*;generalize Y8:fineB p F { b with own:=gJ x b.own }=fb at*;cases my
 ·rw[if_pos rfl];refine bQ func47 ntmps47 ?_
  (repeat' (first|refine av fun K hK=>?_|refine au ?_|(refine hK _ _ ?_;clear hK K)|(refine ar ?_ ?_<;>intro hc<;>try exact jz)|refine aV 4 ?_|refine aV 5 ?_|refine aV 7 ?_|refine cL 8 ?_|refine cp (h1) ?_|refine aq ?_|exact jI|(clear hK K)))
  refine fF [.cell 6 49,.tmp 7] ?_;exact bt.aQ (ds:=[.agg (bu bZ),rI 1]) ⟨ng,.same _ rfl,trivial⟩
 rw[if_neg jE];by_cases c:8<=b.base.length+b.own.length
 ·rw[if_pos c];have c':(b.base.length:Int)+b.own.length >= 8:=jB;refine bQ func47 ntmps47 ?_
  (have W:=c';repeat' (first|refine av fun K hK=>?_|refine au ?_|(refine hK _ _ ?_;clear hK K)|(refine ar ?_ ?_<;>intro hc<;>try exact jz)|refine aV 4 ?_|refine aV 5 ?_|refine aV 7 ?_|refine cL 8 ?_|refine cp (h1) ?_|refine aq ?_|exact jI|(clear hK K)))
  refine fF [.cell 6 49,.tmp 7] ?_;exact bt.aQ (ds:=[.agg (bu bZ),rI 62]) ⟨ng,.same _ rfl,trivial⟩
 ·rw[if_neg c];have c':¬(b.base.length:Int)+b.own.length >= 8:=jB;have h4:=h4 jB;refine bQ func47 ntmps47 ?_
  (have W:=c';repeat' (first|refine av fun K hK=>?_|refine au ?_|(refine hK _ _ ?_;clear hK K)|(refine ar ?_ ?_<;>intro hc<;>try exact jz)|refine aV 4 ?_|refine aV 5 ?_|refine aV 7 ?_|refine cL 8 ?_|refine cp (h1) ?_|refine cp (h2) ?_|refine cp (h3) ?_|refine cp (h4) ?_|refine aq ?_|exact jI|(clear hK K)))
  (refine ba [.cell 6 49,.tmp 7] ?_;try simp only[go_sem])
omit hp Uw hF in
theorem Q3(h:ie b)(n:Int):aC prog 49 [.agg (bu b),rI n] (.aQ [.agg (bu (ot b n).1),rI (ot b n).2]):=by
 have h2:=Rw h;have Wc:=h.inl;unfold ot;by_cases c:16<=b.aD.length
 ·rw[if_pos c];have c':(b.aD.length:Int) >= 16:=jB;refine bQ func49 ntmps49 ?_
  (have W:=c';repeat' (first|refine av fun K hK=>?_|refine au ?_|(refine hK _ _ ?_;clear hK K)|(refine ar ?_ ?_<;>intro hc<;>try exact jz)|refine aV 4 ?_|refine cL 5 ?_|refine aq ?_|exact jI|(clear hK K)))
  refine fF [.cell 4 49,.tmp 5] ?_;exact bt.aQ (ds:=[.agg (bu bZ),rI 62]) ⟨ng,.same _ rfl,trivial⟩
 ·rw[if_neg c];have c':¬(b.aD.length:Int) >= 16:=jB;obtain⟨nm,inp,base,own⟩:=b;have c':¬(inp.length:Int) >= 16:=c';have Wc:inp.length<=100:=Wc;simp only[bu]at h2 ⊢;refine bQ func49 ntmps49 ?_
  (have W:=c';repeat' (first|refine av fun K hK=>?_|refine au ?_|(refine hK _ _ ?_;clear hK K)|(refine ar ?_ ?_<;>intro hc<;>try exact jz)|refine aV 4 ?_|refine cL 5 ?_|refine cm (h2) ?_|refine aq ?_|exact jI|(clear hK K)))
  refine fF [.cell 4 49,.tmp 5] ?_;exact bt.aQ (ds:=[.agg (bu ⟨nm,inp++[n],base,own⟩),rI 0]) ⟨bt.agg (ds:=bu ⟨nm,inp++[n],base,own⟩) ⟨.same _ rfl,cY.row (inp++[n]) rfl (by rw[List.map_append];rfl) (by rw[List.length_append];rfl),.same _ rfl,.same _ rfl,trivial⟩,.same _ rfl,trivial⟩
omit hp Uw hF in
theorem ie.kj{a o:ak}(ha:ie a)(ho:ie o)(hl:(dB o).length<=100):ie ⟨a.name,o.aD,dB o,a.own⟩:=⟨ho.inl,hl,ha.oY,ho.inr,ho.fx,ha.uU⟩
theorem SW{a o:ak}(ha:ie a)(ho:ie o)(hl:(dB o).length<=100):aC prog 50 [.agg (cn p),.agg (bu a),.agg (bu o)] (.aQ [.agg (bu (rebaseB p F a o).1),rI (rebaseB p F a o).2.1,rI (rebaseB p F a o).2.2]):=by
 have h1:=Dc o.aD (by have:=ho.inl;omega);have h2:=we ho;have h3:=wA a.own (by have:=ha.oY;omega);have h4:=Hz hp Uw hF (ha.kj ho hl);have how:=ha.oY;unfold rebaseB;generalize hz:badB p F ⟨a.name,o.aD,dB o,a.own⟩=z at*;clear hz;generalize dB o=A at*;by_cases c:8<A.length+a.own.length
 ·rw[if_pos c];have c':(A.length:Int)+a.own.length>8:=jB;refine bQ func50 ntmps50 ?_
  (have W:=c';repeat' (first|refine av fun K hK=>?_|refine au ?_|(with_reducible refine gR 1 ?_);refine dC 1 ([],[],[15,17,20]) [11] [0,1,2,3,5,7,8,4,6,9,10,11,12] mixed ?_|(refine hK _ _ ?_;clear hK K)|(refine ar ?_ ?_<;>intro hc<;>try exact jz)|refine aV 4 ?_|refine aV 5 ?_|refine aV 6 ?_|refine cL 7 ?_|refine cL 8 ?_|refine cN h1 ?_|refine cN h2 ?_|refine cN h3 ?_|refine aq ?_|exact jI|(clear hK K)))
  refine fF [.cell 6 49,.tmp 7,.tmp 8] ?_;exact bt.aQ (ds:=[.agg (bu bZ),rI 0,rI 62]) ⟨ng,.same _ rfl,.same _ rfl,trivial⟩
 rw[if_neg c];have c':¬(A.length:Int)+a.own.length>8:=jB;by_cases d:z=0
 ·rw[if_neg (fun h=>h d)];refine bQ func50 ntmps50 ?_
  (have W:=jA c' d;repeat' (first|refine av fun K hK=>?_|refine au ?_|(with_reducible refine gR 1 ?_);refine dC 1 ([],[],[15,17,20]) [11] [0,1,2,3,5,7,8,4,6,9,10,11,12] mixed ?_|(refine hK _ _ ?_;clear hK K)|(refine ar ?_ ?_<;>intro hc<;>try exact jz)|refine aV 4 ?_|refine aV 5 ?_|refine aV 6 ?_|refine cL 7 ?_|refine cL 8 ?_|refine cp (h4) ?_|refine cN h1 ?_|refine cN h2 ?_|refine cN h3 ?_|refine aq ?_|exact jI|(clear hK K)))
  (refine ba [.cell 6 49,.tmp 7,.tmp 8] ?_;try simp only[go_sem])
  rfl
 ·rw[if_pos d];refine bQ func50 ntmps50 ?_
  (have W:=jA c' d;repeat' (first|refine av fun K hK=>?_|refine au ?_|(with_reducible refine gR 1 ?_);refine dC 1 ([],[],[15,17,20]) [11] [0,1,2,3,5,7,8,4,6,9,10,11,12] mixed ?_|(refine hK _ _ ?_;clear hK K)|(refine ar ?_ ?_<;>intro hc<;>try exact jz)|refine aV 4 ?_|refine aV 5 ?_|refine aV 6 ?_|refine cL 7 ?_|refine cL 8 ?_|refine cp (h4) ?_|refine cN h1 ?_|refine cN h2 ?_|refine cN h3 ?_|refine aq ?_|exact jI|(clear hK K)))
  refine fF [.cell 6 49,.tmp 7,.tmp 8] ?_;exact bt.aQ (ds:=[.agg (bu bZ),rI z,rI 65]) ⟨ng,.same _ rfl,.same _ rfl,trivial⟩
end
end Go.Proofs.YtijdhbokcdpklaaGreatDoor
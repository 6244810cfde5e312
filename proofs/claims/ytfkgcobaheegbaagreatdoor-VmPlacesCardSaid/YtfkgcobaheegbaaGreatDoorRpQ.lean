/- Lemmas. No conditions. -/
import Derived.Test.YtfkgcobaheegbaaGreatDoorRpN
import Derived.Test.YtfkgcobaheegbaaGreatDoorCmG
set_option linter.all false
set_option maxHeartbeats 4000000
set_option maxRecDepth 10000
namespace Go.Gd
open Go
theorem dW.args{P:Program}{f:FuncId}{args args':List AV}{e l:List (Nat×Row)}{r0:AV}(h:dW P f args' e r0 l)(hv:∀w vs,aP w (entry e)->bp w args vs->bp w args' vs)(ha:aY (fun i=>(ids e).contains i) args=true):dW P f args e r0 l:=⟨h.c.args hv,h.e1,h.e2,h.aX,ha⟩
theorem EG:∀(l:List (Nat×Row)) (i:Nat) (r r':Row),br (br l i r) i r'=br l i r'
 |[],i,r,r'=>by simp[br]
 |(j,s)::l,i,r,r'=>by
  show br (if i=j then(i,r)::l else(j,s)::br l i r) i r'=(if i=j then(i,r')::l else(j,s)::br l i r');by_cases e:i=j
  ·subst e;rw[if_pos rfl,if_pos rfl];simp[br]
  ·rw[if_neg e,if_neg e]
   show(if i=j then _ else(j,s)::br (br l i r) i r')=_;rw[if_neg e,EG l i r r']
theorem Mb(l:List (Nat×Row))(a k:Nat)(r r':Row):br (br l (hn a k) r) (hn a k) r'=br l (hn a k) r':=EG _ _ _ _
namespace MV
variable {p:ab}{C:aF}{m:MV}{N:NM}{e:List (Nat×Row)}
theorem LA(hR:bJ p C m N e)(h1:1<=m.calls.length):bJ p C m.ix N (br (br e (hn 3 N.k) (.var 122 (mE p C { m with status:=0 } N))) (hn 0 N.af.c) (.var 137 (MV.cE { m.af with mark:=m.af.at_,at_:=m.af.at_+1 } N.af))):=
 (hR.lO (m':={ m with status:=0 }) rfl rfl rfl).jj h1 (c':={ m.af with mark:=m.af.at_,at_:=m.af.at_+1 }) rfl rfl
end MV
end Go.Gd
namespace Go.Proofs.YtfkgcobaheegbaaGreatDoor
open Go Go.Gd Tryz Go.Gd.MV
attribute [local go_sem] Mb
section
variable {p:ab}{C:aF}(X:List Nat)
theorem O0{m:MV}{N:NM}{e:List (Nat×Row)}(hR:bJ p C m N e)(inp:List Int)(hs:m.status=2\/m.status=3):dW prog 40 [mP N,bt eI 1 inp] e (.bg []) e:=by
 have hlo:=hR.ok.low;refine⟨?_,hR.ok,hR.ok,fun _ h=>h,o6 hR rfl⟩;rcases hs with h|h
 all_goals
  refine aU (L:=ids e) func40 ntmps40 ?_ (hL:=rfl);generalize hB:ids e=B;refine fe ?_
  (have W:=jA hlo (jA hR.root (h));repeat' (first|refine aA fun K hK=>?_|refine aC ?_|(refine hK _ _ ?_;clear hK K)|(refine aB ?_ ?_<;>intro hc<;>try exact jz)|refine az ?_|exact jI|(clear hK K)));all_goals(try clear W)
  exact fp hB hR.ok hR.ok (tl:=[]) (fun _=>rfl) eF []
theorem NN{inp:List Int}{m m1:MV}{N:NM}{e:List (Nat×Row)}(hR:bJ p C m N e)(h1:1<=m.calls.length)(hb:Bd inp.length m)(hn1:inp.length<=1000)(hC:C.entry.length<=1000)(hP:p.size.length<=1000)(hI:C.ins.length<=1000000)(hst:¬(m.status=2\/m.status=3))(hat:0<=m.af.at_/\m.af.at_<=1000000)(htm:0<=m.time/\m.time<=1000000)
  (hg:aS p C inp m.ix m1) (hs1:m1.kv C) (hat1:m1.status=0->1<=m1.calls.length/\0<=m1.af.at_/\m1.af.at_<C.ins.length) (ht1:-1<=m1.time/\m1.time<=1000000) :
  j7 prog 40 [mP N,bt eI 1 inp] e X (.bg []) (fun N' l=>bJ p C m1.gO N' l/\N'.k=N.k/\Bd inp.length m1.gO):=by
 have hlo:=hR.ok.low;have hT:=hR.af h1;have hR0:=hR.lO (m':={ m with status:=0 }) rfl rfl rfl;have ht:=uY hR0 h1;have hR1:=LA hR h1;have hb1:Bd inp.length m.ix:=(hb.aQ (c:={ m.af with mark:=m.af.at_,at_:=m.af.at_+1 }) (hb.af h1)).status 0 m.bn;have hU1:Up X e (br (br e (hn 3 N.k) (.var 122 (mE p C { m with status:=0 } N))) (hn 0 N.af.c) (.var 137 (MV.cE { m.af with mark:=m.af.at_,at_:=m.af.at_+1 } N.af))):=by
  refine(Up.put _ (.inl ?_)).trans (Up.put _ (.inl ?_))
  ·rw[hR.root];simp
  ·rw[bR,if_neg (cU jB jB jB),hT.var];simp
 obtain⟨N1,l1,⟨hR2,hk2,hb2⟩,hU2,hp⟩:=FM X hR1 hb1 hn1 hC hP hI hg hs1 hat1;have hlo1:=hR2.ok.low;have hr2:=hR2.root;rw[hk2]at hr2;by_cases hw:m1.status=1
 ·have et:m1.gO=m1:=by unfold MV.gO;rw[if_pos hw]
  rw[et];refine⟨N1,l1,⟨hR2,hk2,hb2⟩,hU1.trans hU2,⟨?_,hR.ok,hR2.ok,(hU1.trans hU2).aX,o6 hR rfl⟩⟩;clear hU1 hU2 hR0 hR1;refine aU (L:=ids e) func40 ntmps40 ?_ (hL:=rfl);generalize hB:ids e=B;refine fe ?_
  (have W:=jA hlo (jA hlo1 (jA hR.root (jA hT.var (hr2))));repeat' (first|refine aA fun K hK=>?_|refine aC ?_|(refine hK _ _ ?_;clear hK K)|(refine aB ?_ ?_<;>intro hc<;>try exact jz)|refine cT ht ?_|refine cT hp ?_|refine az ?_|exact jI|(clear hK K)));all_goals(try clear W)
  exact fp hB hR.ok hR2.ok (tl:=[]) (fun _=>rfl) eF []
 ·have et:m1.gO={ m1 with time:=m1.time+1 }:=by unfold MV.gO;rw[if_neg hw]
  rw[et];have hR3:=hR2.lO (m':={ m1 with time:=m1.time+1 }) rfl rfl rfl;have hU3:Up X l1 (br l1 (hn 3 N1.k) (.var 122 (mE p C { m1 with time:=m1.time+1 } N1))):=Up.put _ (.inl (by rw[hR2.root];simp));refine⟨N1,_,⟨hR3,hk2,⟨hb2.deep,hb2.slots,hb2.heap,hb2.outs,hb2.gT,hb2.gG⟩⟩,hU1.trans (hU2.trans hU3),⟨?_,hR.ok,hR3.ok,(hU1.trans (hU2.trans hU3)).aX,o6 hR rfl⟩⟩;have k2:=hR3.ok;clear hU1 hU2 hU3 hR0 hR1 hR3;generalize hE:br l1 (hn 3 N1.k) (.var 122 (mE p C { m1 with time:=m1.time+1 } N1))=E at k2 ⊢;refine aU (L:=ids e) func40 ntmps40 ?_ (hL:=rfl);generalize hB:ids e=B;refine fe ?_
  (have W:=jA hlo (jA hlo1 (jA hR.root (jA hT.var (hr2))));repeat' (first|refine aA fun K hK=>?_|refine aC ?_|(refine hK _ _ ?_;clear hK K)|(refine aB ?_ ?_<;>intro hc<;>try exact jz)|refine cT ht ?_|refine cT hp ?_|refine az ?_|exact jI|(clear hK K)));all_goals(try clear W)
  subst hE;refine fp hB hR.ok k2 (tl:=[]) (fun i=>?_) eF [];unfold mE;rw[hk2];rfl
end
end Go.Proofs.YtfkgcobaheegbaaGreatDoor
namespace Go.Gd
open Go
theorem Pc{H:Hp}{i m sz o n:Nat}{t:TypeId}{α:Type}[Inhabited α]{enc:α->List AV}[he:bL enc sz](l:List α)(hi:H.get i=some (.aO t sz (l.map enc)))(hm:m=l.length)(hn:o+n<=l.length)(h0:0<sz):∀w vs,aP w H->bp w [.rv i m sz o n] vs->bp (w.cQ fun _=>true) [bt enc sz ((l.drop o).take n)] vs:=fun w vs hw hv=>
 CA hv fun v h=>by
  have:=ET (d:=enc default) hw hi (by rw[List.length_map];exact hm) jB h0 (lu (enc:=enc) (sz:=sz) _) h;rw[<-List.map_drop,<-List.map_take]at this;exact this
theorem LY{h:List (List Int)}{k:Nat}(hk:k<h.length):(h.flatten.drop (jO h k)).take (nth h k).length=nth h k:=by
 have e:h.flatten=(h.take k).flatten++(nth h k++(h.drop (k+1)).flatten):=by
  rw[dN hk,<-List.flatten_cons,List.getElem_cons_drop,<-List.flatten_append,List.take_append_drop]
 rw[e];unfold jO;rw[List.drop_left,List.take_left]
end Go.Gd
namespace Go.Proofs.YtfkgcobaheegbaaGreatDoor
open Go Go.Gd Tryz
theorem Ml(x:Int):ku (eI x)=true:=rfl
theorem H4(x:ByteArray):ku (eS x)=true:=rfl
theorem IA(i:Nat):aj prog 70 [] [] (fun r l=>r=.pt i 0 0 0/\l=[(i,.var 197 [.raw (.slice none 0 0),.raw (.slice none 0 0)])]):=by
 refine aU func70 ntmps70 ?_
 (refine S ?_;try exact jI)
 (repeat' (first|refine aA fun K hK=>?_|refine aC ?_|(refine hK _ _ ?_;clear hK K)|(refine aB ?_ ?_<;>intro hc<;>try exact jz)|refine eW i ?_|refine az ?_|exact jI|(clear hK K)))
 (refine bV [.tmp 0] ?_ ?_<;>(try simp only[go_sem]))
theorem JM(h:List (List Int))(hl:h.length<=1000)(hf:h.flatten.length<=1000):aj prog 79 [.pt 2 0 0 0] (gr h) (fun r l=>r=bt nY 1 h/\l=gr h):=by
 refine aU func79 ntmps79 ?_
 (refine S ?_;try exact jI)
 (repeat' (first|refine aA fun K hK=>?_|refine aC ?_|(refine hK _ _ ?_;clear hK K)|(refine aB ?_ ?_<;>intro hc<;>try exact jz)|refine az ?_|exact jI|(clear hK K)))
 refine iS (dz.nil 5 3 22 (sz:=1) rfl jC (Or.inl rfl)) ?_
 (refine S ?_;try exact jI)
 have hKo:=hK;clear hK;refine fm (S:=Nat) [(3,2),(10,12)] (fun k=>k<=h.length) (fun k=>[(3,.rs 5 k 1 k),(10,rI k)])
  (fun k=>⟨[2,3,4],gr h++[(5,.aO 22 1 ((h.take k).map nY))]⟩) (fun k=>h.length-k) 0 jB (fi rfl cX) ?_
 rintro k hk Kr hKr;by_cases hlt:k<h.length
 ·have hc1:=vH h k ((k:Int)+1) rfl hl hf hlt
  have hle:=wU h (k+1);have hof:=uL hlt;have hcl:=LR (nth h k) jB 6;have etk:h.take (k+1)=h.take k++[nth h k]:=by rw[List.take_succ,List.getElem?_eq_getElem hlt,dN hlt];rfl
  (refine S ?_;try exact jI)
  (repeat' (first|refine aA fun K hK=>?_|refine aC ?_|(refine hK _ _ ?_;clear hK K)|(refine aB ?_ ?_<;>intro hc<;>try exact jz)|refine cm (hc1) ?_|refine AZ 6 Ml hcl rfl (fun w vs hw hv=>by have:=Pc (enc:=eI) h.flatten rfl rfl jB jC w vs hw hv;rw[LY hlt]at this;exact this) ?_|refine az ?_|exact jI|(clear hK K)))
  refine hKr _ _ (fw (k+1) jB (by show h.length-(k+1)<h.length-k;omega) (by rw[etk,List.map_append];rfl) cX)
 ·have hkl:k=h.length:=jB
  subst hkl
  (refine S ?_;try exact jI)
  (repeat' (first|refine aA fun K hK=>?_|refine aC ?_|(refine hK _ _ ?_;clear hK K)|(refine aB ?_ ?_<;>intro hc<;>try exact jz)|refine hKo _ _ ?_|refine az ?_|exact jI|(clear hK K)))
  refine lG [.tmp 2] ?_;exact dU.row (enc:=nY) h rfl rfl rfl
end Go.Proofs.YtfkgcobaheegbaaGreatDoor
namespace Go.Gd
open Go
variable{P:Program}
theorem KF{fn:Func}{F:List AV}{B:List Nat}{L:List (Nat×Row)}{out:List AV}{ex:Exit}{r0:AV}{e l tl:List (Nat×Row)}(hB:ids e=B)(k1:fS 0 e)(k2:fS 0 l)(hp:L=tie l tl)(hl:nF 0 tl)(rs:List ResultVar)(hv:dU (dO 0) ⟨B,tie l tl⟩ (jy out) r0)
  (hrs:fn.results.toList=rs:=by rfl) (he:ex=.normal\/ex=.ret:=by first|exact Or.inr rfl|exact Or.inl rfl|fail) (ho:iO P ⟨B,L⟩ F rs=some out:=by first|rfl|(simp(disch:=first|omega|fail) only[go_sem,↓reduceIte,Nat.reduceEqDiff,Nat.reduceLeDiff,Nat.reduceSub,Nat.reduceAdd];rfl)) (hok:jc P ⟨B,L⟩ F rs:=by first|exact jI|(simp(disch:=first|omega|fail) only[go_sem,↓reduceIte,Nat.reduceEqDiff,Nat.reduceLeDiff,Nat.reduceSub,Nat.reduceAdd])):kj P fn (fun r l'=>r=r0/\l'=l) ex F ⟨B,L⟩:=by
 subst hrs hp;obtain⟨h1,h2,h3⟩:=k1.free k2 hB hl;have:=gH.free (r:=jy out) (r':=r0) (H:=⟨B,l++tl⟩) (Go.Gd.dO 0) h1 h2 hv;rw[show(Hp.mk B (l++tl)).l=l++tl from rfl,h3]at this;exact rK he ho hok r0 ⟨B,l⟩ this ⟨rfl,rfl⟩
variable{args':List AV}{sz:Nat}{t:TypeId}{α:Type}
theorem CI{f:FuncId}{args:List AV}{H:Hp}{R:AV->Prop}[Inhabited α]{enc:α->List AV}[he:bL enc sz]{xs:List α}{q:Prop}(i:Nat)(hfl:∀x,ku (enc x)=true)
  (hc:aj P f args' [] fun r l=>r=.rs i xs.length sz xs.length/\l=[(i,.aO t sz (xs.map enc))]) (hi:H.get i=none) (hv:∀w vs,aP w H->bp w args vs->bp (w.cQ fun _=>true) args' vs) (k:q) (h0:bz P f=true:=by exact dn) (e:R (bt enc sz xs)=q:=by exact eL):∃r,(fF P (.raw (.func (.func f) #[] #[])) args H fun r' H'=>r'=r/\H'=H)/\R r:=
 ⟨_,pv h0 (BT (K:=fun r' H'=>r'=bt enc sz xs/\H'=H) hfl hi hc hv ⟨rfl,rfl⟩),e ▸ k⟩
theorem HT{A:AS}{f:FuncId}{args:List AV}{H:Hp}{g:AV->Hp->Prop}{d:gv fun r H'=>dS A H H'/\g r H'}[Inhabited α]{enc:α->List AV}[he:bL enc sz]{xs:List α}{q:Prop}(i:Nat)(hfl:∀x,ku (enc x)=true)
  (hc:aj P f args' [] fun r l=>r=.rs i xs.length sz xs.length/\l=[(i,.aO t sz (xs.map enc))]) (hi:H.get i=none) (hv:∀w vs,aP w H->bp w args vs->bp (w.cQ fun _=>true) args' vs) (k:q) (h0:bz P f=true:=by exact dn) (e:g (bt enc sz xs) H=q:=by exact eL):fF P (.raw (.func (.func f) #[] #[])) args H (AP (fun r H'=>dS A H H'/\g r H') d):=
 pv h0 (BT (K:=AP (fun r H'=>dS A H H'/\g r H') d) hfl hi hc hv ⟨dS.refl _ _,e ▸ k⟩)
theorem Au{H:Hp}{i n:Nat}[Inhabited α]{enc:α->List AV}[he:bL enc sz](l:List α)(hi:H.get i=some (.aO t sz (l.map enc)))(hn:n=l.length):∀w vs,aP w H->bp w [.rs i n sz n] vs->bp (w.cQ fun _=>true) [bt enc sz l] vs:=
 Km ⟨dU.row (dd:=enc default) l rfl hi hn,trivial⟩
namespace MV
def fq(m:MV)(k:Nat):Int:=if(k:Int)=(m.calls.length:Int)-1 then(nth m.calls k).at_ else(nth m.calls k).mark
def spot(C:aF)(m:MV)(k:Nat):ja:=⟨(nth m.calls k).fn,(nth C.ins (m.fq k).toNat).a,(nth m.calls k).slots⟩
def qv(C:aF)(m:MV):kS:=⟨(List.range m.calls.length).map (m.spot C),m.heap,m.in_,m.ay,m.status,m.bn,m.time⟩
end MV
end Go.Gd
namespace Go.Proofs.YtfkgcobaheegbaaGreatDoor
open Go Go.Gd Tryz Go.Gd.MV
section
variable {p:ab}{C:aF}(X:List Nat)
theorem MR{m:MV}{N:NM}{e:List (Nat×Row)}(hR:bJ p C m N e)(hl:m.heap.length<=1000)(hf:m.heap.flatten.length<=1000):dW prog 79 [.pt (hn 5 N.k) 0 0 0] e (bt nY 1 m.heap) e:=
 hR.kJ rfl rfl (JM m.heap hl hf)
theorem Ko{m:MV}{N:NM}{e:List (Nat×Row)}(hR:bJ p C m N e){k:Nat}(hk:k<m.calls.length):(List.map (fun j=>[AV.pt (hn 0 j) 0 0 0]) (List.map NC.c N.cs)++List.map (fun j=>[AV.pt (hn 0 j) 0 0 0]) N.cj).getD k []=[.pt (hn 0 (nth N.cs k).c) 0 0 0]:=by
 have hl:=hR.len;rw[<-List.map_append];rw[List.getD_eq_getElem?_getD,List.getElem?_map,List.getElem?_append_left (by rw[List.length_map];omega),List.getElem?_map,List.getElem?_eq_getElem jB,dN jB];rfl
structure vv(C:aF)(m:MV):Prop where
 calls:m.calls.length<=8
 sel:∀k,k<m.calls.length->0<=m.fq k/\m.fq k<C.ins.length
 slots:∀k,k<m.calls.length->(nth m.calls k).slots.length<=24
 heap:fg m.heap<=40
 outs:m.ay.length<=24
 ins:C.ins.length<=1000000
theorem Hw{m:MV}{N:NM}{e:List (Nat×Row)}(hR:bJ p C m N e)(hk:vv C m):dW prog 38 [mP N] e (.agg (np (m.qv C))) e:=by
 obtain⟨s1,s2,s3,s4,s5,s6⟩:=hk;rw[vA]at s4;have hlo:=hR.ok.low;have hl:=hR.len;have hls:=MR hR jB jB;have hco:=HI m.ay jB 8;refine⟨?_,hR.ok,hR.ok,fun _ h=>h,o6 hR rfl⟩;refine aU (L:=ids e) func38 ntmps38 ?_ (hL:=rfl);generalize hB:ids e=B;refine fe ?_
 (have W:=jA hlo (hR.root);repeat' (first|refine aA fun K hK=>?_|refine aC ?_|(with_reducible refine gR 1 ?_);refine dC 1 ([],[],[11,20]) [27] [0,1,2,3,5,6,7,8,9,10,11,12,14,15,16,17,18,19,20,21,22,23,24,25,4,13,26,27,28] mixed ?_|(refine hK _ _ ?_;clear hK K)|(refine aB ?_ ?_<;>intro hc<;>try exact jz)|refine lC 9 ?_|refine lC 10 ?_|refine pW hls (fun _ _ _=>.inl rfl) ?_|refine HT 8 H4 hco (by show aD (tie _ _) _=_;rw[kT,hlo _ jC];rfl) (Au m.ay (by show aD (tie _ _) _=_;rw[kT,hR.outs];rfl) rfl) ?_|refine az ?_|exact jI|(clear hK K)));all_goals(try clear W)
 refine iS (dz.fH 11 10 0 77 3 (by show aD (tie _ _) _=_;rw[kT,hlo _ jC];rfl) jC (by show aD (tie _ _) _=_;rw[kT,hlo _ jC];rfl) rfl) ?_
 (have W:=jA hlo hlo;refine S ?_;clear W;try exact jI)
 have hKo:=hK;clear hK;refine fm (S:=Nat) [(4,3),(39,46)] (fun i=>i<=m.calls.length) (fun i=>[(39,rI i)])
  (fun i=>⟨B,tie e [(9,.var 72 [.raw (.slice none 0 0),.raw (.slice none 0 0),.raw (.int .i64 0),.raw (.slice none 0 0),.raw (.int .i64 0),.raw (.int .i64 0),.raw (.int .i64 0)]),
   (10,.var 72 [.rs 11 i 3 i,bt nY 1 m.heap,.raw (.int .i64 m.in_),bt eS 1 m.ay,.raw (.int .i64 m.status),.raw (.int .i64 m.bn),.raw (.int .i64 m.time)]),(11,.aO 77 3 (((List.range i).map (m.spot C)).map nk))]⟩)
  (fun i=>m.calls.length-i) 0 jB (fi rfl cX) ?_
 rintro i hi Kr hKr;by_cases hlt:i<m.calls.length
 ·have hca:=hR.call i hlt
  have hgc:=Ko hR hlt;have hsl:=s3 i hlt;obtain⟨a1,a2⟩:=s2 i hlt;have hcv:=DC (nth m.calls i).slots jB 8;have hrg:List.range (i+1)=List.range i++[i]:=List.range_succ;have hlr:((List.range i).map (m.spot C)).length=i:=jE
  have key:∀a:Int,m.fq i=a->nth C.ins a.toNat=nth C.ins (m.fq i).toNat:=fun a ha=>by rw[ha]
  unfold MV.fq at a1 a2;by_cases hla:(i:Int)=(m.calls.length:Int)-1
  ·have hse:m.fq i=(nth m.calls i).at_:=by unfold MV.fq;rw[if_pos hla]
   rw[if_pos hla]at a1 a2
   (refine S ?_;try exact jI)
   (have W:=jA hlo (jA hR.root (jA hR.row (jA hgc (jA hca.var (hl)))));repeat' (first|refine aA fun K hK=>?_|refine aC ?_|(with_reducible refine gR 8 ?_);refine dC 8 ([],[79],[]) [] [0,1,2,3,4,5,6,7,8,9,10,11,12,13,14,15,16,17,18,19,20,21,22,23,24] mixed ?_|(refine hK _ _ ?_;clear hK K)|(refine aB ?_ ?_<;>intro hc<;>try exact jz)|refine CI 8 xW hcv (by show aD (tie _ _) _=_;rw[kT,hlo _ jC];rfl) (Au (nth m.calls i).slots (by show aD (tie _ _) _=_;rw[kT,hca.eN];rfl) rfl) ?_|refine az ?_|exact jI|(clear hK K)));all_goals(try clear W)
   refine hKr _ _ (fw (i+1) jB (by show m.calls.length-(i+1)<m.calls.length-i;omega) ?_ cX);rw[hrg,List.map_append,List.map_append,List.map_singleton,List.map_singleton];unfold MV.spot;rw[hse];rfl
  ·have hse:m.fq i=(nth m.calls i).mark:=by unfold MV.fq;rw[if_neg hla]
   rw[if_neg hla]at a1 a2
   (refine S ?_;try exact jI)
   (have W:=jA hlo (jA hR.root (jA hR.row (jA hgc (jA hca.var (hl)))));repeat' (first|refine aA fun K hK=>?_|refine aC ?_|(with_reducible refine gR 8 ?_);refine dC 8 ([],[79],[]) [] [0,1,2,3,4,5,6,7,8,9,10,11,12,13,14,15,16,17,18,19,20,21,22,23,24] mixed ?_|(refine hK _ _ ?_;clear hK K)|(refine aB ?_ ?_<;>intro hc<;>try exact jz)|refine CI 8 xW hcv (by show aD (tie _ _) _=_;rw[kT,hlo _ jC];rfl) (Au (nth m.calls i).slots (by show aD (tie _ _) _=_;rw[kT,hca.eN];rfl) rfl) ?_|refine az ?_|exact jI|(clear hK K)));all_goals(try clear W)
   refine hKr _ _ (fw (i+1) jB (by show m.calls.length-(i+1)<m.calls.length-i;omega) ?_ cX);rw[hrg,List.map_append,List.map_append,List.map_singleton,List.map_singleton];unfold MV.spot;rw[hse];rfl
 ·have hin:i=m.calls.length:=jB
  subst hin
  (refine S ?_;try exact jI)
  (have W:=jA hlo hl;repeat' (first|refine aA fun K hK=>?_|refine aC ?_|(refine hK _ _ ?_;clear hK K)|(refine aB ?_ ?_<;>intro hc<;>try exact jz)|refine hKo _ _ ?_|refine az ?_|exact jI|(clear hK K)));all_goals(try clear W)
  have h9:=hlo 9 jC;have h11:=hlo 11 jC;refine KF hB hR.ok hR.ok rfl (eG jC (eG jC (eG jC eF))) [.cell 2 72] ?_ (ho:=by simp(disch:=first|omega|assumption|fail) only[go_sem,↓reduceIte,h9];rfl) (hok:=by simp(disch:=first|omega|assumption|fail) only[go_sem,↓reduceIte,h9];first|done|decide|(repeat' (first|exact trivial|decide|(simp;done)|refine jA ?_ ?_)));have hlr:((List.range m.calls.length).map (m.spot C)).length=m.calls.length:=jE
  exact bZ.agg (ds:=np (m.qv C)) (jA (dU.row (enc:=nk) ((List.range m.calls.length).map (m.spot C)) rfl (by show aD (tie _ _) _=_;rw[kT,h11];rfl) hlr.symm) (jA (.same _ rfl) (jA (.same _ rfl) (jA (.same _ rfl) (jA (.same _ rfl) (jA (.same _ rfl) (jA (.same _ rfl) trivial)))))))
end
end Go.Proofs.YtfkgcobaheegbaaGreatDoor
namespace Go.Gd
open Go
def MV.l5:MV:=⟨[],0,[],0,[],0,0,0⟩
def we(p:ab)(C:aF)(k:Nat):List (Nat×Row):=
 [(hn 5 k,.var 197 [.rs (hn 6 k) 0 1 0,.rs (hn 7 k) 0 1 0]),(hn 3 k,.var 122 (MV.mE p C MV.l5 ⟨k,[],[]⟩)),(hn 4 k,.aO 133 1 []),(hn 8 k,.aO 9 1 []),(hn 6 k,.aO 3 1 []),(hn 7 k,.aO 3 1 [])]
theorem yw(p:ab)(C:aF)(k i:Nat):aD (we p C k) i=if i=hn 5 k then some (.var 197 [.rs (hn 6 k) 0 1 0,.rs (hn 7 k) 0 1 0])else if i=hn 3 k then some (.var 122 (MV.mE p C MV.l5 ⟨k,[],[]⟩))else if i=hn 4 k then some (.aO 133 1 [])else if i=hn 8 k then some (.aO 9 1 [])else if i=hn 6 k then some (.aO 3 1 [])else if i=hn 7 k then some (.aO 3 1 [])else none:=rfl
theorem zc(p:ab)(C:aF)(k:Nat):ids (we p C k)=[hn 5 k,hn 3 k,hn 4 k,hn 8 k,hn 6 k,hn 7 k]:=rfl
theorem It(p:ab)(C:aF)(k:Nat):MV.bJ p C MV.l5 ⟨k,[],[]⟩ (we p C k):=by
 have nd:∀a b:Nat,a<32->b<32->a≠b->hn a k≠hn b k:=fun a b ha hb h=>cU ha hb h
 have ok:fS 0 (we p C k):=by
  refine⟨fun i _ hi=>?_,?_,fun i r hi=>?_⟩
  ·rw[yw]
   have g:=fun a=>hJ a k
   rw[if_neg (by have:=g 5;omega),if_neg (by have:=g 3;omega),if_neg (by have:=g 4;omega),if_neg (by have:=g 8;omega),if_neg (by have:=g 6;omega),if_neg (by have:=g 7;omega)]
  ·rw[zc]
   simp[hn]
  ·rw[zc]
   rw[yw]at hi;have up:aY (fun j=>[hn 5 k,hn 3 k,hn 4 k,hn 8 k,hn 6 k,hn 7 k].contains j) (js p)=true:=fN (q:=dQ) (fun _ h=>by cases h) _ rfl;split at hi
   ·cases hi;simp[Row.cells,aY,AV.all]
   ·split at hi
    ·cases hi
     show aY _ (MV.mE _ _ _ _)=true;unfold MV.mE;rw[sZ,up];simp[aY,AV.all,bt]
    ·split at hi
     ·cases hi;rfl
     ·split at hi
      ·cases hi;rfl
      ·split at hi
       ·cases hi;rfl
       ·split at hi
        ·cases hi;rfl
        ·cases hi
 refine⟨ok,?_,?_,?_,?_,?_,?_,rfl,(fun k hk=>by cases hk),List.nodup_nil,List.nodup_nil,by show 0+0<=1000;omega⟩;all_goals rw[yw]
 ·rw[if_neg (nd 3 5 jB jB jB),if_pos rfl]
 ·rw[if_neg (nd 4 5 jB jB jB),if_neg (nd 4 3 jB jB jB),if_pos rfl];rfl
 ·rw[if_pos rfl];rfl
 ·rw[if_neg (nd 6 5 jB jB jB),if_neg (nd 6 3 jB jB jB),if_neg (nd 6 4 jB jB jB),if_neg (nd 6 8 jB jB jB),if_pos rfl];rfl
 ·rw[if_neg (nd 7 5 jB jB jB),if_neg (nd 7 3 jB jB jB),if_neg (nd 7 4 jB jB jB),if_neg (nd 7 8 jB jB jB),if_neg (nd 7 6 jB jB jB),if_pos rfl];rfl
 ·rw[if_neg (nd 8 5 jB jB jB),if_neg (nd 8 3 jB jB jB),if_neg (nd 8 4 jB jB jB),if_pos rfl];rfl
theorem IJ{F:List AV}(p:ab)(C:aF)(k:Nat)(r9:Row):dz F ⟨[],[(9,r9),(hn 5 k,.var 197 [.raw (.slice none 0 0),.raw (.slice none 0 0)]),(hn 3 k,.var 122 (js p++[bt cW 4 C.ins,bt eI 1 C.entry,.raw (.slice none 0 0),.pt (hn 5 k) 0 0 0,.raw (.slice none 0 0),.raw (.int .i64 0),.raw (.int .i64 0),.raw (.int .i64 0),.raw (.int .i64 0)]))]⟩ F ⟨[],tie (we p C k) [(9,r9)]⟩:=by
 have n9:∀a,hn a k≠9:=fun a e=>by have:=hJ a k;omega
 have nd:∀a b:Nat,a<32->b<32->a≠b->hn a k≠hn b k:=fun a b ha hb h=>cU ha hb h
 have s1:=dz.fH (F:=F) (H:=⟨[],[(9,r9),(hn 5 k,.var 197 [.raw (.slice none 0 0),.raw (.slice none 0 0)]),(hn 3 k,.var 122 (js p++[bt cW 4 C.ins,bt eI 1 C.entry,.raw (.slice none 0 0),.pt (hn 5 k) 0 0 0,.raw (.slice none 0 0),.raw (.int .i64 0),.raw (.int .i64 0),.raw (.int .i64 0),.raw (.int .i64 0)]))]⟩) (hn 4 k) (hn 3 k) 8 133 1 (t:=122) (cs:=js p++[bt cW 4 C.ins,bt eI 1 C.entry,.raw (.slice none 0 0),.pt (hn 5 k) 0 0 0,.raw (.slice none 0 0),.raw (.int .i64 0),.raw (.int .i64 0),.raw (.int .i64 0),.raw (.int .i64 0)])
  (by show aD _ _=_;simp only[aD,if_neg (n9 4),if_neg (nd 4 5 jB jB jB),if_neg (nd 4 3 jB jB jB)]) jC (by show aD _ _=_;simp only[aD,if_neg (n9 3),if_neg (nd 3 5 jB jB jB),if_pos]) rfl
 have s2:=dz.fH (F:=F) (H:=(((⟨[],[(9,r9),(hn 5 k,.var 197 [.raw (.slice none 0 0),.raw (.slice none 0 0)]),(hn 3 k,.var 122 (js p++[bt cW 4 C.ins,bt eI 1 C.entry,.raw (.slice none 0 0),.pt (hn 5 k) 0 0 0,.raw (.slice none 0 0),.raw (.int .i64 0),.raw (.int .i64 0),.raw (.int .i64 0),.raw (.int .i64 0)]))]⟩:Hp).put (hn 4 k) (.aO 133 1 [])).put (hn 3 k) (.var 122 (js p++[bt cW 4 C.ins,bt eI 1 C.entry,.rs (hn 4 k) 0 1 0,.pt (hn 5 k) 0 0 0,.raw (.slice none 0 0),.raw (.int .i64 0),.raw (.int .i64 0),.raw (.int .i64 0),.raw (.int .i64 0)])))) (hn 8 k) (hn 3 k) 10 9 1 (t:=122) (cs:=js p++[bt cW 4 C.ins,bt eI 1 C.entry,.rs (hn 4 k) 0 1 0,.pt (hn 5 k) 0 0 0,.raw (.slice none 0 0),.raw (.int .i64 0),.raw (.int .i64 0),.raw (.int .i64 0),.raw (.int .i64 0)])
  (by rw[Hp.bf,if_neg (nd 8 3 jB jB jB),Hp.bf,if_neg (nd 8 4 jB jB jB)];show aD _ _=_;simp only[aD,if_neg (n9 8),if_neg (nd 8 5 jB jB jB),if_neg (nd 8 3 jB jB jB)]) jC (by rw[Hp.bf,if_pos rfl]) rfl
 have s3:=dz.fH (F:=F) (H:=((((((⟨[],[(9,r9),(hn 5 k,.var 197 [.raw (.slice none 0 0),.raw (.slice none 0 0)]),(hn 3 k,.var 122 (js p++[bt cW 4 C.ins,bt eI 1 C.entry,.raw (.slice none 0 0),.pt (hn 5 k) 0 0 0,.raw (.slice none 0 0),.raw (.int .i64 0),.raw (.int .i64 0),.raw (.int .i64 0),.raw (.int .i64 0)]))]⟩:Hp).put (hn 4 k) (.aO 133 1 [])).put (hn 3 k) (.var 122 (js p++[bt cW 4 C.ins,bt eI 1 C.entry,.rs (hn 4 k) 0 1 0,.pt (hn 5 k) 0 0 0,.raw (.slice none 0 0),.raw (.int .i64 0),.raw (.int .i64 0),.raw (.int .i64 0),.raw (.int .i64 0)])))).put (hn 8 k) (.aO 9 1 [])).put (hn 3 k) (.var 122 (js p++[bt cW 4 C.ins,bt eI 1 C.entry,.rs (hn 4 k) 0 1 0,.pt (hn 5 k) 0 0 0,.rs (hn 8 k) 0 1 0,.raw (.int .i64 0),.raw (.int .i64 0),.raw (.int .i64 0),.raw (.int .i64 0)]))))
  (hn 6 k) (hn 5 k) 0 3 1 (t:=197) (cs:=[.raw (.slice none 0 0),.raw (.slice none 0 0)])
  (by rw[Hp.bf,if_neg (nd 6 3 jB jB jB),Hp.bf,if_neg (nd 6 8 jB jB jB),Hp.bf,if_neg (nd 6 3 jB jB jB),Hp.bf,if_neg (nd 6 4 jB jB jB)];show aD _ _=_;simp only[aD,if_neg (n9 6),if_neg (nd 6 5 jB jB jB),if_neg (nd 6 3 jB jB jB)]) jC
  (by rw[Hp.bf,if_neg (nd 5 3 jB jB jB),Hp.bf,if_neg (nd 5 8 jB jB jB),Hp.bf,if_neg (nd 5 3 jB jB jB),Hp.bf,if_neg (nd 5 4 jB jB jB)];show aD _ _=_;simp only[aD,if_neg (n9 5),if_pos]) rfl
 refine s1.trans (s2.trans (s3.trans ?_));refine dz.trans (dz.fH (hn 7 k) (hn 5 k) 1 3 1 (t:=197) (cs:=[.rs (hn 6 k) 0 1 0,.raw (.slice none 0 0)]) ?_ jC ?_ rfl) (dz.perm _ fun i=>?_)
 ·simp only[Hp.bf,if_neg (nd 7 5 jB jB jB),if_neg (nd 7 6 jB jB jB),if_neg (nd 7 3 jB jB jB),if_neg (nd 7 8 jB jB jB),if_neg (nd 7 4 jB jB jB)]
  show aD _ _=_;simp only[aD,if_neg (n9 7),if_neg (nd 7 5 jB jB jB),if_neg (nd 7 3 jB jB jB)]
 ·rw[Hp.bf,if_pos rfl];rfl
 ·simp only[Hp.put,bR,kT,yw]
  by_cases a5:i=hn 5 k
  ·simp only[if_pos a5];rfl
  simp only[if_neg a5];by_cases a7:i=hn 7 k
  ·subst a7
   simp(disch:=omega) only[go_sem,↓reduceIte]
  simp only[if_neg a7];by_cases a6:i=hn 6 k
  ·subst a6
   simp(disch:=omega) only[go_sem,↓reduceIte]
  simp only[if_neg a6];by_cases a3:i=hn 3 k
  ·simp only[if_pos a3];rfl
  simp only[if_neg a3];by_cases a8:i=hn 8 k
  ·subst a8
   simp(disch:=omega) only[go_sem,↓reduceIte]
  simp only[if_neg a8];by_cases a4:i=hn 4 k
  ·subst a4
   simp(disch:=omega) only[go_sem,↓reduceIte]
  simp only[if_neg a4,aD,if_neg a5,if_neg a3,Option.none_or]
end Go.Gd
namespace Go.Proofs.YtfkgcobaheegbaaGreatDoor
open Go Go.Gd Tryz Go.Gd.MV
theorem Jo{p:ab}(h:dT p):dV prog 72 [.agg (fB p)] (rI (jn p))/\pk p (jL p) MV.l5 (jn p) []:=by
 obtain⟨j,hj,hidx,hnm,hpar⟩:=yF h;have hf:=(zU h hj (args:=[]) (by rw[hpar];rfl)).1;have hfs:=h.ok.aa.ap;have hC:=rc h;have hsz:=h.ok.size;have hcl:=hC.len;rw[hidx];refine⟨O4 j jB hj hnm fun i hi e=>(h.names.one i j hi hj (by rw[e,hnm])).elim,?_⟩;have hfj:=h.ap j hj;have hp:=hfj.vV;have hh:=hfj.hi;have ej:((j:Int)).toNat=j:=Int.toNat_natCast j;have h0:jn p=(j:Int):=hidx;exact⟨jB,jB,jB,by rw[ej];omega,by rw[ej];omega,by rw[ej];show(0:Int)<=_;omega,⟨jB,jB⟩,jC⟩
theorem Pm{p:ab}(hp:jb p)(X:List Nat){m1:MV}(hg:aS p (jL p) [] (wo p (jL p)) m1)(hst:m1.kv (jL p))(hat:m1.status=0->1<=m1.calls.length/\0<=m1.af.at_/\m1.af.at_<(jL p).ins.length) :
  ∃N l,bJ p (jL p) m1 N l/\(∀i,aD l i≠none->i ∉ X)/\Bd 0 m1/\aj prog 35 [.agg (fB p)] [] (fun r l'=>r=mP N/\l'=l):=by
 obtain⟨hmn,hbo⟩:=Jo hp.ok;have hal:=Kv hp;have hC:=rc hp.ok;have hfs:=hp.ok.ok.aa.ap;have hcl:=hC.len;have hsz:=hp.ok.ok.size;have hbig:=hC.qX;generalize jL p=C at*;have hk:=fun a=>Bv X a 0
 generalize qW X+0=k at hk;have hR0:=It p C k;obtain⟨N1,l1,⟨hR1,hk1⟩,hU1,hp1⟩:=DT X hR0 (jn p) [] hbo;have e1:MV.l5.cz p C (jn p) []=wo p C:=rfl;rw[e1]at hR1;have hb1:Bd 0 (wo p C):=by
  refine⟨fun k hk=>?_,fun k hk=>?_,(by show fg []<=40;decide),(by show 0<=24;omega),(by show(0:Int)<=0;omega),(by show(0:Int)<=0;omega)⟩
  ·have:k+1<1:=hk
   omega
  ·have:k<1:=hk
   have:k=0:=jB
   subst this;show(([]:List ak)++List.replicate _ v0).length<=24;have h1:=hbo.s1;simp only[List.nil_append,List.length_replicate,List.length_nil];omega
 obtain⟨N2,l2,⟨hR2,hk2,hb2⟩,hU2,hp2⟩:=FM (inp:=[]) X hR1 hb1 jC jB jB hbig hg hst hat;have eM:mP N1=mP ⟨k,[],[]⟩:=by unfold mP;rw[hk1]
 have eM2:mP N2=mP ⟨k,[],[]⟩:=by unfold mP;rw[hk2,hk1]
 rw[eM]at hp2;rw[show bt cI 3 []=(.sl false 3 [] (cI default):AV) from rfl]at hp1;have hp1:=hp1.args (args:=[mP ⟨k,[],[]⟩,rI (jn p),.raw (.slice none 0 0)]) (fun w vs hw hv=>tu hv (fun _ h=>h) fun us hu=>tu hu (fun _ h=>h) fun us hu=>tu hu (By 3 _) (fun _ h=>h)) (o6 hR0 rfl);have hp2:=hp2.args (args:=[mP ⟨k,[],[]⟩,.raw (.slice none 0 0)]) (fun w vs hw hv=>tu hv (fun _ h=>h) fun us hu=>tu hu (By 1 _) (fun _ h=>h)) (by have:=o6 (N:=N1) hR1 (l:=[.raw (.slice none 0 0)]) rfl;rw[eM]at this;exact this);refine⟨N2,l2,hR2,fun i hi=>?_,hb2,?_⟩
 ·rcases(hU1.trans hU2).new i hi with h|h
  ·have hm:=(mb _ _).2 h
   rw[zc]at hm;simp only[List.mem_cons,List.not_mem_nil,or_false]at hm;rcases hm with rfl|rfl|rfl|rfl|rfl|rfl<;>exact hk _
  ·exact h
 ·rw[eM2]
  have hhn:=IA (hn 5 k);have eC:vL C=[bt cW 4 C.ins,bt eI 1 C.entry]:=rfl;rw[eC]at hal;rw[Be]at hal hmn ⊢;refine aU func35 ntmps35 ?_;have hlo0:=hR0.ok.low;have hlo1:=hR1.ok.low;have hlo2:=hR2.ok.low
  (have W:=jA hlo0 (jA hlo1 (hlo2));repeat' (first|(with_reducible refine gR 2 ?_);refine iS (IJ p C k _) ?_|refine aA fun K hK=>?_|refine aC ?_|(with_reducible refine gR 1 ?_);refine dC 1 ([],[6],[7]) [] [0,1,2,3,4,5,6] mixed ?_|(refine hK _ _ ?_;clear hK K)|(refine aB ?_ ?_<;>intro hc<;>try exact jz)|refine eW 9 ?_|refine eW (hn 3 k) ?_|refine cq (hal) ?_|refine cN hhn ?_|refine cp (hmn) ?_|refine cT hp1 ?_|refine cT hp2 ?_|refine az ?_|exact jI|(clear hK K)));all_goals(try clear W)
  exact fp (e:=[]) rfl ⟨fun _ _ _=>rfl,List.nodup_nil,fun i r h=>by cases h⟩ hR2.ok (fun _=>rfl) (eG jC eF) [.tmp 2]
end Go.Proofs.YtfkgcobaheegbaaGreatDoor

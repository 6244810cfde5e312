/- Lemmas. No conditions. -/
import Derived.Test.YtfkgcobaheegbaaGreatDoorRpN
import Derived.Test.YtfkgcobaheegbaaGreatDoorCmG
set_option linter.all false
set_option maxHeartbeats 4000000
set_option maxRecDepth 10000
namespace Go.Gd
open Go
theorem du.args{P:Program}{f:FuncId}{args args':List AV}{e l:List (Nat×Row)}{r0:AV}(h:du P f args' e r0 l)(hv:∀w vs,aO w (entry e)->bc w args vs->bc w args' vs)(ha:aW (fun i=>(ids e).contains i) args=true):du P f args e r0 l:=⟨h.c.args hv,h.e1,h.e2,h.aY,ha⟩
theorem Es:∀(l:List (Nat×Row)) (i:Nat) (r r':Row),br (br l i r) i r'=br l i r'
 |[],i,r,r'=>by simp[br]
 |(j,s)::l,i,r,r'=>by
  show br (if i=j then(i,r)::l else(j,s)::br l i r) i r'=(if i=j then(i,r')::l else(j,s)::br l i r');by_cases e:i=j
  ·subst e;rw[if_pos rfl,if_pos rfl];simp[br]
  ·rw[if_neg e,if_neg e];show(if i=j then _ else(j,s)::br (br l i r) i r')=_;rw[if_neg e,Es l i r r']
theorem LG(l:List (Nat×Row))(a k:Nat)(r r':Row):br (br l (hn a k) r) (hn a k) r'=br l (hn a k) r':=Es _ _ _ _
namespace MV
variable {p:ab}{C:aE}{m:MV}{N:NM}{e:List (Nat×Row)}
theorem Qt(hR:bD p C m N e)(h1:1<=m.calls.length):bD p C m.iK N (br (br e (hn 3 N.k) (.var 122 (mE p C { m with status:=0 } N))) (hn 0 N.af.c) (.var 137 (MV.cE { m.af with mark:=m.af.at_,at_:=m.af.at_+1 } N.af))):=
 (hR.mf (m':={ m with status:=0 }) rfl rfl rfl).jS h1 (c':={ m.af with mark:=m.af.at_,at_:=m.af.at_+1 }) rfl rfl
end MV
end Go.Gd
namespace Go.Proofs.YtfkgcobaheegbaaGreatDoor
open Go Go.Gd Tryz Go.Gd.MV
attribute [local go_sem] LG
section
variable {p:ab}{C:aE}(X:List Nat)
theorem Lc{m:MV}{N:NM}{e:List (Nat×Row)}(hR:bD p C m N e)(inp:List Int)(hs:m.status=2\/m.status=3):du prog 40 [mP N,bp eI 1 inp] e (.bj []) e:=by
 have hlo:=hR.ok.low;refine⟨?_,hR.ok,hR.ok,fun _ h=>h,oI hR rfl⟩;rcases hs with h|h
 all_goals
  refine aT (L:=ids e) func40 ntmps40 ?_ (hL:=rfl);generalize hB:ids e=B;refine fk ?_
  (have W:=jA hlo (jA hR.root (h));repeat' (first|refine aB fun K hK=>?_|refine aC ?_|(refine hK _ _ ?_;clear hK K)|(refine aA ?_ ?_<;>intro hc<;>try exact jz)|refine aD ?_|exact jI|(clear hK K)));all_goals(try clear W)
  exact fp hB hR.ok hR.ok (tl:=[]) (fun _=>rfl) er []
theorem Oh{inp:List Int}{m m1:MV}{N:NM}{e:List (Nat×Row)}(hR:bD p C m N e)(h1:1<=m.calls.length)(hb:Bd inp.length m)(hn1:inp.length<=1000)(hC:C.entry.length<=1000)(hP:p.size.length<=1000)(hI:C.ins.length<=1000000)(hst:¬(m.status=2\/m.status=3))(hat:0<=m.af.at_/\m.af.at_<=1000000)(htm:0<=m.time/\m.time<=1000000)
  (hg:aS p C inp m.iK m1) (hs1:m1.ld C) (hat1:m1.status=0->1<=m1.calls.length/\0<=m1.af.at_/\m1.af.at_<C.ins.length) (ht1:-1<=m1.time/\m1.time<=1000000) :
  kv prog 40 [mP N,bp eI 1 inp] e X (.bj []) (fun N' l=>bD p C m1.ix N' l/\N'.k=N.k/\Bd inp.length m1.ix):=by
 have hlo:=hR.ok.low;have hT:=hR.af h1;have hR0:=hR.mf (m':={ m with status:=0 }) rfl rfl rfl;have ht:=uu hR0 h1;have hR1:=Qt hR h1;have hb1:Bd inp.length m.iK:=(hb.aQ (c:={ m.af with mark:=m.af.at_,at_:=m.af.at_+1 }) (hb.af h1)).status 0 m.aZ;have hU1:Up X e (br (br e (hn 3 N.k) (.var 122 (mE p C { m with status:=0 } N))) (hn 0 N.af.c) (.var 137 (MV.cE { m.af with mark:=m.af.at_,at_:=m.af.at_+1 } N.af))):=by
  refine(Up.put _ (.inl ?_)).trans (Up.put _ (.inl ?_))
  ·rw[hR.root];simp
  ·rw[bM,if_neg (db jB jB jB),hT.var];simp
 obtain⟨N1,l1,⟨hR2,hk2,hb2⟩,hU2,hp⟩:=El X hR1 hb1 hn1 hC hP hI hg hs1 hat1;have hlo1:=hR2.ok.low;have hr2:=hR2.root;rw[hk2]at hr2;by_cases hw:m1.status=1
 ·have et:m1.ix=m1:=by unfold MV.ix;rw[if_pos hw]
  rw[et];refine⟨N1,l1,⟨hR2,hk2,hb2⟩,hU1.trans hU2,⟨?_,hR.ok,hR2.ok,(hU1.trans hU2).aY,oI hR rfl⟩⟩;clear hU1 hU2 hR0 hR1;refine aT (L:=ids e) func40 ntmps40 ?_ (hL:=rfl);generalize hB:ids e=B;refine fk ?_
  (have W:=jA hlo (jA hlo1 (jA hR.root (jA hT.var (hr2))));repeat' (first|refine aB fun K hK=>?_|refine aC ?_|(refine hK _ _ ?_;clear hK K)|(refine aA ?_ ?_<;>intro hc<;>try exact jz)|refine cT ht ?_|refine cT hp ?_|refine aD ?_|exact jI|(clear hK K)));all_goals(try clear W)
  exact fp hB hR.ok hR2.ok (tl:=[]) (fun _=>rfl) er []
 ·have et:m1.ix={ m1 with time:=m1.time+1 }:=by unfold MV.ix;rw[if_neg hw]
  rw[et];have hR3:=hR2.mf (m':={ m1 with time:=m1.time+1 }) rfl rfl rfl;have hU3:Up X l1 (br l1 (hn 3 N1.k) (.var 122 (mE p C { m1 with time:=m1.time+1 } N1))):=Up.put _ (.inl (by rw[hR2.root];simp));refine⟨N1,_,⟨hR3,hk2,⟨hb2.deep,hb2.slots,hb2.heap,hb2.outs,hb2.gK,hb2.gw⟩⟩,hU1.trans (hU2.trans hU3),⟨?_,hR.ok,hR3.ok,(hU1.trans (hU2.trans hU3)).aY,oI hR rfl⟩⟩;have k2:=hR3.ok;clear hU1 hU2 hU3 hR0 hR1 hR3;generalize hE:br l1 (hn 3 N1.k) (.var 122 (mE p C { m1 with time:=m1.time+1 } N1))=E at k2 ⊢;refine aT (L:=ids e) func40 ntmps40 ?_ (hL:=rfl);generalize hB:ids e=B;refine fk ?_
  (have W:=jA hlo (jA hlo1 (jA hR.root (jA hT.var (hr2))));repeat' (first|refine aB fun K hK=>?_|refine aC ?_|(refine hK _ _ ?_;clear hK K)|(refine aA ?_ ?_<;>intro hc<;>try exact jz)|refine cT ht ?_|refine cT hp ?_|refine aD ?_|exact jI|(clear hK K)));all_goals(try clear W)
  subst hE;refine fp hB hR.ok k2 (tl:=[]) (fun i=>?_) er [];unfold mE;rw[hk2];rfl
end
end Go.Proofs.YtfkgcobaheegbaaGreatDoor
namespace Go.Gd
open Go
theorem Mj{H:Hp}{i m sz o n:Nat}{t:TypeId}{α:Type}[Inhabited α]{enc:α->List AV}[he:bG enc sz](l:List α)(hi:H.get i=some (.aL t sz (l.map enc)))(hm:m=l.length)(hn:o+n<=l.length)(h0:0<sz):∀w vs,aO w H->bc w [.rv i m sz o n] vs->bc (w.cD fun _=>true) [bp enc sz ((l.drop o).take n)] vs:=fun w vs hw hv=>
 EY hv fun v h=>by have:=E5 (d:=enc default) hw hi (by rw[List.length_map];exact hm) jB h0 (lJ (enc:=enc) (sz:=sz) _) h;rw[<-List.map_drop,<-List.map_take]at this;exact this
theorem Nu{h:List (List Int)}{k:Nat}(hk:k<h.length):(h.flatten.drop (km h k)).take (nth h k).length=nth h k:=by
 have e:h.flatten=(h.take k).flatten++(nth h k++(h.drop (k+1)).flatten):=by rw[dN hk,<-List.flatten_cons,List.getElem_cons_drop,<-List.flatten_append,List.take_append_drop]
 rw[e];unfold km;rw[List.drop_left,List.take_left]
end Go.Gd
namespace Go.Proofs.YtfkgcobaheegbaaGreatDoor
open Go Go.Gd Tryz
theorem Ai(x:Int):ka (eI x)=true:=rfl
theorem FZ(x:ByteArray):ka (eS x)=true:=rfl
theorem N9(i:Nat):aj prog 70 [] [] (fun r l=>r=.pt i 0 0 0/\l=[(i,.var 197 [.raw (.slice none 0 0),.raw (.slice none 0 0)])]):=by
 refine aT func70 ntmps70 ?_
 (refine S ?_;try exact jI)
 (repeat' (first|refine aB fun K hK=>?_|refine aC ?_|(refine hK _ _ ?_;clear hK K)|(refine aA ?_ ?_<;>intro hc<;>try exact jz)|refine fa i ?_|refine aD ?_|exact jI|(clear hK K)))
 (refine bW [.tmp 0] ?_ ?_<;>(try simp only[go_sem]))
theorem NA(h:List (List Int))(hl:h.length<=1000)(hf:h.flatten.length<=1000):aj prog 79 [.pt 2 0 0 0] (gx h) (fun r l=>r=bp nR 1 h/\l=gx h):=by
 refine aT func79 ntmps79 ?_
 (refine S ?_;try exact jI)
 (repeat' (first|refine aB fun K hK=>?_|refine aC ?_|(refine hK _ _ ?_;clear hK K)|(refine aA ?_ ?_<;>intro hc<;>try exact jz)|refine aD ?_|exact jI|(clear hK K)))
 refine iV (dq.nil 5 3 22 (sz:=1) rfl jC (Or.inl rfl)) ?_
 (refine S ?_;try exact jI)
 have hKo:=hK;clear hK;refine fi (S:=Nat) [(3,2),(10,12)] (fun k=>k<=h.length) (fun k=>[(3,.rs 5 k 1 k),(10,rI k)])
  (fun k=>⟨[2,3,4],gx h++[(5,.aL 22 1 ((h.take k).map nR))]⟩) (fun k=>h.length-k) 0 jB (fj rfl cQ) ?_
 rintro k hk Kr hKr;by_cases hlt:k<h.length
 ·have hc1:=wv h k ((k:Int)+1) rfl hl hf hlt;have hle:=wK h (k+1);have hof:=vl hlt;have hcl:=Ay (nth h k) jB 6;have etk:h.take (k+1)=h.take k++[nth h k]:=by rw[List.take_succ,List.getElem?_eq_getElem hlt,dN hlt];rfl
  (refine S ?_;try exact jI)
  (repeat' (first|refine aB fun K hK=>?_|refine aC ?_|(refine hK _ _ ?_;clear hK K)|(refine aA ?_ ?_<;>intro hc<;>try exact jz)|refine cm (hc1) ?_|refine A2 6 Ai hcl rfl (fun w vs hw hv=>by have:=Mj (enc:=eI) h.flatten rfl rfl jB jC w vs hw hv;rw[Nu hlt]at this;exact this) ?_|refine aD ?_|exact jI|(clear hK K)))
  refine hKr _ _ (fw (k+1) jB (by show h.length-(k+1)<h.length-k;omega) (by rw[etk,List.map_append];rfl) cQ)
 ·have hkl:k=h.length:=jB;subst hkl
  (refine S ?_;try exact jI)
  (repeat' (first|refine aB fun K hK=>?_|refine aC ?_|(refine hK _ _ ?_;clear hK K)|(refine aA ?_ ?_<;>intro hc<;>try exact jz)|refine hKo _ _ ?_|refine aD ?_|exact jI|(clear hK K)))
  refine l6 [.tmp 2] ?_;exact dv.row (enc:=nR) h rfl rfl rfl
end Go.Proofs.YtfkgcobaheegbaaGreatDoor
namespace Go.Gd
open Go
variable{P:Program}
theorem ND{fn:Func}{F:List AV}{B:List Nat}{L:List (Nat×Row)}{out:List AV}{ex:Exit}{r0:AV}{e l tl:List (Nat×Row)}(hB:ids e=B)(k1:eF 0 e)(k2:eF 0 l)(hp:L=tie l tl)(hl:nF 0 tl)(rs:List ResultVar)(hv:dv (cR 0) ⟨B,tie l tl⟩ (jU out) r0)
  (hrs:fn.results.toList=rs:=by rfl) (he:ex=.normal\/ex=.ret:=by first|exact Or.inr rfl|exact Or.inl rfl|fail) (ho:jg P ⟨B,L⟩ F rs=some out:=by first|rfl|(simp(disch:=first|omega|fail) only[go_sem,↓reduceIte,Nat.reduceEqDiff,Nat.reduceLeDiff,Nat.reduceSub,Nat.reduceAdd];rfl)) (hok:j3 P ⟨B,L⟩ F rs:=by first|exact jI|(simp(disch:=first|omega|fail) only[go_sem,↓reduceIte,Nat.reduceEqDiff,Nat.reduceLeDiff,Nat.reduceSub,Nat.reduceAdd])):kX P fn (fun r l'=>r=r0/\l'=l) ex F ⟨B,L⟩:=by
 subst hrs hp;obtain⟨h1,h2,h3⟩:=k1.free k2 hB hl;have:=hZ.free (r:=jU out) (r':=r0) (H:=⟨B,l++tl⟩) (Go.Gd.cR 0) h1 h2 hv;rw[show(Hp.mk B (l++tl)).l=l++tl from rfl,h3]at this;exact rE he ho hok r0 ⟨B,l⟩ this ⟨rfl,rfl⟩
variable{args':List AV}{sz:Nat}{t:TypeId}{α:Type}
theorem HO{f:FuncId}{args:List AV}{H:Hp}{R:AV->Prop}[Inhabited α]{enc:α->List AV}[he:bG enc sz]{xs:List α}{q:Prop}(i:Nat)(hfl:∀x,ka (enc x)=true)
  (hc:aj P f args' [] fun r l=>r=.rs i xs.length sz xs.length/\l=[(i,.aL t sz (xs.map enc))]) (hi:H.get i=none) (hv:∀w vs,aO w H->bc w args vs->bc (w.cD fun _=>true) args' vs) (k:q) (h0:bz P f=true:=by exact dj) (e:R (bp enc sz xs)=q:=by exact eJ):∃r,(fI P (.raw (.func (.func f) #[] #[])) args H fun r' H'=>r'=r/\H'=H)/\R r:=
 ⟨_,o7 h0 (CK (K:=fun r' H'=>r'=bp enc sz xs/\H'=H) hfl hi hc hv ⟨rfl,rfl⟩),e ▸ k⟩
theorem JY{A:AS}{f:FuncId}{args:List AV}{H:Hp}{g:AV->Hp->Prop}{d:gb fun r H'=>dI A H H'/\g r H'}[Inhabited α]{enc:α->List AV}[he:bG enc sz]{xs:List α}{q:Prop}(i:Nat)(hfl:∀x,ka (enc x)=true)
  (hc:aj P f args' [] fun r l=>r=.rs i xs.length sz xs.length/\l=[(i,.aL t sz (xs.map enc))]) (hi:H.get i=none) (hv:∀w vs,aO w H->bc w args vs->bc (w.cD fun _=>true) args' vs) (k:q) (h0:bz P f=true:=by exact dj) (e:g (bp enc sz xs) H=q:=by exact eJ):fI P (.raw (.func (.func f) #[] #[])) args H (AP (fun r H'=>dI A H H'/\g r H') d):=
 o7 h0 (CK (K:=AP (fun r H'=>dI A H H'/\g r H') d) hfl hi hc hv ⟨dI.refl _ _,e ▸ k⟩)
theorem ue{H:Hp}{i n:Nat}[Inhabited α]{enc:α->List AV}[he:bG enc sz](l:List α)(hi:H.get i=some (.aL t sz (l.map enc)))(hn:n=l.length):∀w vs,aO w H->bc w [.rs i n sz n] vs->bc (w.cD fun _=>true) [bp enc sz l] vs:=
 Ed ⟨dv.row (dd:=enc default) l rfl hi hn,trivial⟩
namespace MV
def fJ(m:MV)(k:Nat):Int:=if(k:Int)=(m.calls.length:Int)-1 then(nth m.calls k).at_ else(nth m.calls k).mark
def spot(C:aE)(m:MV)(k:Nat):kW:=⟨(nth m.calls k).fn,(nth C.ins (m.fJ k).toNat).a,(nth m.calls k).slots⟩
def qZ(C:aE)(m:MV):lh:=⟨(List.range m.calls.length).map (m.spot C),m.heap,m.in_,m.ax,m.status,m.aZ,m.time⟩
end MV
end Go.Gd
namespace Go.Proofs.YtfkgcobaheegbaaGreatDoor
open Go Go.Gd Tryz Go.Gd.MV
section
variable {p:ab}{C:aE}(X:List Nat)
theorem LV{m:MV}{N:NM}{e:List (Nat×Row)}(hR:bD p C m N e)(hl:m.heap.length<=1000)(hf:m.heap.flatten.length<=1000):du prog 79 [.pt (hn 5 N.k) 0 0 0] e (bp nR 1 m.heap) e:=
 hR.k8 rfl rfl (NA m.heap hl hf)
theorem F8{m:MV}{N:NM}{e:List (Nat×Row)}(hR:bD p C m N e){k:Nat}(hk:k<m.calls.length):(List.map (fun j=>[AV.pt (hn 0 j) 0 0 0]) (List.map NC.c N.cs)++List.map (fun j=>[AV.pt (hn 0 j) 0 0 0]) N.cj).getD k []=[.pt (hn 0 (nth N.cs k).c) 0 0 0]:=by have hl:=hR.len;rw[<-List.map_append];rw[List.getD_eq_getElem?_getD,List.getElem?_map,List.getElem?_append_left (by rw[List.length_map];omega),List.getElem?_map,List.getElem?_eq_getElem jB,dN jB];rfl
structure vU(C:aE)(m:MV):Prop where
 calls:m.calls.length<=8
 sel:∀k,k<m.calls.length->0<=m.fJ k/\m.fJ k<C.ins.length
 slots:∀k,k<m.calls.length->(nth m.calls k).slots.length<=24
 heap:ga m.heap<=40
 outs:m.ax.length<=24
 ins:C.ins.length<=1000000
theorem zv{m:MV}{N:NM}{e:List (Nat×Row)}(hR:bD p C m N e)(hk:vU C m):du prog 38 [mP N] e (.agg (iQ (m.qZ C))) e:=by
 obtain⟨s1,s2,s3,s4,s5,s6⟩:=hk;rw[vv]at s4;have hlo:=hR.ok.low;have hl:=hR.len;have hls:=LV hR jB jB;have hco:=EL m.ax jB 8;refine⟨?_,hR.ok,hR.ok,fun _ h=>h,oI hR rfl⟩;refine aT (L:=ids e) func38 ntmps38 ?_ (hL:=rfl);generalize hB:ids e=B;refine fk ?_
 (have W:=jA hlo (hR.root);repeat' (first|refine aB fun K hK=>?_|refine aC ?_|(with_reducible refine gR 1 ?_);refine dC 1 ([],[],[11,20]) [27] [0,1,2,3,5,6,7,8,9,10,11,12,14,15,16,17,18,19,20,21,22,23,24,25,4,13,26,27,28] mixed ?_|(refine hK _ _ ?_;clear hK K)|(refine aA ?_ ?_<;>intro hc<;>try exact jz)|refine kj 9 ?_|refine kj 10 ?_|refine pD hls (fun _ _ _=>.inl rfl) ?_|refine JY 8 FZ hco (by show av (tie _ _) _=_;rw[gF,hlo _ jC];rfl) (ue m.ax (by show av (tie _ _) _=_;rw[gF,hR.outs];rfl) rfl) ?_|refine aD ?_|exact jI|(clear hK K)));all_goals(try clear W)
 refine iV (dq.fM 11 10 0 77 3 (by show av (tie _ _) _=_;rw[gF,hlo _ jC];rfl) jC (by show av (tie _ _) _=_;rw[gF,hlo _ jC];rfl) rfl) ?_
 (have W:=jA hlo hlo;refine S ?_;clear W;try exact jI)
 have hKo:=hK;clear hK;refine fi (S:=Nat) [(4,3),(39,46)] (fun i=>i<=m.calls.length) (fun i=>[(39,rI i)])
  (fun i=>⟨B,tie e [(9,.var 72 [.raw (.slice none 0 0),.raw (.slice none 0 0),.raw (.int .i64 0),.raw (.slice none 0 0),.raw (.int .i64 0),.raw (.int .i64 0),.raw (.int .i64 0)]),
   (10,.var 72 [.rs 11 i 3 i,bp nR 1 m.heap,.raw (.int .i64 m.in_),bp eS 1 m.ax,.raw (.int .i64 m.status),.raw (.int .i64 m.aZ),.raw (.int .i64 m.time)]),(11,.aL 77 3 (((List.range i).map (m.spot C)).map mo))]⟩)
  (fun i=>m.calls.length-i) 0 jB (fj rfl cQ) ?_
 rintro i hi Kr hKr;by_cases hlt:i<m.calls.length
 ·have hca:=hR.call i hlt;have hgc:=F8 hR hlt;have hsl:=s3 i hlt;obtain⟨a1,a2⟩:=s2 i hlt;have hcv:=yY (nth m.calls i).slots jB 8;have hrg:List.range (i+1)=List.range i++[i]:=List.range_succ;have hlr:((List.range i).map (m.spot C)).length=i:=jE;have key:∀a:Int,m.fJ i=a->nth C.ins a.toNat=nth C.ins (m.fJ i).toNat:=fun a ha=>by rw[ha]
  unfold MV.fJ at a1 a2;by_cases hla:(i:Int)=(m.calls.length:Int)-1
  ·have hse:m.fJ i=(nth m.calls i).at_:=by unfold MV.fJ;rw[if_pos hla]
   rw[if_pos hla]at a1 a2
   (refine S ?_;try exact jI)
   (have W:=jA hlo (jA hR.root (jA hR.row (jA hgc (jA hca.var (hl)))));repeat' (first|refine aB fun K hK=>?_|refine aC ?_|(with_reducible refine gR 8 ?_);refine dC 8 ([],[79],[]) [] [0,1,2,3,4,5,6,7,8,9,10,11,12,13,14,15,16,17,18,19,20,21,22,23,24] mixed ?_|(refine hK _ _ ?_;clear hK K)|(refine aA ?_ ?_<;>intro hc<;>try exact jz)|refine HO 8 uZ hcv (by show av (tie _ _) _=_;rw[gF,hlo _ jC];rfl) (ue (nth m.calls i).slots (by show av (tie _ _) _=_;rw[gF,hca.eP];rfl) rfl) ?_|refine aD ?_|exact jI|(clear hK K)));all_goals(try clear W)
   refine hKr _ _ (fw (i+1) jB (by show m.calls.length-(i+1)<m.calls.length-i;omega) ?_ cQ);rw[hrg,List.map_append,List.map_append,List.map_singleton,List.map_singleton];unfold MV.spot;rw[hse];rfl
  ·have hse:m.fJ i=(nth m.calls i).mark:=by unfold MV.fJ;rw[if_neg hla]
   rw[if_neg hla]at a1 a2
   (refine S ?_;try exact jI)
   (have W:=jA hlo (jA hR.root (jA hR.row (jA hgc (jA hca.var (hl)))));repeat' (first|refine aB fun K hK=>?_|refine aC ?_|(with_reducible refine gR 8 ?_);refine dC 8 ([],[79],[]) [] [0,1,2,3,4,5,6,7,8,9,10,11,12,13,14,15,16,17,18,19,20,21,22,23,24] mixed ?_|(refine hK _ _ ?_;clear hK K)|(refine aA ?_ ?_<;>intro hc<;>try exact jz)|refine HO 8 uZ hcv (by show av (tie _ _) _=_;rw[gF,hlo _ jC];rfl) (ue (nth m.calls i).slots (by show av (tie _ _) _=_;rw[gF,hca.eP];rfl) rfl) ?_|refine aD ?_|exact jI|(clear hK K)));all_goals(try clear W)
   refine hKr _ _ (fw (i+1) jB (by show m.calls.length-(i+1)<m.calls.length-i;omega) ?_ cQ);rw[hrg,List.map_append,List.map_append,List.map_singleton,List.map_singleton];unfold MV.spot;rw[hse];rfl
 ·have hin:i=m.calls.length:=jB;subst hin
  (refine S ?_;try exact jI)
  (have W:=jA hlo hl;repeat' (first|refine aB fun K hK=>?_|refine aC ?_|(refine hK _ _ ?_;clear hK K)|(refine aA ?_ ?_<;>intro hc<;>try exact jz)|refine hKo _ _ ?_|refine aD ?_|exact jI|(clear hK K)));all_goals(try clear W)
  have h9:=hlo 9 jC;have h11:=hlo 11 jC;refine ND hB hR.ok hR.ok rfl (eO jC (eO jC (eO jC er))) [.cell 2 72] ?_ (ho:=by simp(disch:=first|omega|assumption|fail) only[go_sem,↓reduceIte,h9];rfl) (hok:=by simp(disch:=first|omega|assumption|fail) only[go_sem,↓reduceIte,h9];first|done|decide|(repeat' (first|exact trivial|decide|(simp;done)|refine jA ?_ ?_)));have hlr:((List.range m.calls.length).map (m.spot C)).length=m.calls.length:=jE;exact bX.agg (ds:=iQ (m.qZ C)) (jA (dv.row (enc:=mo) ((List.range m.calls.length).map (m.spot C)) rfl (by show av (tie _ _) _=_;rw[gF,h11];rfl) hlr.symm) (jA (.same _ rfl) (jA (.same _ rfl) (jA (.same _ rfl) (jA (.same _ rfl) (jA (.same _ rfl) (jA (.same _ rfl) trivial)))))))
end
end Go.Proofs.YtfkgcobaheegbaaGreatDoor
namespace Go.Gd
open Go
def MV.ma:MV:=⟨[],0,[],0,[],0,0,0⟩
def wM(p:ab)(C:aE)(k:Nat):List (Nat×Row):=
 [(hn 5 k,.var 197 [.rs (hn 6 k) 0 1 0,.rs (hn 7 k) 0 1 0]),(hn 3 k,.var 122 (MV.mE p C MV.ma ⟨k,[],[]⟩)),(hn 4 k,.aL 133 1 []),(hn 8 k,.aL 9 1 []),(hn 6 k,.aL 3 1 []),(hn 7 k,.aL 3 1 [])]
theorem x9(p:ab)(C:aE)(k i:Nat):av (wM p C k) i=if i=hn 5 k then some (.var 197 [.rs (hn 6 k) 0 1 0,.rs (hn 7 k) 0 1 0])else if i=hn 3 k then some (.var 122 (MV.mE p C MV.ma ⟨k,[],[]⟩))else if i=hn 4 k then some (.aL 133 1 [])else if i=hn 8 k then some (.aL 9 1 [])else if i=hn 6 k then some (.aL 3 1 [])else if i=hn 7 k then some (.aL 3 1 [])else none:=rfl
theorem Bi(p:ab)(C:aE)(k:Nat):ids (wM p C k)=[hn 5 k,hn 3 k,hn 4 k,hn 8 k,hn 6 k,hn 7 k]:=rfl
theorem Rn(p:ab)(C:aE)(k:Nat):MV.bD p C MV.ma ⟨k,[],[]⟩ (wM p C k):=by
 have nd:∀a b:Nat,a<32->b<32->a≠b->hn a k≠hn b k:=fun a b ha hb h=>db ha hb h
 have ok:eF 0 (wM p C k):=by
  refine⟨fun i _ hi=>?_,?_,fun i r hi=>?_⟩
  ·rw[x9];have g:=fun a=>iw a k
   rw[if_neg (by have:=g 5;omega),if_neg (by have:=g 3;omega),if_neg (by have:=g 4;omega),if_neg (by have:=g 8;omega),if_neg (by have:=g 6;omega),if_neg (by have:=g 7;omega)]
  ·rw[Bi];simp[hn]
  ·rw[Bi];rw[x9]at hi;have up:aW (fun j=>[hn 5 k,hn 3 k,hn 4 k,hn 8 k,hn 6 k,hn 7 k].contains j) (iN p)=true:=fh (q:=dY) (fun _ h=>by cases h) _ rfl;split at hi
   ·cases hi;simp[Row.cells,aW,AV.all]
   ·split at hi
    ·cases hi;show aW _ (MV.mE _ _ _ _)=true;unfold MV.mE;rw[qD,up];simp[aW,AV.all,bp]
    ·split at hi
     ·cases hi;rfl
     ·split at hi
      ·cases hi;rfl
      ·split at hi
       ·cases hi;rfl
       ·split at hi
        ·cases hi;rfl
        ·cases hi
 refine⟨ok,?_,?_,?_,?_,?_,?_,rfl,(fun k hk=>by cases hk),List.nodup_nil,List.nodup_nil,by show 0+0<=1000;omega⟩;all_goals rw[x9]
 ·rw[if_neg (nd 3 5 jB jB jB),if_pos rfl]
 ·rw[if_neg (nd 4 5 jB jB jB),if_neg (nd 4 3 jB jB jB),if_pos rfl];rfl
 ·rw[if_pos rfl];rfl
 ·rw[if_neg (nd 6 5 jB jB jB),if_neg (nd 6 3 jB jB jB),if_neg (nd 6 4 jB jB jB),if_neg (nd 6 8 jB jB jB),if_pos rfl];rfl
 ·rw[if_neg (nd 7 5 jB jB jB),if_neg (nd 7 3 jB jB jB),if_neg (nd 7 4 jB jB jB),if_neg (nd 7 8 jB jB jB),if_neg (nd 7 6 jB jB jB),if_pos rfl];rfl
 ·rw[if_neg (nd 8 5 jB jB jB),if_neg (nd 8 3 jB jB jB),if_neg (nd 8 4 jB jB jB),if_pos rfl];rfl
theorem K0{F:List AV}(p:ab)(C:aE)(k:Nat)(r9:Row):dq F ⟨[],[(9,r9),(hn 5 k,.var 197 [.raw (.slice none 0 0),.raw (.slice none 0 0)]),(hn 3 k,.var 122 (iN p++[bp cZ 4 C.ins,bp eI 1 C.entry,.raw (.slice none 0 0),.pt (hn 5 k) 0 0 0,.raw (.slice none 0 0),.raw (.int .i64 0),.raw (.int .i64 0),.raw (.int .i64 0),.raw (.int .i64 0)]))]⟩ F ⟨[],tie (wM p C k) [(9,r9)]⟩:=by
 have n9:∀a,hn a k≠9:=fun a e=>by have:=iw a k;omega
 have nd:∀a b:Nat,a<32->b<32->a≠b->hn a k≠hn b k:=fun a b ha hb h=>db ha hb h
 have s1:=dq.fM (F:=F) (H:=⟨[],[(9,r9),(hn 5 k,.var 197 [.raw (.slice none 0 0),.raw (.slice none 0 0)]),(hn 3 k,.var 122 (iN p++[bp cZ 4 C.ins,bp eI 1 C.entry,.raw (.slice none 0 0),.pt (hn 5 k) 0 0 0,.raw (.slice none 0 0),.raw (.int .i64 0),.raw (.int .i64 0),.raw (.int .i64 0),.raw (.int .i64 0)]))]⟩) (hn 4 k) (hn 3 k) 8 133 1 (t:=122) (cs:=iN p++[bp cZ 4 C.ins,bp eI 1 C.entry,.raw (.slice none 0 0),.pt (hn 5 k) 0 0 0,.raw (.slice none 0 0),.raw (.int .i64 0),.raw (.int .i64 0),.raw (.int .i64 0),.raw (.int .i64 0)])
  (by show av _ _=_;simp only[av,if_neg (n9 4),if_neg (nd 4 5 jB jB jB),if_neg (nd 4 3 jB jB jB)]) jC (by show av _ _=_;simp only[av,if_neg (n9 3),if_neg (nd 3 5 jB jB jB),if_pos]) rfl
 have s2:=dq.fM (F:=F) (H:=(((⟨[],[(9,r9),(hn 5 k,.var 197 [.raw (.slice none 0 0),.raw (.slice none 0 0)]),(hn 3 k,.var 122 (iN p++[bp cZ 4 C.ins,bp eI 1 C.entry,.raw (.slice none 0 0),.pt (hn 5 k) 0 0 0,.raw (.slice none 0 0),.raw (.int .i64 0),.raw (.int .i64 0),.raw (.int .i64 0),.raw (.int .i64 0)]))]⟩:Hp).put (hn 4 k) (.aL 133 1 [])).put (hn 3 k) (.var 122 (iN p++[bp cZ 4 C.ins,bp eI 1 C.entry,.rs (hn 4 k) 0 1 0,.pt (hn 5 k) 0 0 0,.raw (.slice none 0 0),.raw (.int .i64 0),.raw (.int .i64 0),.raw (.int .i64 0),.raw (.int .i64 0)])))) (hn 8 k) (hn 3 k) 10 9 1 (t:=122) (cs:=iN p++[bp cZ 4 C.ins,bp eI 1 C.entry,.rs (hn 4 k) 0 1 0,.pt (hn 5 k) 0 0 0,.raw (.slice none 0 0),.raw (.int .i64 0),.raw (.int .i64 0),.raw (.int .i64 0),.raw (.int .i64 0)])
  (by rw[Hp.ba,if_neg (nd 8 3 jB jB jB),Hp.ba,if_neg (nd 8 4 jB jB jB)];show av _ _=_;simp only[av,if_neg (n9 8),if_neg (nd 8 5 jB jB jB),if_neg (nd 8 3 jB jB jB)]) jC (by rw[Hp.ba,if_pos rfl]) rfl
 have s3:=dq.fM (F:=F) (H:=((((((⟨[],[(9,r9),(hn 5 k,.var 197 [.raw (.slice none 0 0),.raw (.slice none 0 0)]),(hn 3 k,.var 122 (iN p++[bp cZ 4 C.ins,bp eI 1 C.entry,.raw (.slice none 0 0),.pt (hn 5 k) 0 0 0,.raw (.slice none 0 0),.raw (.int .i64 0),.raw (.int .i64 0),.raw (.int .i64 0),.raw (.int .i64 0)]))]⟩:Hp).put (hn 4 k) (.aL 133 1 [])).put (hn 3 k) (.var 122 (iN p++[bp cZ 4 C.ins,bp eI 1 C.entry,.rs (hn 4 k) 0 1 0,.pt (hn 5 k) 0 0 0,.raw (.slice none 0 0),.raw (.int .i64 0),.raw (.int .i64 0),.raw (.int .i64 0),.raw (.int .i64 0)])))).put (hn 8 k) (.aL 9 1 [])).put (hn 3 k) (.var 122 (iN p++[bp cZ 4 C.ins,bp eI 1 C.entry,.rs (hn 4 k) 0 1 0,.pt (hn 5 k) 0 0 0,.rs (hn 8 k) 0 1 0,.raw (.int .i64 0),.raw (.int .i64 0),.raw (.int .i64 0),.raw (.int .i64 0)]))))
  (hn 6 k) (hn 5 k) 0 3 1 (t:=197) (cs:=[.raw (.slice none 0 0),.raw (.slice none 0 0)])
  (by rw[Hp.ba,if_neg (nd 6 3 jB jB jB),Hp.ba,if_neg (nd 6 8 jB jB jB),Hp.ba,if_neg (nd 6 3 jB jB jB),Hp.ba,if_neg (nd 6 4 jB jB jB)];show av _ _=_;simp only[av,if_neg (n9 6),if_neg (nd 6 5 jB jB jB),if_neg (nd 6 3 jB jB jB)]) jC
  (by rw[Hp.ba,if_neg (nd 5 3 jB jB jB),Hp.ba,if_neg (nd 5 8 jB jB jB),Hp.ba,if_neg (nd 5 3 jB jB jB),Hp.ba,if_neg (nd 5 4 jB jB jB)];show av _ _=_;simp only[av,if_neg (n9 5),if_pos]) rfl
 refine s1.trans (s2.trans (s3.trans ?_));refine dq.trans (dq.fM (hn 7 k) (hn 5 k) 1 3 1 (t:=197) (cs:=[.rs (hn 6 k) 0 1 0,.raw (.slice none 0 0)]) ?_ jC ?_ rfl) (dq.perm _ fun i=>?_)
 ·simp only[Hp.ba,if_neg (nd 7 5 jB jB jB),if_neg (nd 7 6 jB jB jB),if_neg (nd 7 3 jB jB jB),if_neg (nd 7 8 jB jB jB),if_neg (nd 7 4 jB jB jB)];show av _ _=_;simp only[av,if_neg (n9 7),if_neg (nd 7 5 jB jB jB),if_neg (nd 7 3 jB jB jB)]
 ·rw[Hp.ba,if_pos rfl];rfl
 ·simp only[Hp.put,bM,gF,x9];by_cases a5:i=hn 5 k
  ·simp only[if_pos a5];rfl
  simp only[if_neg a5];by_cases a7:i=hn 7 k
  ·subst a7;simp(disch:=omega) only[go_sem,↓reduceIte]
  simp only[if_neg a7];by_cases a6:i=hn 6 k
  ·subst a6;simp(disch:=omega) only[go_sem,↓reduceIte]
  simp only[if_neg a6];by_cases a3:i=hn 3 k
  ·simp only[if_pos a3];rfl
  simp only[if_neg a3];by_cases a8:i=hn 8 k
  ·subst a8;simp(disch:=omega) only[go_sem,↓reduceIte]
  simp only[if_neg a8];by_cases a4:i=hn 4 k
  ·subst a4;simp(disch:=omega) only[go_sem,↓reduceIte]
  simp only[if_neg a4,av,if_neg a5,if_neg a3,Option.none_or]
end Go.Gd
namespace Go.Proofs.YtfkgcobaheegbaaGreatDoor
open Go Go.Gd Tryz Go.Gd.MV
theorem ME{p:ab}(h:dx p):eG prog 72 [.agg (gp p)] (rI (jy p))/\pI p (gU p) MV.ma (jy p) []:=by obtain⟨j,hj,hidx,hnm,hpar⟩:=yS h;have hf:=(AI h hj (args:=[]) (by rw[hpar];rfl)).1;have hfs:=h.ok.aa.ao;have hC:=o0 h;have hsz:=h.ok.size;have hcl:=hC.len;rw[hidx];refine⟨PL j jB hj hnm fun i hi e=>(h.names.one i j hi hj (by rw[e,hnm])).elim,?_⟩;have hfj:=h.ao j hj;have hp:=hfj.wk;have hh:=hfj.hi;have ej:((j:Int)).toNat=j:=Int.toNat_natCast j;have h0:jy p=(j:Int):=hidx;exact⟨jB,jB,jB,by rw[ej];omega,by rw[ej];omega,by rw[ej];show(0:Int)<=_;omega,⟨jB,jB⟩,jC⟩
theorem OT{p:ab}(hp:j4 p)(X:List Nat){m1:MV}(hg:aS p (gU p) [] (vM p (gU p)) m1)(hst:m1.ld (gU p))(hat:m1.status=0->1<=m1.calls.length/\0<=m1.af.at_/\m1.af.at_<(gU p).ins.length) :
  ∃N l,bD p (gU p) m1 N l/\(∀i,av l i≠none->i ∉ X)/\Bd 0 m1/\aj prog 35 [.agg (gp p)] [] (fun r l'=>r=mP N/\l'=l):=by
 obtain⟨hmn,hbo⟩:=ME hp.ok;have hal:=IZ hp;have hC:=o0 hp.ok;have hfs:=hp.ok.ok.aa.ao;have hcl:=hC.len;have hsz:=hp.ok.ok.size;have hbig:=hC.qG;generalize gU p=C at*;have hk:=fun a=>BC X a 0
 generalize pY X+0=k at hk;have hR0:=Rn p C k;obtain⟨N1,l1,⟨hR1,hk1⟩,hU1,hp1⟩:=DW X hR0 (jy p) [] hbo;have e1:MV.ma.cF p C (jy p) []=vM p C:=rfl;rw[e1]at hR1;have hb1:Bd 0 (vM p C):=by
  refine⟨fun k hk=>?_,fun k hk=>?_,(by show ga []<=40;decide),(by show 0<=24;omega),(by show(0:Int)<=0;omega),(by show(0:Int)<=0;omega)⟩
  ·have:k+1<1:=hk;omega
  ·have:k<1:=hk;have:k=0:=jB;subst this;show(([]:List ak)++List.replicate _ v0).length<=24;have h1:=hbo.s1;simp only[List.nil_append,List.length_replicate,List.length_nil];omega
 obtain⟨N2,l2,⟨hR2,hk2,hb2⟩,hU2,hp2⟩:=El (inp:=[]) X hR1 hb1 jC jB jB hbig hg hst hat;have eM:mP N1=mP ⟨k,[],[]⟩:=by unfold mP;rw[hk1]
 have eM2:mP N2=mP ⟨k,[],[]⟩:=by unfold mP;rw[hk2,hk1]
 rw[eM]at hp2;rw[show bp cv 3 []=(.sl false 3 [] (cv default):AV) from rfl]at hp1;have hp1:=hp1.args (args:=[mP ⟨k,[],[]⟩,rI (jy p),.raw (.slice none 0 0)]) (fun w vs hw hv=>tO hv (fun _ h=>h) fun us hu=>tO hu (fun _ h=>h) fun us hu=>tO hu (CF 3 _) (fun _ h=>h)) (oI hR0 rfl);have hp2:=hp2.args (args:=[mP ⟨k,[],[]⟩,.raw (.slice none 0 0)]) (fun w vs hw hv=>tO hv (fun _ h=>h) fun us hu=>tO hu (CF 1 _) (fun _ h=>h)) (by have:=oI (N:=N1) hR1 (l:=[.raw (.slice none 0 0)]) rfl;rw[eM]at this;exact this);refine⟨N2,l2,hR2,fun i hi=>?_,hb2,?_⟩
 ·rcases(hU1.trans hU2).new i hi with h|h
  ·have hm:=(gX _ _).2 h;rw[Bi]at hm;simp only[List.mem_cons,List.not_mem_nil,or_false]at hm;rcases hm with rfl|rfl|rfl|rfl|rfl|rfl<;>exact hk _
  ·exact h
 ·rw[eM2];have hhn:=N9 (hn 5 k);have eC:xo C=[bp cZ 4 C.ins,bp eI 1 C.entry]:=rfl;rw[eC]at hal;rw[BM]at hal hmn ⊢;refine aT func35 ntmps35 ?_;have hlo0:=hR0.ok.low;have hlo1:=hR1.ok.low;have hlo2:=hR2.ok.low
  (have W:=jA hlo0 (jA hlo1 (hlo2));repeat' (first|(with_reducible refine gR 2 ?_);refine iV (K0 p C k _) ?_|refine aB fun K hK=>?_|refine aC ?_|(with_reducible refine gR 1 ?_);refine dC 1 ([],[6],[7]) [] [0,1,2,3,4,5,6] mixed ?_|(refine hK _ _ ?_;clear hK K)|(refine aA ?_ ?_<;>intro hc<;>try exact jz)|refine fa 9 ?_|refine fa (hn 3 k) ?_|refine cq (hal) ?_|refine cN hhn ?_|refine cp (hmn) ?_|refine cT hp1 ?_|refine cT hp2 ?_|refine aD ?_|exact jI|(clear hK K)));all_goals(try clear W)
  exact fp (e:=[]) rfl ⟨fun _ _ _=>rfl,List.nodup_nil,fun i r h=>by cases h⟩ hR2.ok (fun _=>rfl) (eO jC er) [.tmp 2]
end Go.Proofs.YtfkgcobaheegbaaGreatDoor

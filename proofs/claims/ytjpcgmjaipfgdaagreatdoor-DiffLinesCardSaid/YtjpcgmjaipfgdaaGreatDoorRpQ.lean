/- Lemmas. No conditions. -/
import Derived.Test.YtjpcgmjaipfgdaaGreatDoorTmB
set_option linter.all false
set_option maxHeartbeats 4000000
set_option maxRecDepth 10000
namespace Go.Gd
open Go
theorem Kf{p:ah}{node:Int}(hl:∀b,(ap p b).l.length<=300):∀(n:Nat) (b:Int) (vars r:List ba),gv p node n b vars=some r->r.length<=vars.length+300*n
 |0,b,vars,r,h=>by cases h
 |n+1,b,vars,r,h=>by
  have ih:=Kf (node:=node) hl n;have aC:∀(l:UU) (vs r:List ba),ld (gv p node n) vs l=some r->r.length<=vs.length+300*n:=fun l=>by
   induction l with
   |nil=>intro vs r h;cases h
   |cons b l ihl=>
    intro vs r h;unfold ld at h;cases e:gv p node n b vs with
    |none=>rw[e]at h;exact ihl vs r h
    |some R=>rw[e]at h;cases h;exact ih b vs _ e
  have sc:∀(l:UU) (vs r:List ba),mV (gv p node n) p node l vs=some r->r.length<=vs.length+l.length+300*n:=fun l=>by
   induction l with
   |nil=>intro vs r h;cases h
   |cons x l ihl=>
    intro vs r h;have WM:(iC p x vs).length<=vs.length+1:=by unfold iC;split<;>simp
    unfold mV at h;simp only[List.length_cons];split at h
    ·cases h;omega
    ·cases e:(if(ap p x).kind=15\/(ap p x).kind=16 then ld (gv p node n) (iC p x vs) ((ap p x).l.drop 1)else none)with
     |none=>rw[e]at h;have:=ihl _ r h;omega
     |some R=>
      rw[e]at h;cases h;split at e
      ·have:=aC _ _ _ e;omega
      ·cases e
  have:=sc _ _ _ h;have:=hl b;omega
theorem iN.nil{r:AV}{H:Hp}(i:Nat)(e:UY){sz:Nat}(hi:H.get i=none)(h0:0<sz)(hs:r=.raw (.slice none 0 0)):iN r H (.rs i 0 sz 0) (H.put i (.aD e sz [])):=fun w v h1 h2=>by
 obtain⟨w',e,a,b,c⟩:=dM.nil (F:=[r]) i 0 e hi h0 (.inl (by rw[hs];rfl)) w #[v] h1 ⟨rfl,fun k a x ha hx=>by
  match k with
  |0=>cases ha;cases hx;exact h2
  |k+1=>simp at ha⟩
 exact⟨w',e,a,b.2 0 _ v rfl rfl,c⟩
variable{P:U3}{F:US}
def zI{fn:Func}{out:US}{e:Exit}(i:Nat)(t:UY)(sz:Nat)(h0:0<sz)(rs:List ResultVar)(ZA:lJ out=.raw (.slice none 0 0))(ho:kf P ⟨[],[]⟩ F rs=some out)(hok:k8 P ⟨[],[]⟩ F rs)(Xx:fn.results.toList=rs:=by rfl)(he:e=.normal\/e=.ret:=by first|exact Or.inr rfl|exact Or.inl rfl|fail) :
  mw P fn (fun r l=>r=.rs i 0 sz 0/\l=[(i,.aD t sz [])]) e F ⟨[],[]⟩:=by
 subst Xx;exact vE he ho hok _ _ (iN.nil i t rfl h0 ZA) ⟨rfl,rfl⟩
variable{f:FuncId}{args':US}{H:Hp}{sz:Nat}{t:UY}{α:Type}{q:Prop}
def CO{args:US}{K:UP}[Inhabited α]{enc:α->US}[he:bD enc sz]{xs:List α}(i:Nat)(Wm:∀x,lB (enc x)=true)
  (hc:ab P f args' [] fun r l=>r=.rs i xs.length sz xs.length/\l=[(i,.aD t sz (xs.map enc))]) (hi:H.get i=none) (hv:∀w vs,aF w H->br w args vs->br (w.cX fun _=>true) args' vs) (k:q) (h0:aW P f=true:=by exact dz) (e:K (aO enc sz xs) H=q:=by exact fj):eQ P (.raw (.func (.func f) #[] #[])) args H K:=
 nS h0 (AI Wm hi hc hv (e ▸ k))
def Gl{w w':NW}{a b:AV}{vs:U0}(h:br w [a] vs)(hab:∀v,aw w a v->aw w' b v):br w' [b] vs:=⟨h.1,fun i x v hx hv=>by
 match i with
 |0=>cases hx;exact hab v (h.2 0 a v rfl hv)
 |i+1=>simp at hx⟩
variable{i n:Nat}
def HR{m o:Nat}[Inhabited α]{enc:α->US}[he:bD enc sz](l more:List α)(hi:H.get i=some (.aD t sz ((l++more).map enc)))(hm:m=l.length+more.length)(hn:o+n=l.length)(h0:0<sz):∀w vs,aF w H->br w [.rv i m sz o n] vs->br (w.cX fun _=>true) [aO enc sz (l.drop o)] vs:=fun w vs hw hv=>
 Gl hv fun v h=>by
  have:=Ju (d:=enc default) hw hi (by rw[List.length_map,List.length_append];exact hm) jB h0 (oJ (enc:=enc) (sz:=sz) _) h;have e:(((l++more).map enc).drop o).take n=(l.drop o).map enc:=by rw[<-List.map_drop,<-List.map_take,List.drop_append_of_le_length jB,List.take_append_of_le_length (by rw[List.length_drop];omega),List.take_of_length_le (by rw[List.length_drop];omega)]
  rw[e]at this;exact this
namespace MV
variable {p:ah}{C:aE}{m:MV}{N:NM}{e:UR}
def bI.Dl(hR:bI p C m N e)(h1:1<=m.calls.length)(b:Nat)(hb:b<=m.ai.stack.length):bI p C (m.cut b) (N.aX ⟨N.ai.c,N.ai.v,m.ai.stack.drop (m.ai.stack.length-b)++N.ai.jk⟩) (aZ e (hn 0 N.ai.c) (.var 217 (MV.cE (m.ai.cut b) ⟨N.ai.c,N.ai.v,m.ai.stack.drop (m.ai.stack.length-b)++N.ai.jk⟩))):=by
 have ht:=hR.ai h1;have Zj:=ht.bd;refine hR.aX h1 (c':=m.ai.cut b) rfl ?_ ⟨?_,?_,?_,?_⟩ (.inl rfl) fun j hj n0 n1 n2=>by rw[bO,if_neg n0]
 ·refine hR.ok.put (.inr (iJ _ _)) ?_;have i1:=fV ht.eN;have i2:=fV ht.cH;simp only[Row.cells,MV.cE,aR,AV.all,i1,i2,Bool.or_true,Bool.and_self]
 ·rw[bO,if_pos rfl]
 ·rw[bO,if_neg (dc jB jB jB)];show _=some (Row.aD _ 3 ((m.ai.stack.take (m.ai.stack.length-b)++(m.ai.stack.drop (m.ai.stack.length-b)++N.ai.jk)).map bW));rw[<-List.append_assoc,List.take_append_drop];exact ht.cH
 ·rw[bO,if_neg (dc jB jB jB)];exact ht.eN
 ·show(m.ai.stack.take (m.ai.stack.length-b)).length+(m.ai.stack.drop (m.ai.stack.length-b)++N.ai.jk).length<=2000;rw[List.length_take,List.length_append,List.length_drop];omega
end MV
namespace MV
variable {p:ah}{C:aE}{m:MV}{N:NM}{e:UR}
def bI.B0(hR:bI p C m N e){m':MV}(h1:m'.calls=m.calls)(h2:m'.heap=m.heap):bI p C m' N (aZ (aZ e (hn 8 N.k) (.aD 9 1 (m'.aS.map eS))) (hn 3 N.k) (.var 205 (mE p C m' N))):=by
 have kind:∀(a k:Nat) (r:Row),a≠3->a≠8->a<32->az e (hn a k)=some r->az (aZ (aZ e (hn 8 N.k) (.aD 9 1 (m'.aS.map eS))) (hn 3 N.k) (.var 205 (mE p C m' N))) (hn a k)=some r:=fun a k r h3 h8 WT h=>by rw[bO,if_neg (dc WT jB h3),bO,if_neg (dc WT jB h8)];exact h
 refine⟨?_,by rw[bO,if_pos rfl],kind _ _ _ jB jB jB hR.row,?_,?_,?_,?_,by rw[h1];exact hR.len,fun k hk=>?_,hR.nc,hR.nv,hR.bd⟩
 ·refine(hR.ok.put (.inr (iJ _ _)) (fR (q:=eo) (fun _ h=>by cases h) _ (pW (oJ (enc:=eS) (sz:=1) _)))).put (.inr (iJ _ _)) ?_;exact fR (fun j hj=>by rw[Bool.or_eq_true];exact .inr hj) _ (hR.gC (fun _ h=>(pc _ _ _ _).2 (.inr h)) m' N rfl)
 ·rw[h2];exact kind _ _ _ jB jB jB hR.hp
 ·rw[h2];exact kind _ _ _ jB jB jB hR.cells
 ·rw[h2];exact kind _ _ _ jB jB jB hR.ends
 ·rw[bO,if_neg (dc jB jB jB),bO,if_pos rfl]
 ·rw[h1]at hk ⊢;have hc:=hR.call k hk;exact⟨kind _ _ _ jB jB jB hc.var,kind _ _ _ jB jB jB hc.cH,kind _ _ _ jB jB jB hc.eN,hc.bd⟩
end MV
theorem cM.args{P:U3}{f:FuncId}{args args':US}{e l:UR}{r0:AV}(h:cM P f args' e r0 l)(hv:∀w vs,aF w (entry e)->br w args vs->br w args' vs)(ha:aR (fun i=>(ids e).contains i) args=true):cM P f args e r0 l:=⟨h.c.args hv,h.e1,h.e2,h.aU,ha⟩
theorem Ho:∀(l:UR) (i:Nat) (r r':Row),aZ (aZ l i r) i r'=aZ l i r'
 |[],i,r,r'=>by simp[aZ]
 |(j,s)::l,i,r,r'=>by
  show aZ (if i=j then(i,r)::l else(j,s)::aZ l i r) i r'=(if i=j then(i,r')::l else(j,s)::aZ l i r');by_cases e:i=j
  ·subst e;rw[if_pos rfl,if_pos rfl];simp[aZ]
  ·rw[if_neg e,if_neg e];show(if i=j then _ else(j,s)::aZ (aZ l i r) i r')=_;rw[if_neg e,Ho l i r r']
def OC(l:UR)(a k:Nat)(r r':Row):aZ (aZ l (hn a k) r) (hn a k) r'=aZ l (hn a k) r':=Ho _ _ _ _
namespace MV
variable {p:ah}{C:aE}{m:MV}{N:NM}{e:UR}
def OO(hR:bI p C m N e)(h1:1<=m.calls.length):bI p C m.ir N (aZ (aZ e (hn 3 N.k) (.var 205 (mE p C { m with status:=0 } N))) (hn 0 N.ai.c) (.var 217 (MV.cE { m.ai with mark:=m.ai.at_,at_:=m.ai.at_+1 } N.ai))):=
 (hR.mJ (m':={ m with status:=0 }) rfl rfl rfl).kz h1 (c':={ m.ai with mark:=m.ai.at_,at_:=m.ai.at_+1 }) rfl rfl
end MV
def S1{m o:Nat}[Inhabited α]{enc:α->US}[he:bD enc sz](l:List α)(hi:H.get i=some (.aD t sz (l.map enc)))(hm:m=l.length)(hn:o+n<=l.length)(h0:0<sz):∀w vs,aF w H->br w [.rv i m sz o n] vs->br (w.cX fun _=>true) [aO enc sz ((l.drop o).take n)] vs:=fun w vs hw hv=>
 Gl hv fun v h=>by have:=Ju (d:=enc default) hw hi (by rw[List.length_map];exact hm) jB h0 (oJ (enc:=enc) (sz:=sz) _) h;rw[<-List.map_drop,<-List.map_take]at this;exact this
def T8{h:UT}{k:Nat}(hk:k<h.length):(h.flatten.drop (kM h k)).take (nth h k).length=nth h k:=by
 have e:h.flatten=(h.take k).flatten++(nth h k++(h.drop (k+1)).flatten):=by rw[ee hk,<-List.flatten_cons,List.getElem_cons_drop,<-List.flatten_append,List.take_append_drop]
 rw[e];unfold kM;rw[List.drop_left,List.take_left]
def TB{fn:Func}{B:UW}{L:UR}{out:US}{ex:Exit}{r0:AV}{e l tl:UR}(hB:ids e=B)(k1:fF 0 e)(k2:fF 0 l)(hp:L=tie l tl)(hl:oF 0 tl)(rs:List ResultVar)(hv:dn (fO 0) ⟨B,tie l tl⟩ (lJ out) r0)
  (Xx:fn.results.toList=rs:=by rfl) (he:ex=.normal\/ex=.ret:=by first|exact Or.inr rfl|exact Or.inl rfl|fail) (ho:kf P ⟨B,L⟩ F rs=some out:=by first|rfl|(simp(disch:=first|omega|fail) only[go_sem,↓reduceIte,Nat.reduceEqDiff,Nat.reduceLeDiff,Nat.reduceSub,Nat.reduceAdd];rfl)) (hok:k8 P ⟨B,L⟩ F rs:=by first|exact jI|(simp(disch:=first|omega|fail) only[go_sem,↓reduceIte,Nat.reduceEqDiff,Nat.reduceLeDiff,Nat.reduceSub,Nat.reduceAdd])):mw P fn (fun r l'=>r=r0/\l'=l) ex F ⟨B,L⟩:=by
 subst Xx hp;obtain⟨h1,h2,h3⟩:=k1.free k2 hB hl;have:=iN.free (r:=lJ out) (r':=r0) (H:=⟨B,l++tl⟩) (Go.Gd.fO 0) h1 h2 hv;rw[show(Hp.mk B (l++tl)).l=l++tl from rfl,h3]at this;exact vE he ho hok r0 ⟨B,l⟩ this ⟨rfl,rfl⟩
def Fv{args:US}{R:AV->Prop}[Inhabited α]{enc:α->US}[he:bD enc sz]{xs:List α}(i:Nat)(Wm:∀x,lB (enc x)=true)
  (hc:ab P f args' [] fun r l=>r=.rs i xs.length sz xs.length/\l=[(i,.aD t sz (xs.map enc))]) (hi:H.get i=none) (hv:∀w vs,aF w H->br w args vs->br (w.cX fun _=>true) args' vs) (k:q) (h0:aW P f=true:=by exact dz) (e:R (aO enc sz xs)=q:=by exact fj):∃r,(eQ P (.raw (.func (.func f) #[] #[])) args H fun r' H'=>r'=r/\H'=H)/\R r:=
 ⟨_,nS h0 (AI (K:=fun r' H'=>r'=aO enc sz xs/\H'=H) Wm hi hc hv ⟨rfl,rfl⟩),e ▸ k⟩
def RH{A:AS}{args:US}{g:UP}{d:ix fun r H'=>eG A H H'/\g r H'}[Inhabited α]{enc:α->US}[he:bD enc sz]{xs:List α}(i:Nat)(Wm:∀x,lB (enc x)=true)
  (hc:ab P f args' [] fun r l=>r=.rs i xs.length sz xs.length/\l=[(i,.aD t sz (xs.map enc))]) (hi:H.get i=none) (hv:∀w vs,aF w H->br w args vs->br (w.cX fun _=>true) args' vs) (k:q) (h0:aW P f=true:=by exact dz) (e:g (aO enc sz xs) H=q:=by exact fj):eQ P (.raw (.func (.func f) #[] #[])) args H (AP (fun r H'=>eG A H H'/\g r H') d):=
 nS h0 (AI (K:=AP (fun r H'=>eG A H H'/\g r H') d) Wm hi hc hv ⟨eG.refl _ _,e ▸ k⟩)
def AY[Inhabited α]{enc:α->US}[he:bD enc sz](l:List α)(hi:H.get i=some (.aD t sz (l.map enc)))(hn:n=l.length):∀w vs,aF w H->br w [.rs i n sz n] vs->br (w.cX fun _=>true) [aO enc sz l] vs:=
 Sx ⟨dn.row (dd:=enc default) l rfl hi hn,trivial⟩
namespace MV
def fH(m:MV)(k:Nat):Int:=if(k:Int)=(m.calls.length:Int)-1 then(nth m.calls k).at_ else(nth m.calls k).mark
def spot(C:aE)(m:MV)(k:Nat):fh:=⟨(nth m.calls k).fn,(nth C.ins (m.fH k).toNat).a,(nth m.calls k).slots⟩
def cC(C:aE)(m:MV):gM:=⟨(List.range m.calls.length).map (m.spot C),m.heap,m.in_,m.aS,m.status,m.bs,m.time⟩
end MV
def MV.mQ:MV:=⟨[],0,[],0,[],0,0,0⟩
def xQ(p:ah)(C:aE)(k:Nat):UR:=
 [(hn 5 k,.var 269 [.rs (hn 6 k) 0 1 0,.rs (hn 7 k) 0 1 0]),(hn 3 k,.var 205 (MV.mE p C MV.mQ ⟨k,[],[]⟩)),(hn 4 k,.aD 213 1 []),(hn 8 k,.aD 9 1 []),(hn 6 k,.aD 3 1 []),(hn 7 k,.aD 3 1 [])]
def yA(p:ah)(C:aE)(k i:Nat):az (xQ p C k) i=if i=hn 5 k then some (.var 269 [.rs (hn 6 k) 0 1 0,.rs (hn 7 k) 0 1 0])else if i=hn 3 k then some (.var 205 (MV.mE p C MV.mQ ⟨k,[],[]⟩))else if i=hn 4 k then some (.aD 213 1 [])else if i=hn 8 k then some (.aD 9 1 [])else if i=hn 6 k then some (.aD 3 1 [])else if i=hn 7 k then some (.aD 3 1 [])else none:=rfl
def B5(p:ah)(C:aE)(k:Nat):ids (xQ p C k)=[hn 5 k,hn 3 k,hn 4 k,hn 8 k,hn 6 k,hn 7 k]:=rfl
def Pr(p:ah)(C:aE)(k:Nat):MV.bI p C MV.mQ ⟨k,[],[]⟩ (xQ p C k):=by
 have nd:∀a b:Nat,a<32->b<32->a≠b->hn a k≠hn b k:=fun a b ha hb h=>dc ha hb h
 have ok:fF 0 (xQ p C k):=by
  refine⟨fun i _ hi=>?_,?_,fun i r hi=>?_⟩
  ·rw[yA];have g:=fun a=>iJ a k
   rw[if_neg (by have:=g 5;omega),if_neg (by have:=g 3;omega),if_neg (by have:=g 4;omega),if_neg (by have:=g 8;omega),if_neg (by have:=g 6;omega),if_neg (by have:=g 7;omega)]
  ·rw[B5];simp[hn]
  ·rw[B5];rw[yA]at hi;have up:aR (fun j=>[hn 5 k,hn 3 k,hn 4 k,hn 8 k,hn 6 k,hn 7 k].contains j) (kD p)=true:=fR (q:=eo) (fun _ h=>by cases h) _ rfl;split at hi
   ·cases hi;simp[Row.cells,aR,AV.all]
   ·split at hi
    ·cases hi;show aR _ (MV.mE _ _ _ _)=true;unfold MV.mE;rw[s9,up];simp[aR,AV.all,aO]
    ·split at hi
     ·cases hi;rfl
     ·split at hi
      ·cases hi;rfl
      ·split at hi
       ·cases hi;rfl
       ·split at hi
        ·cases hi;rfl
        ·cases hi
 refine⟨ok,?_,?_,?_,?_,?_,?_,rfl,(fun k hk=>by cases hk),List.nodup_nil,List.nodup_nil,by show 0+0<=1000;omega⟩;all_goals rw[yA]
 ·rw[if_neg (nd 3 5 jB jB jB),if_pos rfl]
 ·rw[if_neg (nd 4 5 jB jB jB),if_neg (nd 4 3 jB jB jB),if_pos rfl];rfl
 ·rw[if_pos rfl];rfl
 ·rw[if_neg (nd 6 5 jB jB jB),if_neg (nd 6 3 jB jB jB),if_neg (nd 6 4 jB jB jB),if_neg (nd 6 8 jB jB jB),if_pos rfl];rfl
 ·rw[if_neg (nd 7 5 jB jB jB),if_neg (nd 7 3 jB jB jB),if_neg (nd 7 4 jB jB jB),if_neg (nd 7 8 jB jB jB),if_neg (nd 7 6 jB jB jB),if_pos rfl];rfl
 ·rw[if_neg (nd 8 5 jB jB jB),if_neg (nd 8 3 jB jB jB),if_neg (nd 8 4 jB jB jB),if_pos rfl];rfl
def TL(p:ah)(C:aE)(k:Nat)(r9:Row):dM F ⟨[],[(9,r9),(hn 5 k,.var 269 [.raw (.slice none 0 0),.raw (.slice none 0 0)]),(hn 3 k,.var 205 (kD p++[aO df 4 C.ins,aO eI 1 C.entry,.raw (.slice none 0 0),.pt (hn 5 k) 0 0 0,.raw (.slice none 0 0),.raw (.int .i64 0),.raw (.int .i64 0),.raw (.int .i64 0),.raw (.int .i64 0)]))]⟩ F ⟨[],tie (xQ p C k) [(9,r9)]⟩:=by
 have n9:∀a,hn a k≠9:=fun a e=>by have:=iJ a k;omega
 have nd:∀a b:Nat,a<32->b<32->a≠b->hn a k≠hn b k:=fun a b ha hb h=>dc ha hb h
 have s1:=dM.fz (F:=F) (H:=⟨[],[(9,r9),(hn 5 k,.var 269 [.raw (.slice none 0 0),.raw (.slice none 0 0)]),(hn 3 k,.var 205 (kD p++[aO df 4 C.ins,aO eI 1 C.entry,.raw (.slice none 0 0),.pt (hn 5 k) 0 0 0,.raw (.slice none 0 0),.raw (.int .i64 0),.raw (.int .i64 0),.raw (.int .i64 0),.raw (.int .i64 0)]))]⟩) (hn 4 k) (hn 3 k) 8 213 1 (t:=205) (cs:=kD p++[aO df 4 C.ins,aO eI 1 C.entry,.raw (.slice none 0 0),.pt (hn 5 k) 0 0 0,.raw (.slice none 0 0),.raw (.int .i64 0),.raw (.int .i64 0),.raw (.int .i64 0),.raw (.int .i64 0)])
  (by show az _ _=_;simp only[az,if_neg (n9 4),if_neg (nd 4 5 jB jB jB),if_neg (nd 4 3 jB jB jB)]) jC (by show az _ _=_;simp only[az,if_neg (n9 3),if_neg (nd 3 5 jB jB jB),if_pos]) rfl
 have s2:=dM.fz (F:=F) (H:=(((⟨[],[(9,r9),(hn 5 k,.var 269 [.raw (.slice none 0 0),.raw (.slice none 0 0)]),(hn 3 k,.var 205 (kD p++[aO df 4 C.ins,aO eI 1 C.entry,.raw (.slice none 0 0),.pt (hn 5 k) 0 0 0,.raw (.slice none 0 0),.raw (.int .i64 0),.raw (.int .i64 0),.raw (.int .i64 0),.raw (.int .i64 0)]))]⟩:Hp).put (hn 4 k) (.aD 213 1 [])).put (hn 3 k) (.var 205 (kD p++[aO df 4 C.ins,aO eI 1 C.entry,.rs (hn 4 k) 0 1 0,.pt (hn 5 k) 0 0 0,.raw (.slice none 0 0),.raw (.int .i64 0),.raw (.int .i64 0),.raw (.int .i64 0),.raw (.int .i64 0)])))) (hn 8 k) (hn 3 k) 10 9 1 (t:=205) (cs:=kD p++[aO df 4 C.ins,aO eI 1 C.entry,.rs (hn 4 k) 0 1 0,.pt (hn 5 k) 0 0 0,.raw (.slice none 0 0),.raw (.int .i64 0),.raw (.int .i64 0),.raw (.int .i64 0),.raw (.int .i64 0)])
  (by rw[Hp.bj,if_neg (nd 8 3 jB jB jB),Hp.bj,if_neg (nd 8 4 jB jB jB)];show az _ _=_;simp only[az,if_neg (n9 8),if_neg (nd 8 5 jB jB jB),if_neg (nd 8 3 jB jB jB)]) jC (by rw[Hp.bj,if_pos rfl]) rfl
 have s3:=dM.fz (F:=F) (H:=((((((⟨[],[(9,r9),(hn 5 k,.var 269 [.raw (.slice none 0 0),.raw (.slice none 0 0)]),(hn 3 k,.var 205 (kD p++[aO df 4 C.ins,aO eI 1 C.entry,.raw (.slice none 0 0),.pt (hn 5 k) 0 0 0,.raw (.slice none 0 0),.raw (.int .i64 0),.raw (.int .i64 0),.raw (.int .i64 0),.raw (.int .i64 0)]))]⟩:Hp).put (hn 4 k) (.aD 213 1 [])).put (hn 3 k) (.var 205 (kD p++[aO df 4 C.ins,aO eI 1 C.entry,.rs (hn 4 k) 0 1 0,.pt (hn 5 k) 0 0 0,.raw (.slice none 0 0),.raw (.int .i64 0),.raw (.int .i64 0),.raw (.int .i64 0),.raw (.int .i64 0)])))).put (hn 8 k) (.aD 9 1 [])).put (hn 3 k) (.var 205 (kD p++[aO df 4 C.ins,aO eI 1 C.entry,.rs (hn 4 k) 0 1 0,.pt (hn 5 k) 0 0 0,.rs (hn 8 k) 0 1 0,.raw (.int .i64 0),.raw (.int .i64 0),.raw (.int .i64 0),.raw (.int .i64 0)]))))
  (hn 6 k) (hn 5 k) 0 3 1 (t:=269) (cs:=[.raw (.slice none 0 0),.raw (.slice none 0 0)])
  (by rw[Hp.bj,if_neg (nd 6 3 jB jB jB),Hp.bj,if_neg (nd 6 8 jB jB jB),Hp.bj,if_neg (nd 6 3 jB jB jB),Hp.bj,if_neg (nd 6 4 jB jB jB)];show az _ _=_;simp only[az,if_neg (n9 6),if_neg (nd 6 5 jB jB jB),if_neg (nd 6 3 jB jB jB)]) jC
  (by rw[Hp.bj,if_neg (nd 5 3 jB jB jB),Hp.bj,if_neg (nd 5 8 jB jB jB),Hp.bj,if_neg (nd 5 3 jB jB jB),Hp.bj,if_neg (nd 5 4 jB jB jB)];show az _ _=_;simp only[az,if_neg (n9 5),if_pos]) rfl
 refine s1.trans (s2.trans (s3.trans ?_));refine dM.trans (dM.fz (hn 7 k) (hn 5 k) 1 3 1 (t:=269) (cs:=[.rs (hn 6 k) 0 1 0,.raw (.slice none 0 0)]) ?_ jC ?_ rfl) (dM.perm _ fun i=>?_)
 ·simp only[Hp.bj,if_neg (nd 7 5 jB jB jB),if_neg (nd 7 6 jB jB jB),if_neg (nd 7 3 jB jB jB),if_neg (nd 7 8 jB jB jB),if_neg (nd 7 4 jB jB jB)];show az _ _=_;simp only[az,if_neg (n9 7),if_neg (nd 7 5 jB jB jB),if_neg (nd 7 3 jB jB jB)]
 ·rw[Hp.bj,if_pos rfl];rfl
 ·simp only[Hp.put,bO,kg,yA];by_cases a5:i=hn 5 k
  ·simp only[if_pos a5];rfl
  simp only[if_neg a5];by_cases a7:i=hn 7 k
  ·subst a7;simp(disch:=omega) only[go_sem,↓reduceIte]
  simp only[if_neg a7];by_cases a6:i=hn 6 k
  ·subst a6;simp(disch:=omega) only[go_sem,↓reduceIte]
  simp only[if_neg a6];by_cases a3:i=hn 3 k
  ·simp only[if_pos a3];rfl
  simp only[if_neg a3];by_cases a8:i=hn 8 k
  ·subst a8;simp(disch:=omega) only[go_sem,↓reduceIte]
  simp only[if_neg a8];by_cases a4:i=hn 4 k
  ·subst a4;simp(disch:=omega) only[go_sem,↓reduceIte]
  simp only[if_neg a4,az,if_neg a5,if_neg a3,Option.none_or]
end Go.Gd
namespace Go.Proofs.YtjpcgmjaipfgdaaGreatDoor
open Go Go.Gd Tryz
theorem BD{p:ah}(h:gF p):∀(j i:Nat),j<p.aa.ak.length->i<j->(nth p.aa.ak i).body.toNat<kW p.aa j
 |0,i,_,h2=>by omega
 |j+1,i,h1,h2=>by
  have hc:=(h.ak j jB).chain.le;have e:kW p.aa (j+1)=(nth p.aa.ak j).body.toNat+1:=by unfold kW;rw[jN];rfl
  rw[e];by_cases k:i=j
  ·subst k;omega
  ·have:=BD h j i jB jB;omega
variable{p:ah}
def LD(h:gF p){i j:Nat}(hi:i<p.aa.ak.length)(hj:j<p.aa.ak.length){a:Nat}(h1:kW p.aa i<=a)(h2:a<=(nth p.aa.ak i).body.toNat)(h3:kW p.aa j<=a)(h4:a<=(nth p.aa.ak j).body.toNat):i=j:=by
 rcases Nat.lt_trichotomy i j with k|k|k
 ·have:=BD h j i hj k;omega
 ·exact k
 ·have:=BD h i j hi k;omega
def tn(p:ah)(j:Nat)(v:ba):Prop:=0<=v.slot/\v.slot<nth p.size j
def TA(h:nC p){x:Int}(hx:x.toNat<p.aa.nodes.length)(kb:(nth p.aa.nodes x.toNat).kind=15\/(nth p.aa.nodes x.toNat).kind=16):∀y∈(nth p.aa.nodes x.toNat).l.drop 1,bT p.aa.nodes y=18:=fun y hy=>by
 have shx:=h.aa.shape x.toNat hx;rcases kb with kb|kb
 ·obtain⟨a,c,_,hb,hl|⟨d,hl,hd⟩⟩:=shx.1.lC kb
  ·rw[hl]at hy;simp at hy;subst hy;exact hb
  ·rw[hl]at hy;simp at hy;rcases hy with rfl|rfl
   ·exact hb
   ·exact hd
 ·obtain⟨a,c,hl,_,hb⟩:=shx.1.dP kb;rw[hl]at hy;simp at hy;subst hy;exact hb
theorem EF{p:ah}(h:gF p){j:Nat}(hj:j<p.aa.ak.length)(node:Int):∀(n:Nat) (b:Int) (vars R:List ba),mb p j ⟨b,0⟩->(∀v∈vars,tn p j v)->gv p node n b vars=some R->(∀v∈R,tn p j v)/\kW p.aa j<=node.toNat/\node.toNat<=(nth p.aa.ak j).body.toNat
 |0,b,vars,R,_,_,e=>by cases e
 |n+1,b,vars,R,hb,hv,e=>by
  have ih:=EF h hj node n;have hf:=h.ak j hj;have aC:∀(l:UU) (vs R:List ba),(∀y∈l,mb p j ⟨y,0⟩)->(∀v∈vs,tn p j v)->ld (gv p node n) vs l=some R->(∀v∈R,tn p j v)/\kW p.aa j<=node.toNat/\node.toNat<=(nth p.aa.ak j).body.toNat:=fun l=>by
   induction l with
   |nil=>intro vs R _ _ e;cases e
   |cons y l ihl=>
    intro vs R hl V' e;unfold ld at e;cases e1:gv p node n y vs with
    |none=>rw[e1]at e;exact ihl vs R (fun z hz=>hl z (by simp[hz])) V' e
    |some R'=>rw[e1]at e;cases e;exact ih y vs _ (hl y jE) V' e1
  have sc:∀(l:UU) (vs R:List ba),(∀x∈l,x∈wP p b)->(∀v∈vs,tn p j v)->mV (gv p node n) p node l vs=some R->(∀v∈R,tn p j v)/\kW p.aa j<=node.toNat/\node.toNat<=(nth p.aa.ak j).body.toNat:=fun l=>by
   induction l with
   |nil=>intro vs R _ _ e;cases e
   |cons x l ihl=>
    intro vs R hx V' e;obtain⟨x0,x1,x2,x3⟩:=hb.aC h (by omega:(0:Int)<=j) jB (hx x jE);have x1:x.toNat<b.toNat:=x1;have x2:kW p.aa j<=x.toNat:=by rw[Int.toNat_natCast]at x2;exact x2
    have XS:b.toNat<=(nth p.aa.ak j).body.toNat:=by have:=hb.hi;rw[Int.toNat_natCast]at this;exact this
    have Wa:=ou h.ok.aa hj;have Yj:x.toNat<p.aa.nodes.length:=by have:=Wa.1;have:=Wa.2;omega
    have WM:∀v∈iC p x vs,tn p j v:=fun v Ve=>by
     unfold iC at Ve;split at Ve
     ·rename_i k10;rcases List.mem_append.1 Ve with Ve|Ve
      ·exact V' v Ve
      ·rw[List.mem_singleton]at Ve;subst Ve;have k10:(nth p.aa.nodes x.toNat).kind=10:=k10;exact hf.all x.toNat x2 jB (by unfold ju;omega)
     ·exact V' v Ve
    unfold mV at e;split at e
    ·rename_i ex;cases e;rw[<-ex];exact⟨V',x2,jB⟩
    ·cases e1:(if(ap p x).kind=15\/(ap p x).kind=16 then ld (gv p node n) (iC p x vs) ((ap p x).l.drop 1)else none)with
     |none=>rw[e1]at e;exact ihl _ R (fun y hy=>hx y (by simp[hy])) WM e
     |some R'=>
      rw[e1]at e;cases e;split at e1
      ·rename_i kb;refine aC _ _ _ (fun y hy=>?_) WM e1;have YG:y∈(nth p.aa.nodes x.toNat).l:=List.mem_of_mem_drop hy;have ZG:=(h.ok.aa.shape x.toNat Yj).2.1 y YG;have P':=hf.chain.closed x.toNat x2 jB y YG;exact⟨ZG.1,by rw[Int.toNat_natCast];exact P',by rw[Int.toNat_natCast];show y.toNat<=_;omega,TA h.ok Yj kb y hy,Int.le_refl _,by show(0:Int)<=_;omega⟩
      ·cases e1
  exact sc (ap p b).l vars R (fun x hx=>hx) hv e
theorem FO{z:Int}:∀(l:List bp) (i:Int),0<=i->i+l.length<=z->∀v∈iw l i,0<=v.slot/\v.slot<z
 |[],i,_,_,v,hv=>by cases hv
 |x::l,i,h0,h1,v,hv=>by
  simp only[List.length_cons]at h1;simp only[iw,List.mem_cons]at hv;rcases hv with rfl|hv
  ·exact⟨h0,by show i<z;omega⟩
  ·exact FO l (i+1) jB jB v hv
def NP(h:gF p)(VB:∀k,k<p.aa.nodes.length->0<=nth p.fn k/\nth p.fn k<p.aa.ak.length){node:Int}(h1:node.toNat<p.aa.nodes.length){j:Nat}(hj:j<p.aa.ak.length)(h2:kW p.aa j<=node.toNat)(h3:node.toNat<=(nth p.aa.ak j).body.toNat):∀v∈dV p node,tn p j v:=by
 obtain⟨f0,f1⟩:=VB _ h1;have XF:(nth p.fn node.toNat).toNat<p.aa.ak.length:=jB;have Wa:=ou h.ok.aa XF;have hf:=h.ak _ XF;unfold dV;cases e:gv p node p.aa.nodes.length (nth p.aa.ak (nth p.fn node.toNat).toNat).body (iw (nth p.aa.ak (nth p.fn node.toNat).toNat).params 0)with
 |none=>intro v hv;cases hv
 |some R=> obtain⟨a,b,c⟩:=EF h XF node _ _ _ R ⟨Wa.1,by rw[Int.toNat_natCast];exact hf.chain.le,by rw[Int.toNat_natCast];exact Nat.le_refl _,h.ok.aa.body _ (cV XF),Int.le_refl _,by show(0:Int)<=_;omega⟩ (FO _ _ (Int.le_refl _) (by have:=hf.xR;omega)) e;rw[LD h hj XF h2 h3 b c];exact a
def wb(h:nC p)(VB:∀k,k<p.aa.nodes.length->0<=nth p.fn k/\nth p.fn k<p.aa.ak.length){node:Int}(h1:node.toNat<p.aa.nodes.length):(dV p node).length<=100000:=by
 obtain⟨f0,f1⟩:=VB _ h1;have XF:(nth p.fn node.toNat).toNat<p.aa.ak.length:=jB;have hps:=(h.aa.fn _ (cV XF)).2;have hm:=h.aa.many;unfold dV;cases e:gv p node p.aa.nodes.length (nth p.aa.ak (nth p.fn node.toNat).toNat).body (iw (nth p.aa.ak (nth p.fn node.toNat).toNat).params 0)with
 |none=>exact Nat.zero_le _
 |some R=> have:=Kf (zp h) _ _ _ _ e;rw[yp]at this;show R.length<=_;omega
def OT(l:List UX)(hl:l.length<=1000)(i:Nat):ab prog 119 [aO eS 1 l] [] (fun r l'=>r=.rs i l.length 1 l.length/\l'=[(i,.aD 9 1 (l.map eS))]):=by
 refine aK func119 ntmps119 ?_
 (repeat' (first|refine au fun K hK=>?_|refine aq ?_|(refine hK _ _ ?_;clear hK K)|(refine ar ?_ ?_<;>intro hc<;>try exact jz)|(with_reducible refine fun(b:Bool) hb=>?_)|refine vH i ?_|refine av ?_|exact jI|(clear hK K)))
 ·have VM:l=[]:=by simpa using hb hc
  subst VM;exact zI i 9 1 jC [.tmp 2] rfl rfl trivial
 ·(refine bL [.tmp 2] ?_ ?_<;>(try simp only[go_sem]))
def JZ(l:List (aj))(hl:l.length<=1000)(i:Nat):ab prog 120 [aO bW 3 l] [] (fun r l'=>r=.rs i l.length 3 l.length/\l'=[(i,.aD 54 3 (l.map bW))]):=by
 refine aK func120 ntmps120 ?_
 (repeat' (first|refine au fun K hK=>?_|refine aq ?_|(refine hK _ _ ?_;clear hK K)|(refine ar ?_ ?_<;>intro hc<;>try exact jz)|(with_reducible refine fun(b:Bool) hb=>?_)|refine vH i ?_|refine av ?_|exact jI|(clear hK K)))
 ·have VM:l=[]:=by simpa using hb hc
  subst VM;exact zI i 54 3 jC [.tmp 2] rfl rfl trivial
 ·(refine bL [.tmp 2] ?_ ?_<;>(try simp only[go_sem]))
def RI(l:List (Int))(hl:l.length<=1000)(i:Nat):ab prog 55 [aO eI 1 l] [] (fun r l'=>r=.rs i l.length 1 l.length/\l'=[(i,.aD 3 1 (l.map eI))]):=by
 refine aK func55 ntmps55 ?_
 (repeat' (first|refine au fun K hK=>?_|refine aq ?_|(refine hK _ _ ?_;clear hK K)|(refine ar ?_ ?_<;>intro hc<;>try exact jz)|(with_reducible refine fun(b:Bool) hb=>?_)|refine vH i ?_|refine av ?_|exact jI|(clear hK K)))
 ·have VM:l=[]:=by simpa using hb hc
  subst VM;exact zI i 3 1 jC [.tmp 2] rfl rfl trivial
 ·(refine bL [.tmp 2] ?_ ?_<;>(try simp only[go_sem]))
end Go.Proofs.YtjpcgmjaipfgdaaGreatDoor
namespace Go.Proofs.YtjpcgmjaipfgdaaGreatDoor
open Go Go.Gd Tryz Go.Gd.MV
section
variable {p:ah}{C:aE}{m:MV}{N:NM}{e:UR}(X:UW)
def Oe(hR:bI p C m N e)(h1:1<=m.calls.length)(x:ax)(hx:¬(x.op=20\/x.op=21\/x.op=22)):cM prog 168 [mP N,cP N,.agg (df x)] e (rB false) e:=by
 have P':=hR.ok.low;refine⟨?_,hR.ok,hR.ok,fun _ h=>h,iu hR h1 rfl⟩;refine aK (L:=ids e) func168 ntmps168 ?_ (hL:=rfl);generalize hB:ids e=B;refine eK ?_
 (have W:=P';repeat' (first|refine au fun K hK=>?_|refine aq ?_|(refine hK _ _ ?_;clear hK K)|(refine ar ?_ ?_<;>intro hc<;>try exact jz)|refine cL 9 ?_|refine av ?_|exact jI|(clear hK K)))
 exact eu hB hR.ok hR.ok (fun _=>rfl) (du jC dL) [.tmp 6]
def Rl(h1:1<=m.calls.length)(b:Nat)(hd:∀k,k<m.calls.length->(nth m.calls k).stack.length<=1000):∀k,k<(m.cut b).calls.length->(nth (m.cut b).calls k).stack.length<=1000:=fun k hk=>by
 have hl:(m.cut b).calls.length=m.calls.length:=MV.bP _ _;have e1:nth (m.cut b).calls k=if k=m.calls.length-1 then m.ai.cut b else nth m.calls k:=Go.Gd.dD _ _ _ _ jB
 rw[e1];split
 ·show(m.ai.stack.take _).length<=_;have:m.ai.stack.length<=1000:=hd (m.calls.length-1) jB;rw[List.length_take];omega
 ·exact hd k jB
def zE(x:aj):lB (bW x)=true:=rfl
def M4(hR:bI p C m N e)(inp:UU)(x:ax)(hk:p7 p C m x)(hx:x.op=20\/x.op=21\/x.op=22):lf prog 168 [mP N,cP N,.agg (df x)] e X (rB true) (fun N' l=>bI p C (m.ins p C inp x) N' l/\N'.k=N.k):=by
 have h1:=hk.calls;have P':=hR.ok.low;have hT:=hR.ai h1;have hl:=hR.len;by_cases h22:x.op=22
 ·have ei:m.ins p C inp x=m.ends (vZ x.a):=Kv _ _ _ _ _ h22;rw[ei];obtain⟨N',l,U',hU,hp⟩:=I0 X hR h1 (vZ x.a) hk.deep;refine⟨N',l,U',hU,⟨?_,hR.ok,hp.e2,hU.aU,iu hR h1 rfl⟩⟩;refine aK (L:=ids e) func168 ntmps168 ?_ (hL:=rfl);generalize hB:ids e=B;refine eK ?_
  (have W:=P';repeat' (first|refine au fun K hK=>?_|refine aq ?_|(refine hK _ _ ?_;clear hK K)|(refine ar ?_ ?_<;>intro hc<;>try exact jz)|refine cL 9 ?_|refine cp (Ao _) ?_|refine cT hp ?_|refine av ?_|exact jI|(clear hK K)))
  exact eu hB hR.ok hp.e2 (fun _=>rfl) (du jC dL) [.tmp 6]
 by_cases h21:x.op=21
 ·have ei:m.ins p C inp x=(m.cut 1).ends m.ai.last:=JR _ _ _ _ _ h21;rw[ei];obtain⟨N1,l1,U',Vv,Wh⟩:=Kg X hR h1 (hk.one jB);have ZY:1<=(m.cut 1).calls.length:=by rw[show(m.cut 1).calls.length=m.calls.length from MV.bP _ _];exact h1
  obtain⟨N',l,VQ,hU,hp⟩:=I0 X U'.1 ZY m.ai.last (Rl h1 1 hk.deep);rw[show mP N1=mP N by unfold mP;rw[U'.2.1]]at hp;have Vt:=U'.1.ok.low;refine⟨N',l,⟨VQ.1,VQ.2.trans U'.2.1⟩,Vv.trans hU,⟨?_,hR.ok,hp.e2,(Vv.trans hU).aU,iu hR h1 rfl⟩⟩;refine aK (L:=ids e) func168 ntmps168 ?_ (hL:=rfl);generalize hB:ids e=B;refine eK ?_
  (have W:=jA P' Vt;repeat' (first|refine au fun K hK=>?_|refine aq ?_|(refine hK _ _ ?_;clear hK K)|(refine ar ?_ ?_<;>intro hc<;>try exact jz)|refine cL 9 ?_|refine cT Wh ?_|refine cT hp ?_|refine av ?_|exact jI|(clear hK K)))
  exact eu hB hR.ok hp.e2 (fun _=>rfl) (du jC dL) [.tmp 6]
 have h20:x.op=20:=jB;obtain⟨c1,c2,c3⟩:=hk.call h20;obtain⟨b,hb⟩:∃b:Nat,x.b=b:=⟨x.b.toNat,jB⟩;have Zt:x.b.toNat=b:=jB;rw[Zt]at c3;have WQ:b<=m.ai.stack.length:=jB;have hdp:=hk.ai;have V8:=hR.Dl h1 b WQ;have Vv:Up X e (aZ e (hn 0 N.ai.c) (.var 217 (MV.cE (m.ai.cut b) ⟨N.ai.c,N.ai.v,m.ai.stack.drop (m.ai.stack.length-b)++N.ai.jk⟩))):=Up.put _ (.inl (by rw[hT.var];simp));have eC:MV.cE (m.ai.cut b) ⟨N.ai.c,N.ai.v,m.ai.stack.drop (m.ai.stack.length-b)++N.ai.jk⟩=[.rs (hn 2 N.ai.v) (m.ai.stack.length+N.ai.jk.length) 3 (m.ai.stack.length-b),.raw (.int .i64 m.ai.fn),.raw (.int .i64 m.ai.at_),.raw (.int .i64 m.ai.mark),.rs (hn 1 N.ai.c) m.ai.slots.length 3 m.ai.slots.length]:=by
  have e1:(m.ai.cut b).stack.length=m.ai.stack.length-b:=by show(m.ai.stack.take _).length=_;rw[List.length_take];omega
  unfold MV.cE;rw[e1,List.length_append,List.length_drop,show m.ai.stack.length-b+(m.ai.stack.length-(m.ai.stack.length-b)+N.ai.jk.length)=m.ai.stack.length+N.ai.jk.length from jB];rfl
 rw[eC]at V8 Vv;have U9:=JZ (m.ai.stack.drop (m.ai.stack.length-b)) (by rw[List.length_drop];omega) 10;have Xq:(m.cut b).calls.length=m.calls.length:=MV.bP _ _;have Vt:=V8.ok.low;by_cases h8:8<=m.calls.length
 ·have ei:m.ins p C inp x=(m.cut b).stops 3 3:=by rw[Bw _ _ _ _ _ h20,if_pos h8,Zt]
  rw[ei];obtain⟨N',l,VQ,hU,hp⟩:=wY X V8 jB 3 3;refine⟨N',l,⟨VQ.1,VQ.2.1⟩,Vv.trans hU,⟨?_,hR.ok,hp.e2,(Vv.trans hU).aU,iu hR h1 rfl⟩⟩;clear eC Vv hU;refine aK (L:=ids e) func168 ntmps168 ?_ (hL:=rfl);generalize hB:ids e=B;refine eK ?_
  (have W:=jA P' (jA hR.root (jA hT.var (hb)));repeat' (first|refine au fun K hK=>?_|refine aq ?_|(with_reducible refine gR 4 ?_);refine dE 4 (bf 0 10) mixed ?_|(refine hK _ _ ?_;clear hK K)|(refine ar ?_ ?_<;>intro hc<;>try exact jz)|refine cL 9 ?_|refine CO 10 zE U9 (by show az (tie _ _) _=_;rw[kg,P' _ jC];rfl) (HR m.ai.stack N.ai.jk (by show az (tie _ _) _=_;rw[kg,hT.cH];rfl) rfl jB jC) ?_|refine cT hp ?_|refine av ?_|exact jI|(clear hK K)))
  exact eu hB hR.ok hp.e2 (fun _=>rfl) (du jC dL) [.tmp 6]
 ·have ei:m.ins p C inp x=(m.cut b).cB p C x.a (m.ai.stack.drop (m.ai.stack.length-b)):=by rw[Bw _ _ _ _ _ h20,if_neg h8,Zt]
  rw[ei];obtain⟨f0,f1,f2,s0,s1,s2,b1,h8'⟩:=c3 jB;obtain⟨N',l,VQ,hU,hp⟩:=Hz X V8 x.a (m.ai.stack.drop (m.ai.stack.length-b)) ⟨f0,f1,f2,s0,s1,s2,b1,by rw[Xq];exact h8'⟩;refine⟨N',l,⟨VQ.1,VQ.2⟩,Vv.trans hU,⟨?_,hR.ok,hp.e2,(Vv.trans hU).aU,iu hR h1 rfl⟩⟩;clear eC Vv hU;refine aK (L:=ids e) func168 ntmps168 ?_ (hL:=rfl);generalize hB:ids e=B;refine eK ?_
  (have W:=jA P' (jA hR.root (jA hT.var (hb)));repeat' (first|refine au fun K hK=>?_|refine aq ?_|(with_reducible refine gR 4 ?_);refine dE 4 (bf 0 10) mixed ?_|(refine hK _ _ ?_;clear hK K)|(refine ar ?_ ?_<;>intro hc<;>try exact jz)|refine cL 9 ?_|refine CO 10 zE U9 (by show az (tie _ _) _=_;rw[kg,P' _ jC];rfl) (HR m.ai.stack N.ai.jk (by show az (tie _ _) _=_;rw[kg,hT.cH];rfl) rfl jB jC) ?_|refine cT hp ?_|refine av ?_|exact jI|(clear hK K)))
  exact eu hB hR.ok hp.e2 (fun _=>rfl) (du jC dL) [.tmp 6]
end
def QO{α:Type}[Inhabited α]{l:List α}{k:Nat}(h:k<l.length):nth l k∈l:=by rw[ee h];exact List.getElem_mem _
def Q5{p:ah}{C:aE}{m:MV}{n:Nat}(h:Bd n m)(hn:n<=1000)(hok:m.fN p C)(hC:C.entry.length<=1000)(hP:p.size.length<=1000):p7 p C (m.aX (m.ai.jump (m.ai.at_+1))) (m.bt C):=by
 have h1:=hok.calls;have ht:(m.aX (m.ai.jump (m.ai.at_+1))).ai=m.ai.jump (m.ai.at_+1):=MV.bn h1 _;have hl:(m.aX (m.ai.jump (m.ai.at_+1))).calls.length=m.calls.length:=MV.bP _ _;have O':(m.ai.jump (m.ai.at_+1)).stack=m.ai.stack:=rfl;have VX:(m.ai.jump (m.ai.at_+1)).slots=m.ai.slots:=rfl;have Xj:(m.ai.jump (m.ai.at_+1)).last=m.ai.last:=rfl;refine⟨by rw[hl];exact h1,by rw[hl];exact hok.nO,?_,?_,?_,fun h20=>?_,?_,?_,fun k hk=>?_,?_,h.heap,h.outs,h.nV,by have:=h.og;show m.in_<=1000;omega⟩
 ·rw[ht,O'];exact hok.one
 ·rw[ht,O'];exact hok.two
 ·rw[ht,VX];exact hok.slot
 ·obtain⟨c1,c2,c3,c4,c5,c6,c7,c8,c9⟩:=hok.call h20;rw[ht,O'];refine⟨c1,c2,fun h8=>⟨c4,c5,c6,c7,c8,?_,⟨hC,hP⟩,hok.nO |> (by rw[hl];exact·)⟩⟩;rw[List.length_drop];omega
 ·rw[ht,Xj];exact hok.word
 ·rw[ht,O'];exact hok.jo
 ·rw[hl]at hk;have e:nth (m.aX (m.ai.jump (m.ai.at_+1))).calls k=if k=m.calls.length-1 then m.ai.jump (m.ai.at_+1)else nth m.calls k:=Go.Gd.dD _ _ _ _ jB
  rw[e];split
  ·exact hok.deep
  ·exact h.deep k jB
 ·rw[ht,VX];exact h.ai h1
def OB{h:UT}{a i:Int}(hi:¬(i<0\/((MV.bc h a).length:Int)<=i)):(a-1).toNat<h.length/\i.toNat<(nth h (a-1).toNat).length:=by
 unfold MV.bc at hi;by_cases e:a<1\/(h.length:Int)<a
 ·rw[if_pos e]at hi;simp only[List.length_nil]at hi;omega
 ·rw[if_neg e]at hi;omega
def UM{p:ah}{C:aE}{m:MV}{inp:UU}{x:ax}(h:Bd inp.length m)(hk:p7 p C m x):Bd inp.length (m.ins p C inp x):=by
 have h1:=hk.calls;have Wk:∀k,(m.cut k).calls.length=m.calls.length:=fun k=>MV.bP _ _
 have hc:∀k,Bd inp.length (m.cut k):=fun k=>h.cut h1 k
 have VC:∀k,1<=(m.cut k).calls.length:=fun k=>by rw[Wk];exact h1
 by_cases a:x.op=2
 ·rw[RB _ _ _ _ _ a];exact h.push h1 _
 by_cases a:x.op=3
 ·rw[Qa _ _ _ _ _ a];exact h.push h1 _
 by_cases a:x.op=4
 ·rw[OS _ _ _ _ _ a];exact h.push h1 _
 by_cases a:x.op=5
 ·rw[Px _ _ _ _ _ a];exact h.push h1 _
 by_cases a:x.op=6
 ·rw[H4 _ _ _ _ _ a];refine h.aX ?_;show(m.ai.slots.set _ _).length<=24;rw[List.length_set];exact hk.slots
 by_cases a:x.op=7
 ·rw[Gq _ _ _ _ _ a];exact(hc 2).eR (VC 2) _
 by_cases a:x.op=8
 ·rw[IB _ _ _ _ _ a];exact(hc 1).push (VC 1) _
 by_cases a:x.op=9
 ·rw[HL _ _ _ _ _ a];exact(hc 1).push (VC 1) _
 by_cases a:x.op=10
 ·rw[JQ _ _ _ _ _ a];exact(hc 1).push (VC 1) _
 by_cases a:x.op=11
 ·rw[Gj _ _ _ _ _ a];split
  ·exact(hc 1).stops (VC 1) _ _
  ·exact(hc 1).push (VC 1) _
 by_cases a:x.op=12
 ·rw[G6 _ _ _ _ _ a];split
  ·exact(hc 2).stops (VC 2) _ _
  ·rename_i hi;refine(hc 2).ov ?_;obtain⟨q1,q2⟩:=OB hi;rw[Iw _ _ _ q1 (by rw[List.length_set])];exact h.heap
 by_cases a:x.op=13
 ·rw[EQ _ _ _ _ _ a];split
  ·exact(hc 1).stops (VC 1) _ _
  ·split
   ·exact(hc 1).stops (VC 1) _ _
   ·refine((hc 1).push (VC 1) _).ov ?_;rw[Hy,List.length_replicate];omega
 by_cases a:x.op=14
 ·rw[Ii _ _ _ _ _ a];split
  ·exact h.stops h1 _ _
  ·have:=h.push h1 (vI (nth inp m.in_.toNat));have h0:=h.nV;exact⟨this.deep,this.slots,this.heap,this.outs,by show 0<=m.in_+1;omega,by show m.in_+1<=_;omega,this.ll⟩
 by_cases a:x.op=15
 ·rw[Iq _ _ _ _ _ a];split
  ·exact h.stops h1 _ _
  ·have:=hc 1;exact⟨this.deep,this.slots,this.heap,by show(m.aS++[_]).length<=24;rw[List.length_append,List.length_singleton];omega,this.nV,this.og,fun t ht=>by
    have ht:t∈m.aS++[_]:=ht;rcases List.mem_append.1 ht with ht|ht
    ·exact h.ll t ht
    ·rw[List.mem_singleton]at ht;subst ht;have WU:=hk.one jB;exact Hs (hk.word a) (hk.jo _ (QO (by show m.ai.stack.length-1<_;omega)))⟩
 by_cases a:x.op=16
 ·rw[Oa _ _ _ _ _ a];exact h.aX hk.slots
 by_cases a:x.op=17
 ·rw[OW _ _ _ _ _ a];split
  ·exact h.aX hk.slots
  ·exact hc 1
 by_cases a:x.op=18\/x.op=19
 ·rw[TJ _ _ _ _ _ a];split
  ·exact h.aX hk.slots
  ·exact hc 1
 by_cases a:x.op=20
 ·rw[Bw _ _ _ _ _ a];split
  ·exact(hc _).stops (VC _) _ _
  ·rename_i h8;obtain⟨c1,c2,c3⟩:=hk.call a;have c3:=c3 jB;refine(hc _).cB (VC _) ?_ c3.s1 c3.s2;rw[show(m.cut x.b.toNat).ai=m.ai.cut x.b.toNat from MV.bn h1 _];show(m.ai.stack.take _).length<=1000;have:=hk.ai;rw[List.length_take];omega
 by_cases a:x.op=21
 ·rw[JR _ _ _ _ _ a];exact(hc 1).ends _
 by_cases a:x.op=22
 ·rw[Kv _ _ _ _ _ a];exact h.ends _
 by_cases a:x.op=23
 ·rw[Ff _ _ _ _ _ a];exact hc 1
 ·rw[S0 _ _ _ _ _ jB];exact h
section
variable {p:ah}{C:aE}{m:MV}{N:NM}{e:UR}(X:UW)
def KP(hR:bI p C m N e)(inp:UU)(x:ax)(hk:p7 p C m x)(V0:inp.length<=1000)(hx:x.op=14\/x.op=15):lf prog 169 [mP N,cP N,.agg (df x),aO eI 1 inp] e X (.aY []) (To p C (m.ins p C inp x) N):=by
 have h1:=hk.calls;have P':=hR.ok.low;have hdp:=hk.ai;have nV:=hk.nV;have og:=hk.og;have hou:=hk.outs;by_cases h14:x.op=14
 ·rw[Ii _ _ _ _ _ h14];by_cases hw:(inp.length:Int)<=m.in_
  ·rw[if_pos hw];obtain⟨N',l,hT,hU,hp⟩:=wY X hR h1 1 0;refine⟨N',l,hT,hU,⟨?_,hR.ok,hp.e2,hU.aU,iu hR h1 rfl⟩⟩;refine aK (L:=ids e) func169 ntmps169 ?_ (hL:=rfl);generalize hB:ids e=B;refine eK ?_
   (have W:=jA P' (hR.root);repeat' (first|refine au fun K hK=>?_|refine aq ?_|(refine hK _ _ ?_;clear hK K)|(refine ar ?_ ?_<;>intro hc<;>try exact jz)|refine cL 9 ?_|refine cT hp ?_|refine av ?_|exact jI|(clear hK K)))
   exact eu hB hR.ok hp.e2 (fun _=>rfl) (du jC dL) []
  ·rw[if_neg hw];obtain⟨N1,l1,U',Vv,Wh⟩:=tu X hR h1 (vI (nth inp m.in_.toNat)) hdp;have VY:=U'.1.mJ (m':={ m.push (vI (nth inp m.in_.toNat))with in_:=m.in_+1 }) rfl rfl rfl;have Vt:=U'.1.ok.low;have W8:=U'.1.root;rw[U'.2.1]at W8;have Wb:(m.push (vI (nth inp m.in_.toNat))).in_=m.in_:=rfl;have V2:Up X l1 (aZ l1 (hn 3 N1.k) (.var 205 (mE p C { m.push (vI (nth inp m.in_.toNat))with in_:=m.in_+1 } N1))):=Up.put _ (.inl (by rw[U'.2.1,W8];simp));refine⟨N1,_,⟨VY,U'.2.1,U'.2.2⟩,Vv.trans V2,⟨?_,hR.ok,VY.ok,(Vv.trans V2).aU,iu hR h1 rfl⟩⟩;have k2:=VY.ok;clear VY Vv V2;generalize hE:aZ l1 (hn 3 N1.k) (.var 205 (mE p C { m.push (vI (nth inp m.in_.toNat))with in_:=m.in_+1 } N1))=E at k2 ⊢;refine aK (L:=ids e) func169 ntmps169 ?_ (hL:=rfl);generalize hB:ids e=B;refine eK ?_
   (have W:=jA P' (jA Vt (jA hR.root (jA W8 (jA U'.2.1 (Wb)))));repeat' (first|refine au fun K hK=>?_|refine aq ?_|(with_reducible refine gR 4 ?_);refine dE 4 (bf 0 12) mixed ?_|(refine hK _ _ ?_;clear hK K)|(refine ar ?_ ?_<;>intro hc<;>try exact jz)|refine cL 9 ?_|refine cp (um _) ?_|refine cT Wh ?_|refine av ?_|exact jI|(clear hK K)))
   subst hE;refine eu (tl:=[(9,.var 219 (df x))]) hB hR.ok k2 (fun i=>?_) (du jC dL) [];have:=U'.2.1;unfold mE;rw[this];rfl
 have h15:x.op=15:=jB;rw[Iq _ _ _ _ _ h15];by_cases ho:24<=m.aS.length
 ·rw[if_pos ho];obtain⟨N',l,hT,hU,hp⟩:=wY X hR h1 3 5;refine⟨N',l,hT,hU,⟨?_,hR.ok,hp.e2,hU.aU,iu hR h1 rfl⟩⟩;refine aK (L:=ids e) func169 ntmps169 ?_ (hL:=rfl);generalize hB:ids e=B;refine eK ?_
  (have W:=jA P' (hR.root);repeat' (first|refine au fun K hK=>?_|refine aq ?_|(refine hK _ _ ?_;clear hK K)|(refine ar ?_ ?_<;>intro hc<;>try exact jz)|refine cL 9 ?_|refine cT hp ?_|refine av ?_|exact jI|(clear hK K)))
  exact eu hB hR.ok hp.e2 (fun _=>rfl) (du jC dL) []
 ·rw[if_neg ho];have WG:=hk.one jB;obtain⟨N1,l1,⟨U',Zg⟩,Vv,Wh,WS⟩:=xz X hR h1 WG;have VY:=U'.1.B0 (m':={ m.cut 1 with aS:=m.aS++[lm m.ai.last] }) rfl rfl;have Vt:=U'.1.ok.low;have W8:=U'.1.root;have ho1:=U'.1.outs;rw[U'.2.1]at W8 ho1;have V2:Up X l1 (aZ (aZ l1 (hn 8 N1.k) (.aD 9 1 ((m.aS++[lm m.ai.last]).map eS))) (hn 3 N1.k) (.var 205 (mE p C { m.cut 1 with aS:=m.aS++[lm m.ai.last] } N1))):=by
   refine(Up.put _ (.inl ?_)).trans (Up.put _ (.inl ?_))
   ·rw[U'.2.1,ho1];simp
   ·rw[bO,if_neg (dc jB jB jB),U'.2.1,W8];simp
  have hwd:=FZ m.ai.last (hk.word h15);refine⟨N1,_,⟨VY,U'.2.1,U'.2.2⟩,Vv.trans V2,⟨?_,hR.ok,VY.ok,(Vv.trans V2).aU,iu hR h1 rfl⟩⟩;have k2:=VY.ok;clear VY Vv V2;have ho1:az l1 (hn 8 N.k)=some (.aD 9 1 (m.aS.map eS)):=ho1;show ab _ _ _ _ fun r l'=>r=_/\l'=aZ (aZ l1 (hn 8 N1.k) (.aD 9 1 ((m.aS++[lm m.ai.last]).map eS))) (hn 3 N1.k) (.var 205 (mE p C { m.cut 1 with aS:=m.aS++[lm m.ai.last] } N1))
  have k2:fF 0 (aZ (aZ l1 (hn 8 N1.k) (.aD 9 1 ((m.aS++[lm m.ai.last]).map eS))) (hn 3 N1.k) (.var 205 (mE p C { m.cut 1 with aS:=m.aS++[lm m.ai.last] } N1))):=k2;generalize hE:aZ (aZ l1 (hn 8 N1.k) (.aD 9 1 ((m.aS++[lm m.ai.last]).map eS))) (hn 3 N1.k) (.var 205 (mE p C { m.cut 1 with aS:=m.aS++[lm m.ai.last] } N1))=E at k2 ⊢;refine aK (L:=ids e) func169 ntmps169 ?_ (hL:=rfl);generalize hB:ids e=B;refine eK ?_
  (have W:=jA P' (jA Vt (jA hR.root (jA W8 (jA ho1 (U'.2.1)))));repeat' (first|refine au fun K hK=>?_|refine aq ?_|(with_reducible refine gR 9 ?_);refine qO 9 [hn 2 N.ai.v,hn 16 N.ai.c] [73] [72,1000000] [] (bf 0 15) mixed ?_|(refine hK _ _ ?_;clear hK K)|(refine ar ?_ ?_<;>intro hc<;>try exact jz)|refine cL 9 ?_|refine oQ Wh (WS _ _) ?_|refine cq (hwd) ?_|refine av ?_|exact jI|(clear hK K)))
  subst hE;refine eu (tl:=[(9,.var 219 (df x))]) hB hR.ok k2 (fun i=>?_) (du jC dL) [];have:=U'.2.1;have e1:(m.aS++[lm m.ai.last]).length=m.aS.length+1:=jE;unfold mE;dsimp only;rw[this,List.map_append,e1];rfl
end
section
variable {p:ah}{C:aE}(X:UW)
inductive tN(inp:List Int)(N:NM)(x:ax)(e l:List (Nat×Row)):Prop
 |a (h:cM prog 164 [mP N,cP N,.agg (df x)] e (rB true) l)
 |b (h1:cM prog 164 [mP N,cP N,.agg (df x)] e (rB false) e) (h:cM prog 165 [mP N,cP N,.agg (df x)] e (rB true) l)
 |c (h1:cM prog 164 [mP N,cP N,.agg (df x)] e (rB false) e) (h2:cM prog 165 [mP N,cP N,.agg (df x)] e (rB false) e) (h:cM prog 166 [mP N,cP N,.agg (df x)] e (rB true) l)
 |d (h1:cM prog 164 [mP N,cP N,.agg (df x)] e (rB false) e) (h2:cM prog 165 [mP N,cP N,.agg (df x)] e (rB false) e) (h3:cM prog 166 [mP N,cP N,.agg (df x)] e (rB false) e) (h:cM prog 167 [mP N,cP N,.agg (df x)] e (rB true) l)
 |e (h1:cM prog 164 [mP N,cP N,.agg (df x)] e (rB false) e) (h2:cM prog 165 [mP N,cP N,.agg (df x)] e (rB false) e) (h3:cM prog 166 [mP N,cP N,.agg (df x)] e (rB false) e) (h4:cM prog 167 [mP N,cP N,.agg (df x)] e (rB false) e) (h:cM prog 168 [mP N,cP N,.agg (df x)] e (rB true) l)
 |f (h1:cM prog 164 [mP N,cP N,.agg (df x)] e (rB false) e) (h2:cM prog 165 [mP N,cP N,.agg (df x)] e (rB false) e) (h3:cM prog 166 [mP N,cP N,.agg (df x)] e (rB false) e) (h4:cM prog 167 [mP N,cP N,.agg (df x)] e (rB false) e) (h5:cM prog 168 [mP N,cP N,.agg (df x)] e (rB false) e) (h:cM prog 169 [mP N,cP N,.agg (df x),aO eI 1 inp] e (.aY []) l)
variable{m:MV}
def Te{N:NM}{e:UR}(hR:bI p C m N e)(inp:UU)(V0:inp.length<=1000)(x:ax)(hk:p7 p C m x)(hx:2<=x.op/\x.op<=23):∃N' l,(bI p C (m.ins p C inp x) N' l/\N'.k=N.k)/\Up X e l/\tN inp N x e l:=by
 have h1:=hk.calls;by_cases a:x.op=2\/x.op=3\/x.op=4\/x.op=5
 ·obtain⟨N',l,hT,hU,hp⟩:=KT X hR inp x hk a;exact⟨N',l,⟨hT.1,hT.2.1⟩,hU,.a hp⟩
 have n1:=Rn hR h1 x a;by_cases b:x.op=7\/x.op=8\/x.op=9\/x.op=10
 ·obtain⟨N',l,hT,hU,hp⟩:=M5 X hR inp x hk b;exact⟨N',l,⟨hT.1,hT.2.1⟩,hU,.b n1 hp⟩
 have n2:=Tv hR h1 x b;by_cases c:x.op=6\/x.op=23\/x.op=11\/x.op=12\/x.op=13
 ·obtain⟨N',l,hT,hU,hp⟩:=Ls X hR inp x hk c;exact⟨N',l,⟨hT.1,hT.2.1⟩,hU,.c n1 n2 hp⟩
 have n3:=Sg hR h1 x c;by_cases d:x.op=16\/x.op=17\/x.op=18\/x.op=19
 ·obtain⟨N',l,hT,hU,hp⟩:=Sc X hR inp x hk d;exact⟨N',l,⟨hT.1,hT.2.1⟩,hU,.d n1 n2 n3 hp⟩
 have n4:=Qd hR h1 x d;by_cases g:x.op=20\/x.op=21\/x.op=22
 ·obtain⟨N',l,hT,hU,hp⟩:=M4 X hR inp x hk g;exact⟨N',l,hT,hU,.e n1 n2 n3 n4 hp⟩
 have n5:=Oe hR h1 x g;obtain⟨N',l,hT,hU,hp⟩:=KP X hR inp x hk V0 jB;exact⟨N',l,⟨hT.1,hT.2.1⟩,hU,.f n1 n2 n3 n4 n5 hp⟩
structure MS where
 m:MV
 N:NM
 e:List (Nat×Row)
structure Round(p:ah)(C:aE)(inp:List Int)(X:List Nat)(a b:MS):Prop where
 rep:bI p C a.m a.N a.e
 st:a.m.status=0
 op:(a.m.bt C).op≠1
 calls:1<=a.m.calls.length
 a0:0<=a.m.ai.at_
 a1:a.m.ai.at_<C.ins.length
 up:Up X a.e b.e
 k:b.N.k=a.N.k
 does:tN inp a.N (a.m.bt C) (aZ a.e (hn 0 a.N.ai.c) (.var 217 (MV.cE (a.m.ai.jump (a.m.ai.at_+1)) a.N.ai))) b.e
 ok:fF 0 b.e
variable{inp:UU}
def OD{N:NM}{e:UR}(hR:bI p C m N e)(hb:Bd inp.length m)(V0:inp.length<=1000)(hC:C.entry.length<=1000)(hP:p.size.length<=1000)(h0:m.status=0)(h1:(m.bt C).op≠1)(hok:m.fN p C):∃N' e',Round p C inp X ⟨m,N,e⟩ ⟨m.one p C inp,N',e'⟩/\bI p C (m.one p C inp) N' e'/\Bd inp.length (m.one p C inp):=by have U9:=hok.calls;have hx:=Q5 hb V0 hok hC hP;have hT:=hR.ai U9;have V8:=hR.kz U9 (c':=m.ai.jump (m.ai.at_+1)) rfl rfl;have Vv:Up X e (aZ e (hn 0 N.ai.c) (.var 217 (MV.cE (m.ai.jump (m.ai.at_+1)) N.ai))):=Up.put _ (.inl (by rw[hT.var];simp));obtain⟨N',l,VQ,V2,hd⟩:=Te X V8 inp V0 (m.bt C) hx (by have:=hok.op;omega);have WG:Bd inp.length (m.aX (m.ai.jump (m.ai.at_+1))):=hb.aX (hb.ai U9);exact⟨N',l,⟨hR,h0,h1,U9,hok.a0,hok.a1,Vv.trans V2,VQ.2,hd,VQ.1.ok⟩,VQ.1,UM WG hx⟩
def Mf(V0:inp.length<=1000)(hC:C.entry.length<=1000)(hP:p.size.length<=1000){n:Nat}{m':MV}(hg:fY p C inp n m m'):∀{N:NM} {e:UR},bI p C m N e->Bd inp.length m->∃f:Nat->MS,f 0=⟨m,N,e⟩/\(∀i,i<n->Round p C inp X (f i) (f (i+1)))/\(f n).m=m'/\bI p C m' (f n).N (f n).e/\Bd inp.length m':=by
 induction hg with
 |refl m=>intro N e hR hb;exact⟨fun _=>⟨m,N,e⟩,rfl,fun i hi=>jB,rfl,hR,hb⟩
 |@step n m m' h0 h1 hok _ ih=>
  intro N e hR hb;obtain⟨N1,e1,hr,V8,WG⟩:=OD X hR hb V0 hC hP h0 h1 hok;obtain⟨f,f0,f1,f2,f3,f4⟩:=ih V8 WG;refine⟨fun i=>match i with|0=>⟨m,N,e⟩|i+1=>f i,rfl,fun i hi=>?_,f2,f3,f4⟩;match i with
  |0=>show Round p C inp X ⟨m,N,e⟩ (f 0);rw[f0];exact hr
  |i+1=>exact f1 i jB
def Hk{m':MV}{N:NM}{e:UR}(hR:bI p C m N e)(hb:Bd inp.length m)(V0:inp.length<=1000)(hC:C.entry.length<=1000)(hP:p.size.length<=1000)(hI:C.ins.length<=1000000)(hg:bh p C inp m m')(O':m'.gy C)(VL:m'.status=0->1<=m'.calls.length/\0<=m'.ai.at_/\m'.ai.at_<C.ins.length) :
  lf prog 114 [mP N,aO eI 1 inp] e X (.aY []) (fun N' l=>bI p C m' N' l/\N'.k=N.k/\Bd inp.length m'):=by
 obtain⟨n,hg⟩:=hg;obtain⟨f,f0,f1,f2,f3,f4⟩:=Mf X V0 hC hP hg hR hb;have hk:∀i,i<=n->(f i).N.k=N.k/\Up X e (f i).e/\fF 0 (f i).e:=fun i=>by
  induction i with
  |zero=>intro _;rw[f0];exact⟨rfl,Up.refl _ _,hR.ok⟩
  |succ i ih=> intro hi;obtain⟨a,b,c⟩:=ih jB;have:=f1 i jB;exact⟨this.k.trans a,b.trans this.up,this.ok⟩
 obtain⟨k1,k2,k3⟩:=hk n jl;refine⟨(f n).N,(f n).e,⟨f3,k1,f4⟩,k2,⟨?_,hR.ok,k3,k2.aU,qw hR rfl⟩⟩;refine aK (L:=ids e) func114 ntmps114 ?_ (hL:=rfl);generalize hB:ids e=B;refine eK ?_
 (repeat' (first|(with_reducible refine gR 5 ?_);refine sS [43,50,57,64] ?_|refine au fun K hK=>?_|refine aq ?_|(with_reducible refine gR 2 ?_);refine dE 2 (bf 0 13) mixed ?_|(refine hK _ _ ?_;clear hK K)|(refine ar ?_ ?_<;>intro hc<;>try exact jz)|refine av ?_|exact jI|(clear hK K)))
 refine dw (S:=Nat) [(4,68)] (fun i=>i<=n) (fun i=>[]) (fun i=>⟨B,tie (f i).e []⟩) (fun i=>n-i) 0 jB (dx (by rw[f0]) bS) ?_;rintro i hi Kr U8;by_cases I':i<n
 ·have hr:=f1 i I';have Yp:=hk i hi;obtain⟨q1,q2,q3⟩:=hk (i+1) I';obtain⟨r1,r2,r3,r4,r5,r6,r7,r8,r9,r10⟩:=hr;generalize VM:f (i+1)=b at*;generalize f i=a at*;obtain⟨am,aN,ae⟩:=a;obtain⟨bm,bN,be⟩:=b;simp only at*;have eM:mP aN=mP N:=by unfold mP;rw[Yp.1]
  have ht:=uV r1 r4;rw[eM]at ht;have hT:=r1.ai r4;have P':=r1.ok.low;have WL:=r1.root;rw[Yp.1]at WL;have hbv:=r10.low;have Wu:∀i,i<1000->az (aZ ae (hn 0 aN.ai.c) (.var 217 (MV.cE (am.ai.jump (am.ai.at_+1)) aN.ai))) i=none:=fun i hi=>by rw[bO,if_neg (by have:=iJ 0 aN.ai.c;omega)];exact P' i hi
  have hx:nth C.ins am.ai.at_.toNat=am.bt C:=rfl;have hxo:=r3;generalize am.bt C=x at*
  (refine S ?_;try exact jI)
  rcases r9 with h|⟨h1,h⟩|⟨h1,h2,h⟩|⟨h1,h2,h3,h⟩|⟨h1,h2,h3,h4,h⟩|⟨h1,h2,h3,h4,h5,h⟩
  all_goals
   simp only[eM]at*
   (have W:=jA P' (jA Wu (jA hbv (jA WL (jA hT.var (jA r2 (hx))))));repeat' (first|(with_reducible refine gR 5 ?_);refine sS [43,50,57,64] ?_|refine au fun K hK=>?_|refine aq ?_|(with_reducible refine gR 2 ?_);refine dE 2 (bf 0 13) mixed ?_|(refine hK _ _ ?_;clear hK K)|(refine ar ?_ ?_<;>intro hc<;>try exact jz)|refine fA 9 ?_|refine cT ht ?_|refine cT h ?_|refine cT h1 ?_|refine cT h2 ?_|refine cT h3 ?_|refine cT h4 ?_|refine cT h5 ?_|refine av ?_|exact jI|(clear hK K)))
  all_goals exact U8 _ _ (Uk hB hR.ok r10 (du jC dL) (i+1) jB (by show n-(i+1)<n-i;omega) (by show _=Hp.mk B (tie (f (i+1)).e []);rw[VM]) ie)
 ·have Wb:i=n:=jB;subst Wb;have ht0:(f i).m=m':=f2;generalize f i=a at*;obtain⟨am,aN,ae⟩:=a;simp only at*;subst ht0;have eM:mP aN=mP N:=by unfold mP;rw[k1]
  have P':=f3.ok.low;have WL:=f3.root;rw[k1]at WL;by_cases h0:am.status=0
  ·obtain⟨r4,r5,r6⟩:=VL h0;have W3:(am.bt C).op=1:=by
    rcases O' with h|h
    ·exact(h h0).elim
    ·exact h
   have ht:=uV f3 r4;rw[eM]at ht;have hT:=f3.ai r4;have hx:nth C.ins am.ai.at_.toNat=am.bt C:=rfl;generalize am.bt C=x at*;refine S ?_
   (have W:=jA P' (jA WL (jA hT.var (jA h0 (hx))));repeat' (first|(with_reducible refine gR 5 ?_);refine sS [43,50,57,64] ?_|refine au fun K hK=>?_|refine aq ?_|(with_reducible refine gR 2 ?_);refine dE 2 (bf 0 13) mixed ?_|(refine hK _ _ ?_;clear hK K)|(refine ar ?_ ?_<;>intro hc<;>try exact jz)|refine fA 9 ?_|refine cT ht ?_|refine av ?_|exact jI|(clear hK K)))
   exact eu hB hR.ok f3.ok (fun _=>rfl) (du jC dL) []
  ·(refine S ?_;try exact jI)
   (have W:=jA P' WL;repeat' (first|(with_reducible refine gR 5 ?_);refine sS [43,50,57,64] ?_|refine au fun K hK=>?_|refine aq ?_|(with_reducible refine gR 2 ?_);refine dE 2 (bf 0 13) mixed ?_|(refine hK _ _ ?_;clear hK K)|(refine ar ?_ ?_<;>intro hc<;>try exact jz)|refine av ?_|exact jI|(clear hK K)))
   exact eu hB hR.ok f3.ok (tl:=[]) (fun _=>rfl) dL []
end
attribute [local go_sem] OC
section
variable {p:ah}{C:aE}(X:UW)
def L6{m:MV}{N:NM}{e:UR}(hR:bI p C m N e)(inp:UU)(hs:m.status=2\/m.status=3):cM prog 117 [mP N,aO eI 1 inp] e (.aY []) e:=by
 have P':=hR.ok.low;refine⟨?_,hR.ok,hR.ok,fun _ h=>h,qw hR rfl⟩;rcases hs with h|h
 all_goals
  refine aK (L:=ids e) func117 ntmps117 ?_ (hL:=rfl);generalize hB:ids e=B;refine eK ?_
  (have W:=jA P' (jA hR.root (h));repeat' (first|refine au fun K hK=>?_|refine aq ?_|(refine hK _ _ ?_;clear hK K)|(refine ar ?_ ?_<;>intro hc<;>try exact jz)|refine av ?_|exact jI|(clear hK K)))
  exact eu hB hR.ok hR.ok (tl:=[]) (fun _=>rfl) dL []
def KX{inp:UU}{m m1:MV}{N:NM}{e:UR}(hR:bI p C m N e)(h1:1<=m.calls.length)(hb:Bd inp.length m)(V0:inp.length<=1000)(hC:C.entry.length<=1000)(hP:p.size.length<=1000)(hI:C.ins.length<=1000000)(O':¬(m.status=2\/m.status=3))(VL:0<=m.ai.at_/\m.ai.at_<=1000000)(Yr:0<=m.time/\m.time<=1000000)
  (hg:bh p C inp m.ir m1) (YM:m1.gy C) (hbz:m1.status=0->1<=m1.calls.length/\0<=m1.ai.at_/\m1.ai.at_<C.ins.length) (Yz:-1<=m1.time/\m1.time<=1000000) :
  lf prog 117 [mP N,aO eI 1 inp] e X (.aY []) (fun N' l=>bI p C m1.gh N' l/\N'.k=N.k/\Bd inp.length m1.gh):=by
 have P':=hR.ok.low;have hT:=hR.ai h1;have YL:=hR.mJ (m':={ m with status:=0 }) rfl rfl rfl;have ht:=uV YL h1;have V8:=OO hR h1;have WG:Bd inp.length m.ir:=(hb.aX (c:={ m.ai with mark:=m.ai.at_,at_:=m.ai.at_+1 }) (hb.ai h1)).status 0 m.bs;have Vv:Up X e (aZ (aZ e (hn 3 N.k) (.var 205 (mE p C { m with status:=0 } N))) (hn 0 N.ai.c) (.var 217 (MV.cE { m.ai with mark:=m.ai.at_,at_:=m.ai.at_+1 } N.ai))):=by
  refine(Up.put _ (.inl ?_)).trans (Up.put _ (.inl ?_))
  ·rw[hR.root];simp
  ·rw[bO,if_neg (dc jB jB jB),hT.var];simp
 obtain⟨N1,l1,⟨VY,Va,WQ⟩,V2,hp⟩:=Hk X V8 WG V0 hC hP hI hg YM hbz;have Vt:=VY.ok.low;have Yq:=VY.root;rw[Va]at Yq;by_cases hw:m1.status=1
 ·have et:m1.gh=m1:=by unfold MV.gh;rw[if_pos hw]
  rw[et];refine⟨N1,l1,⟨VY,Va,WQ⟩,Vv.trans V2,⟨?_,hR.ok,VY.ok,(Vv.trans V2).aU,qw hR rfl⟩⟩;clear Vv V2 YL V8;refine aK (L:=ids e) func117 ntmps117 ?_ (hL:=rfl);generalize hB:ids e=B;refine eK ?_
  (have W:=jA P' (jA Vt (jA hR.root (jA hT.var (Yq))));repeat' (first|refine au fun K hK=>?_|refine aq ?_|(refine hK _ _ ?_;clear hK K)|(refine ar ?_ ?_<;>intro hc<;>try exact jz)|refine cT ht ?_|refine cT hp ?_|refine av ?_|exact jI|(clear hK K)))
  exact eu hB hR.ok VY.ok (tl:=[]) (fun _=>rfl) dL []
 ·have et:m1.gh={ m1 with time:=m1.time+1 }:=by unfold MV.gh;rw[if_neg hw]
  rw[et];have ZC:=VY.mJ (m':={ m1 with time:=m1.time+1 }) rfl rfl rfl;have hU3:Up X l1 (aZ l1 (hn 3 N1.k) (.var 205 (mE p C { m1 with time:=m1.time+1 } N1))):=Up.put _ (.inl (by rw[VY.root];simp));refine⟨N1,_,⟨ZC,Va,⟨WQ.deep,WQ.slots,WQ.heap,WQ.outs,WQ.nV,WQ.og,WQ.ll⟩⟩,Vv.trans (V2.trans hU3),⟨?_,hR.ok,ZC.ok,(Vv.trans (V2.trans hU3)).aU,qw hR rfl⟩⟩;have k2:=ZC.ok;clear Vv V2 hU3 YL V8 ZC;generalize hE:aZ l1 (hn 3 N1.k) (.var 205 (mE p C { m1 with time:=m1.time+1 } N1))=E at k2 ⊢;refine aK (L:=ids e) func117 ntmps117 ?_ (hL:=rfl);generalize hB:ids e=B;refine eK ?_
  (have W:=jA P' (jA Vt (jA hR.root (jA hT.var (Yq))));repeat' (first|refine au fun K hK=>?_|refine aq ?_|(refine hK _ _ ?_;clear hK K)|(refine ar ?_ ?_<;>intro hc<;>try exact jz)|refine cT ht ?_|refine cT hp ?_|refine av ?_|exact jI|(clear hK K)))
  subst hE;refine eu hB hR.ok k2 (tl:=[]) (fun i=>?_) dL [];unfold mE;rw[Va];rfl
end
end Go.Proofs.YtjpcgmjaipfgdaaGreatDoor
namespace Go.Proofs.YtjpcgmjaipfgdaaGreatDoor
open Go Go.Gd Tryz
def Rr(x:Int):lB (eI x)=true:=rfl
def Rw(x:UX):lB (eS x)=true:=rfl
def SW(i:Nat):ab prog 111 [] [] (fun r l=>r=.pt i 0 0 0/\l=[(i,.var 269 [.raw (.slice none 0 0),.raw (.slice none 0 0)])]):=by
 refine aK func111 ntmps111 ?_;refine S ?_
 (repeat' (first|refine au fun K hK=>?_|refine aq ?_|(refine hK _ _ ?_;clear hK K)|(refine ar ?_ ?_<;>intro hc<;>try exact jz)|refine cL i ?_|refine av ?_|exact jI|(clear hK K)))
 (refine bL [.tmp 0] ?_ ?_<;>(try simp only[go_sem]))
def Pf(h:UT)(hl:h.length<=1000)(hf:h.flatten.length<=1000):ab prog 118 [.pt 2 0 0 0] (gU h) (fun r l=>r=aO pM 1 h/\l=gU h):=by
 refine aK func118 ntmps118 ?_;refine S ?_
 (repeat' (first|refine au fun K hK=>?_|refine aq ?_|(refine hK _ _ ?_;clear hK K)|(refine ar ?_ ?_<;>intro hc<;>try exact jz)|refine av ?_|exact jI|(clear hK K)))
 refine iQ (dM.nil 5 3 22 (sz:=1) rfl jC (Or.inl rfl)) ?_
 (refine S ?_;try exact jI)
 have U6:=hK;clear hK;refine dw (S:=Nat) [(3,2),(10,12)] (fun k=>k<=h.length) (fun k=>[(3,.rs 5 k 1 k),(10,rI k)])
  (fun k=>⟨[2,3,4],gU h++[(5,.aD 22 1 ((h.take k).map pM))]⟩) (fun k=>h.length-k) 0 jB (dx rfl bS) ?_
 rintro k hk Kr U8;by_cases I':k<h.length
 ·have VC:=xj h k ((k:Int)+1) rfl hl hf I';have Vj:=vD h (k+1);have Y5:=uu I';have U9:=RI (nth h k) jB 6;have etk:h.take (k+1)=h.take k++[nth h k]:=by rw[List.take_succ,List.getElem?_eq_getElem I',ee I'];rfl
  refine S ?_
  (repeat' (first|refine au fun K hK=>?_|refine aq ?_|(refine hK _ _ ?_;clear hK K)|(refine ar ?_ ?_<;>intro hc<;>try exact jz)|refine cm (VC) ?_|refine CO 6 Rr U9 rfl (fun w vs hw hv=>by have:=S1 (enc:=eI) h.flatten rfl rfl jB jC w vs hw hv;rw[T8 I']at this;exact this) ?_|refine av ?_|exact jI|(clear hK K)))
  refine U8 _ _ (dO (k+1) jB (by show h.length-(k+1)<h.length-k;omega) (by rw[etk,List.map_append];rfl) bS)
 ·have Wc:k=h.length:=jB;subst Wc;refine S ?_
  (repeat' (first|refine au fun K hK=>?_|refine aq ?_|(refine hK _ _ ?_;clear hK K)|(refine ar ?_ ?_<;>intro hc<;>try exact jz)|refine U6 _ _ ?_|refine av ?_|exact jI|(clear hK K)))
  refine iM [.tmp 2] ?_;exact dn.row (enc:=pM) h rfl rfl rfl
end Go.Proofs.YtjpcgmjaipfgdaaGreatDoor
namespace Go.Proofs.YtjpcgmjaipfgdaaGreatDoor
open Go Go.Gd Tryz Go.Gd.MV
section
variable {p:ah}{C:aE}(X:UW)
def Nk{m:MV}{N:NM}{e:UR}(hR:bI p C m N e)(hl:m.heap.length<=1000)(hf:m.heap.flatten.length<=1000):cM prog 118 [.pt (hn 5 N.k) 0 0 0] e (aO pM 1 m.heap) e:=
 hR.lz rfl rfl (Pf m.heap hl hf)
def SK{m:MV}{N:NM}{e:UR}(hR:bI p C m N e){k:Nat}(hk:k<m.calls.length):(List.map (fun j=>[AV.pt (hn 0 j) 0 0 0]) (List.map NC.c N.cs)++List.map (fun j=>[AV.pt (hn 0 j) 0 0 0]) N.cj).getD k []=[.pt (hn 0 (nth N.cs k).c) 0 0 0]:=by have hl:=hR.len;rw[<-List.map_append];rw[List.getD_eq_getElem?_getD,List.getElem?_map,List.getElem?_append_left (by rw[List.length_map];omega),List.getElem?_map,List.getElem?_eq_getElem jB,ee jB];rfl
structure ux(C:aE)(m:MV):Prop where
 calls:m.calls.length<=8
 sel:∀k,k<m.calls.length->0<=m.fH k/\m.fH k<C.ins.length
 slots:∀k,k<m.calls.length->(nth m.calls k).slots.length<=24
 heap:gz m.heap<=40
 outs:m.aS.length<=24
 ins:C.ins.length<=1000000
def xC{m:MV}{N:NM}{e:UR}(hR:bI p C m N e)(hk:ux C m):cM prog 63 [mP N] e (.agg (js (m.cC C))) e:=by
 obtain⟨s1,s2,s3,s4,s5,s6⟩:=hk;rw[wg]at s4;have P':=hR.ok.low;have hl:=hR.len;have ni:=Nk hR jB jB;have hco:=OT m.aS jB 8;refine⟨?_,hR.ok,hR.ok,fun _ h=>h,qw hR rfl⟩;refine aK (L:=ids e) func63 ntmps63 ?_ (hL:=rfl);generalize hB:ids e=B;refine eK ?_
 (have W:=jA P' (hR.root);repeat' (first|refine au fun K hK=>?_|refine aq ?_|(with_reducible refine gR 1 ?_);refine dC 1 ([],[],[11,20]) [27] [0,1,2,3,5,6,7,8,9,10,11,12,14,15,16,17,18,19,20,21,22,23,24,25,4,13,26,27,28] mixed ?_|(refine hK _ _ ?_;clear hK K)|(refine ar ?_ ?_<;>intro hc<;>try exact jz)|refine fA 9 ?_|refine fA 10 ?_|refine oQ ni (fun _ _ _=>.inl rfl) ?_|refine RH 8 Rw hco (by show az (tie _ _) _=_;rw[kg,P' _ jC];rfl) (AY m.aS (by show az (tie _ _) _=_;rw[kg,hR.outs];rfl) rfl) ?_|refine av ?_|exact jI|(clear hK K)))
 refine iQ (dM.fz 11 10 0 137 3 (by show az (tie _ _) _=_;rw[kg,P' _ jC];rfl) jC (by show az (tie _ _) _=_;rw[kg,P' _ jC];rfl) rfl) ?_
 (have W:=jA P' P';refine S ?_;clear W;try exact jI)
 have U6:=hK;clear hK;refine dw (S:=Nat) [(4,3),(39,46)] (fun i=>i<=m.calls.length) (fun i=>[(39,rI i)])
  (fun i=>⟨B,tie e [(9,.var 45 [.raw (.slice none 0 0),.raw (.slice none 0 0),.raw (.int .i64 0),.raw (.slice none 0 0),.raw (.int .i64 0),.raw (.int .i64 0),.raw (.int .i64 0)]),
   (10,.var 45 [.rs 11 i 3 i,aO pM 1 m.heap,.raw (.int .i64 m.in_),aO eS 1 m.aS,.raw (.int .i64 m.status),.raw (.int .i64 m.bs),.raw (.int .i64 m.time)]),(11,.aD 137 3 (((List.range i).map (m.spot C)).map mT))]⟩)
  (fun i=>m.calls.length-i) 0 jB (dx rfl bS) ?_
 rintro i hi Kr U8;by_cases I':i<m.calls.length
 ·have V7:=hR.call i I';have W2:=SK hR I';have VX:=s3 i I';obtain⟨a1,a2⟩:=s2 i I';have YC:=JZ (nth m.calls i).slots jB 8;have hrg:List.range (i+1)=List.range i++[i]:=List.range_succ;have hlr:((List.range i).map (m.spot C)).length=i:=jE;have key:∀a:Int,m.fH i=a->nth C.ins a.toNat=nth C.ins (m.fH i).toNat:=fun a ha=>by rw[ha]
  unfold MV.fH at a1 a2;by_cases Xj:(i:Int)=(m.calls.length:Int)-1
  ·have WJ:m.fH i=(nth m.calls i).at_:=by unfold MV.fH;rw[if_pos Xj]
   rw[if_pos Xj]at a1 a2;refine S ?_
   (have W:=jA P' (jA hR.root (jA hR.row (jA W2 (jA V7.var (hl)))));repeat' (first|refine au fun K hK=>?_|refine aq ?_|(with_reducible refine gR 8 ?_);refine dC 8 ([],[79],[]) [] (bf 0 25) mixed ?_|(refine hK _ _ ?_;clear hK K)|(refine ar ?_ ?_<;>intro hc<;>try exact jz)|refine Fv 8 zE YC (by show az (tie _ _) _=_;rw[kg,P' _ jC];rfl) (AY (nth m.calls i).slots (by show az (tie _ _) _=_;rw[kg,V7.eN];rfl) rfl) ?_|refine av ?_|exact jI|(clear hK K)))
   refine U8 _ _ (dO (i+1) jB (by show m.calls.length-(i+1)<m.calls.length-i;omega) ?_ bS);rw[hrg,List.map_append,List.map_append,List.map_singleton,List.map_singleton];unfold MV.spot;rw[WJ];rfl
  ·have WJ:m.fH i=(nth m.calls i).mark:=by unfold MV.fH;rw[if_neg Xj]
   rw[if_neg Xj]at a1 a2;refine S ?_
   (have W:=jA P' (jA hR.root (jA hR.row (jA W2 (jA V7.var (hl)))));repeat' (first|refine au fun K hK=>?_|refine aq ?_|(with_reducible refine gR 8 ?_);refine dC 8 ([],[79],[]) [] (bf 0 25) mixed ?_|(refine hK _ _ ?_;clear hK K)|(refine ar ?_ ?_<;>intro hc<;>try exact jz)|refine Fv 8 zE YC (by show az (tie _ _) _=_;rw[kg,P' _ jC];rfl) (AY (nth m.calls i).slots (by show az (tie _ _) _=_;rw[kg,V7.eN];rfl) rfl) ?_|refine av ?_|exact jI|(clear hK K)))
   refine U8 _ _ (dO (i+1) jB (by show m.calls.length-(i+1)<m.calls.length-i;omega) ?_ bS);rw[hrg,List.map_append,List.map_append,List.map_singleton,List.map_singleton];unfold MV.spot;rw[WJ];rfl
 ·have Wb:i=m.calls.length:=jB;subst Wb;refine S ?_
  (have W:=jA P' hl;repeat' (first|refine au fun K hK=>?_|refine aq ?_|(refine hK _ _ ?_;clear hK K)|(refine ar ?_ ?_<;>intro hc<;>try exact jz)|refine U6 _ _ ?_|refine av ?_|exact jI|(clear hK K)))
  have h9:=P' 9 jC;have ZY:=P' 11 jC;refine TB hB hR.ok hR.ok rfl (du jC (du jC (du jC dL))) [.cell 2 45] ?_ (ho:=by simp(disch:=first|omega|assumption|fail) only[go_sem,↓reduceIte,h9];rfl) (hok:=by simp(disch:=first|omega|assumption|fail) only[go_sem,↓reduceIte,h9];first|done|decide|(repeat' (first|exact trivial|decide|(simp;done)|refine jA ?_ ?_)));have hlr:((List.range m.calls.length).map (m.spot C)).length=m.calls.length:=jE;exact cn.agg (ds:=js (m.cC C)) (jA (dn.row (enc:=mT) ((List.range m.calls.length).map (m.spot C)) rfl (by show az (tie _ _) _=_;rw[kg,ZY];rfl) hlr.symm) (jA (.same _ rfl) (jA (.same _ rfl) (jA (.same _ rfl) (jA (.same _ rfl) (jA (.same _ rfl) (jA (.same _ rfl) trivial)))))))
end
def Rq{p:ah}(h:gF p):aL prog 113 [.agg (dj p)] (rI (j4 p))/\qg p (dp p) MV.mQ (j4 p) []:=by obtain⟨j,hj,YA,Vh,hbs⟩:=E6 h;have YK:=h.ok.aa.ak;have hC:=rk h;have Vb:=h.ok.size;have U9:=hC.len;rw[YA];refine⟨K8 j jB hj Vh fun i hi e=>(h.names.one i j hi hj (by rw[e,Vh])).elim,?_⟩;have hfj:=h.ak j hj;have hp:=hfj.xR;have hh:=hfj.hi;have ej:((j:Int)).toNat=j:=Int.toNat_natCast j;have h0:j4 p=(j:Int):=YA;exact⟨jB,jB,jB,by rw[ej];omega,by rw[ej];omega,by rw[ej];show(0:Int)<=_;omega,⟨jB,jB⟩,jC⟩
def Nj{p:ah}(hp:je p)(X:UW){m1:MV}(hg:bh p (dp p) [] (pJ p (dp p)) m1)(O':m1.gy (dp p))(VL:m1.status=0->1<=m1.calls.length/\0<=m1.ai.at_/\m1.ai.at_<(dp p).ins.length) :
  ∃N l,bI p (dp p) m1 N l/\(∀i,az l i≠none->i ∉ X)/\Bd 0 m1/\ab prog 58 [.agg (dj p)] [] (fun r l'=>r=mP N/\l'=l):=by
 obtain⟨hmn,hbo⟩:=Rq hp.ok;have ZD:=PF hp;have hC:=rk hp.ok;have YK:=hp.ok.ok.aa.ak;have U9:=hC.len;have Vb:=hp.ok.ok.size;have WD:=hC.pL;generalize dp p=C at*;have hk:=fun a=>BE X a 0
 generalize ri X+0=k at hk;have YL:=Pr p C k;obtain⟨N1,l1,⟨V8,Vs⟩,Vv,Wh⟩:=Hz X YL (j4 p) [] hbo;have e1:MV.mQ.cB p C (j4 p) []=pJ p C:=rfl;rw[e1]at V8;have WG:Bd 0 (pJ p C):=by
  refine⟨fun k hk=>?_,fun k hk=>?_,(by show gz []<=40;decide),(by show 0<=24;omega),(by show(0:Int)<=0;omega),(by show(0:Int)<=0;omega),fun t ht=>(by cases ht)⟩
  ·have:k+1<1:=hk;omega
  ·have:k<1:=hk;have:k=0:=jB;subst this;show(([]:List aj)++List.replicate _ v0).length<=24;have h1:=hbo.s1;simp only[List.nil_append,List.length_replicate,List.length_nil];omega
 obtain⟨N2,l2,⟨VY,Va,WQ⟩,V2,Yv⟩:=Hk (inp:=[]) X V8 WG jC jB jB WD hg O' VL;have eM:mP N1=mP ⟨k,[],[]⟩:=by unfold mP;rw[Vs]
 have eM2:mP N2=mP ⟨k,[],[]⟩:=by unfold mP;rw[Va,Vs]
 rw[eM]at Yv;rw[show aO bW 3 []=(.sl false 3 [] (bW default):AV) from rfl]at Wh;have Wh:=Wh.args (args:=[mP ⟨k,[],[]⟩,rI (j4 p),.raw (.slice none 0 0)]) (fun w vs hw hv=>xh hv (fun _ h=>h) fun us hu=>xh hu (fun _ h=>h) fun us hu=>xh hu (FP 3 _) (fun _ h=>h)) (qw YL rfl);have Yv:=Yv.args (args:=[mP ⟨k,[],[]⟩,.raw (.slice none 0 0)]) (fun w vs hw hv=>xh hv (fun _ h=>h) fun us hu=>xh hu (FP 1 _) (fun _ h=>h)) (by have:=qw (N:=N1) V8 (l:=[.raw (.slice none 0 0)]) rfl;rw[eM]at this;exact this);refine⟨N2,l2,VY,fun i hi=>?_,WQ,?_⟩
 ·rcases(Vv.trans V2).new i hi with h|h
  ·have hm:=(lR _ _).2 h;rw[B5]at hm;simp only[List.mem_cons,List.not_mem_nil,or_false]at hm;rcases hm with rfl|rfl|rfl|rfl|rfl|rfl<;>exact hk _
  ·exact h
 ·rw[eM2];have hhn:=SW (hn 5 k);have eC:xD C=[aO df 4 C.ins,aO eI 1 C.entry]:=rfl;rw[eC]at ZD;rw[Dy]at ZD hmn ⊢;refine aK func58 ntmps58 ?_;have haT:=YL.ok.low;have Vt:=V8.ok.low;have Wu:=VY.ok.low
  (have W:=jA haT (jA Vt (Wu));repeat' (first|(with_reducible refine gR 2 ?_);refine iQ (TL p C k _) ?_|refine au fun K hK=>?_|refine aq ?_|(with_reducible refine gR 1 ?_);refine dC 1 ([],[6],[7]) [] (bf 0 7) mixed ?_|(refine hK _ _ ?_;clear hK K)|(refine ar ?_ ?_<;>intro hc<;>try exact jz)|refine cL 9 ?_|refine cL (hn 3 k) ?_|refine cq (ZD) ?_|refine cN hhn ?_|refine cp (hmn) ?_|refine cT Wh ?_|refine cT Yv ?_|refine av ?_|exact jI|(clear hK K)))
  exact eu (e:=[]) rfl ⟨fun _ _ _=>rfl,List.nodup_nil,fun i r h=>by cases h⟩ VY.ok (fun _=>rfl) (du jC dL) [.tmp 2]
end Go.Proofs.YtjpcgmjaipfgdaaGreatDoor
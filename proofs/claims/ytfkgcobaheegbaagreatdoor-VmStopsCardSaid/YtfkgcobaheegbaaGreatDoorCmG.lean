/- Lemmas. No conditions. -/
import Derived.Test.YtfkgcobaheegbaaGreatDoorCmB
set_option linter.all false
set_option maxHeartbeats 4000000
set_option maxRecDepth 10000
namespace Go.Gd
open Go
theorem Ke(f:Int->Int->List au)(k:Int)(L:List Int)(i:Nat):(lays f k (L.take i) []).length<=(lays f k L []).length:=by have e:=xl f (L.take i) (L.drop i) k [];rw[List.take_append_drop]at e;rw[e,vH f (L.drop i)];simp
theorem Qz(f:Int->Int->List au)(k:Int)(L:List Int)(i:Nat)(h:i<L.length):lays f k (L.take (i+1)) []=lays f k (L.take i) []++f (nth L i) (k+(lays f k (L.take i) []).length):=by rw[show L.take (i+1)=L.take i++[nth L i] by rw[List.take_succ,List.getElem?_eq_getElem h,dN h];rfl,xl];rfl
end Go.Gd
namespace Go.Proofs.YtfkgcobaheegbaaGreatDoor
open Go Go.Gd Tryz
theorem Cs(p:ab)(f:FuncId)(hf:bz prog f=true)(g:Int->Int->List au)(l:List Int)(L:List au)(hl:l.length<=1000)(B:Nat)(hB:¬(B<L.length+(lays g L.length l []).length))
  (hc:∀x∈l,∀M:List au,¬(B<M.length)->aj prog f [.pt 0 0 0 0,rI x] (bO p M) (fun r l=>r=.bj []/\l=bO p (M++g x M.length))) :
  aj prog 168 [bp eI 1 l,.bd f [.pt 0 0 0 0]] (bO p L) (fun r l'=>r=.bj []/\l'=bO p (L++lays g L.length l [])):=by
 refine aT func168 ntmps168 ?_;generalize hE:bO p (L++lays g L.length l [])=E
 (refine S ?_;try exact jI)
 (repeat' (first|refine aB fun K hK=>?_|refine aC ?_|(refine hK _ _ ?_;clear hK K)|(refine aA ?_ ?_<;>intro hc<;>try exact jz)|refine aD ?_|exact jI|(clear hK K)))
 refine fi (S:=Nat) [(5,1),(8,8)] (fun k=>k<=l.length) (fun k=>[(8,rI k)]) (fun k=>⟨[0,1],bO p (L++lays g L.length (l.take k) [])⟩) (fun k=>l.length-k) 0 jB (fj (by show _=Hp.mk _ (bO p (L++[]));rw[List.append_nil];rfl) cQ) ?_;rintro k hk Kr hKr;have hle:=Ke g L.length l k;by_cases hlt:k<l.length
 ·have hcx:=hc (nth l k) (dT hlt) (L++lays g L.length (l.take k) []) (by rw[List.length_append];omega);have hs:=Qz g L.length l k hlt;rw[List.append_assoc,show((L++lays g L.length (l.take k) []).length:Int)=L.length+(lays g L.length (l.take k) []).length by rw[List.length_append];rfl,<-hs]at hcx;generalize hX:lays g L.length (l.take k) []=X at*;generalize hY:lays g L.length (l.take (k+1)) []=Y at*
  (refine S ?_;try exact jI)
  (have W:=hf;repeat' (first|refine aB fun K hK=>?_|refine aC ?_|(refine hK _ _ ?_;clear hK K)|(refine aA ?_ ?_<;>intro hc<;>try exact jz)|refine bm hcx ?_|refine aD ?_|exact jI|(clear hK K)));all_goals(try clear W)
  refine hKr _ _ (fw (k+1) jB jJ (by rw[hY];simp only[bO,iN,List.length_append,List.map_append,List.cons_append,List.nil_append]) cQ)
 ·have e:k=l.length:=jB;subst e;rw[List.take_length,hE]
  (refine S ?_;try exact jI)
  (repeat' (first|refine aB fun K hK=>?_|refine aC ?_|(refine hK _ _ ?_;clear hK K)|(refine aA ?_ ?_<;>intro hc<;>try exact jz)|refine aD ?_|exact jI|(clear hK K)))
  (refine bW [] ?_ ?_<;>(try simp only[go_sem]))
theorem NG(n:bk)(f:aX):aj prog 279 [.agg (gg f),.pt 4 0 0 0] [(4,.var 53 (fb n))] (fun r l=>r=rB (decide (f.name=n.name))/\l=[(4,.var 53 (fb n))]):=by
 refine aT func279 ntmps279 ?_
 (repeat' (first|refine aB fun K hK=>?_|refine aC ?_|(refine hK _ _ ?_;clear hK K)|(refine aA ?_ ?_<;>intro hc<;>try exact jz)|refine bx 5 ?_|refine aD ?_|exact jI|(clear hK K)))
 (refine bH [.tmp 3] ?_;try simp only[go_sem])
theorem Mq(n:bk)(L:List aX)(k:Nat)(hL:L.length<=1000)(hk:k<L.length)(hnm:(nth L k).name=n.name)(hone:∀i,i<k->(nth L i).name≠n.name) :
  aj prog 56 [bp gg 5 L,.fQ 279 [.pt 4 0 0 0]] [(4,.var 53 (fb n))] (fun r l=>r=rI k/\l=[(4,.var 53 (fb n))]):=by
 refine aT func56 ntmps56 ?_
 (repeat' (first|refine aB fun K hK=>?_|refine aC ?_|(refine hK _ _ ?_;clear hK K)|(refine aA ?_ ?_<;>intro hc<;>try exact jz)|refine aD ?_|exact jI|(clear hK K)))
 refine fi (S:=Nat) [(4,2),(8,11)] (fun i=>i<=k) (fun i=>[(8,rI i)]) (fun i=>⟨[4],[(4,.var 53 (fb n))]⟩) (fun i=>k-i) 0 jB (fj rfl cQ) ?_;rintro i hi Kr hKr;have hfc:=NG n (nth L i);by_cases e:i=k
 ·subst e;rw[decide_eq_true hnm]at hfc
  (refine S ?_;try exact jI)
  (repeat' (first|refine aB fun K hK=>?_|refine aC ?_|(refine hK _ _ ?_;clear hK K)|(refine aA ?_ ?_<;>intro hc<;>try exact jz)|refine cl hfc ?_|refine aD ?_|exact jI|(clear hK K)))
  (refine bH [.tmp 4] ?_;try simp only[go_sem])
 ·rw[decide_eq_false (hone i jB)]at hfc
  (refine S ?_;try exact jI)
  (repeat' (first|refine aB fun K hK=>?_|refine aC ?_|(refine hK _ _ ?_;clear hK K)|(refine aA ?_ ?_<;>intro hc<;>try exact jz)|refine cl hfc ?_|refine aD ?_|exact jI|(clear hK K)))
  refine hKr _ _ (fw (i+1) jB jJ rfl cQ)
variable{p:ab}{n:Nat}
theorem Nj(hp:j4 p)(hx:CE p n)(a:Int)(L:List au)(h0:0<=a)(hl:a.toNat<p.aa.nodes.length)(hk:(ai p a).kind=21)(hn:a.toNat<n+1)(hL:¬(1000000<L.length+3000*(n+1))):aj prog 259 [.pt 0 0 0 0,.agg (fb (ai p a))] (bO p L) (fun r l=>r=.bj []/\l=bO p (L++cC p n a L.length)):=by
 have ht:=hp.ok.ok.aa;have hfns:=ht.ao;have hm:=ht.many;have hb:=(ht.shape a.toNat hl).2.1;have hkids:=(ht.shape a.toNat hl).1.call hk;obtain⟨lo,hch⟩:=(ht.shape a.toNat hl).2.2;have hlen:=z7 ht n (L.length:Int) lo hl hk hch;obtain⟨k,hc⟩:=callee hp.ok hl hk;have hix:=Mq (ai p a) p.aa.ao k jB hc.lt hc.name (fun i hi=>by have:=hp.ok.names.one i k hi hc.lt;rwa [hc.name]at this);have hlc:(cC p n a L.length).length=(lays (aR p n) (L.length:Int) (ai p a).l []).length+1:=by unfold cC;simp
 have hea:=Cs p 225 jD (aR p n) (ai p a).l L (by have:=hc.zU;omega) (1000000-3000*n) jB (fun x hxm M hM=>by have hbx:=hb x hxm;have hxe:=hkids x hxm;have:=hx x M hbx.1 jB (.inl hxe) jB jB;rwa [nk hxe]at this)
 have hc1:Cd p a=k:=hc.last;unfold cC;rw[hc1];have hL:¬(997000<L.length):=jB;rename_i hL0;clear hx hL0;have hfew:=hc.zU;generalize ai p a=nd at*;generalize hX:lays (aR p n) (L.length:Int) nd.l []=X at*;simp only[<-List.append_assoc];refine aT func259 ntmps259 ?_
 (refine S ?_;try exact jI)
 (repeat' (first|refine aB fun K hK=>?_|refine aC ?_|(with_reducible refine gR 3 ?_);refine dE 3 [0,1,2,3,4,5,6,7,8,9,10,11,12,13,14] mixed ?_|(refine hK _ _ ?_;clear hK K)|(refine aA ?_ ?_<;>intro hc<;>try exact jz)|refine fa 4 ?_|refine cm (hea) ?_|refine cm (hix) ?_|refine aD ?_|exact jI|(clear hK K)))
 (refine bH [] ?_;try simp only[go_sem])
attribute [local go_sem] iI
theorem IM(a x:Int)(L X:List au)(op:Int)(h0:0<=a)(hl:a.toNat<p.aa.nodes.length)(hs:a.toNat<p.slots.length)(hlx:(ai p a).l=[x])(hL:¬(1000000<(L++X).length))
  (hm:oC (ai p a).kind [6,7,8,20,5] [rI 10,rI 8,rI 9,rI 13,rI 11] (.raw (.int .i64 0)) true=.bj [rI op,rB true])
  (ex:aj prog 225 [.pt 0 0 0 0,rI x] (bO p L) (fun r l=>r=.bj []/\l=bO p (L++X))) :
  aj prog 225 [.pt 0 0 0 0,rI a] (bO p L) (fun r l=>r=.bj []/\l=bO p (L++X++[iI op (if nth p.slots a.toNat<0 then 0 else nth p.slots a.toNat)])):=by
 have hnode:=n7 p L a h0 hl;have hpt:=fun v=>iS p (L++X) op v jB
 generalize ai p a=nd at*;refine aT func225 ntmps225 ?_
 (refine S ?_;try exact jI)
 (have W:=hlx;repeat' (first|refine aB fun K hK=>?_|refine aC ?_|(refine hK _ _ ?_;clear hK K)|(refine aA ?_ ?_<;>intro hc<;>try exact jz)|refine al 5 ?_|refine cm (hnode) ?_|refine uh 6 ?_|refine la [] jn ?_|refine la [6] jn ?_|refine la [6,7] jn ?_|refine la [6,7,8] jn ?_|refine la [6,7,8,20] jn ?_|refine xS (n:=nd.kind) (vs:=[rI 10,rI 8,rI 9,rI 13,rI 11]) [6,7,8,20,5] (.int .i64 0) (.bj [rI op,rB true]) jn jG hm ?_|refine cm (ex) ?_|refine cm (hpt _) ?_|refine aD ?_|exact jI|(clear hK K)));all_goals(try clear W)
 (refine bH [] ?_;try simp only[go_sem])
theorem OU(a:Int)(L X:List au)(h0:0<=a)(hl:a.toNat<p.aa.nodes.length)
  (hm:oC (ai p a).kind [6,7,8,20,5] [rI 10,rI 8,rI 9,rI 13,rI 11] (.raw (.int .i64 0)) true=.bj [rI 0,rB false]) (hk:(ai p a).kind=9)
  (ex:aj prog 258 [.pt 0 0 0 0,.agg (fb (ai p a))] (bO p L) (fun r l=>r=.bj []/\l=bO p (L++X))) :
  aj prog 225 [.pt 0 0 0 0,rI a] (bO p L) (fun r l=>r=.bj []/\l=bO p (L++X)):=by
 have hnode:=n7 p L a h0 hl;generalize ai p a=nd at*;rw[hk]at hm;refine aT func225 ntmps225 ?_
 (refine S ?_;try exact jI)
 (have W:=hk;repeat' (first|refine aB fun K hK=>?_|refine aC ?_|(refine hK _ _ ?_;clear hK K)|(refine aA ?_ ?_<;>intro hc<;>try exact jz)|refine al 5 ?_|refine cm (hnode) ?_|refine uh 6 ?_|refine la [] jn ?_|refine la [6] jn ?_|refine la [6,7] jn ?_|refine la [6,7,8] jn ?_|refine la [6,7,8,20] jn ?_|refine xS (n:=9) (vs:=[rI 10,rI 8,rI 9,rI 13,rI 11]) [6,7,8,20,5] (.int .i64 0) (.bj [rI 0,rB false]) jn jG hm ?_|refine cm (ex) ?_|refine aD ?_|exact jI|(clear hK K)));all_goals(try clear W)
 (refine bH [] ?_;try simp only[go_sem])
theorem OP(a:Int)(L X:List au)(h0:0<=a)(hl:a.toNat<p.aa.nodes.length)
  (hm:oC (ai p a).kind [6,7,8,20,5] [rI 10,rI 8,rI 9,rI 13,rI 11] (.raw (.int .i64 0)) true=.bj [rI 0,rB false]) (hk:(ai p a).kind=21)
  (ex:aj prog 259 [.pt 0 0 0 0,.agg (fb (ai p a))] (bO p L) (fun r l=>r=.bj []/\l=bO p (L++X))) :
  aj prog 225 [.pt 0 0 0 0,rI a] (bO p L) (fun r l=>r=.bj []/\l=bO p (L++X)):=by
 have hnode:=n7 p L a h0 hl;generalize ai p a=nd at*;rw[hk]at hm;refine aT func225 ntmps225 ?_
 (refine S ?_;try exact jI)
 (have W:=hk;repeat' (first|refine aB fun K hK=>?_|refine aC ?_|(refine hK _ _ ?_;clear hK K)|(refine aA ?_ ?_<;>intro hc<;>try exact jz)|refine al 5 ?_|refine cm (hnode) ?_|refine uh 6 ?_|refine la [] jn ?_|refine la [6] jn ?_|refine la [6,7] jn ?_|refine la [6,7,8] jn ?_|refine la [6,7,8,20] jn ?_|refine xS (n:=21) (vs:=[rI 10,rI 8,rI 9,rI 13,rI 11]) [6,7,8,20,5] (.int .i64 0) (.bj [rI 0,rB false]) jn jG hm ?_|refine cm (ex) ?_|refine aD ?_|exact jI|(clear hK K)));all_goals(try clear W)
 (refine bH [] ?_;try simp only[go_sem])
theorem Ma(a:Int)(L X:List au)(h0:0<=a)(hl:a.toNat<p.aa.nodes.length)
  (hm:oC (ai p a).kind [6,7,8,20,5] [rI 10,rI 8,rI 9,rI 13,rI 11] (.raw (.int .i64 0)) true=.bj [rI 0,rB false]) (hk:(ai p a).kind≠9) (hk2:(ai p a).kind≠21)
  (ex:aj prog 260 [.pt 0 0 0 0,.agg (fb (ai p a)),rI a] (bO p L) (fun r l=>r=.bj []/\l=bO p (L++X))) :
  aj prog 225 [.pt 0 0 0 0,rI a] (bO p L) (fun r l=>r=.bj []/\l=bO p (L++X)):=by
 have hnode:=n7 p L a h0 hl;generalize ai p a=nd at*;have n1:=eq_false hk;have n2:=eq_false hk2;refine aT func225 ntmps225 ?_
 (refine S ?_;try exact jI)
 (have W:=jA n1 n2;repeat' (first|refine aB fun K hK=>?_|refine aC ?_|(refine hK _ _ ?_;clear hK K)|(refine aA ?_ ?_<;>intro hc<;>try exact jz)|refine al 5 ?_|refine cm (hnode) ?_|refine uh 6 ?_|refine la [] jn ?_|refine la [6] jn ?_|refine la [6,7] jn ?_|refine la [6,7,8] jn ?_|refine la [6,7,8,20] jn ?_|refine xS (n:=nd.kind) (vs:=[rI 10,rI 8,rI 9,rI 13,rI 11]) [6,7,8,20,5] (.int .i64 0) (.bj [rI 0,rB false]) jn jG hm ?_|refine cm (ex) ?_|refine aD ?_|exact jI|(clear hK K)));all_goals(try clear W)
 (refine bH [] ?_;try simp only[go_sem])
theorem KN(ht:aH p.aa)(n m:Nat)(a k:Int)(hl:a.toNat<p.aa.nodes.length)(hk:(ai p a).kind=21)(hn:a.toNat<=n)(hm:a.toNat<=m):cC p n a k=cC p m a k:=by
 have hb:=(ht.shape a.toNat hl).2.1;have hkids:=(ht.shape a.toNat hl).1.call hk;unfold cC;rw[Em (ai p a).l k [] fun x hx j=>by have hbx:=hb x hx;exact A1 ht n m x j hbx.1 jB (hkids x hx) jB jB]
theorem Gx{p:ab}(hp:j4 p):∀n,CE p n
 |0=>fun a L h0 hl hk hn hL=>by omega
 |n+1=>fun a L h0 hl hk hn hL=>by
  have hx:=Gx hp n;have ht:=hp.ok.ok.aa;have hm:=ht.many;have hb:=(ht.shape a.toNat hl).2.1;have hsl:p.slots.length=p.aa.nodes.length:=hp.ok.ok.slots;have hty:p.types.length=p.aa.nodes.length:=hp.ok.ok.types;have sh:=(ht.shape a.toNat hl).1;have hk':dW (ai p a).kind:=hk;unfold dW bQ at hk';have ay:∀x k,x∈(ai p a).l->bQ (bt p.aa.nodes x)->aR p (n+1) x k=aR p n x k:=fun x k hx hxe=>by have:=hb x hx;exact A1 ht (n+1) n x k this.1 jB hxe jB jB
  by_cases e21:(ai p a).kind=21
  ·have h1:=Nj hp hx a L h0 hl e21 hn jB;rw[show je p (n+1) a L.length=cC p n a L.length by rw[sW,jN,jN,if_pos e21];exact KN ht _ _ a _ hl e21 jB jB];exact OP a L _ h0 hl (by rw[e21];rfl) e21 h1
  by_cases e9:(ai p a).kind=9
  ·have h1:=Q4 hp hx a L h0 hl e9 hn jB;rw[nk (show bQ _ by unfold bQ;show 1<=(ai p a).kind/\(ai p a).kind<=9;omega)];exact OU a L _ h0 hl (by rw[e9];rfl) e9 h1
  have hsing:∀op k,(ai p a).kind=k->(k=5\/k=6\/k=7\/k=8\/k=20)->oC k [6,7,8,20,5] [rI 10,rI 8,rI 9,rI 13,rI 11] (.raw (.int .i64 0)) true=.bj [rI op,rB true]->∃x X,(ai p a).l=[x]/\aR p n x L.length=X/\aR p (n+1) x L.length=X/\
    aj prog 225 [.pt 0 0 0 0,rI a] (bO p L) (fun r l=>r=.bj []/\l=bO p (L++(X++[iI op (if nth p.slots a.toNat<0 then 0 else nth p.slots a.toNat)]))):=fun op k e hk5 hm5=>by
   obtain⟨x,hlx,hxE⟩:=sh.one (by have e:(nth p.aa.nodes a.toNat).kind=k:=e;omega);have hlx:(ai p a).l=[x]:=hlx;have hbx:=hb x (by show x∈(ai p a).l;rw[hlx];simp);obtain⟨lo,hch⟩:=(ht.shape a.toNat hl).2.2;have hch:aG p.aa.nodes lo (ai p a).l a.toNat:=hch;rw[hlx]at hch;obtain⟨d1,d2,d3,d4,d5⟩:=jT hch;have lx:=mh ht n x L.length lo d1 jB hxE d5;have ex:=hx x L hbx.1 jB (.inl hxE) jB jB;rw[nk hxE]at ex;refine⟨x,aR p n x L.length,hlx,rfl,ay x _ (by rw[hlx];simp) hxE,?_⟩;rw[<-List.append_assoc];exact IM a x L _ op h0 hl jB hlx (by rw[List.length_append];omega) (by rw[e];exact hm5) ex
  have neg:(ai p a).kind=6\/(ai p a).kind=7\/(ai p a).kind=8\/(ai p a).kind=20->(if nth p.slots a.toNat<0 then 0 else nth p.slots a.toNat)=0:=fun e=>by have:=hp.neg a.toNat hl (by unfold iA;have e:(nth p.aa.nodes a.toNat).kind=6\/(nth p.aa.nodes a.toNat).kind=7\/(nth p.aa.nodes a.toNat).kind=8\/(nth p.aa.nodes a.toNat).kind=20:=e;omega);split<;>omega
  by_cases e5:(ai p a).kind=5
  ·obtain⟨x,X,h1,h2,h2',h3⟩:=hsing 11 5 e5 jB rfl;have hps:=hp.pos a.toNat hl (by unfold iA;have e:(nth p.aa.nodes a.toNat).kind=5:=e5;omega);rw[jN]at h3;rw[nk (show bQ _ by unfold bQ;show 1<=(ai p a).kind/\(ai p a).kind<=9;omega),lQ];simp only[e5,h1,Int.reduceEq,↓reduceIte];rw[show nth [x] 0=x from rfl,h2];exact h3
  by_cases e6:(ai p a).kind=6
  ·obtain⟨x,X,h1,h2,h2',h3⟩:=hsing 10 6 e6 jB rfl;rw[neg jB]at h3;rw[nk (show bQ _ by unfold bQ;show 1<=(ai p a).kind/\(ai p a).kind<=9;omega),lQ];simp only[e6,h1,Int.reduceEq,↓reduceIte];rw[show nth [x] 0=x from rfl,h2];exact h3
  by_cases e7:(ai p a).kind=7
  ·obtain⟨x,X,h1,h2,h2',h3⟩:=hsing 8 7 e7 jB rfl;rw[neg jB]at h3;rw[nk (show bQ _ by unfold bQ;show 1<=(ai p a).kind/\(ai p a).kind<=9;omega),lQ];simp only[e7,h1,Int.reduceEq,↓reduceIte];rw[show nth [x] 0=x from rfl,h2];exact h3
  by_cases e8:(ai p a).kind=8
  ·obtain⟨x,X,h1,h2,h2',h3⟩:=hsing 9 8 e8 jB rfl;rw[neg jB]at h3;rw[nk (show bQ _ by unfold bQ;show 1<=(ai p a).kind/\(ai p a).kind<=9;omega),lQ];simp only[e8,h1,Int.reduceEq,↓reduceIte];rw[show nth [x] 0=x from rfl,h2];exact h3
  by_cases e20:(ai p a).kind=20
  ·obtain⟨x,X,h1,h2,h2',h3⟩:=hsing 13 20 e20 jB rfl;rw[neg jB]at h3;rw[sW];simp only[e20,h1,Int.reduceEq,↓reduceIte];rw[show nth [x] 0=x from rfl,h2'];exact h3
  have hlf:=IQ p L a h0 jB jB jB;rw[show je p (n+1) a L.length=yp p a by unfold yp;have hcase:(ai p a).kind=1\/(ai p a).kind=2\/(ai p a).kind=3\/(ai p a).kind=4\/(ai p a).kind=19:=jB;rcases hcase with e|e|e|e|e<;>(rw[sW,lQ p n a];simp only[e,Int.reduceEq,↓reduceIte])]
  exact Ma a L _ h0 hl (by have hcase:(ai p a).kind=1\/(ai p a).kind=2\/(ai p a).kind=3\/(ai p a).kind=4\/(ai p a).kind=19:=jB;rcases hcase with e|e|e|e|e<;>(rw[e];rfl)) e9 e21 hlf
attribute [local go_sem] iI
def Ia(p:ab)(n:Nat):Prop:=∀(a:Int) (L:List au),0<=a->a.toNat<p.aa.nodes.length->dL (bt p.aa.nodes a)->a.toNat<n->¬(1000000<L.length+3000*n)->aj prog 170 [.pt 0 0 0 0,rI a] (bO p L) (fun r l=>r=.bj []/\l=bO p (L++gN p n a L.length))
theorem Gs(ht:aH p.aa)(n:Nat)(b:Int)(k:Int)(lo:Nat)(b0:0<=b)(b1:b.toNat<p.aa.nodes.length)(b2:bt p.aa.nodes b=18)(b3:aG p.aa.nodes lo (ai p b).l b.toNat):(lays (gN p n) k (ai p b).l []).length+4*lo<=4*b.toNat:=
 wY (f:=gN p n) (ai p b).l k lo b.toNat b3 fun x hx k lo hcx=>by have hb:=(ht.shape b.toNat b1).2.1 x hx;exact A5 ht n x k lo hb.1 jB ((ht.shape b.toNat b1).1.block b2 x hx) hcx
theorem ye(ht:aH p.aa)(n:Nat)(b:Int)(k:Int)(b0:0<=b)(b1:b.toNat<p.aa.nodes.length)(b2:bt p.aa.nodes b=18):(lays (gN p n) k (ai p b).l []).length<=1200:=by obtain⟨lo,b3⟩:=(ht.shape b.toNat b1).2.2;have hm:=ht.many;have:=Gs ht n b k lo b0 b1 b2 b3;omega
theorem Al(hp:j4 p)(hs:Ia p n)(b:Int)(L:List au)(h0:0<=b)(hl:b.toNat<p.aa.nodes.length)(hk:bt p.aa.nodes b=18)(hn:b.toNat<=n)(hL:¬(998700<L.length+3000*n)) :
  aj prog 123 [.pt 0 0 0 0,rI b] (bO p L) (fun r l=>r=.bj []/\l=bO p (L++lays (gN p n) L.length (ai p b).l [])):=by
 have ht:=hp.ok.ok.aa;have hm:=ht.many;have hb:=(ht.shape b.toNat hl).2.1;have hkids:=(ht.shape b.toNat hl).1.block hk;have hlen:=ye ht n b L.length h0 hl hk;obtain⟨lo,hch⟩:=(ht.shape b.toNat hl).2.2;have hcl:lo+(ai p b).l.length<=b.toNat:=Ag hch;have hnode:=n7 p L b h0 hl;have hea:=Cs p 170 jD (gN p n) (ai p b).l L jB (1000000-3000*n) jB (fun x hxm M hM=>by have hbx:=hb x hxm;exact hs x M hbx.1 jB (hkids x hxm) jB jB)
 clear hs;generalize ai p b=nd at*;generalize hX:lays (gN p n) L.length nd.l []=X at*;refine aT func123 ntmps123 ?_
 (refine S ?_;try exact jI)
 (repeat' (first|refine aB fun K hK=>?_|refine aC ?_|(refine hK _ _ ?_;clear hK K)|(refine aA ?_ ?_<;>intro hc<;>try exact jz)|refine cm (hnode) ?_|refine cm (hea) ?_|refine aD ?_|exact jI|(clear hK K)))
 (refine bH [] ?_;try simp only[go_sem])
theorem Lj(L X Y:List au)(op v:Int)(k:Nat)(hk:k=L.length+X.length):(L++X++[iI op 0]++Y).set k { iI op 0 with a:=v }=L++X++[iI op v]++Y:=by subst hk;rw[List.append_assoc (L++X),List.set_append_right _ _ jE];simp[iI]
theorem O2(L X Y:List au)(x:au)(k:Nat)(hk:k=L.length+X.length):nth (L++X++[x]++Y) k=x:=by subst hk;rw[List.append_assoc (L++X)];simp[nth]
theorem xV(p:ab)(L X Y:List au)(op:Int)(k:Nat)(hk:k=L.length+X.length)(hL:¬(1000000<L.length+X.length+1+Y.length)) :
  aj prog 257 [.pt 0 0 0 0,rI k] (bO p (L++X++[iI op 0]++Y)) (fun r l=>r=.bj []/\l=bO p (L++X++[iI op (L.length+X.length+1+Y.length:Nat)]++Y)):=by
 have h:=At p (L++X++[iI op 0]++Y) k (by simp only[List.length_append,List.length_singleton];omega) (by simp only[List.length_append,List.length_singleton];omega);rw[O2 L X Y _ k hk,Lj L X Y op _ k hk]at h;rwa [show(L++X++[iI op 0]++Y).length=L.length+X.length+1+Y.length by simp only[List.length_append,List.length_singleton]]at h
theorem JU(nd:bk)(x b:Int)(L X B:List au)(mark:Int)(hL:¬(999700<L.length+X.length+B.length))(hk:nd.kind=16)(hlx:nd.l=[x,b])
  (ex:aj prog 225 [.pt 0 0 0 0,rI x] (bO p L) (fun r l=>r=.bj []/\l=bO p (L++X)))
  (eb:aj prog 123 [.pt 0 0 0 0,rI b] (bO p (L++X++[iI 17 0])) (fun r l=>r=.bj []/\l=bO p (L++X++[iI 17 0]++B))) :
  aj prog 224 [.pt 0 0 0 0,.agg (fb nd),rI mark] (bO p L) (fun r l=>r=.bj []/\l=bO p (L++X++[iI 17 (L.length+X.length+1+(B.length+1):Nat)]++(B++[iI 16 mark]))):=by
 have h1:=iS p (L++X) 17 0 (by simp only[List.length_append];omega);have h2:=iS p (L++X++[iI 17 0]++B) 16 mark (by simp only[List.length_append,List.length_singleton];omega);have h3:=xV p L X (B++[iI 16 mark]) 17 (L.length+X.length) rfl (by simp only[List.length_append,List.length_singleton];omega);rw[show(B++[iI 16 mark]).length=B.length+1 from jE]at h3;simp only[<-List.append_assoc]at h3 ⊢;refine aT func224 ntmps224 ?_
 (refine S ?_;try exact jI)
 (have W:=jA hk hlx;repeat' (first|refine aB fun K hK=>?_|refine aC ?_|(refine hK _ _ ?_;clear hK K)|(refine aA ?_ ?_<;>intro hc<;>try exact jz)|refine bx 5 ?_|refine cm (ex) ?_|refine cm (h1) ?_|refine cm (eb) ?_|refine cm (h2) ?_|refine cm (h3) ?_|refine aD ?_|exact jI|(clear hK K)));all_goals(try clear W)
 (refine bH [] ?_;try simp only[go_sem])
theorem Mu(nd:bk)(x b:Int)(L X B:List au)(mark:Int)(hL:¬(999700<L.length+X.length+B.length))(hk:nd.kind≠16)(hlx:nd.l=[x,b])
  (ex:aj prog 225 [.pt 0 0 0 0,rI x] (bO p L) (fun r l=>r=.bj []/\l=bO p (L++X)))
  (eb:aj prog 123 [.pt 0 0 0 0,rI b] (bO p (L++X++[iI 17 0])) (fun r l=>r=.bj []/\l=bO p (L++X++[iI 17 0]++B))) :
  aj prog 224 [.pt 0 0 0 0,.agg (fb nd),rI mark] (bO p L) (fun r l=>r=.bj []/\l=bO p (L++X++[iI 17 (L.length+X.length+1+B.length:Nat)]++B)):=by
 have h1:=iS p (L++X) 17 0 (by simp only[List.length_append];omega);have h3:=xV p L X B 17 (L.length+X.length) rfl jB;have n1:=eq_false hk;refine aT func224 ntmps224 ?_
 (refine S ?_;try exact jI)
 (have W:=jA n1 hlx;repeat' (first|refine aB fun K hK=>?_|refine aC ?_|(refine hK _ _ ?_;clear hK K)|(refine aA ?_ ?_<;>intro hc<;>try exact jz)|refine bx 5 ?_|refine cm (ex) ?_|refine cm (h1) ?_|refine cm (eb) ?_|refine cm (h3) ?_|refine aD ?_|exact jI|(clear hK K)));all_goals(try clear W)
 (refine bH [] ?_;try simp only[go_sem])
theorem N7(nd:bk)(x b d:Int)(L X B D:List au)(mark:Int)(hL:¬(999700<L.length+X.length+B.length+D.length))(hk:nd.kind≠16)(hlx:nd.l=[x,b,d])
  (ex:aj prog 225 [.pt 0 0 0 0,rI x] (bO p L) (fun r l=>r=.bj []/\l=bO p (L++X)))
  (eb:aj prog 123 [.pt 0 0 0 0,rI b] (bO p (L++X++[iI 17 0])) (fun r l=>r=.bj []/\l=bO p (L++X++[iI 17 0]++B)))
  (ed:aj prog 123 [.pt 0 0 0 0,rI d] (bO p (L++X++[iI 17 (L.length+X.length+1+(B.length+1):Nat)]++B++[iI 16 0])) (fun r l=>r=.bj []/\l=bO p (L++X++[iI 17 (L.length+X.length+1+(B.length+1):Nat)]++B++[iI 16 0]++D))) :
  aj prog 224 [.pt 0 0 0 0,.agg (fb nd),rI mark] (bO p L) (fun r l=>r=.bj []/\l=bO p (L++X++[iI 17 (L.length+X.length+1+(B.length+1):Nat)]++(B++[iI 16 (L.length+X.length+1+B.length+1+D.length:Nat)])++D)):=by
 have h1:=iS p (L++X) 17 0 (by simp only[List.length_append];omega);have h2:=iS p (L++X++[iI 17 0]++B) 16 0 (by simp only[List.length_append,List.length_singleton];omega);have h3:=xV p L X (B++[iI 16 0]) 17 (L.length+X.length) rfl (by simp only[List.length_append,List.length_singleton];omega);rw[show(B++[iI 16 0]).length=B.length+1 from jE]at h3;have h4:=xV p (L++X++[iI 17 (L.length+X.length+1+(B.length+1):Nat)]) B D 16 (L.length+X.length+1+B.length) (by simp only[List.length_append,List.length_singleton]) (by simp only[List.length_append,List.length_singleton];omega);rw[show(L++X++[iI 17 (L.length+X.length+1+(B.length+1):Nat)]).length=L.length+X.length+1 by simp only[List.length_append,List.length_singleton]]at h4;simp only[<-List.append_assoc]at h3 h4 ⊢;have n1:=eq_false hk;refine aT func224 ntmps224 ?_
 (refine S ?_;try exact jI)
 (have W:=jA n1 hlx;repeat' (first|refine aB fun K hK=>?_|refine aC ?_|(refine hK _ _ ?_;clear hK K)|(refine aA ?_ ?_<;>intro hc<;>try exact jz)|refine bx 5 ?_|refine cm (ex) ?_|refine cm (h1) ?_|refine cm (eb) ?_|refine cm (h2) ?_|refine cm (h3) ?_|refine cm (ed) ?_|refine cm (h4) ?_|refine aD ?_|exact jI|(clear hK K)));all_goals(try clear W)
 (refine bH [] ?_;try simp only[go_sem])
attribute [local go_sem] iI
theorem PR(a:Int)(L Y:List au)(h0:0<=a)(hl:a.toNat<p.aa.nodes.length)(hs:a.toNat<p.slots.length)(hL:¬(999900<L.length+Y.length))(hk:(ai p a).kind=10)
  (hea:aj prog 168 [bp eI 1 (ai p a).l,.bd 225 [.pt 0 0 0 0]] (bO p (L++[iI 1 a])) (fun r l=>r=.bj []/\l=bO p (L++[iI 1 a]++Y))) :
  aj prog 170 [.pt 0 0 0 0,rI a] (bO p L) (fun r l=>r=.bj []/\l=bO p (L++[iI 1 a]++Y++[iI 6 (nth p.slots a.toNat)])):=by
 have hnode:=n7 p L a h0 hl;have h1:=iS p L 1 a jB;have h2:=iS p (L++[iI 1 a]++Y) 6 (nth p.slots a.toNat) (by simp only[List.length_append,List.length_singleton];omega);generalize ai p a=nd at*;refine aT func170 ntmps170 ?_
 (refine S ?_;try exact jI)
 (have W:=hk;repeat' (first|refine aB fun K hK=>?_|refine aC ?_|(refine hK _ _ ?_;clear hK K)|(refine aA ?_ ?_<;>intro hc<;>try exact jz)|refine al 5 ?_|refine cm (hnode) ?_|refine cm (h1) ?_|refine cm (hea) ?_|refine cm (h2) ?_|refine aD ?_|exact jI|(clear hK K)));all_goals(try clear W)
 (refine bH [] ?_;try simp only[go_sem])
theorem Q1(a:Int)(L Y:List au)(h0:0<=a)(hl:a.toNat<p.aa.nodes.length)(hs:a.toNat<p.slots.length)(hL:¬(999900<L.length+Y.length))(hk:(ai p a).kind=11)
  (hea:aj prog 168 [bp eI 1 (ai p a).l,.bd 225 [.pt 0 0 0 0]] (bO p (L++[iI 1 a])) (fun r l=>r=.bj []/\l=bO p (L++[iI 1 a]++Y))) :
  aj prog 170 [.pt 0 0 0 0,rI a] (bO p L) (fun r l=>r=.bj []/\l=bO p (L++[iI 1 a]++Y++[iI 6 (nth p.slots a.toNat)])):=by
 have hnode:=n7 p L a h0 hl;have h1:=iS p L 1 a jB;have h2:=iS p (L++[iI 1 a]++Y) 6 (nth p.slots a.toNat) (by simp only[List.length_append,List.length_singleton];omega);generalize ai p a=nd at*;refine aT func170 ntmps170 ?_
 (refine S ?_;try exact jI)
 (have W:=hk;repeat' (first|refine aB fun K hK=>?_|refine aC ?_|(refine hK _ _ ?_;clear hK K)|(refine aA ?_ ?_<;>intro hc<;>try exact jz)|refine al 5 ?_|refine cm (hnode) ?_|refine cm (h1) ?_|refine cm (hea) ?_|refine cm (h2) ?_|refine aD ?_|exact jI|(clear hK K)));all_goals(try clear W)
 (refine bH [] ?_;try simp only[go_sem])
theorem KM(a:Int)(L Y:List au)(h0:0<=a)(hl:a.toNat<p.aa.nodes.length)(hs:a.toNat<p.slots.length)(hL:¬(999900<L.length+Y.length))(hk:(ai p a).kind=12)
  (hea:aj prog 168 [bp eI 1 (ai p a).l,.bd 225 [.pt 0 0 0 0]] (bO p (L++[iI 1 a])) (fun r l=>r=.bj []/\l=bO p (L++[iI 1 a]++Y))) :
  aj prog 170 [.pt 0 0 0 0,rI a] (bO p L) (fun r l=>r=.bj []/\l=bO p (L++[iI 1 a]++Y++[iI 12 (nth p.slots a.toNat)])):=by
 have hnode:=n7 p L a h0 hl;have h1:=iS p L 1 a jB;have h2:=iS p (L++[iI 1 a]++Y) 12 (nth p.slots a.toNat) (by simp only[List.length_append,List.length_singleton];omega);generalize ai p a=nd at*;refine aT func170 ntmps170 ?_
 (refine S ?_;try exact jI)
 (have W:=hk;repeat' (first|refine aB fun K hK=>?_|refine aC ?_|(refine hK _ _ ?_;clear hK K)|(refine aA ?_ ?_<;>intro hc<;>try exact jz)|refine al 5 ?_|refine cm (hnode) ?_|refine cm (h1) ?_|refine cm (hea) ?_|refine cm (h2) ?_|refine aD ?_|exact jI|(clear hK K)));all_goals(try clear W)
 (refine bH [] ?_;try simp only[go_sem])
theorem KD(a:Int)(L Y:List au)(h0:0<=a)(hl:a.toNat<p.aa.nodes.length)(hs:a.toNat<p.slots.length)(hL:¬(999900<L.length+Y.length))(hk:(ai p a).kind=13)
  (hea:aj prog 168 [bp eI 1 (ai p a).l,.bd 225 [.pt 0 0 0 0]] (bO p (L++[iI 1 a])) (fun r l=>r=.bj []/\l=bO p (L++[iI 1 a]++Y))) :
  aj prog 170 [.pt 0 0 0 0,rI a] (bO p L) (fun r l=>r=.bj []/\l=bO p (L++[iI 1 a]++Y++[iI 23 (0)])):=by
 have hnode:=n7 p L a h0 hl;have h1:=iS p L 1 a jB;have h2:=iS p (L++[iI 1 a]++Y) 23 (0) (by simp only[List.length_append,List.length_singleton];omega);generalize ai p a=nd at*;refine aT func170 ntmps170 ?_
 (refine S ?_;try exact jI)
 (have W:=hk;repeat' (first|refine aB fun K hK=>?_|refine aC ?_|(refine hK _ _ ?_;clear hK K)|(refine aA ?_ ?_<;>intro hc<;>try exact jz)|refine al 5 ?_|refine cm (hnode) ?_|refine cm (h1) ?_|refine cm (hea) ?_|refine cm (h2) ?_|refine aD ?_|exact jI|(clear hK K)));all_goals(try clear W)
 (refine bH [] ?_;try simp only[go_sem])
theorem LM(a:Int)(L Y:List au)(h0:0<=a)(hl:a.toNat<p.aa.nodes.length)(hs:a.toNat<p.slots.length)(hL:¬(999900<L.length+Y.length))(hk:(ai p a).kind=14)
  (hea:aj prog 168 [bp eI 1 (ai p a).l,.bd 225 [.pt 0 0 0 0]] (bO p (L++[iI 1 a])) (fun r l=>r=.bj []/\l=bO p (L++[iI 1 a]++Y))) :
  aj prog 170 [.pt 0 0 0 0,rI a] (bO p L) (fun r l=>r=.bj []/\l=bO p (L++[iI 1 a]++Y++[iI 15 (0)])):=by
 have hnode:=n7 p L a h0 hl;have h1:=iS p L 1 a jB;have h2:=iS p (L++[iI 1 a]++Y) 15 (0) (by simp only[List.length_append,List.length_singleton];omega);generalize ai p a=nd at*;refine aT func170 ntmps170 ?_
 (refine S ?_;try exact jI)
 (have W:=hk;repeat' (first|refine aB fun K hK=>?_|refine aC ?_|(refine hK _ _ ?_;clear hK K)|(refine aA ?_ ?_<;>intro hc<;>try exact jz)|refine al 5 ?_|refine cm (hnode) ?_|refine cm (h1) ?_|refine cm (hea) ?_|refine cm (h2) ?_|refine aD ?_|exact jI|(clear hK K)));all_goals(try clear W)
 (refine bH [] ?_;try simp only[go_sem])
theorem Mi(a:Int)(L Y:List au)(h0:0<=a)(hl:a.toNat<p.aa.nodes.length)(hs:a.toNat<p.slots.length)(hL:¬(999900<L.length+Y.length))(hk:(ai p a).kind=17)(hnl:(ai p a).l=[])
  (hea:aj prog 168 [bp eI 1 (ai p a).l,.bd 225 [.pt 0 0 0 0]] (bO p (L++[iI 1 a])) (fun r l=>r=.bj []/\l=bO p (L++[iI 1 a]++Y))) :
  aj prog 170 [.pt 0 0 0 0,rI a] (bO p L) (fun r l=>r=.bj []/\l=bO p (L++[iI 1 a]++Y++[iI 22 (0)])):=by
 have hnode:=n7 p L a h0 hl;have h1:=iS p L 1 a jB;have h2:=iS p (L++[iI 1 a]++Y) 22 (0) (by simp only[List.length_append,List.length_singleton];omega);generalize ai p a=nd at*;rw[hnl]at hea;refine aT func170 ntmps170 ?_
 (refine S ?_;try exact jI)
 (have W:=jA hk hnl;repeat' (first|refine aB fun K hK=>?_|refine aC ?_|(refine hK _ _ ?_;clear hK K)|(refine aA ?_ ?_<;>intro hc<;>try exact jz)|refine al 5 ?_|refine cm (hnode) ?_|refine cm (h1) ?_|refine cm (hea) ?_|refine cm (h2) ?_|refine aD ?_|exact jI|(clear hK K)));all_goals(try clear W)
 (refine bH [] ?_;try simp only[go_sem])
theorem Og(a:Int)(L Y:List au)(h0:0<=a)(hl:a.toNat<p.aa.nodes.length)(hs:a.toNat<p.slots.length)(hL:¬(999900<L.length+Y.length))(hk:(ai p a).kind=17)(x:Int)(hnl:(ai p a).l=[x])
  (hea:aj prog 168 [bp eI 1 (ai p a).l,.bd 225 [.pt 0 0 0 0]] (bO p (L++[iI 1 a])) (fun r l=>r=.bj []/\l=bO p (L++[iI 1 a]++Y))) :
  aj prog 170 [.pt 0 0 0 0,rI a] (bO p L) (fun r l=>r=.bj []/\l=bO p (L++[iI 1 a]++Y++[iI 21 (0)])):=by
 have hnode:=n7 p L a h0 hl;have h1:=iS p L 1 a jB;have h2:=iS p (L++[iI 1 a]++Y) 21 (0) (by simp only[List.length_append,List.length_singleton];omega);generalize ai p a=nd at*;rw[hnl]at hea;refine aT func170 ntmps170 ?_
 (refine S ?_;try exact jI)
 (have W:=jA hk hnl;repeat' (first|refine aB fun K hK=>?_|refine aC ?_|(refine hK _ _ ?_;clear hK K)|(refine aA ?_ ?_<;>intro hc<;>try exact jz)|refine al 5 ?_|refine cm (hnode) ?_|refine cm (h1) ?_|refine cm (hea) ?_|refine cm (h2) ?_|refine aD ?_|exact jI|(clear hK K)));all_goals(try clear W)
 (refine bH [] ?_;try simp only[go_sem])
theorem Cq(a:Int)(L Y:List au)(h0:0<=a)(hl:a.toNat<p.aa.nodes.length)(hL:¬(999900<L.length+Y.length))(hk:(ai p a).kind=15\/(ai p a).kind=16)
  (ht:aj prog 224 [.pt 0 0 0 0,.agg (fb (ai p a)),rI L.length] (bO p (L++[iI 1 a])) (fun r l=>r=.bj []/\l=bO p (L++[iI 1 a]++Y))) :
  aj prog 170 [.pt 0 0 0 0,rI a] (bO p L) (fun r l=>r=.bj []/\l=bO p (L++[iI 1 a]++Y)):=by
 have hnode:=n7 p L a h0 hl;have h1:=iS p L 1 a jB;generalize ai p a=nd at*;rcases hk with hk|hk
 ·refine aT func170 ntmps170 ?_
  (refine S ?_;try exact jI)
  (have W:=hk;repeat' (first|refine aB fun K hK=>?_|refine aC ?_|(refine hK _ _ ?_;clear hK K)|(refine aA ?_ ?_<;>intro hc<;>try exact jz)|refine al 5 ?_|refine cm (hnode) ?_|refine cm (h1) ?_|refine cm (ht) ?_|refine aD ?_|exact jI|(clear hK K)));all_goals(try clear W)
  (refine bH [] ?_;try simp only[go_sem])
 ·refine aT func170 ntmps170 ?_
  (refine S ?_;try exact jI)
  (have W:=hk;repeat' (first|refine aB fun K hK=>?_|refine aC ?_|(refine hK _ _ ?_;clear hK K)|(refine aA ?_ ?_<;>intro hc<;>try exact jz)|refine al 5 ?_|refine cm (hnode) ?_|refine cm (h1) ?_|refine cm (ht) ?_|refine aD ?_|exact jI|(clear hK K)));all_goals(try clear W)
  (refine bH [] ?_;try simp only[go_sem])
theorem Mf{a k:Int}(h:bt p.aa.nodes a=21):je p n a k=cC p n a k:=by have h:(ai p a).kind=21:=h;rw[sW,jN,jN,if_pos h]
theorem Ky(p:ab)(n:Nat)(bl:Int->Int->List au)(a from_:Int):px p n bl a from_=(
  if(ai p a).kind=16 then aR p n (nth (ai p a).l 0) from_++[iI 17 (from_+(aR p n (nth (ai p a).l 0) from_).length+1+((bl (nth (ai p a).l 1) (from_+(aR p n (nth (ai p a).l 0) from_).length+1)).length+1))]++(bl (nth (ai p a).l 1) (from_+(aR p n (nth (ai p a).l 0) from_).length+1)++[iI 16 (from_-1)])
  else if(ai p a).l.length=3 then
   aR p n (nth (ai p a).l 0) from_++[iI 17 (from_+(aR p n (nth (ai p a).l 0) from_).length+1+((bl (nth (ai p a).l 1) (from_+(aR p n (nth (ai p a).l 0) from_).length+1)).length+1))]++(bl (nth (ai p a).l 1) (from_+(aR p n (nth (ai p a).l 0) from_).length+1)++[iI 16 (from_+(aR p n (nth (ai p a).l 0) from_).length+1+(bl (nth (ai p a).l 1) (from_+(aR p n (nth (ai p a).l 0) from_).length+1)).length+1+(bl (nth (ai p a).l 2) (from_+(aR p n (nth (ai p a).l 0) from_).length+1+(bl (nth (ai p a).l 1) (from_+(aR p n (nth (ai p a).l 0) from_).length+1)).length+1)).length)])++bl (nth (ai p a).l 2) (from_+(aR p n (nth (ai p a).l 0) from_).length+1+(bl (nth (ai p a).l 1) (from_+(aR p n (nth (ai p a).l 0) from_).length+1)).length+1)
  else aR p n (nth (ai p a).l 0) from_++[iI 17 (from_+(aR p n (nth (ai p a).l 0) from_).length+1+(bl (nth (ai p a).l 1) (from_+(aR p n (nth (ai p a).l 0) from_).length+1)).length)]++bl (nth (ai p a).l 1) (from_+(aR p n (nth (ai p a).l 0) from_).length+1)):=rfl
theorem wV(f:Int->Int->List au)(k x:Int):lays f k [x] []=f x k:=by show[]++f x (k+((0:Nat):Int))=_;rw[Int.natCast_zero,Int.add_zero,List.nil_append]
theorem Qu(f:Int->Int->List au)(k x y:Int):lays f k [x,y] []=f x k++f y (k+(f x k).length):=by show lays f k [y] ([]++f x (k+((0:Nat):Int)))=_;rw[Int.natCast_zero,Int.add_zero,List.nil_append];rfl
theorem tp(L Y:List au)(a b:au):L++a::(Y++[b])=L++[a]++Y++[b]:=jE
theorem M7(L Y:List au)(a:au):L++a::Y=L++[a]++Y:=jE
theorem vP{p:ab}(hp:j4 p):∀n,Ia p n
 |0=>fun a L h0 hl hk hn hL=>by omega
 |n+1=>fun a L h0 hl hk hn hL=>by
  have hs:=vP hp n;have hx:=Gx hp n;have ht:=hp.ok.ok.aa;have hm:=ht.many;have hb:=(ht.shape a.toNat hl).2.1;have hsl:p.slots.length=p.aa.nodes.length:=hp.ok.ok.slots;have sh:=(ht.shape a.toNat hl).1;obtain⟨lo,hch⟩:=(ht.shape a.toNat hl).2.2;have hch:aG p.aa.nodes lo (ai p a).l a.toNat:=hch;have hcl:lo+(ai p a).l.length<=a.toNat:=Ag hch;have hk':dL (ai p a).kind:=hk;unfold dL at hk';have l1:(L++[iI 1 a]).length=L.length+1:=jE;have hrl:∀x k,x∈(ai p a).l->dW (bt p.aa.nodes x)->(je p n x k).length<=1200:=fun x k hxm hxr=>by have hbx:=hb x hxm;obtain⟨lo',hc⟩:=(ht.shape x.toNat jB).2.2;have:=HJ ht n k lo' hbx.1 jB hxr hc;omega
  have hea:∀Y,(∀x∈(ai p a).l,dW (bt p.aa.nodes x))->lays (je p n) (L.length+1) (ai p a).l []=Y->Y.length<=2500->aj prog 168 [bp eI 1 (ai p a).l,.bd 225 [.pt 0 0 0 0]] (bO p (L++[iI 1 a])) (fun r l=>r=.bj []/\l=bO p (L++[iI 1 a]++Y)):=fun Y hr hY hYl=>by have:=Cs p 225 jD (je p n) (ai p a).l (L++[iI 1 a]) jB (1000000-3000*n) (by rw[l1,Int.natCast_add];show¬(_<L.length+1+(lays (je p n) (L.length+1) (ai p a).l []).length);rw[hY];omega) (fun x hxm M hM=>hx x M (hb x hxm).1 (by have:=hb x hxm;omega) (hr x hxm) (by have:=hb x hxm;omega) jB);rw[l1,Int.natCast_add]at this;rw[show lays (je p n) ((L.length:Int)+((1:Nat):Int)) (ai p a).l []=Y from hY]at this;exact this
  rw[wO];by_cases e10:(ai p a).kind=10
  ·obtain⟨x,hlx,hxR⟩:=sh.right (by have e:(nth p.aa.nodes a.toNat).kind=10:=e10;omega);have hlx:(ai p a).l=[x]:=hlx;have hx1:=hrl x (L.length+1) (by rw[hlx];simp) hxR;have h:=hea (je p n x (L.length+1)) (by rw[hlx];intro y hy;simp only[List.mem_singleton]at hy;subst hy;exact hxR) (by rw[hlx,wV]) jB;rw[jP,hlx,show nth [x] 0=x from rfl,tp];exact PR a L _ h0 hl jB jB e10 h
  by_cases e11:(ai p a).kind=11
  ·obtain⟨x,hlx,hxR⟩:=sh.right (by have e:(nth p.aa.nodes a.toNat).kind=11:=e11;omega);have hlx:(ai p a).l=[x]:=hlx;have hx1:=hrl x (L.length+1) (by rw[hlx];simp) hxR;have h:=hea (je p n x (L.length+1)) (by rw[hlx];intro y hy;simp only[List.mem_singleton]at hy;subst hy;exact hxR) (by rw[hlx,wV]) jB;rw[jP,hlx,show nth [x] 0=x from rfl,tp];exact Q1 a L _ h0 hl jB jB e11 h
  rw[jN];by_cases e12:(ai p a).kind=12
  ·obtain⟨x,y,hlx,hxE,hyE⟩:=sh.two (.inr e12);have hlx:(ai p a).l=[x,y]:=hlx;have hx1:=hrl x (L.length+1) (by rw[hlx];simp) (.inl hxE);have hy1:=hrl y (L.length+1+(je p n x (L.length+1)).length) (by rw[hlx];simp) (.inl hyE);have h:=hea (je p n x (L.length+1)++je p n y (L.length+1+(je p n x (L.length+1)).length)) (by rw[hlx];intro z hz;simp only[List.mem_cons,List.not_mem_nil,or_false]at hz;rcases hz with rfl|rfl<;>exact .inl (by assumption)) (by rw[hlx,Qu]) (by rw[List.length_append];omega);rw[if_pos e12,hlx,show nth [x,y] 0=x from rfl,show nth [x,y] 1=y from rfl,<-nk hxE,<-nk hyE,tp];exact KM a L _ h0 hl jB (by rw[List.length_append];omega) e12 h
  rw[if_neg e12];by_cases e13:(ai p a).kind=13
  ·obtain⟨x,hlx,hxC⟩:=sh.nL e13;have hlx:(ai p a).l=[x]:=hlx;have hxR:dW (bt p.aa.nodes x):=.inr (.inr (.inr hxC));have hx1:=hrl x (L.length+1) (by rw[hlx];simp) hxR;have h:=hea (je p n x (L.length+1)) (by rw[hlx];intro y hy;simp only[List.mem_singleton]at hy;subst hy;exact hxR) (by rw[hlx,wV]) jB;rw[if_pos e13,hlx,show nth [x] 0=x from rfl,<-Mf hxC,tp];exact KD a L _ h0 hl jB jB e13 h
  rw[if_neg e13];by_cases e14:(ai p a).kind=14
  ·obtain⟨x,hlx,hxE⟩:=sh.one (by have e:(nth p.aa.nodes a.toNat).kind=14:=e14;omega);have hlx:(ai p a).l=[x]:=hlx;have hx1:=hrl x (L.length+1) (by rw[hlx];simp) (.inl hxE);have h:=hea (je p n x (L.length+1)) (by rw[hlx];intro y hy;simp only[List.mem_singleton]at hy;subst hy;exact .inl hxE) (by rw[hlx,wV]) jB;rw[if_pos e14,hlx,show nth [x] 0=x from rfl,<-nk hxE,tp];exact LM a L _ h0 hl jB jB e14 h
  rw[if_neg e14];by_cases e17:(ai p a).kind=17
  ·rw[if_pos e17];rcases sh.ret e17 with hlx|⟨x,hlx,hxE⟩
   ·have hlx:(ai p a).l=[]:=hlx;have h:=hea [] (by rw[hlx];intro y hy;simp at hy) (by rw[hlx];rfl) jE;rw[hlx,if_pos (show([]:List Int).length=0 from rfl),show([iI 22 0]:List au)=[]++[iI 22 0] from rfl,tp];exact Mi a L _ h0 hl jB (by simp only[List.length_nil];omega) e17 hlx h
   ·have hlx:(ai p a).l=[x]:=hlx;have hx1:=hrl x (L.length+1) (by rw[hlx];simp) (.inl hxE);have h:=hea (je p n x (L.length+1)) (by rw[hlx];intro y hy;simp only[List.mem_singleton]at hy;subst hy;exact .inl hxE) (by rw[hlx,wV]) jB;rw[hlx,if_neg (show¬([x]:List Int).length=0 from jE),show nth [x] 0=x from rfl,<-nk hxE,tp];exact Og a L _ h0 hl jB jB e17 x hlx h
  rw[if_neg e17];have expL:∀x lo,aG p.aa.nodes lo (ai p x).l x.toNat->0<=x->x.toNat<p.aa.nodes.length->bQ (bt p.aa.nodes x)->∀k,(aR p n x k).length<=1200:=fun x lo c h0 h1 h2 k=>by have:=mh ht n x k lo h0 h1 h2 c;omega
  have tst:∀x b,x∈(ai p a).l->b∈(ai p a).l->bQ (bt p.aa.nodes x)->bt p.aa.nodes b=18->∃X B,aR p n x (L.length+1)=X/\X.length<=1200/\B.length<=1200/\lays (gN p n) (L.length+1+X.length+1) (ai p b).l []=B/\
    aj prog 225 [.pt 0 0 0 0,rI x] (bO p (L++[iI 1 a])) (fun r l=>r=.bj []/\l=bO p (L++[iI 1 a]++X))/\
    aj prog 123 [.pt 0 0 0 0,rI b] (bO p (L++[iI 1 a]++X++[iI 17 0])) (fun r l=>r=.bj []/\l=bO p (L++[iI 1 a]++X++[iI 17 0]++B)):=fun x b hxm hbm hxE hb18=>by
   have hbx:=hb x hxm;have hbb:=hb b hbm;have hX:=hrl x (L.length+1) hxm (.inl hxE);rw[nk hxE]at hX;have ex:=hx x (L++[iI 1 a]) hbx.1 jB (.inl hxE) jB jB;rw[nk hxE,l1,Int.natCast_add]at ex;refine⟨_,_,rfl,hX,ye ht n b _ hbb.1 jB hb18,rfl,ex,?_⟩;have eb:=Al hp hs b (L++[iI 1 a]++aR p n x (L.length+1)++[iI 17 0]) hbb.1 jB hb18 jB (by simp only[List.length_append,List.length_singleton];omega);rw[show((L++[iI 1 a]++aR p n x (L.length+1)++[iI 17 0]).length:Int)=L.length+1+(aR p n x (L.length+1)).length+1 by simp only[List.length_append,List.length_singleton];omega]at eb;exact eb
  rw[M7,Ky];by_cases e16:(ai p a).kind=16
  ·obtain⟨x,b,hlx,hxE,hb18⟩:=sh.dS e16;have hlx:(ai p a).l=[x,b]:=hlx;obtain⟨X,B,t1,t2,t3,t4,t5,t6⟩:=tst x b (by rw[hlx];simp) (by rw[hlx];simp) hxE hb18;have hw:=JU (ai p a) x b (L++[iI 1 a]) X B L.length jB e16 hlx t5 t6;rw[if_pos e16,hlx,show nth [x,b] 0=x from rfl,show nth [x,b] 1=b from rfl,t1,t4];rw[show((L.length:Int)+1+X.length+1+(B.length+1))=(((L++[iI 1 a]).length+X.length+1+(B.length+1):Nat):Int) by rw[l1];omega,show(L.length:Int)+1-1=L.length from jB];refine Cq a L _ h0 hl (by simp only[List.length_append,List.length_singleton];omega) (.inr e16) ?_;simp only[List.append_assoc]at hw ⊢;exact hw
  rw[if_neg e16];have e15:(ai p a).kind=15:=jB;obtain⟨x,b,hxE,hb18,hlx|⟨d,hlx,hd18⟩⟩:=sh.kz e15
  ·have hlx:(ai p a).l=[x,b]:=hlx;obtain⟨X,B,t1,t2,t3,t4,t5,t6⟩:=tst x b (by rw[hlx];simp) (by rw[hlx];simp) hxE hb18;have hw:=Mu (ai p a) x b (L++[iI 1 a]) X B L.length jB e16 hlx t5 t6;rw[hlx,if_neg (show¬([x,b]:List Int).length=3 from jE),show nth [x,b] 0=x from rfl,show nth [x,b] 1=b from rfl,t1,t4];rw[show((L.length:Int)+1+X.length+1+B.length)=(((L++[iI 1 a]).length+X.length+1+B.length:Nat):Int) by rw[l1];omega];refine Cq a L _ h0 hl (by simp only[List.length_append,List.length_singleton];omega) (.inl e15) ?_;simp only[List.append_assoc]at hw ⊢;exact hw
  ·have hlx:(ai p a).l=[x,b,d]:=hlx;obtain⟨X,B,t1,t2,t3,t4,t5,t6⟩:=tst x b (by rw[hlx];simp) (by rw[hlx];simp) hxE hb18;have hbd:=hb d (by show d∈(ai p a).l;rw[hlx];simp);have hD:=ye ht n d (L.length+1+X.length+1+B.length+1) hbd.1 jB hd18;have hsum:X.length+B.length<=1200:=by
    have hch:=hch;rw[hlx]at hch;obtain⟨c1,c2,c3,c4,c5,c6⟩:=iz hch;obtain⟨d1,d2,d3,d4,d5,d6⟩:=iz c6;have q1:=mh ht n x (L.length+1) lo c1 jB hxE c5;have q2:=Gs ht n b (L.length+1+X.length+1) _ d1 jB hb18 d5;rw[t1]at q1;rw[t4]at q2;omega
   have ed:=Al hp hs d (L++[iI 1 a]++X++[iI 17 ((L++[iI 1 a]).length+X.length+1+(B.length+1):Nat)]++B++[iI 16 0]) hbd.1 jB hd18 jB (by simp only[List.length_append,List.length_singleton];omega);rw[show((L++[iI 1 a]++X++[iI 17 ((L++[iI 1 a]).length+X.length+1+(B.length+1):Nat)]++B++[iI 16 0]).length:Int)=L.length+1+X.length+1+B.length+1 by simp only[List.length_append,List.length_singleton];omega]at ed;rw[hlx,if_pos (show([x,b,d]:List Int).length=3 from rfl),show nth [x,b,d] 0=x from rfl,show nth [x,b,d] 1=b from rfl,show nth [x,b,d] 2=d from rfl,t1,t4];generalize hDD:lays (gN p n) (L.length+1+X.length+1+B.length+1) (ai p d).l []=D at*;have hw:=N7 (ai p a) x b d (L++[iI 1 a]) X B D L.length jB e16 hlx t5 t6 ed;rw[show((L.length:Int)+1+X.length+1+(B.length+1))=(((L++[iI 1 a]).length+X.length+1+(B.length+1):Nat):Int) by rw[l1];omega,show((L.length:Int)+1+X.length+1+B.length+1+D.length)=(((L++[iI 1 a]).length+X.length+1+B.length+1+D.length:Nat):Int) by rw[l1];omega];refine Cq a L _ h0 hl (by simp only[List.length_append,List.length_singleton];omega) (.inl e15) ?_;simp only[List.append_assoc]at hw ⊢;exact hw
structure Fw(c c':Ck):Prop where
 fn:c'.fn=c.fn
 ao:∀x∈c'.ao,x∈c.ao\/x=c.fn
theorem Fw.refl(c:Ck):Fw c c:=⟨rfl,fun _ h=>.inl h⟩
theorem Fw.trans{a b c:Ck}(h:Fw a b)(k:Fw b c):Fw a c:=⟨k.fn.trans h.fn,fun x hx=>by
 rcases k.ao x hx with e|e
 ·exact h.ao x e
 ·right;rw[e,h.fn]⟩
structure Ns(c c':Ck):Prop where
 aa:c'.aa=c.aa
 slots:∀k,¬iA (nth c.aa.nodes k).kind->nth c'.slots k=nth c.slots k
theorem Ns.refl(c:Ck):Ns c c:=⟨rfl,fun _ _=>rfl⟩
theorem Ns.trans{a b c:Ck}(h:Ns a b)(k:Ns b c):Ns a c:=⟨k.aa.trans h.aa,fun j hj=>(k.slots j (by rw[h.aa];exact hj)).trans (h.slots j hj)⟩
theorem uY{c c':Ck}(h1:c'.aa=c.aa)(h2:c'.slots=c.slots):Ns c c':=⟨h1,fun _ _=>by rw[h2]⟩
theorem Gz(c:Ck)(a s:Int)(h:iA (c.node a).kind):Ns c (c.slot a s):=⟨rfl,fun k hk=>by
 show nth (c.slots.set a.toNat s) k=_;unfold nth;rw[List.getD_eq_getElem?_getD,List.getElem?_set,List.getD_eq_getElem?_getD];by_cases e:a.toNat=k
 ·subst e;exact(hk h).elim
 ·rw[if_neg e]⟩
theorem pW(c:Ck)(e a:Int):Ns c (c.aF e a):=by unfold Ck.aF;split<;>exact uY rfl rfl
theorem nU(c:Ck)(b:Bool)(a:Int):Ns c (c.ap b a):=by unfold Ck.ap;split;exact .refl _;exact pW _ _ _
theorem xF(c:Ck)(a:Int)(h:iA (c.node a).kind):Ns c (c.named a).1:=by unfold Ck.named;split;exact pW _ _ _;exact Gz c a _ h
theorem Mg(c:Ck)(a t:Int):Ns c (c.note a t):=⟨rfl,fun _ _=>rfl⟩
theorem DD(c:Ck)(a:Int):Ns c (c.ac a):=⟨rfl,fun _ _=>rfl⟩
theorem sX{c x y:Ck}{q:Prop}[Decidable q](h:Ns c x)(k:Ns c y):Ns c (if q then x else y):=by split;exact h;exact k
theorem GK{ex:Ck->Int->Ck×Int}(hx:∀c a,Ns c (ex c a).1):∀(L:List Int) (c:Ck) (ts:List Int),Ns c (fO ex c L ts).1
 |[],c,ts=>by unfold fO;exact .refl c
 |a::L,c,ts=>by
  unfold fO;split
  ·exact(hx c a).trans (GK hx L _ _)
  ·exact .refl c
theorem HY(a:Int):∀(ts:List Int) (ps:List bE) (c:Ck),Ns c (gL a c ts ps)
 |[],ps,c=>by rw[rF];exact .refl c
 |_::_,[],c=>by rw[rA];exact .refl c
 |x::ts,p::ps,c=>by
  unfold gL;split
  ·exact(nU _ _ _).trans (HY a ts ps _)
  ·exact .refl c
variable{ex:Ck->Int->Ck×Int}
theorem Qk(hx:∀c a,Ns c (ex c a).1)(c:Ck)(a:Int):Ns c (gq ex c a).1:=by
 unfold gq;split
 ·exact pW _ _ _
 ·simp only;exact((GK hx _ c _).trans (sX (pW _ _ _) (.refl _))).trans (HY _ _ _ _)
theorem Lm(hx:∀c a,Ns c (ex c a).1)(c:Ck)(a:Int):Ns c (bV ex c a).1:=by
 unfold bV;simp only;split
 ·exact .refl c
 split
 ·exact .refl c
 split
 ·exact .refl c
 split
 ·rename_i e;exact xF _ _ (.inl e)
 split
 ·exact Qk hx c a
 split
 ·rename_i e;exact((xF _ _ (.inr (.inl e))).trans (hx _ _)).trans (nU _ _ _)
 split
 ·exact((hx _ _).trans (hx _ _)).trans (nU _ _ _)
 split
 ·exact(hx _ _).trans (nU _ _ _)
 split
 ·exact(hx _ _).trans (nU _ _ _)
 split
 ·exact(hx _ _).trans (nU _ _ _)
 ·exact(hx _ _).trans (nU _ _ _)
theorem qP:∀(n:Nat) (c:Ck) (a:Int),Ns c (ar n c a).1
 |0,c,a=>by unfold ar;exact .refl c
 |n+1,c,a=>by
  unfold ar;split
  ·exact .refl c
  ·exact(Lm (qP n) c a).trans (Mg _ _ _)
theorem Oc(hx:∀c a,Ns c (ex c a).1)(c:Ck)(a:Int)(hk:iA (c.node a).kind):Ns c (oB ex c a):=by have hA:Ns c (gr ex c a):=(hx c _).trans (nU _ _ _);have hB:Ns (gr ex c a) (iR ex c a):=sX (pW _ _ _) (.refl _);have hC:Ns (iR ex c a) (dz ex c a):=sX (pW _ _ _) (.refl _);rw[sc];have hABC:=(hA.trans hB).trans hC;exact hABC.trans ((Gz (dz ex c a) a _ (by unfold Ck.node;rw[hABC.aa];exact hk)).trans (uY rfl rfl))
theorem Kv(hx:∀c a,Ns c (ex c a).1)(c:Ck)(a:Int):Ns c (jZ ex c a):=by
 unfold jZ;simp only;split
 ·exact pW _ _ _
 split
 ·exact(hx _ _).trans (nU _ _ _)
 ·exact .refl c
theorem Bq{st:Ck->Int->Ck}(hs:∀c a,Ns c (st c a)):∀(L:List Int) (c:Ck),Ns c (de st c L)
 |[],c=>by unfold de;exact .refl c
 |a::L,c=>by
  unfold de;split
  ·exact(hs c a).trans (Bq hs L _)
  ·exact .refl c
theorem FY{st:Ck->Int->Ck}(hs:∀c a,Ns c (st c a))(c:Ck)(a:Int):Ns c (dZ st c a):=by unfold dZ;simp only;exact((DD c a).trans (Bq hs _ _)).trans (uY rfl rfl)
theorem HQ:∀(n:Nat) (c:Ck) (a:Int),Ns c (bv n c a)
 |0,c,a=>by unfold bv;exact .refl c
 |n+1,c,a=>by
  unfold bv;simp only;refine(DD c a).trans ?_;split
  ·rename_i e;exact Oc (qP n) _ _ (.inr (.inr (.inl e)))
  split
  ·rename_i e;exact((xF _ _ (.inr (.inr (.inr (.inl e))))).trans (qP n _ _)).trans (nU _ _ _)
  split
  ·rename_i e;exact(((xF _ _ (.inr (.inr (.inr (.inr e))))).trans (qP n _ _)).trans (qP n _ _)).trans (nU _ _ _)
  split
  ·exact qP n _ _
  split
  ·exact(qP n _ _).trans (nU _ _ _)
  split
  ·exact Kv (qP n) _ _
  ·exact((qP n _ _).trans (nU _ _ _)).trans (Bq (fun c a=>FY (HQ n) c a) _ _)
theorem DZ(body:Int):∀(ps:List bE) (c:Ck) (i:Int),Ns c (dU body c ps i)
 |[],c,i=>by unfold dU;exact .refl c
 |p::ps,c,i=>by unfold dU;simp only;have h1:Ns c (if 0<=c.find p.name then c.aF 41 body else c):=sX (pW c 41 body) (.refl c);generalize (if 0<=c.find p.name then c.aF 41 body else c)=d at*;refine h1.trans ?_;exact Ns.trans (b:={ d with vars:=d.vars++[⟨p.name,p.ty,i⟩],more:=d.more.drop 1,size:=d.size+1 }) (uY rfl rfl) (DZ body ps _ _)
theorem Pe(c:Ck)(k:Nat):Ns c (fA c k):=by
 have h:Ns { c with fn:=(k:Int),vars:=[],more:=[],size:=0 } (fA c k):=by unfold fA;simp only;exact((DZ _ _ _ _).trans (sX (FY (HQ _) _ _) (.refl _))).trans (uY rfl rfl)
 exact Ns.trans (b:={ c with fn:=(k:Int),vars:=[],more:=[],size:=0 }) (uY rfl rfl) h
theorem EX:∀(n i:Nat) (c:Ck),Ns c (fE c i n)
 |0,i,c=>by unfold fE;exact .refl c
 |n+1,i,c=>by
  unfold fE;split
  ·exact(Pe c i).trans (EX n (i+1) _)
  ·exact .refl c
theorem Gu(x:aX):∀(l:List aX) (c:Ck),Ns c (lP x c l)
 |[],c=>by unfold lP;exact .refl c
 |f::l,c=>by unfold lP;exact(sX (pW _ _ _) (.refl _):Ns c (if f.name=x.name then c.aF 41 x.body else c)).trans (Gu x l _)
theorem CH(ao:List aX):∀(n i:Nat) (c:Ck) (m:Bool),Ns c (kT ao c m i n).1
 |0,i,c,m=>by unfold kT;exact .refl c
 |n+1,i,c,m=>by unfold kT;exact(Gu _ _ c).trans (CH ao n (i+1) _ _)
theorem QU(c:Ck):Ns c (iY c):=by unfold iY;simp only;exact sX (CH _ _ _ _ _) ((CH _ _ _ _ _).trans (pW _ _ _))
theorem MQ{t:az}(he:(gP t).2.2=0):∀k,k<t.nodes.length->¬iA (nth t.nodes k).kind->nth (gP t).1.slots k<=0:=fun k hk hn=>by
 unfold gP at he ⊢;split at he
 ·rename_i h;exact(h he).elim
 rename_i h;rw[if_neg h];have h1:=(QU (jq t)).trans (EX t.ao.length 0 _);show nth (fE (iY (jq t)) 0 t.ao.length).slots k<=0;rw[h1.slots k hn];show nth (t.nodes.map fun _=>(-1:Int)) k<=0;unfold nth;rw[List.getD_eq_getElem?_getD,List.getElem?_map,List.getElem?_eq_getElem hk];show(-1:Int)<=0;omega
theorem LA{t:List bk}{lo hi:Nat}{L:List Int}(h:aG t lo L hi):∀k,lo<=k->k<hi->∃j,j<L.length/\k<=(nth L j).toNat/\(if j=0 then lo else(nth L (j-1)).toNat+1)<=k:=by
 induction h with
 |nil=>intro k h1 h2;omega
 |@cons lo c hi L hc h1 h2 i1 i2=>
  intro k hk1 hk2;by_cases e:k<=c
  ·exact⟨0,jE,by show k<=(c:Int).toNat;omega,by rw[if_pos rfl];exact hk1⟩
  ·obtain⟨j,g1,g2,g3⟩:=i2 k jB hk2;refine⟨j+1,by simp;omega,g2,?_⟩;rw[jN];by_cases e0:j=0
   ·subst e0;show(c:Int).toNat+1<=k;omega
   ·rw[if_neg e0]at g3;rw[show j+1-1=(j-1)+1 from jB];exact g3
theorem OB(h:dx p):∀k,k<p.aa.nodes.length->iA (nth p.aa.nodes k).kind->0<=nth p.slots k:=fun k hk hs=>by
 obtain⟨j,g1,g2,g3⟩:=LA h.ok.aa.chain k (Nat.zero_le _) hk;have g1:j<p.aa.ao.length:=by simpa using g1
 have e:∀i,i<p.aa.ao.length->nth (p.aa.ao.map (·.body)) i=(nth p.aa.ao i).body:=fun i hi=>by unfold nth;rw[List.getD_eq_getElem?_getD,List.getElem?_map,List.getD_eq_getElem?_getD,List.getElem?_eq_getElem hi];rfl
 rw[e j g1]at g2;have hf:=h.ao j g1;refine(hf.all k ?_ jB hs).1;unfold ow;split at g3
 ·rename_i e0;rw[if_pos e0];exact g3
 ·rename_i e0;rw[if_neg e0];rw[e (j-1) jB]at g3;exact g3
theorem OJ{s:ByteArray}(he:(gf s).2.2=0):∀k,k<(gf s).1.aa.nodes.length->¬iA (nth (gf s).1.aa.nodes k).kind->nth (gf s).1.slots k<=0:=by
 have hok:=Jd he;unfold gf at he hok ⊢;split at he
 ·rename_i h;exact(h he).elim
 rename_i h;rw[if_neg h]at hok ⊢;have h:(gH s).2.2=0:=jB;simp only at he hok ⊢;split at he
 ·cases he
 rename_i h2;split at he
 ·rename_i h3;exact(h3 he).elim
 rename_i h3;rw[if_neg h2,if_neg h3]at hok ⊢;have ht:=(Av (xv h) jB).2;simp only at hok ⊢;rw[ht];exact MQ jB
attribute [local go_sem] iI
theorem IZ(hp:j4 p):eG prog 69 [.agg (gp p)] (.agg (xo (gU p))):=by
 have ht:=hp.ok.ok.aa;have hm:=ht.many;have hfns:=ht.ao;have eV:gU p=fe p p.aa.ao.length:=by unfold gU fe;rw[List.take_length]
 rw[eV];have hbig:=BV hp.ok;have hel:=yg p;rw[BM];refine fm func69 ntmps69 ?_
 (refine S ?_;try exact jI)
 (repeat' (first|refine aB fun K hK=>?_|refine aC ?_|(refine hK _ _ ?_;clear hK K)|(refine aA ?_ ?_<;>intro hc<;>try exact jz)|refine fa 2 ?_|refine al 3 ?_|refine al 0 ?_|refine aD ?_|exact jI|(clear hK K)))
 refine iV (dq.fM 1 0 6 139 4 rfl jC rfl rfl) ?_
 (refine S ?_;try exact jI)
 refine iV (dq.nil 5 4 3 (sz:=1) rfl jC (Or.inl rfl)) ?_
 (refine S ?_;try exact jI)
 have hKo:=hK;clear hK;refine fi (S:=Nat) [(4,1),(6,1),(13,17)] (fun k=>k<=p.aa.ao.length) (fun k=>[(4,.rs 5 k 1 k),(13,rI k)])
  (fun k=>⟨[],[(2,.var 29 (iN p)),(3,.var 116 [.raw (.slice none 0 0),.raw (.slice none 0 0)]),(0,.var 194 (iN p++[.rs 1 (fe p k).ins.length 4 (fe p k).ins.length])),(1,.aL 139 4 ((fe p k).ins.map cZ)),(5,.aL 3 1 ((fe p k).entry.map eI))]⟩)
  (fun k=>p.aa.ao.length-k) 0 jB (fj rfl cQ) ?_
 rintro k hk Kr hKr;have hbk:=hbig k hk;have hek:=hel k hk;by_cases hlt:k<p.aa.ao.length
 ·have hs:=yf p k hlt;have hbN:=oG ht (k:=k) hlt;have hb1:=hbN.1;have hb2:=hbN.2;have hk18:=ht.body _ (dT hlt);have hbl:=ye ht (lB p) (nth p.aa.ao k).body (fe p k).ins.length jB jB hk18;have hcb:=Al hp (vP hp (lB p)) (nth p.aa.ao k).body (fe p k).ins jB jB hk18 (by show _<=p.aa.nodes.length;omega) (by have:lB p<=300:=hm;omega);change aj _ _ _ _ (fun r l=>r=.bj []/\l=bO p ((fe p k).ins++qi p (lB p) (nth p.aa.ao k).body (fe p k).ins.length))at hcb
  change (qi p (lB p) (nth p.aa.ao k).body (fe p k).ins.length).length<=1200 at hbl
  have hpt:=iS p ((fe p k).ins++qi p (lB p) (nth p.aa.ao k).body (fe p k).ins.length) 22 (nth p.aa.ao k).ret (by rw[List.length_append];omega);have e1:(fe p (k+1)).ins=(fe p k).ins++qi p (lB p) (nth p.aa.ao k).body (fe p k).ins.length++[iI 22 (nth p.aa.ao k).ret]:=by rw[hs];rfl
  have e2:(fe p (k+1)).entry=(fe p k).entry++[((fe p k).ins.length:Int)]:=by rw[hs];rfl
  generalize qi p (lB p) (nth p.aa.ao k).body (fe p k).ins.length=B at*;generalize hC':fe p (k+1)=C' at*;generalize fe p k=C at*;generalize hF:nth p.aa.ao k=F at*
  (refine S ?_;try exact jI)
  (have W:=jA hF hek;repeat' (first|refine aB fun K hK=>?_|refine aC ?_|(refine hK _ _ ?_;clear hK K)|(refine aA ?_ ?_<;>intro hc<;>try exact jz)|refine al 6 ?_|refine cm (hcb) ?_|refine cm (hpt) ?_|refine aD ?_|exact jI|(clear hK K)));all_goals(try clear W)
  refine hKr _ _ (zp [6] (k+1) jB (by show p.aa.ao.length-(k+1)<p.aa.ao.length-k;omega) rfl Sd (by rw[hC',e1,e2];simp only[iN,List.map_append,List.length_append,List.map_cons,List.map_nil,List.length_cons,List.length_nil];rfl) ki)
 ·have e:k=p.aa.ao.length:=jB;subst e;generalize fe p p.aa.ao.length=C at*
  (refine S ?_;try exact jI)
  (have W:=hek;repeat' (first|refine aB fun K hK=>?_|refine aC ?_|(refine hK _ _ ?_;clear hK K)|(refine aA ?_ ?_<;>intro hc<;>try exact jz)|refine hKo _ _ ?_|refine aD ?_|exact jI|(clear hK K)));all_goals(try clear W)
  refine l6 [.cell 2 116] ?_;exact bX.agg (ds:=[bp cZ 4 C.ins,bp eI 1 C.entry]) (jA (dv.row (enc:=cZ) C.ins rfl rfl jE) (jA (dv.row (enc:=eI) C.entry rfl rfl (by simp[hek])) trivial))
theorem F1{s:ByteArray}(he:(gf s).2.2=0):j4 (gf s).1:=⟨BO he,OJ he,OB (BO he)⟩
theorem MP(f:aX):eG prog 125 [.agg (gg f)] (rB (decide (f.name=(⟨#[109,97,105,110]⟩:ByteArray)))):=by
 refine fm func125 ntmps125 ?_
 (repeat' (first|refine aB fun K hK=>?_|refine aC ?_|(refine hK _ _ ?_;clear hK K)|(refine aA ?_ ?_<;>intro hc<;>try exact jz)|refine fa 4 ?_|refine aD ?_|exact jI|(clear hK K)))
 (refine bH [.tmp 2] ?_;try simp only[go_sem])
theorem Nz(L:List aX)(k:Nat)(hL:L.length<=1000)(hk:k<L.length)(hnm:(nth L k).name=(⟨#[109,97,105,110]⟩:ByteArray))(hone:∀i,i<k->(nth L i).name≠(⟨#[109,97,105,110]⟩:ByteArray)) :
  eG prog 56 [bp gg 5 L,.raw (.func (.func 125) #[] #[])] (rI k):=by
 refine fm func56 ntmps56 ?_
 (repeat' (first|refine aB fun K hK=>?_|refine aC ?_|(refine hK _ _ ?_;clear hK K)|(refine aA ?_ ?_<;>intro hc<;>try exact jz)|refine aD ?_|exact jI|(clear hK K)))
 refine fi (S:=Nat) [(4,2),(8,11)] (fun i=>i<=k) (fun i=>[(8,rI i)]) (fun i=>⟨[],[]⟩) (fun i=>k-i) 0 jB (fj rfl cQ) ?_;rintro i hi Kr hKr;have hfc:=MP (nth L i);by_cases e:i=k
 ·subst e;rw[decide_eq_true hnm]at hfc
  (refine S ?_;try exact jI)
  (repeat' (first|refine aB fun K hK=>?_|refine aC ?_|(refine hK _ _ ?_;clear hK K)|(refine aA ?_ ?_<;>intro hc<;>try exact jz)|refine cp (hfc) ?_|refine aD ?_|exact jI|(clear hK K)))
  (refine bH [.tmp 4] ?_;try simp only[go_sem])
 ·rw[decide_eq_false (hone i jB)]at hfc
  (refine S ?_;try exact jI)
  (repeat' (first|refine aB fun K hK=>?_|refine aC ?_|(refine hK _ _ ?_;clear hK K)|(refine aA ?_ ?_<;>intro hc<;>try exact jz)|refine cp (hfc) ?_|refine aD ?_|exact jI|(clear hK K)))
  refine hKr _ _ (fw (i+1) jB jJ rfl cQ)
theorem PL(m:Nat)(hL:p.aa.ao.length<=1000)(hk:m<p.aa.ao.length)(hnm:(nth p.aa.ao m).name=(⟨#[109,97,105,110]⟩:ByteArray))(hone:∀i,i<m->(nth p.aa.ao i).name≠(⟨#[109,97,105,110]⟩:ByteArray)):eG prog 72 [.agg (gp p)] (rI m):=by
 have hix:=Nz p.aa.ao m hL hk hnm hone;rw[BM];refine fm func72 ntmps72 ?_
 (refine S ?_;try exact jI)
 (repeat' (first|refine aB fun K hK=>?_|refine aC ?_|(refine hK _ _ ?_;clear hK K)|(refine aA ?_ ?_<;>intro hc<;>try exact jz)|refine fa 2 ?_|refine cp (hix) ?_|refine aD ?_|exact jI|(clear hK K)))
 (refine bH [.tmp 2] ?_;try simp only[go_sem])
end Go.Proofs.YtfkgcobaheegbaaGreatDoor

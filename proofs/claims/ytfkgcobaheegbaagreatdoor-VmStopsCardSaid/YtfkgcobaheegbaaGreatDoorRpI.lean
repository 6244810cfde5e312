/- Lemmas. No conditions. -/
import Derived.Test.YtfkgcobaheegbaaGreatDoorRpD
set_option linter.all false
set_option maxHeartbeats 4000000
set_option maxRecDepth 10000
namespace Go.Gd
open Go
def NM.pop(N:NM):NM:={ N with cs:=N.cs.take (N.cs.length-1),cj:=N.af.c::N.cj }
def NM.nQ(N:NM)(j:Nat):NM:={ N with cs:=N.cs++[⟨j,j,[]⟩],cj:=N.cj.drop 1 }
namespace MV
variable {p:ab}{C:aE}{m:MV}{N:NM}{e:List (Nat×Row)}
theorem bD.gl(hR:bD p C m N e){e':List (Nat×Row)}(h:∀j,j∈ids e->j∈ids e')(m':MV)(N':NM)(hk:N'.k=N.k):aW (fun j=>(ids e').contains j) (mE p C m' N')=true:=by have c4:=List.contains_iff_mem.2 (h _ (List.contains_iff_mem.1 (gG hR.row)));have c5:=List.contains_iff_mem.2 (h _ (List.contains_iff_mem.1 (gG hR.hp)));have c8:=List.contains_iff_mem.2 (h _ (List.contains_iff_mem.1 (gG hR.outs)));have up:aW (fun j=>(ids e').contains j) (iN p)=true:=fh (q:=dY) (fun _ h=>by cases h) _ rfl;unfold mE;rw[qD,up,hk];simp only[aW,AV.all,c4,c5,c8,Bool.and_self,bp]
theorem Nr(h1:1<=N.cs.length):N.pop.cs.map NC.c++N.pop.cj=N.cs.map NC.c++N.cj:=by
 show(N.cs.take (N.cs.length-1)).map NC.c++(N.af.c::N.cj)=_;have e1:N.cs.take (N.cs.length-1)++[N.af]=N.cs:=by unfold NM.af;rw[dN jB,List.take_append_getElem,show N.cs.length-1+1=N.cs.length from jB,List.take_length]
 have:(N.cs.take (N.cs.length-1)).map NC.c++(N.af.c::N.cj)=((N.cs.take (N.cs.length-1)++[N.af]).map NC.c)++N.cj:=jE;rw[this,e1]
theorem bD.xg(hR:bD p C m N e)(h1:1<=m.calls.length){m':MV}(hc:m'.calls=m.calls.take (m.calls.length-1))(h2:m'.heap=m.heap)(h3:m'.ax=m.ax):bD p C m' N.pop (br e (hn 3 N.k) (.var 122 (mE p C m' N.pop))):=by
 have hl:=hR.len;have kind:∀(a k:Nat) (r:Row),a≠3->a<32->av e (hn a k)=some r->av (br e (hn 3 N.k) (.var 122 (mE p C m' N.pop))) (hn a k)=some r:=fun a k r h3 h16 h=>by rw[bM,if_neg (db h16 jB h3)];exact h
 have lt:(N.cs.take (N.cs.length-1)).length=N.cs.length-1:=by rw[List.length_take];omega
 have ml:m'.calls.length=m.calls.length-1:=by rw[hc,List.length_take];omega
 refine⟨hR.ok.put (.inr (iw _ _)) ?_,by show av _ (hn 3 N.k)=_;rw[bM,if_pos rfl],?_,?_,?_,?_,?_,by rw[ml,<-hl];exact lt,fun k hk=>?_,?_,?_,?_⟩
 ·exact fh (fun j hj=>by rw[Bool.or_eq_true];exact .inr hj) _ (hR.gl (fun _ h=>h) m' N.pop rfl)
 ·rw[Nr jB];exact kind _ _ _ jB jB hR.row
 ·rw[h2];exact kind _ _ _ jB jB hR.hp
 ·rw[h2];exact kind _ _ _ jB jB hR.cells
 ·rw[h2];exact kind _ _ _ jB jB hR.ends
 ·rw[h3];exact kind _ _ _ jB jB hR.outs
 ·rw[ml]at hk;have hca:=hR.call k jB;have e1:nth m'.calls k=nth m.calls k:=by
   rw[hc];unfold nth;rw[List.getD_eq_getElem?_getD,List.getElem?_take,if_pos hk,List.getD_eq_getElem?_getD]
  have e2:nth N.pop.cs k=nth N.cs k:=by show nth (N.cs.take _) k=_;unfold nth;rw[List.getD_eq_getElem?_getD,List.getElem?_take,jP,List.getD_eq_getElem?_getD]
  rw[e1,e2];exact⟨kind _ _ _ jB jB hca.var,kind _ _ _ jB jB hca.cw,kind _ _ _ jB jB hca.eP,hca.bd⟩
 ·show((N.cs.take _).map NC.c).Nodup;rw[List.map_take];exact(List.take_sublist _ _).nodup hR.nc
 ·show((N.cs.take _).map NC.v).Nodup;rw[List.map_take];exact(List.take_sublist _ _).nodup hR.nv
 ·show(N.cs.take _).length+(N.af.c::N.cj).length<=1000;have:=hR.bd;rw[lt,List.length_cons];omega
def nA(p:ab)(C:aE)(m':MV)(N:NM)(c':MC)(j:Nat)(e:List (Nat×Row)):List (Nat×Row):=
 br (br (br (br (br e (hn 1 j) (.aL 59 3 (c'.slots.map cv))) (hn 2 j) (.aL 59 3 (c'.stack.map cv))) (hn 0 j) (.var 137 (cE c' ⟨j,j,[]⟩))) (hn 4 N.k) (.aL 133 1 (((N.nQ j).cs.map NC.c++(N.nQ j).cj).map fun j=>[.pt (hn 0 j) 0 0 0]))) (hn 3 N.k) (.var 122 (mE p C m' (N.nQ j)))
theorem bD.CS(hR:bD p C m N e)(h8:m.calls.length<=100){m':MV}{c':MC}{j:Nat}(hc:m'.calls=m.calls++[c'])(h2:m'.heap=m.heap)(h3:m'.ax=m.ax)(j0:av e (hn 0 j)=none)(j1:av e (hn 1 j)=none)(j2:av e (hn 2 j)=none)(hb:c'.stack.length<=2000) :
  bD p C m' (N.nQ j) (nA p C m' N c' j e):=by
 have hl:=hR.len;have no:∀l:List ak,aW dY ((l.map cv).flatten)=true:=fun l=>o3 (lJ (enc:=cv) (sz:=3) _)
 have kind:∀(a k:Nat) (r:Row),a<32->(hn a k≠hn 1 j)->(hn a k≠hn 2 j)->(hn a k≠hn 0 j)->a≠4->a≠3->av e (hn a k)=some r->av (nA p C m' N c' j e) (hn a k)=some r:=fun a k r h16 n1 n2 n0 h4 h3 h=>by unfold nA;rw[bM,if_neg (db h16 jB h3),bM,if_neg (db h16 jB h4),bM,if_neg n0,bM,if_neg n2,bM,if_neg n1];exact h
 have qG:∀(a k:Nat) (r:Row),a<32->4<a->av e (hn a k)=some r->av (nA p C m' N c' j e) (hn a k)=some r:=fun a k r h16 h4 h=>kind a k r h16 (db h16 jB jB) (db h16 jB jB) (db h16 jB jB) jB jB h
 have ml:m'.calls.length=m.calls.length+1:=by rw[hc];simp
 have nl:(N.nQ j).cs.length=N.cs.length+1:=by show(N.cs++[_]).length=_;simp
 refine⟨?_,by show av _ (hn 3 N.k)=_;unfold nA;rw[bM,if_pos rfl],by show av _ (hn 4 N.k)=_;unfold nA;rw[bM,if_neg (db jB jB jB),bM,if_pos rfl],by rw[h2];exact qG 5 _ _ jB jB hR.hp,by rw[h2];exact qG 6 _ _ jB jB hR.cells,by rw[h2];exact qG 7 _ _ jB jB hR.ends,by rw[h3];exact qG 8 _ _ jB jB hR.outs,by rw[nl,ml,hl],fun k hk=>?_,?_,?_,?_⟩
 ·unfold nA;have k1:=((hR.ok.put (i:=hn 1 j) (r:=.aL 59 3 (c'.slots.map cv)) (.inr (iw _ _)) (fh (fun _ h=>by cases h) _ (no _))).put (i:=hn 2 j) (r:=.aL 59 3 (c'.stack.map cv)) (.inr (iw _ _)) (fh (fun _ h=>by cases h) _ (no _)));have m1:∀x,x∈ids e->x∈ids (br (br e (hn 1 j) (.aL 59 3 (c'.slots.map cv))) (hn 2 j) (.aL 59 3 (c'.stack.map cv))):=fun x hx=>(oj _ _ _ _).2 (.inr ((oj _ _ _ _).2 (.inr hx)))
  have i1:hn 1 j∈ids (br (br e (hn 1 j) (.aL 59 3 (c'.slots.map cv))) (hn 2 j) (.aL 59 3 (c'.stack.map cv))):=(oj _ _ _ _).2 (.inr ((oj _ _ _ _).2 (.inl rfl)));have i2:hn 2 j∈ids (br (br e (hn 1 j) (.aL 59 3 (c'.slots.map cv))) (hn 2 j) (.aL 59 3 (c'.stack.map cv))):=(oj _ _ _ _).2 (.inl rfl);generalize br (br e (hn 1 j) (.aL 59 3 (c'.slots.map cv))) (hn 2 j) (.aL 59 3 (c'.stack.map cv))=e1 at k1 m1 i1 i2;rw[<-List.contains_iff_mem]at i1 i2;have k2:=k1.put (i:=hn 0 j) (r:=.var 137 (cE c' ⟨j,j,[]⟩)) (.inr (iw _ _)) (by simp only[Row.cells,cE,aW,AV.all,i1,i2,Bool.or_true,Bool.and_self]);have m2:∀x,x∈ids e->x∈ids (br e1 (hn 0 j) (.var 137 (cE c' ⟨j,j,[]⟩))):=fun x hx=>(oj _ _ _ _).2 (.inr (m1 x hx))
  have i0:hn 0 j∈ids (br e1 (hn 0 j) (.var 137 (cE c' ⟨j,j,[]⟩))):=(oj _ _ _ _).2 (.inl rfl);generalize br e1 (hn 0 j) (.var 137 (cE c' ⟨j,j,[]⟩))=e2 at k2 m2 i0;have hold:∀x∈N.cs.map NC.c++N.cj,hn 0 x∈ids e:=fun x hx=>by have:=Cp (hR.ok.closed _ _ hR.row) [.pt (hn 0 x) 0 0 0] (List.mem_map.2 ⟨x,hx,rfl⟩);simp only[aW,AV.all,Bool.and_true]at this;exact List.contains_iff_mem.1 this
  have hnew:∀x∈(N.nQ j).cs.map NC.c++(N.nQ j).cj,hn 0 x∈ids e2:=fun x hx=>by
   have hx:x∈(N.cs++[(⟨j,j,[]⟩:NC)]).map NC.c++N.cj.drop 1:=hx;rw[List.map_append]at hx;simp only[List.mem_append,List.map_cons,List.map_nil,List.mem_singleton]at hx;rcases hx with(hx|rfl)|hx
   ·exact m2 _ (hold x (List.mem_append_left _ hx))
   ·exact i0
   ·exact m2 _ (hold x (List.mem_append_right _ (List.mem_of_mem_drop hx)))
  have k3:=k2.put (i:=hn 4 N.k) (r:=.aL 133 1 (((N.nQ j).cs.map NC.c++(N.nQ j).cj).map fun j=>[.pt (hn 0 j) 0 0 0])) (.inr (iw _ _)) (o3 fun y hy=>by obtain⟨x,hx,rfl⟩:=List.mem_map.1 hy;have:=List.contains_iff_mem.2 (hnew x hx);simp only[aW,AV.all,this,Bool.or_true,Bool.and_self])
  refine k3.put (.inr (iw _ _)) ?_;exact fh (fun j hj=>by rw[Bool.or_eq_true];exact .inr hj) _ (hR.gl (fun x hx=>(oj _ _ _ _).2 (.inr (m2 x hx))) m' (N.nQ j) rfl)
 ·rw[ml]at hk;by_cases hk2:k<m.calls.length
  ·have hca:=hR.call k hk2;have e1:nth m'.calls k=nth m.calls k:=by rw[hc,my hk2]
   have e2:nth (N.nQ j).cs k=nth N.cs k:=by show nth (N.cs++_) k=_;rw[my jB]
   have q0:hn 0 (nth N.cs k).c≠hn 0 j:=fun e'=>by rw[<-e',hca.var]at j0;cases j0
   have q1:hn 1 (nth N.cs k).c≠hn 1 j:=fun e'=>by rw[<-e',hca.eP]at j1;cases j1
   have q2:hn 2 (nth N.cs k).v≠hn 2 j:=fun e'=>by rw[<-e',hca.cw]at j2;cases j2
   rw[e1,e2];exact⟨kind _ _ _ jB (db jB jB jB) (db jB jB jB) q0 jB jB hca.var,kind _ _ _ jB (db jB jB jB) q2 (db jB jB jB) jB jB hca.cw,kind _ _ _ jB q1 (db jB jB jB) (db jB jB jB) jB jB hca.eP,hca.bd⟩
  ·have ek:k=m.calls.length:=jB;subst ek;have e1:nth m'.calls m.calls.length=c':=by rw[hc,nM]
   have e2:nth (N.nQ j).cs m.calls.length=⟨j,j,[]⟩:=by show nth (N.cs++[_]) _=_;rw[<-hl,nM]
   rw[e1,e2];refine⟨?_,?_,?_,by show c'.stack.length+0<=2000;omega⟩
   ·unfold nA;rw[bM,if_neg (db jB jB jB),bM,if_neg (db jB jB jB),bM,if_pos rfl]
   ·unfold nA;rw[bM,if_neg (db jB jB jB),bM,if_neg (db jB jB jB),bM,if_neg (db jB jB jB),bM,if_pos rfl,List.append_nil]
   ·unfold nA;rw[bM,if_neg (db jB jB jB),bM,if_neg (db jB jB jB),bM,if_neg (db jB jB jB),bM,if_neg (db jB jB jB),bM,if_pos rfl]
 ·show((N.cs++[(⟨j,j,[]⟩:NC)]).map NC.c).Nodup;rw[List.map_append,List.nodup_append];refine⟨hR.nc,jE,fun a ha b hb e'=>?_⟩;have hb:b=j:=by simpa using hb
  obtain⟨x,hx,rfl⟩:=List.mem_map.1 ha;obtain⟨k,hk,rfl⟩:=List.getElem_of_mem hx;have:=(hR.call k jB).var;rw[dN jB,e',hb,j0]at this;cases this
 ·show((N.cs++[(⟨j,j,[]⟩:NC)]).map NC.v).Nodup;rw[List.map_append,List.nodup_append];refine⟨hR.nv,jE,fun a ha b hb e'=>?_⟩;have hb:b=j:=by simpa using hb
  obtain⟨x,hx,rfl⟩:=List.mem_map.1 ha;obtain⟨k,hk,rfl⟩:=List.getElem_of_mem hx;have:=(hR.call k jB).cw;rw[dN jB,e',hb,j2]at this;cases this
 ·show(N.cs++[_]).length+(N.cj.drop 1).length<=1000;have:=hR.bd;rw[List.length_append,List.length_drop,List.length_singleton];omega
end MV
end Go.Gd
namespace Go.Proofs.YtfkgcobaheegbaaGreatDoor
open Go Go.Gd Tryz Go.Gd.MV
section
variable {p:ab}{C:aE}{m:MV}{N:NM}{e:List (Nat×Row)}(X:List Nat)
theorem oI(hR:bD p C m N e){l:List AV}(h:aW dY l=true):aW (fun i=>(ids e).contains i) (mP N::l)=true:=by simp only[aW,AV.all,gG hR.root,Bool.true_and];exact fh (fun _ h=>by cases h) _ h
theorem Eo(hR:bD p C m N e)(h1:1<=m.calls.length)(v:ak)(hb:∀k,k<m.calls.length->(nth m.calls k).stack.length<=1000):kv prog 185 [mP N,rV v] e X (.bj []) (fun N' l=>bD p C (m.ends v) N' l/\N'.k=N.k):=by
 have hlo:=hR.ok.low;have hl:=hR.len;have hbd:=hR.bd;unfold MV.ends;by_cases h2:m.calls.length<=1
 ·rw[if_pos h2];have hR1:bD p C { m.pop with status:=2 } N.pop (br e (hn 3 N.k) (.var 122 (mE p C { m.pop with status:=2 } N.pop))):=hR.xg h1 rfl rfl rfl;have hU:Up X e (br e (hn 3 N.k) (.var 122 (mE p C { m.pop with status:=2 } N.pop))):=Up.put _ (.inl (by rw[hR.root];simp));refine⟨_,_,⟨hR1,rfl⟩,hU,⟨?_,hR.ok,hR1.ok,hU.aY,oI hR rfl⟩⟩;have k2:=hR1.ok;clear hR1 hU;generalize hE:br e (hn 3 N.k) (.var 122 (mE p C { m.pop with status:=2 } N.pop))=E at k2 ⊢;refine aT (L:=ids e) func185 ntmps185 ?_ (hL:=rfl);generalize hB:ids e=B;refine fk ?_
  (have W:=jA hlo (hR.root);repeat' (first|refine aB fun K hK=>?_|refine aC ?_|(with_reducible refine gR 1 ?_);refine dE 1 [0,1,2,3,4,5,6,7,8,9,10,11,12,13,14] mixed ?_|(refine hK _ _ ?_;clear hK K)|(refine aA ?_ ?_<;>intro hc<;>try exact jz)|refine fa 9 ?_|refine aD ?_|exact jI|(clear hK K)));all_goals(try clear W)
  refine fp (tl:=[(9,.var 59 (cv v))]) hB hR.ok k2 (fun i=>?_) (eO jC er) [];subst hE;have e1:N.cs.length=1:=jB;simp only[gF,bM];by_cases a:i=hn 3 N.k
  ·simp only[if_pos a,Option.some_or];unfold mE NM.pop;simp[MV.pop,iN,e1,Nat.add_comm]
  ·simp only[if_neg a]
 ·rw[if_neg h2];have hR1:bD p C m.pop N.pop (br e (hn 3 N.k) (.var 122 (mE p C m.pop N.pop))):=hR.xg h1 rfl rfl rfl;have eE:br e (hn 3 N.k) (.var 122 (mE p C m.pop N.pop))=br e (hn 3 N.k) (.var 122 (iN p++[bp cZ 4 C.ins,bp eI 1 C.entry,.rs (hn 4 N.k) (N.cs.length+N.cj.length) 1 (N.cs.length-1),.pt (hn 5 N.k) 0 0 0,.rs (hn 8 N.k) m.ax.length 1 m.ax.length,.raw (.int .i64 m.in_),.raw (.int .i64 m.status),.raw (.int .i64 m.aZ),.raw (.int .i64 m.time)])):=by
   unfold mE NM.pop;have:N.cs.length-1+(N.cj.length+1)=N.cs.length+N.cj.length:=jB;simp[MV.pop,this]
  rw[eE]at hR1;have hU:Up X e (br e (hn 3 N.k) (.var 122 (iN p++[bp cZ 4 C.ins,bp eI 1 C.entry,.rs (hn 4 N.k) (N.cs.length+N.cj.length) 1 (N.cs.length-1),.pt (hn 5 N.k) 0 0 0,.rs (hn 8 N.k) m.ax.length 1 m.ax.length,.raw (.int .i64 m.in_),.raw (.int .i64 m.status),.raw (.int .i64 m.aZ),.raw (.int .i64 m.time)]))):=Up.put _ (.inl (by rw[hR.root];simp));have p1:1<=m.pop.calls.length:=by show 1<=(m.calls.take _).length;rw[List.length_take];omega
  have ht:=uu hR1 p1;have hbt:m.pop.af.stack.length<=1000:=by have:m.pop.af=nth m.calls (m.calls.length-1-1):=MV.nN jB;rw[this];exact hb _ jB
  obtain⟨N',l,hT,hU2,hp⟩:=sr X hR1 p1 v hbt;refine⟨N',l,⟨hT.1,hT.2.1⟩,hU.trans hU2,⟨?_,hR.ok,hp.e2,(hU.trans hU2).aY,oI hR rfl⟩⟩;clear hU hU2 eE;refine aT (L:=ids e) func185 ntmps185 ?_ (hL:=rfl);generalize hB:ids e=B;refine fk ?_
  (have W:=jA hlo (hR.root);repeat' (first|refine aB fun K hK=>?_|refine aC ?_|(with_reducible refine gR 1 ?_);refine dE 1 [0,1,2,3,4,5,6,7,8,9,10,11,12,13,14] mixed ?_|(with_reducible refine gR 4 ?_);refine dC 4 ([],[28],[]) [] [0,1,2,3,4,5] mixed ?_|(refine hK _ _ ?_;clear hK K)|(refine aA ?_ ?_<;>intro hc<;>try exact jz)|refine fa 9 ?_|refine o8 ht ?_|refine cT hp ?_|refine aD ?_|exact jI|(clear hK K)));all_goals(try clear W)
  exact fp hB hR.ok hp.e2 (fun _=>rfl) (eO jC er) []
structure pI(p:ab)(C:aE)(m:MV)(fn:Int)(args:List ak):Prop where
 f0:0<=fn
 f1:fn<C.entry.length
 f2:fn<p.size.length
 s0:0<=nth p.size fn.toNat
 s1:nth p.size fn.toNat<=24
 s2:(args.length:Int)<=nth p.size fn.toNat
 qG:C.entry.length<=1000/\p.size.length<=1000
 calls:m.calls.length<=8
theorem DW(hR:bD p C m N e)(fn:Int)(args:List ak)(hk:pI p C m fn args):kv prog 71 [mP N,rI fn,bp cv 3 args] e X (.bj []) (fun N' l=>bD p C (m.cF p C fn args) N' l/\N'.k=N.k):=by
 have hlo:=hR.ok.low;have hl:=hR.len;have hbd:=hR.bd;obtain⟨f0,f1,f2,s0,s1,s2,⟨b1,b2⟩,h8⟩:=hk;have n0:=wF e X 0 0;have n1:=wF e X 1 0;have n2:=wF e X 2 0;have x0:=yV e X 0 0;have x1:=yV e X 1 0;have x2:=yV e X 2 0;generalize pY (ids e++X)+0=k at n0 n1 n2 x0 x1 x2;have hR1:=hR.CS (m':=m.cF p C fn args) (c':=io p C fn args) (j:=k) jB rfl rfl rfl n0 n1 n2 (by show 0<=2000;omega);have hU:Up X e (nA p C (m.cF p C fn args) N (io p C fn args) k e):=by
  unfold nA;refine((((Up.put _ (.inr x1)).trans (Up.put _ (.inr x2))).trans (Up.put _ (.inr x0))).trans (Up.put _ (.inl ?_))).trans (Up.put _ (.inl ?_))
  ·rw[bM,if_neg (db jB jB jB),bM,if_neg (db jB jB jB),bM,if_neg (db jB jB jB),hR.row];simp
  ·rw[bM,if_neg (db jB jB jB),bM,if_neg (db jB jB jB),bM,if_neg (db jB jB jB),bM,if_neg (db jB jB jB),hR.root];simp
 obtain⟨n,hnn⟩:∃n:Nat,nth p.size fn.toNat=(n:Int):=⟨(nth p.size fn.toNat).toNat,jB⟩;refine⟨_,_,⟨hR1,rfl⟩,hU,⟨?_,hR.ok,hR1.ok,hU.aY,oI hR rfl⟩⟩;have k2:=hR1.ok;clear hR1 hU;generalize hE:nA p C (m.cF p C fn args) N (io p C fn args) k e=E at k2 ⊢;have han:args.length<=n:=jB;refine aT (L:=ids e) func71 ntmps71 ?_ (hL:=rfl);generalize hB:ids e=B;refine fk ?_
 (have W:=jA hlo (jA hR.root (jA hR.row (jA hnn (jA n0 (n1)))));repeat' (first|refine aB fun K hK=>?_|refine aC ?_|(with_reducible refine gR 0 ?_);refine dC 0 ([],[],[32]) [] [0,1,2,3,4,5,6,7,8,9,10,11,12,13,14,15,16,17,18,19,20,21,22,23,24,25,26,27,28] mixed ?_|(refine hK _ _ ?_;clear hK K)|(refine aA ?_ ?_<;>intro hc<;>try exact jz)|refine fa (hn 0 k) ?_|refine OE (n:=n) (hn 1 k) ?_|refine I2 ?_ (hd:=by(show av (tie _ _) _=_;rw[gF,n1,Option.none_or];exact if_pos rfl))|refine qy 10 ?_|refine qN (enc:=fun j=>[.pt (hn 0 j) 0 0 0]) (N.cs.map NC.c) N.cj [k] ?_ (hm:=by rw[List.length_map]) (hn:=by rw[List.length_map])|refine aD ?_|exact jI|(clear hK K)));all_goals(try clear W)
 refine Ht (tl:=[(10,.aL 133 1 [[.pt (hn 0 k) 0 0 0]])]) hB hR.ok k2 (hZ.fM (t:=137) (cs:=[.raw (.slice none 0 0),rI fn,rI (nth C.entry fn.toNat),rI (nth C.entry fn.toNat),.rs (hn 1 k) n 3 n]) (hn 2 k) (hn 0 k) 0 59 3 ?_ jC ?_ rfl) (fun i=>?_) (eO jC er) []
 ·show av (tie _ _) _=_;simp(disch:=first|omega|assumption|fail) only[go_sem,↓reduceIte,n2]
 ·show av (tie _ _) _=_;simp(disch:=first|omega|assumption|fail) only[go_sem,↓reduceIte,n0]
 ·subst hE;have en:((nth p.size fn.toNat)-(args.length:Int)).toNat=n-args.length:=jB;have es:(io p C fn args).slots.map cv=iD (List.replicate n (cv v0)) 0 (args.map cv):=by
   show(args++List.replicate _ v0).map cv=_;unfold iD;rw[en,List.map_append,List.map_replicate];simp
  have el:(io p C fn args).slots.length=n:=by show(args++List.replicate _ v0).length=n;rw[en,List.length_append,List.length_replicate];omega
  have q4:hn 4 N.k≠hn 3 N.k:=db jB jB jB;simp only[nA,Hp.put,gF,bM,es];by_cases a:i=hn 3 N.k
  ·subst a;simp(disch:=first|omega|assumption|fail) only[go_sem,↓reduceIte,NM.nQ,List.length_append,List.length_drop,List.length_singleton,MV.cF]
  simp only[if_neg a];by_cases b:i=hn 4 N.k
  ·subst b;simp(disch:=first|omega|assumption|fail) only[go_sem,↓reduceIte,NM.nQ,List.map_append,List.append_assoc]
  simp only[if_neg b];by_cases c:i=hn 0 k
  ·subst c;simp(disch:=first|omega|assumption|fail) only[go_sem,↓reduceIte,el];rfl
  simp only[if_neg c];by_cases d:i=hn 2 k
  ·subst d;simp(disch:=first|omega|assumption|fail) only[go_sem,↓reduceIte];rfl
  simp only[if_neg d];by_cases f:i=hn 1 k
  ·subst f;simp(disch:=first|omega|assumption|fail) only[go_sem,↓reduceIte,n1];rfl
  simp only[if_neg f,av,if_neg c]
end
structure pz(p:ab)(C:aE)(m:MV)(x:au):Prop where
 calls:1<=m.calls.length
 nb:m.calls.length<=8
 one:x.op=6\/x.op=8\/x.op=9\/x.op=10\/x.op=11\/x.op=13\/x.op=15\/x.op=17\/x.op=18\/x.op=19\/x.op=21\/x.op=23->1<=m.af.stack.length
 two:x.op=7\/x.op=12->2<=m.af.stack.length
 slot:x.op=5\/x.op=6\/x.op=11\/x.op=12->0<=x.a/\x.a<m.af.slots.length
 bool:x.op=17\/x.op=18\/x.op=19->m.af.last.n=0\/m.af.last.n=1
 len:x.op=10->m.af.last.ty=3\/m.af.last.ty=4
 call:x.op=20->0<=x.b/\x.b<=m.af.stack.length/\(m.calls.length<8->pI p C m x.a (m.af.stack.drop (m.af.stack.length-x.b.toNat)))
 word:x.op=15->cY m.af.last.n
 j6:∀v∈m.af.stack,v.s.size<=40
 deep:∀k,k<m.calls.length->(nth m.calls k).stack.length<=1000
 slots:m.af.slots.length<=24
 heap:ga m.heap<=40
 outs:m.ax.length<=24
 gK:0<=m.in_
 gw:m.in_<=1000
theorem pz.af{p:ab}{C:aE}{m:MV}{x:au}(h:pz p C m x):m.af.stack.length<=1000:=h.deep (m.calls.length-1) (by have:=h.calls;omega)
section
variable {p:ab}{C:aE}{m:MV}{N:NM}{e:List (Nat×Row)}(X:List Nat)
theorem gW(hR:bD p C m N e)(h1:1<=m.calls.length){l:List AV}(h:aW dY l=true):aW (fun i=>(ids e).contains i) (mP N::cP N::l)=true:=by simp only[aW,AV.all,gG hR.root,gG (hR.af h1).var,Bool.true_and];exact fh (fun _ h=>by cases h) _ h
theorem L8(hR:bD p C m N e)(h1:1<=m.calls.length)(x:au)(hx:¬(x.op=2\/x.op=3\/x.op=4\/x.op=5)):du prog 126 [mP N,cP N,.agg (cZ x)] e (rB false) e:=by
 have hlo:=hR.ok.low;refine⟨?_,hR.ok,hR.ok,fun _ h=>h,gW hR h1 rfl⟩;refine aT (L:=ids e) func126 ntmps126 ?_ (hL:=rfl);generalize hB:ids e=B;refine fk ?_
 (have W:=hlo;repeat' (first|refine aB fun K hK=>?_|refine aC ?_|(refine hK _ _ ?_;clear hK K)|(refine aA ?_ ?_<;>intro hc<;>try exact jz)|refine fa 9 ?_|refine aD ?_|exact jI|(clear hK K)));all_goals(try clear W)
 exact fp hB hR.ok hR.ok (fun _=>rfl) (eO jC er) [.tmp 6]
theorem Kz(hR:bD p C m N e)(inp:List Int)(x:au)(hk:pz p C m x)(hx:x.op=2\/x.op=3\/x.op=4\/x.op=5):kv prog 126 [mP N,cP N,.agg (cZ x)] e X (rB true) (To p C (m.ins p C inp x) N):=by
 have h1:=hk.calls;have hlo:=hR.ok.low;have h5:x.op=5->du prog 174 [cP N,rI x.a,rI x.b] e (rV (dp m.af.slots x.a x.b)) e:=fun h=>Cr hR h1 x.a x.b (hk.slot (.inl h)) (by have:=hk.slots;omega)
 have key:∀v:ak,((x.op=2/\v=vI x.a)\/(x.op=3/\v=vB (decide (x.a=1)))\/(x.op=4/\v=vT x.s)\/(x.op=5/\v=dp m.af.slots x.a x.b))->kv prog 126 [mP N,cP N,.agg (cZ x)] e X (rB true) (To p C (m.push v) N):=fun v hv=>by
  obtain⟨N',l,hT,hU,hp⟩:=sr X hR h1 v hk.af;refine⟨N',l,hT,hU,⟨?_,hR.ok,hp.e2,hU.aY,gW hR h1 rfl⟩⟩;refine aT (L:=ids e) func126 ntmps126 ?_ (hL:=rfl);generalize hB:ids e=B;refine fk ?_;rcases hv with⟨h,rfl⟩|⟨h,rfl⟩|⟨h,rfl⟩|⟨h,rfl⟩
  all_goals
   (have W:=hlo;repeat' (first|refine aB fun K hK=>?_|refine aC ?_|(with_reducible refine gR 4 ?_);refine dE 4 [0,1,2,3,4,5,6] mixed ?_|(with_reducible refine gR 6 ?_);refine dE 6 [0,1,2,3,4,5,6,7] mixed ?_|(with_reducible refine gR 8 ?_);refine dE 8 [0,1,2,3,4,5,6] mixed ?_|(with_reducible refine gR 10 ?_);refine dC 10 ([],[47],[]) [] [0,1,2,3,4,5,6,7,8,9] mixed ?_|(refine hK _ _ ?_;clear hK K)|(refine aA ?_ ?_<;>intro hc<;>try exact jz)|refine fa 9 ?_|refine cp (tu _) ?_|refine cp (vL _) ?_|refine cp (G4 _) ?_|refine o8 (h5 h) ?_|refine cT hp ?_|refine aD ?_|exact jI|(clear hK K)));all_goals(try clear W)
  all_goals exact fp hB hR.ok hp.e2 (fun _=>rfl) (eO jC er) [.tmp 6]
 unfold MV.ins;rcases hx with h|h|h|h
 ·have:=key (vI x.a) (.inl ⟨h,rfl⟩);simpa[h]using this
 ·have:=key (vB (decide (x.a=1))) (.inr (.inl ⟨h,rfl⟩));simpa[h]using this
 ·have:=key (vT x.s) (.inr (.inr (.inl ⟨h,rfl⟩)));simpa[h]using this
 ·have:=key (dp m.af.slots x.a x.b) (.inr (.inr (.inr ⟨h,rfl⟩)));simpa[h]using this
end
end Go.Proofs.YtfkgcobaheegbaaGreatDoor
namespace Go.Gd
open Go
namespace MV
variable {p:ab}{C:aE}{m:MV}{N:NM}{e:List (Nat×Row)}
theorem Hr(h:1<=N.cs.length):N.aQ N.af=N:=by unfold NM.aQ NM.af;rw[dN jB,List.set_getElem_self]
theorem bD.jS(hR:bD p C m N e)(h1:1<=m.calls.length){c':MC}(hs:c'.stack=m.af.stack)(hl:c'.slots=m.af.slots):bD p C (m.aQ c') N (br e (hn 0 N.af.c) (.var 137 (MV.cE c' N.af))):=by
 have ht:=hR.af h1;have hlen:=hR.len;have h:=hR.aQ (e':=br e (hn 0 N.af.c) (.var 137 (MV.cE c' N.af))) h1 (c':=c') (n':=N.af) rfl ?_ ⟨?_,?_,?_,by rw[hs];exact ht.bd⟩ (.inl rfl) fun j hj n0 n1 n2=>by rw[bM,if_neg n0]
 ·rw[Hr jB]at h;exact h
 ·refine hR.ok.put (.inr (iw _ _)) ?_;have i1:=gG ht.eP;have i2:=gG ht.cw;simp only[Row.cells,MV.cE,aW,AV.all,i1,i2,Bool.or_true,Bool.and_self]
 ·rw[bM,if_pos rfl]
 ·rw[bM,if_neg (db jB jB jB),hs];exact ht.cw
 ·rw[bM,if_neg (db jB jB jB),hl];exact ht.eP
end MV
end Go.Gd
namespace Go.Proofs.YtfkgcobaheegbaaGreatDoor
open Go Go.Gd Tryz Go.Gd.MV
section
variable {p:ab}{C:aE}{m:MV}{N:NM}{e:List (Nat×Row)}(X:List Nat)
theorem Qj(hR:bD p C m N e)(h1:1<=m.calls.length)(x:au)(hx:¬(x.op=16\/x.op=17\/x.op=18\/x.op=19)):du prog 129 [mP N,cP N,.agg (cZ x)] e (rB false) e:=by
 have hlo:=hR.ok.low;refine⟨?_,hR.ok,hR.ok,fun _ h=>h,gW hR h1 rfl⟩;refine aT (L:=ids e) func129 ntmps129 ?_ (hL:=rfl);generalize hB:ids e=B;refine fk ?_
 (have W:=hlo;repeat' (first|refine aB fun K hK=>?_|refine aC ?_|(refine hK _ _ ?_;clear hK K)|(refine aA ?_ ?_<;>intro hc<;>try exact jz)|refine fa 9 ?_|refine aD ?_|exact jI|(clear hK K)));all_goals(try clear W)
 exact fp hB hR.ok hR.ok (fun _=>rfl) (eO jC er) [.tmp 6]
theorem Mm(hR:bD p C m N e)(inp:List Int)(x:au)(hk:pz p C m x)(hx:x.op=16\/x.op=17\/x.op=18\/x.op=19):kv prog 129 [mP N,cP N,.agg (cZ x)] e X (rB true) (To p C (m.ins p C inp x) N):=by
 have h1:=hk.calls;have hlo:=hR.ok.low;have hT:=hR.af h1;by_cases h16:x.op=16
 ·have ei:m.ins p C inp x=m.aQ (m.af.jump x.a):=by unfold MV.ins;simp[h16]
  rw[ei];have hR1:=hR.jS h1 (c':=m.af.jump x.a) rfl rfl;have hU:Up X e (br e (hn 0 N.af.c) (.var 137 (MV.cE (m.af.jump x.a) N.af))):=Up.put _ (.inl (by rw[hT.var];simp));refine⟨_,_,⟨hR1,rfl,rfl⟩,hU,⟨?_,hR.ok,hR1.ok,hU.aY,gW hR h1 rfl⟩⟩;have k2:=hR1.ok;clear hR1 hU;generalize hE:br e (hn 0 N.af.c) (.var 137 (MV.cE (m.af.jump x.a) N.af))=E at k2 ⊢;refine aT (L:=ids e) func129 ntmps129 ?_ (hL:=rfl);generalize hB:ids e=B;refine fk ?_
  (have W:=jA hlo (hT.var);repeat' (first|refine aB fun K hK=>?_|refine aC ?_|(refine hK _ _ ?_;clear hK K)|(refine aA ?_ ?_<;>intro hc<;>try exact jz)|refine fa 9 ?_|refine aD ?_|exact jI|(clear hK K)));all_goals(try clear W)
  subst hE;exact fp hB hR.ok k2 (fun _=>rfl) (eO jC er) [.tmp 6]
 have hone:=hk.one jB;have hbool:=hk.bool jB;obtain⟨N1,l1,hT1,hU1,hp1⟩:=Df X hR h1 hone;have h11:1<=(m.cut 1).calls.length:=by rw[show(m.cut 1).calls.length=m.calls.length from MV.bB _ _];exact h1
 have hlo1:=hT1.1.ok.low;have hv1:=(hT1.1.af h11).var;rw[hT1.2.2]at hv1;have hR2:=hT1.1.jS h11 (c':=(m.cut 1).af.jump x.a) rfl rfl;have hU2:Up X l1 (br l1 (hn 0 N1.af.c) (.var 137 (MV.cE ((m.cut 1).af.jump x.a) N1.af))):=Up.put _ (.inl (by rw[hT1.2.2,hv1];simp));by_cases h17:x.op=17
 ·by_cases hz:m.af.last.n=0
  ·have ei:m.ins p C inp x=(m.cut 1).aQ ((m.cut 1).af.jump x.a):=by
    unfold MV.ins;simp only[h17,hz];unfold MV.cut;rw[MV.cV,MV.aV h1];rfl
   rw[ei];refine⟨_,_,⟨hR2,hT1.2.1,hT1.2.2⟩,hU1.trans hU2,⟨?_,hR.ok,hR2.ok,(hU1.trans hU2).aY,gW hR h1 rfl⟩⟩;have k2:=hR2.ok;clear hR2 hU1 hU2;generalize hE:br l1 (hn 0 N1.af.c) (.var 137 (MV.cE ((m.cut 1).af.jump x.a) N1.af))=E at k2 ⊢;refine aT (L:=ids e) func129 ntmps129 ?_ (hL:=rfl);generalize hB:ids e=B;refine fk ?_
   (have W:=jA hlo (jA hlo1 (jA hv1 (hz)));repeat' (first|refine aB fun K hK=>?_|refine aC ?_|(refine hK _ _ ?_;clear hK K)|(refine aA ?_ ?_<;>intro hc<;>try exact jz)|refine fa 9 ?_|refine cT hp1 ?_|refine aD ?_|exact jI|(clear hK K)));all_goals(try clear W)
   subst hE;refine fp (tl:=[(9,.var 139 (cZ x))]) hB hR.ok k2 (fun i=>?_) (eO jC er) [.tmp 6];have:=hT1.2.2;unfold MV.cE;rw[this];rfl
  ·have ei:m.ins p C inp x=m.cut 1:=by unfold MV.ins;simp only[h17];simp[hz]
   rw[ei];refine⟨_,_,hT1,hU1,⟨?_,hR.ok,hp1.e2,hU1.aY,gW hR h1 rfl⟩⟩;refine aT (L:=ids e) func129 ntmps129 ?_ (hL:=rfl);generalize hB:ids e=B;refine fk ?_
   (have W:=jA hlo hlo1;repeat' (first|refine aB fun K hK=>?_|refine aC ?_|(refine hK _ _ ?_;clear hK K)|(refine aA ?_ ?_<;>intro hc<;>try exact jz)|refine fa 9 ?_|refine cT hp1 ?_|refine aD ?_|exact jI|(clear hK K)));all_goals(try clear W)
   exact fp hB hR.ok hp1.e2 (fun _=>rfl) (eO jC er) [.tmp 6]
 have hla:=Lk hR h1 hone;have h2:x.op=18\/x.op=19:=jB;have hif:m.ins p C inp x=if(m.af.last.n=1<->x.op=19)then m.aQ (m.af.jump x.a)else m.cut 1:=by unfold MV.ins;rcases h2 with h|h<;>simp only[h]<;>rfl
 by_cases hj:(m.af.last.n=1<->x.op=19)
 ·have ei:m.ins p C inp x=m.aQ (m.af.jump x.a):=by rw[hif,if_pos hj]
  rw[ei];have hR3:=hR.jS h1 (c':=m.af.jump x.a) rfl rfl;have hU:Up X e (br e (hn 0 N.af.c) (.var 137 (MV.cE (m.af.jump x.a) N.af))):=Up.put _ (.inl (by rw[hT.var];simp));refine⟨_,_,⟨hR3,rfl,rfl⟩,hU,⟨?_,hR.ok,hR3.ok,hU.aY,gW hR h1 rfl⟩⟩;have k2:=hR3.ok;clear hR3 hU hR2 hU2 hU1;generalize hE:br e (hn 0 N.af.c) (.var 137 (MV.cE (m.af.jump x.a) N.af))=E at k2 ⊢;have hj':(decide (m.af.last.n=1) == decide (x.op=19))=true:=by by_cases a:m.af.last.n=1<;>by_cases b:x.op=19<;>simp[a,b]at hj ⊢
  refine aT (L:=ids e) func129 ntmps129 ?_ (hL:=rfl);generalize hB:ids e=B;refine fk ?_;rcases h2 with h|h
  all_goals
   (have W:=jA hlo (jA hT.var (hj'));repeat' (first|refine aB fun K hK=>?_|refine aC ?_|(with_reducible refine gR 10 ?_);refine dC 10 ([],[35],[]) [] [0,1,2,3,4,5,6,7,8,9] mixed ?_|(refine hK _ _ ?_;clear hK K)|(refine aA ?_ ?_<;>intro hc<;>try exact jz)|refine fa 9 ?_|refine o8 hla ?_|refine aD ?_|exact jI|(clear hK K)));all_goals(try clear W)
  all_goals
   subst hE;exact fp hB hR.ok k2 (fun _=>rfl) (eO jC er) [.tmp 6]
 ·have ei:m.ins p C inp x=m.cut 1:=by rw[hif,if_neg hj]
  rw[ei];refine⟨_,_,hT1,hU1,⟨?_,hR.ok,hp1.e2,hU1.aY,gW hR h1 rfl⟩⟩;have hj':(decide (m.af.last.n=1) == decide (x.op=19))=false:=by by_cases a:m.af.last.n=1<;>by_cases b:x.op=19<;>simp[a,b]at hj ⊢
  refine aT (L:=ids e) func129 ntmps129 ?_ (hL:=rfl);generalize hB:ids e=B;refine fk ?_;rcases h2 with h|h
  all_goals
   (have W:=jA hlo (hj');repeat' (first|refine aB fun K hK=>?_|refine aC ?_|(with_reducible refine gR 10 ?_);refine dC 10 ([],[35],[]) [] [0,1,2,3,4,5,6,7,8,9] mixed ?_|(refine hK _ _ ?_;clear hK K)|(refine aA ?_ ?_<;>intro hc<;>try exact jz)|refine fa 9 ?_|refine o8 hla ?_|refine cT hp1 ?_|refine aD ?_|exact jI|(clear hK K)));all_goals(try clear W)
  all_goals exact fp hB hR.ok hp1.e2 (fun _=>rfl) (eO jC er) [.tmp 6]
end
end Go.Proofs.YtfkgcobaheegbaaGreatDoor

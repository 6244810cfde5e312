/- What is visible: the program's. What is visible: the program's search. What is visible: the program's, of a node. Texts: how long they are. Texts that are joined. No conditions. -/
import Derived.Test.YtdekkklnfifphaaGreatDoorViX
import Derived.Test.YtdekkklnfifphaaGreatDoorGdQ
import Derived.Test.YtdekkklnfifphaaGreatDoorViS
import Derived.Test.YtdekkklnfifphaaGreatDoorWd
import Derived.Lib.ItoaLen
import Derived.Test.YtdekkklnfifphaaGreatDoorShelf
set_option linter.all false
namespace Go.Gd
open Go
abbrev VS:=List GVar×List GVar
def jkm (x:GVar) (s:VS):VS:=(s.1++[x],s.2.drop 1)
def joJ (m:Nat) (s:VS):VS:=(s.1.take m,s.1.drop m++s.2)
def jdt (w:Int→VS→Bool×VS):List Int→VS→Bool×VS
 | [],s=>(false,s)
 | b::l,s=>if (w b s).1=true then (true,(w b s).2) else jdt w l (w b s).2
def jfk (w:Int→VS→Bool×VS) (p:GProg) (node:Int):List Int→VS→Bool×VS
 | [],s=>(false,s)
 | x::l,s=>
  if x=node then (true,s)
  else if (jaj p x).kind=10 then jfk w p node l (jkm (jeV p x) s)
  else if (jaj p x).kind=15∨(jaj p x).kind=16 then
   (if (jdt w ((jaj p x).l.drop 1) s).1=true then (true,(jdt w ((jaj p x).l.drop 1) s).2) else jfk w p node l (jdt w ((jaj p x).l.drop 1) s).2)
  else jfk w p node l s
def jcV (p:GProg) (node:Int):Nat→Int→VS→Bool×VS
 | 0,_,s=>(false,s)
 | n+1,b,s=>if (jfk (jcV p node n) p node (jaj p b).l s).1=true then jfk (jcV p node n) p node (jaj p b).l s else (false,joJ s.1.length (jfk (jcV p node n) p node (jaj p b).l s).2)
def Agr (s:VS) (o:Option (List GVar)) (r:Bool×VS):Prop:=match o with
 | some R=>r.1=true∧r.2.1=R
 | none=>r.1=false∧r.2.1=s.1
theorem jnJ {w:Int→VS→Bool×VS} {v:Int→List GVar→Option (List GVar)} (h:∀ b s,Agr s (v b s.1) (w b s)):∀ (l:List Int) (s:VS),Agr s (jet v s.1 l) (jdt w l s)
 | [],s=>⟨rfl,rfl⟩
 | b::l,s=>by
  have hb:=h b s
  unfold jet jdt
  cases e:v b s.1 with
  | some R=>
   rw [e] at hb
   rw [if_pos hb.1]
   exact ⟨rfl,hb.2⟩
  | none=>
   rw [e] at hb
   rw [if_neg (by rw [hb.1];decide),Option.none_or]
   have:=jnJ h l (w b s).2
   rw [hb.2] at this
   unfold Agr at this ⊢
   rw [← hb.2]
   rw [hb.2]
   cases e2:jet v s.1 l with
   | some R=>rw [e2] at this;exact this
   | none=>rw [e2] at this;exact ⟨this.1,this.2.trans hb.2⟩
def j5v (s:VS) (o:Option (List GVar)) (r:Bool×VS):Prop:=match o with
 | some R=>r.1=true∧r.2.1=R
 | none=>r.1=false∧r.2.1.take s.1.length=s.1
theorem jhw {p:GProg} {node:Int} {w:Int→VS→Bool×VS} {v:Int→List GVar→Option (List GVar)} (h:∀ b s,Agr s (v b s.1) (w b s)):∀ (l:List Int) (s:VS),j5v s (jeh v p node l s.1) (jfk w p node l s)
 | [],s=>⟨rfl,List.take_length⟩
 | x::l,s=>by
  unfold jeh jfk
  by_cases hx:x=node
  ·rw [if_pos hx,if_pos hx];exact ⟨rfl,rfl⟩
  rw [if_neg hx,if_neg hx]
  by_cases k10:(jaj p x).kind=10
  ·rw [if_pos k10,if_neg (by omega),Option.none_or]
   have:=jhw (p:=p) (node:=node) h l (jkm (jeV p x) s)
   have e:(jkm (jeV p x) s).1=jiH p x s.1:=by unfold jiH;rw [if_pos k10];rfl
   rw [e] at this
   cases e2:jeh v p node l (jiH p x s.1) with
   | some R=>rw [e2] at this;exact this
   | none=>
    rw [e2] at this
    refine ⟨this.1,?_⟩
    have h2:=this.2
    rw [e] at h2
    have h3:(jiH p x s.1).take s.1.length=s.1:=by unfold jiH;rw [if_pos k10,List.take_left]
    have hl:s.1.length≤(jiH p x s.1).length:=by unfold jiH;rw [if_pos k10];simp
    have h4:(jfk w p node l (jkm (jeV p x) s)).2.1.take s.1.length=((jfk w p node l (jkm (jeV p x) s)).2.1.take (jiH p x s.1).length).take s.1.length:=by rw [List.take_take,Nat.min_eq_left hl]
    rw [h4,h2,h3]
  rw [if_neg k10]
  have hl:jiH p x s.1=s.1:=by unfold jiH;rw [if_neg k10]
  rw [hl]
  by_cases kb:(jaj p x).kind=15∨(jaj p x).kind=16
  ·rw [if_pos kb,if_pos kb]
   have hk:=jnJ h ((jaj p x).l.drop 1) s
   cases e:jet v s.1 ((jaj p x).l.drop 1) with
   | some R=>rw [e] at hk;rw [if_pos hk.1];exact ⟨rfl,hk.2⟩
   | none=>
    rw [e] at hk
    rw [if_neg (by rw [hk.1];decide),Option.none_or]
    have:=jhw (p:=p) (node:=node) h l (jdt w ((jaj p x).l.drop 1) s).2
    rw [hk.2] at this
    cases e2:jeh v p node l s.1 with
    | some R=>rw [e2] at this;exact this
    | none=>rw [e2] at this;refine ⟨this.1,?_⟩;have h2:=this.2;rw [hk.2] at h2;exact h2
  ·rw [if_neg kb,if_neg kb,Option.none_or]
   exact jhw (p:=p) (node:=node) h l s
theorem jjT {p:GProg} {node:Int}:∀ (n:Nat) (b:Int) (s:VS),Agr s (ja2 p node n b s.1) (jcV p node n b s)
 | 0,b,s=>⟨rfl,rfl⟩
 | n+1,b,s=>by
  have:=jhw (p:=p) (node:=node) (jjT (p:=p) (node:=node) n) (jaj p b).l s
  unfold ja2 jcV
  cases e:jeh (ja2 p node n) p node (jaj p b).l s.1 with
  | some R=>rw [e] at this;rw [if_pos this.1];exact this
  | none=>rw [e] at this;rw [if_neg (by rw [this.1];decide)];exact ⟨rfl,this.2⟩
def jjs (s:VS):Nat:=s.1.length+s.2.length
theorem jn8 (x:GVar) (s:VS) {T:Nat} (h:jjs s≤T) (h1:s.1.length+1≤T):jjs (jkm x s)≤T:=by
 unfold jjs jkm at *
 simp only [List.length_append,List.length_cons,List.length_nil,List.length_drop]
 omega
theorem ju6 (m:Nat) (s:VS):jjs (joJ m s)=jjs s:=by
 unfold jjs joJ
 simp only [List.length_append,List.length_take,List.length_drop]
 omega
theorem ji1 {p:GProg} {node:Int} {n:Nat} {b:Int} {s:VS} (h:(jcV p node n b s).1=false):(jcV p node n b s).2.1=s.1:=by
 have:=jjT (p:=p) (node:=node) n b s
 cases e:ja2 p node n b s.1 with
 | some R=>rw [e] at this;rw [this.1] at h;cases h
 | none=>rw [e] at this;exact this.2
def jsi (w:Int→VS→Bool×VS):List Int→VS→Int→Int
 | [],_,_=>-1
 | b::l,s,i=>if (w b s).1=true then i else jsi w l (w b s).2 (i+1)
theorem jly (w:Int→VS→Bool×VS):∀ (l:List Int) (s:VS) (i:Int),0≤i→(jdt w l s).1=decide (0≤jsi w l s i)
 | [],s,i,_=>rfl
 | b::l,s,i,h=>by
  unfold jdt jsi
  split
  ·exact (decide_eq_true h).symm
  ·exact jly w l _ (i+1) (by omega)
theorem ji7 (w:Int→VS→Bool×VS) (b:Int) (l:List Int) (s:VS):jdt w (b::l) s=if (w b s).1=true then (true,(w b s).2) else jdt w l (w b s).2:=by conv=>lhs;unfold jdt
theorem jq3 (w:Int→VS→Bool×VS) (b:Int) (l:List Int) (s:VS) (i:Int):jsi w (b::l) s i=if (w b s).1=true then i else jsi w l (w b s).2 (i+1):=by conv=>lhs;unfold jsi
end Go.Gd
namespace Go.Proofs.YtdekkklnfifphaaGreatDoor
open Go Go.Gd
set_option maxHeartbeats 4000000
set_option maxRecDepth 10000
theorem jj9 {p:GProg} {node:Int} {n:Nat} {T B:Nat} (hw:∀ b s,0≤b→b.toNat < B→jak p.tree.nodes b=18→jjs s≤1000000→s.1.length≤T→jjs (jcV p node n b s).2≤1000000):∀ (l:List Int) (s:VS),(∀ b∈l,0≤b∧b.toNat < B∧jak p.tree.nodes b=18)→jjs s≤1000000→s.1.length≤T→jjs (jdt (jcV p node n) l s).2≤1000000∧((jdt (jcV p node n) l s).1=false→(jdt (jcV p node n) l s).2.1=s.1)
 | [],s,_,h,_=>⟨h,fun _=>rfl⟩
 | b::l,s,hl,h,h1=>by
  obtain ⟨b0,b1,b2⟩:=hl b (by simp)
  have hb:=hw b s b0 b1 b2 h h1
  rw [ji7]
  by_cases e:(jcV p node n b s).1=true
  ·rw [if_pos e];exact ⟨hb,fun h=>by cases h⟩
  ·rw [if_neg e]
   have e1:=ji1 (Bool.not_eq_true _ ▸ e)
   have:=jj9 hw l (jcV p node n b s).2 (fun b hb=>hl b (by simp [hb])) hb (by rw [e1];exact h1)
   exact ⟨this.1,fun h=>(this.2 h).trans e1⟩
theorem jjV {p:GProg} (h:POk p) (node:Int):∀ (n:Nat) (b:Int) (s:VS),0≤b→b.toNat < p.tree.nodes.length→jak p.tree.nodes b=18→jjs s≤1000000→s.1.length+300 * b.toNat≤900000→jjs (jcV p node n b s).2≤1000000
 | 0,b,s,_,_,_,ht,_=>ht
 | n+1,b,s,h0,hl,hk,ht,h1=>by
  have sh:=h.tree.shape b.toNat hl
  have hll:=jkf h b
  have sc:∀ (l:List Int) (t:VS),(∀ x∈l,x∈(jaj p b).l)→jjs t≤1000000→t.1.length+l.length≤s.1.length+300→jjs (jfk (jcV p node n) p node l t).2≤1000000:=fun l=>by
   induction l with
   | nil=>intro t _ g _;exact g
   | cons x l ih=>
    intro t hx g g1
    have hxb:=sh.2.1 x (hx x (by simp))
    have hxl:x.toNat < p.tree.nodes.length:=by omega
    have shx:=h.tree.shape x.toNat hxl
    simp only [List.length_cons] at g1
    have hx':∀ y∈l,y∈(jaj p b).l:=fun y hy=>hx y (by simp [hy])
    unfold jfk
    split
    ·exact g
    split
    ·exact ih _ hx' (jn8 _ _ g (by omega)) (by show (t.1++[_]).length+_≤_;simp;omega)
    split
    ·rename_i kb
     have hkids:∀ y∈(jaj p x).l.drop 1,0≤y∧y.toNat < x.toNat∧jak p.tree.nodes y=18:=fun y hy=>by
      have hy':y∈(nth p.tree.nodes x.toNat).l:=List.mem_of_mem_drop hy
      have hyb:=shx.2.1 y hy'
      refine ⟨hyb.1,hyb.2,?_⟩
      have hy:y∈(nth p.tree.nodes x.toNat).l.drop 1:=hy
      rcases kb with kb | kb
      ·obtain ⟨a,c,_,hb,hl | ⟨d,hl,hd⟩⟩:=shx.1.if_ kb
       ·rw [hl] at hy;simp at hy;subst hy;exact hb
       ·rw [hl] at hy;simp at hy;rcases hy with rfl | rfl
        ·exact hb
        ·exact hd
      ·obtain ⟨a,c,hl,_,hb⟩:=shx.1.while_ kb
       rw [hl] at hy;simp at hy;subst hy;exact hb
     have hkt:=jj9 (p:=p) (node:=node) (n:=n) (T:=s.1.length+300) (B:=x.toNat) (fun c u c0 c1 c2 c3 c4=>jjV h node n c u c0 (by omega) c2 c3 (by omega)) ((jaj p x).l.drop 1) t hkids g (by omega)
     split
     ·exact hkt.1
     ·rename_i e
      have e1:=hkt.2 (Bool.not_eq_true _ ▸ e)
      exact ih _ hx' hkt.1 (by rw [e1];omega)
    ·exact ih _ hx' g (by omega)
  have:=sc (jaj p b).l s (fun x hx=>hx) ht (by omega)
  unfold jcV
  split
  ·exact this
  ·rw [ju6];exact this
abbrev jkX:List AV:=[.pt 3 0 0 0,.pt 1 0 0 0,.pt 2 0 0 0,.pt 7 0 0 0]
def fE (p:GProg) (node:Int) (s:VS):List (Nat×Row):=[(1,.var 29 (jah p)),(2,.var 3 [rI node]),(3,.var 62 [.rs 4 (s.1.length+s.2.length) 3 s.1.length]),(4,.vec 70 3 ((s.1++s.2).map jcv)),(7,.var 129 [.clo 120 jkX])]
attribute [go_sem] fE
theorem j2r {p:GProg} (node:Int) (w:Int→VS→Bool×VS) (L:List Int) (s0:VS) (I:VS→Prop) (hL:L.length≤300) (hI0:I s0)
  (hw:∀ b∈L,∀ s,I s→ACalls Tryz.prog 120 (rI b::jkX) (fE p node s) (fun r l'=>r=rB (w b s).1∧l'=fE p node (w b s).2)) (hI:∀ b∈L,∀ s,I s→(w b s).1=false→I (w b s).2) :
  ACalls Tryz.prog 156 [jaI eI 1 L,.clo 120 jkX] (fE p node s0) (fun r l'=>r=rI (jsi w L s0 0)∧l'=fE p node (jdt w L s0).2):=by
 suffices key:∀ (sR:VS) (iR:Int),sR=(jdt w L s0).2→iR=jsi w L s0 0→ACalls Tryz.prog 156 [jaI eI 1 L,.clo 120 jkX] (fE p node s0) (fun r l'=>r=rI iR∧l'=fE p node sR) from key _ _ rfl rfl
 intro sR iR hsR hiR
 refine jaR Tryz.func156 Tryz.ntmps156 ?_
 (refine S ?_;try exact True.intro)
 (repeat' (first|refine jaa fun K hK=>?_|refine wkA ?_|(refine hK _ _ ?_;clear hK K)|(refine jad (fun hc=>?_) (fun hc=>?_)<;>first | contradiction | (exfalso;omega) | skip)|refine wkB ?_|exact True.intro|(clear hK K)))
 have hKo:=hK;clear hK
 refine jag (S:=Nat×VS) [(4,2),(8,11)] (fun t=>t.1≤L.length∧I t.2∧jsi w (L.drop t.1) t.2 t.1=iR∧(jdt w (L.drop t.1) t.2).2=sR) (fun t=>[(8,rI t.1)]) (fun t=>⟨[1,2,3,4,7],fE p node t.2⟩) (fun t=>L.length - t.1) (0,s0) ⟨Nat.zero_le _,hI0,hiR.symm,hsR.symm⟩ (jau (by simp only [go_sem]) lle) ?_
 rintro ⟨k,s⟩ ⟨hk,hIs,h1,h2⟩ Kr hKr
 simp only at hk hIs h1 h2 ⊢
 by_cases hlt:k < L.length
 ·have hwk:=hw _ (jam hlt) s hIs
  have hIk:=hI _ (jam hlt) s hIs
  rw [ja0 hlt,jq3] at h1
  rw [ja0 hlt,ji7] at h2
  generalize hxd:nth L k=x at *
  generalize w x s=r at *
  cases hr:r.1 with
  | true=>
   rw [if_pos hr] at h1 h2
   simp only at h1 h2
   subst h1 h2
   rw [hr] at hwk
   (refine S ?_;try exact True.intro)
   (have W:=hxd;repeat' (first|refine jaa fun K hK=>?_|refine wkA ?_|(refine hK _ _ ?_;clear hK K)|(refine jad (fun hc=>?_) (fun hc=>?_)<;>first | contradiction | (exfalso;omega) | skip)|(refine cl hwk ?_)|refine wkB ?_|exact True.intro|(clear hK K)));all_goals (try clear W)
   (refine jbV [.tmp 4] ?_ ?_<;>(try simp only [go_sem]))
  | false=>
   rw [if_neg (by rw [hr];decide)] at h1 h2
   rw [hr] at hwk
   (refine S ?_;try exact True.intro)
   (have W:=hxd;repeat' (first|refine jaa fun K hK=>?_|refine wkA ?_|(refine hK _ _ ?_;clear hK K)|(refine jad (fun hc=>?_) (fun hc=>?_)<;>first | contradiction | (exfalso;omega) | skip)|(refine cl hwk ?_)|refine wkB ?_|exact True.intro|(clear hK K)));all_goals (try clear W)
   refine hKr _ _ (jar (k+1,r.2) ⟨by show k+1≤L.length;omega,hIk hr,h1,h2⟩ (by show L.length - (k+1) < L.length - k;omega) (by simp only [go_sem]) lle)
 ·have hke:k=L.length:=by omega
  subst hke
  rw [List.drop_length] at h1 h2
  have h1:iR=-1:=h1.symm
  have h2:sR=s:=h2.symm
  subst h1 h2
  (refine S ?_;try exact True.intro)
  (repeat' (first|refine jaa fun K hK=>?_|refine wkA ?_|(refine hK _ _ ?_;clear hK K)|(refine jad (fun hc=>?_) (fun hc=>?_)<;>first | contradiction | (exfalso;omega) | skip)|(refine hKo _ _ ?_)|refine wkB ?_|exact True.intro|(clear hK K)))
  (refine jbV [.tmp 4] ?_ ?_<;>(try simp only [go_sem]))
theorem joI {p:GProg} (node:Int) (w:Int→VS→Bool×VS) (L:List Int) (s0:VS) (I:VS→Prop) (hL:L.length≤300) (hI0:I s0)
  (hw:∀ b∈L,∀ s,I s→ACalls Tryz.prog 120 (rI b::jkX) (fE p node s) (fun r l'=>r=rB (w b s).1∧l'=fE p node (w b s).2)) (hI:∀ b∈L,∀ s,I s→(w b s).1=false→I (w b s).2) :
  ACalls Tryz.prog 121 [jaI eI 1 L,.clo 120 jkX] (fE p node s0) (fun r l'=>r=rB (jdt w L s0).1∧l'=fE p node (jdt w L s0).2):=by
 have hi:=j2r node w L s0 I hL hI0 hw hI
 rw [jly w L s0 0 (by omega)]
 generalize jsi w L s0 0=i at *
 generalize (jdt w L s0).2=sR at *
 refine jaR Tryz.func121 Tryz.ntmps121 ?_
 (refine S ?_;try exact True.intro)
 (repeat' (first|refine jaa fun K hK=>?_|refine wkA ?_|(refine hK _ _ ?_;clear hK K)|(refine jad (fun hc=>?_) (fun hc=>?_)<;>first | contradiction | (exfalso;omega) | skip)|refine cm (hi) ?_|refine wkB ?_|exact True.intro|(clear hK K)))
 (refine jbV [.tmp 4] ?_ ?_<;>(try simp only [go_sem]))
theorem juj {p:GProg} (h:POk p) (node:Int):∀ (n:Nat) (b:Int) (s:VS),0≤b→b.toNat < p.tree.nodes.length→b.toNat < n→jak p.tree.nodes b=18→jjs s≤1000000→s.1.length+300 * b.toNat≤900000→
  ACalls Tryz.prog 120 (rI b::jkX) (fE p node s) (fun r l'=>r=rB (jcV p node n b s).1∧l'=fE p node (jcV p node n b s).2)
 | 0,b,s,h0,hl,hn,hk,ht,h1=>by omega
 | n+1,b,s,h0,hl,hn,hk,ht,h1=>by
  have ih:=juj h node n
  have sh:=h.tree.shape b.toNat hl
  have hblk:=sh.1.block hk
  have hkid:=sh.2.1
  have hty:=h.types
  have hsl:=h.slots
  have hll:=jkf h b
  have hmany:=h.tree.many
  have key:∀ (rr:Bool×VS) (sR:VS) (bR:Bool),jfk (jcV p node n) p node (jaj p b).l s=rr→bR=rr.1→sR=(if rr.1=true then rr.2 else joJ s.1.length rr.2)→ACalls Tryz.prog 120 (rI b::jkX) (fE p node s) (fun r l'=>r=rB bR∧l'=fE p node sR):=by
   intro rr sR bR hrr hbR hsR
   have hL0:(jaj p b).l=(nth p.tree.nodes b.toNat).l:=rfl
   rw [hL0] at hrr hll
   generalize hL:(nth p.tree.nodes b.toNat).l=L at *
   unfold jjs at ht
   refine jaR Tryz.func120 Tryz.ntmps120 ?_
   (refine S ?_;try exact True.intro)
   (have W:=hL;repeat' (first|refine jaa fun K hK=>?_|refine wkA ?_|(refine hK _ _ ?_;clear hK K)|(refine jad (fun hc=>?_) (fun hc=>?_)<;>first | contradiction | (exfalso;omega) | skip)|refine wkB ?_|exact True.intro|(clear hK K)));all_goals (try clear W)
   have hKo:=hK;clear hK
   refine jag (S:=Nat×VS) [(6,1),(9,2),(21,54)] (fun t=>t.1≤L.length∧jjs t.2≤1000000∧t.2.1.length≤s.1.length+t.1∧s.1.length≤t.2.1.length∧jfk (jcV p node n) p node (L.drop t.1) t.2=rr) (fun t=>[(21,rI t.1),(6,rB false)]) (fun t=>⟨[1,2,3,4,7],fE p node t.2⟩) (fun t=>L.length - t.1) (0,s) ⟨Nat.zero_le _,ht,Nat.le_refl _,Nat.le_refl _,hrr⟩ (jau (by simp only [go_sem]) lle) ?_
   rintro ⟨k,t⟩ ⟨hk1,htt,htl,htg,hsc⟩ Kr hKr
   simp only at hk1 htt htl htg hsc ⊢
   by_cases hlt:k < L.length
   rotate_left
   ·have hke:k=L.length:=by omega
    subst hke
    rw [List.drop_length] at hsc
    have hsc:rr=(false,t):=hsc.symm
    subst hsc
    have hbR:bR=false:=hbR
    have hsR:sR=joJ s.1.length t:=hsR
    have hcl:(joJ s.1.length t).1.length=s.1.length:=by unfold joJ;simp;omega
    have hct:(joJ s.1.length t).2.length+s.1.length=t.1.length+t.2.length:=by unfold joJ;simp;omega
    have hcut:(joJ s.1.length t).1++(joJ s.1.length t).2=t.1++t.2:=by unfold joJ;simp [← List.append_assoc]
    (refine S ?_;try exact True.intro)
    (repeat' (first|refine jaa fun K hK=>?_|refine wkA ?_|(refine hK _ _ ?_;clear hK K)|(refine jad (fun hc=>?_) (fun hc=>?_)<;>first | contradiction | (exfalso;omega) | skip)|(refine hKo _ _ ?_)|refine wkB ?_|exact True.intro|(clear hK K)))
    subst hbR hsR
    (refine jbV [.tmp 6] ?_ ?_<;>(try simp only [go_sem]))
    show [_,_,(3,_),(4,_),_]=[_,_,(3,_),(4,_),_]
    rw [← List.map_append,← List.map_append,hcut,hcl,show s.1.length+(joJ s.1.length t).2.length=t.1.length+t.2.length by omega]
   have hx:=hblk _ (jam hlt)
   have hx2:=hkid _ (jam hlt)
   rw [ja0 hlt] at hsc
   unfold jfk at hsc
   generalize hxd:nth L k=x at *
   have hxl:x.toNat < p.tree.nodes.length:=by omega
   have shx:=h.tree.shape x.toNat hxl
   have hnx:jaj p x=nth p.tree.nodes x.toNat:=rfl
   rw [hnx] at hsc
   by_cases hxn:x=node
   ·rw [if_pos hxn] at hsc
    subst hsc
    have hbR:bR=true:=hbR
    have hsR:sR=t:=hsR
    subst hbR hsR
    (refine S ?_;try exact True.intro)
    (have W:=And.intro hxd (hxn);repeat' (first|refine jaa fun K hK=>?_|refine wkA ?_|(refine hK _ _ ?_;clear hK K)|(refine jad (fun hc=>?_) (fun hc=>?_)<;>first | contradiction | (exfalso;omega) | skip)|refine al 8 ?_|refine wkB ?_|exact True.intro|(clear hK K)));all_goals (try clear W)
    (refine jaU [.tmp 6] ?_;try simp only [go_sem])
   rw [if_neg hxn] at hsc
   by_cases k10:(nth p.tree.nodes x.toNat).kind=10
   ·rw [if_pos k10] at hsc
    obtain ⟨a,ha,_⟩:=shx.1.right (.inl k10)
    have hal:=shx.2.1 a (by rw [ha];simp)
    have ha0:nth (nth p.tree.nodes x.toNat).l 0=a:=by rw [ha];rfl
    have ha1:(nth p.tree.nodes x.toNat).l.length=1:=by rw [ha];rfl
    unfold jjs at htt
    (refine S ?_;try exact True.intro)
    (have W:=And.intro hxd (And.intro hxn (And.intro k10 (And.intro ha0 (ha1))));repeat' (first|refine jaa fun K hK=>?_|refine wkA ?_|(with_reducible refine gR 9 ?_);refine dE 9 [0,1,2,3,4,5,6,7,8,9,10,11,12,13,14,15,16,17,18,19] mixed ?_|(refine hK _ _ ?_;clear hK K)|(refine jad (fun hc=>?_) (fun hc=>?_)<;>first | contradiction | (exfalso;omega) | skip)|refine al 8 ?_|refine jfs (enc:=jcv) t.1 t.2 [⟨(nth p.tree.nodes x.toNat).name,nth p.types a.toNat,nth p.slots x.toNat⟩] ?_|refine wkB ?_|exact True.intro|(clear hK K)));all_goals (try clear W)
    have hvo:(⟨(nth p.tree.nodes x.toNat).name,nth p.types a.toNat,nth p.slots x.toNat⟩:GVar)=jeV p x:=by unfold jeV;rw [hnx,ha0]
    rw [hvo]
    have hpt:=jn8 (jeV p x) t (T:=1000000) htt (by omega)
    refine hKr _ _ (jaM [8] (k+1,jkm (jeV p x) t) ⟨by show k+1≤L.length;omega,hpt,by show (t.1++[_]).length≤s.1.length+(k+1);simp;omega,by show s.1.length≤(t.1++[_]).length;simp;omega,hsc⟩ (by show L.length - (k+1) < L.length - k;omega) rfl Sd ?_ vtl)
    unfold fE jkm
    simp only [List.length_append,List.length_cons,List.length_nil,List.length_drop,List.map_append,List.map_cons,List.map_nil]
    rfl
   rw [if_neg k10] at hsc
   by_cases kb:(nth p.tree.nodes x.toNat).kind=15∨(nth p.tree.nodes x.toNat).kind=16
   ·rw [if_pos kb] at hsc
    have hkids:∀ y∈(nth p.tree.nodes x.toNat).l.drop 1,0≤y∧y.toNat < x.toNat∧jak p.tree.nodes y=18:=fun y hy=>by
     have hy':y∈(nth p.tree.nodes x.toNat).l:=List.mem_of_mem_drop hy
     have hyb:=shx.2.1 y hy'
     refine ⟨hyb.1,hyb.2,?_⟩
     rcases kb with kb | kb
     ·obtain ⟨a,c,_,hb,hl | ⟨d,hl,hd⟩⟩:=shx.1.if_ kb
      ·rw [hl] at hy;simp at hy;subst hy;exact hb
      ·rw [hl] at hy;simp at hy;rcases hy with rfl | rfl
       ·exact hb
       ·exact hd
     ·obtain ⟨a,c,hl,_,hb⟩:=shx.1.while_ kb
      rw [hl] at hy;simp at hy;subst hy;exact hb
    have hl1:1≤(nth p.tree.nodes x.toNat).l.length:=by
     rcases kb with kb | kb
     ·obtain ⟨a,c,_,hb,hl | ⟨d,hl,hd⟩⟩:=shx.1.if_ kb<;>(rw [hl];simp)
     ·obtain ⟨a,c,hl,_,hb⟩:=shx.1.while_ kb;rw [hl];simp
    have hdt:List.take ((nth p.tree.nodes x.toNat).l.length - 1) (List.drop 1 (nth p.tree.nodes x.toNat).l)=List.drop 1 (nth p.tree.nodes x.toNat).l:=List.take_of_length_le (by simp)
    have hlx:=jkf h x
    rw [hnx] at hlx
    have hcon:=joI (p:=p) node (jcV p node n) ((nth p.tree.nodes x.toNat).l.drop 1) t (fun u=>jjs u≤1000000∧u.1.length≤s.1.length+300) (by simp;omega) ⟨htt,by omega⟩
     (fun y hy u hu=>ih y u (hkids y hy).1 (by have:=(hkids y hy).2.1;omega) (by have:=(hkids y hy).2.1;omega) (hkids y hy).2.2 hu.1 (by have:=(hkids y hy).2.1;have:=hu.2;omega))
     (fun y hy u hu hf=>⟨jjV h node n y u (hkids y hy).1 (by have:=(hkids y hy).2.1;omega) (hkids y hy).2.2 hu.1 (by have:=(hkids y hy).2.1;have:=hu.2;omega),by rw [ji1 hf];exact hu.2⟩)
    have hkt:=jj9 (p:=p) (node:=node) (n:=n) (T:=s.1.length+300) (B:=x.toNat) (fun c u c0 c1 c2 c3 c4=>jjV h node n c u c0 (by omega) c2 c3 (by omega)) ((nth p.tree.nodes x.toNat).l.drop 1) t hkids htt (by omega)
    generalize jdt (jcV p node n) ((nth p.tree.nodes x.toNat).l.drop 1) t=KR at *
    cases hKR:KR.1 with
    | true=>
     rw [if_pos hKR] at hsc
     subst hsc
     have hbR:bR=true:=hbR
     have hsR:sR=KR.2:=hsR
     subst hbR hsR
     rw [hKR] at hcon
     (refine S ?_;try exact True.intro)
     (have W:=And.intro hxd (And.intro hxn (And.intro k10 (hdt)));repeat' (first|refine jaa fun K hK=>?_|refine wkA ?_|(with_reducible refine gR 10 ?_);refine dC 10 ([3,4],[],[72]) [] [0,1,2,3,4,5,6,7,8,9,10,11,12,13,14,15] mixed ?_|(refine hK _ _ ?_;clear hK K)|(refine jad (fun hc=>?_) (fun hc=>?_)<;>first | contradiction | (exfalso;omega) | skip)|refine al 8 ?_|(refine cNA hcon ?_)|(refine wbr (fun hc=>?_) (fun hc=>?_)<;>first | contradiction | (exfalso;omega) | skip)|refine wkB ?_|exact True.intro|(clear hK K)));all_goals (try clear W)
     all_goals (refine jaU [.tmp 6] ?_;try simp only [go_sem])
    | false=>
     have hk1':=hkt.2 hKR
     rw [if_neg (by rw [hKR];decide)] at hsc
     rw [hKR] at hcon
     (refine S ?_;try exact True.intro)
     (have W:=And.intro hxd (And.intro hxn (And.intro k10 (hdt)));repeat' (first|refine jaa fun K hK=>?_|refine wkA ?_|(with_reducible refine gR 10 ?_);refine dC 10 ([3,4],[],[72]) [] [0,1,2,3,4,5,6,7,8,9,10,11,12,13,14,15] mixed ?_|(refine hK _ _ ?_;clear hK K)|(refine jad (fun hc=>?_) (fun hc=>?_)<;>first | contradiction | (exfalso;omega) | skip)|refine al 8 ?_|(refine cNA hcon ?_)|(refine wbr (fun hc=>?_) (fun hc=>?_)<;>first | contradiction | (exfalso;omega) | skip)|refine wkB ?_|exact True.intro|(clear hK K)));all_goals (try clear W)
     all_goals refine hKr _ _ (jaM [8] (k+1,KR.2) ⟨by show k+1≤L.length;omega,hkt.1,by show KR.2.1.length≤s.1.length+(k+1);rw [hk1'];omega,by show s.1.length≤KR.2.1.length;rw [hk1'];omega,hsc⟩ (by show L.length - (k+1) < L.length - k;omega) rfl Sd (by simp only [go_sem];(try rfl)) vtl)
   ·rw [if_neg kb] at hsc
    have kb1:¬ (nth p.tree.nodes x.toNat).kind=15:=fun h=>kb (.inl h)
    have kb2:¬ (nth p.tree.nodes x.toNat).kind=16:=fun h=>kb (.inr h)
    (refine S ?_;try exact True.intro)
    (have W:=And.intro hxd (And.intro hxn (And.intro k10 (And.intro kb1 (kb2))));repeat' (first|refine jaa fun K hK=>?_|refine wkA ?_|(with_reducible refine gR 10 ?_);refine dC 10 ([3,4],[],[72]) [] [0,1,2,3,4,5,6,7,8,9,10,11,12,13,14,15] mixed ?_|(refine hK _ _ ?_;clear hK K)|(refine jad (fun hc=>?_) (fun hc=>?_)<;>first | contradiction | (exfalso;omega) | skip)|refine al 8 ?_|refine wkB ?_|exact True.intro|(clear hK K)));all_goals (try clear W)
    refine hKr _ _ (jaM [8] (k+1,t) ⟨by show k+1≤L.length;omega,htt,by show t.1.length≤s.1.length+(k+1);omega,htg,hsc⟩ (by show L.length - (k+1) < L.length - k;omega) rfl Sd (by simp only [go_sem];(try rfl)) vtl)
  have hk2:=key _ _ _ rfl rfl rfl
  unfold jcV
  cases e:(jfk (jcV p node n) p node (jaj p b).l s).1 with
  | true=>rw [e] at hk2;simp only [if_true] at hk2 ⊢;rw [e];exact hk2
  | false=>rw [e] at hk2;simp only [Bool.false_eq_true,if_false] at hk2 ⊢;exact hk2
end Go.Proofs.YtdekkklnfifphaaGreatDoor
namespace Go.Gd
open Go
@[go_sem] theorem jyf (f:FuncId) (cs:List AV):(AV.clo f cs).cells=[.clo f cs]:=(rfl)
@[go_sem] theorem j2y (f:FuncId) (cs:List AV):(AV.clo f cs).one=true:=by simp [AV.one]
@[go_sem] theorem j0q (i:Nat):(AV.mr i).cells=[.mr i]:=(rfl)
@[go_sem] theorem j4O (i:Nat):(AV.mr i).one=true:=by simp [AV.one]
end Go.Gd
namespace Go.Proofs.YtdekkklnfifphaaGreatDoor
open Go Go.Gd
set_option maxHeartbeats 4000000
set_option maxRecDepth 10000
theorem j0j {p:GProg} (h:POk p) (hfn:∀ k,k < p.tree.nodes.length→0≤nth p.fn k∧nth p.fn k < p.tree.fns.length) (node:Int) (h0:0≤node) (h1:node.toNat < p.tree.nodes.length):PCall Tryz.prog 74 [.agg (jah p),rI node] (jaI jcv 3 (jiS p node)):=by
 obtain ⟨f0,f1⟩:=hfn _ h1
 have hlf:=h.fn
 have hmany:=h.tree.many
 have hft:(nth p.fn node.toNat).toNat < p.tree.fns.length:=by omega
 have hbN:=jcM h.tree hft
 have hbk:=h.tree.body _ (jam hft)
 have hps:=(h.tree.fn _ (jam hft)).2
 have hag:=jjT (p:=p) (node:=node) p.tree.nodes.length (nth p.tree.fns (nth p.fn node.toNat).toNat).body (jfm (nth p.tree.fns (nth p.fn node.toNat).toNat).params 0,[])
 have hfc:=juj h node p.tree.nodes.length (nth p.tree.fns (nth p.fn node.toNat).toNat).body (jfm (nth p.tree.fns (nth p.fn node.toNat).toNat).params 0,[]) hbN.1 (by have:=hbN.1;have:=hbN.2;omega) (by have:=hbN.1;have:=hbN.2;omega) hbk (by unfold jjs;rw [jfE];simp;omega) (by show (jfm _ _).length+_≤_;rw [jfE];have:=hbN.1;have:=hbN.2;omega)
 unfold jiS
 simp only at hag
 generalize ja2 p node p.tree.nodes.length (nth p.tree.fns (nth p.fn node.toNat).toNat).body (jfm (nth p.tree.fns (nth p.fn node.toNat).toNat).params 0)=O at *
 generalize jcV p node p.tree.nodes.length (nth p.tree.fns (nth p.fn node.toNat).toNat).body (jfm (nth p.tree.fns (nth p.fn node.toNat).toNat).params 0,[])=R at *
 generalize hF:nth p.fn node.toNat=g at *
 generalize hG:nth p.tree.fns g.toNat=f at *
 refine jbO Tryz.func74 Tryz.ntmps74 ?_
 (have W:=And.intro hF (hG);repeat' (first|refine jaa fun K hK=>?_|refine wkA ?_|(with_reducible refine gR 1 ?_);refine dE 1 [0,1,2,3,4,5,6,7,8,9,10,11] mixed ?_|(refine hK _ _ ?_;clear hK K)|(refine jad (fun hc=>?_) (fun hc=>?_)<;>first | contradiction | (exfalso;omega) | skip)|refine bx 1 ?_|refine bx 2 ?_|refine al 5 ?_|refine al 3 ?_|refine wkB ?_|exact True.intro|(clear hK K)));all_goals (try clear W)
 refine jaD (FLe.nilC 4 3 0 70 3 rfl (by decide) rfl rfl) ?_
 (refine S ?_;try exact True.intro)
 have hKo:=hK;clear hK
 have hpl:∀ k,(jfm (f.params.take k) 0).length=min k f.params.length:=fun k=>by rw [jfE];simp
 refine jag (S:=Nat) [(7,2),(23,15)] (fun k=>k≤f.params.length) (fun k=>[(23,rI k)]) (fun k=>⟨[],[(1,.var 29 (jah p)),(2,.var 3 [rI node]),(5,.var 66 (jbn f)),(3,.var 62 [.rs 4 k 3 k]),(4,.vec 70 3 ((jfm (f.params.take k) 0).map jcv))]⟩) (fun k=>f.params.length - k) 0 (by omega) (jau rfl lle) ?_
 rintro k hk Kr hKr
 have hkl:(jfm (f.params.take k) 0).length=k:=by rw [hpl];omega
 by_cases hlt:k < f.params.length
 ·(refine S ?_;try exact True.intro)
  (have W:=hkl;repeat' (first|refine jaa fun K hK=>?_|refine wkA ?_|(refine hK _ _ ?_;clear hK K)|(refine jad (fun hc=>?_) (fun hc=>?_)<;>first | contradiction | (exfalso;omega) | skip)|refine al 6 ?_|refine wkB ?_|exact True.intro|(clear hK K)));all_goals (try clear W)
  refine hKr _ _ (jaM [6] (k+1) (by omega) (by show f.params.length - (k+1) < f.params.length - k;omega) rfl Sd ?_ vtl)
  show Hp.mk _ [_,_,_,_,_]=Hp.mk _ [_,_,_,_,(4,.vec _ _ ((jfm (f.params.take (k+1)) 0).map jcv))]
  rw [ja8 hlt,jkl,List.map_append]
  have:((0:Int)+(f.params.take k).length)=(k:Int):=by simp;omega
  rw [this]
  rfl
 ·have hke:k=f.params.length:=by omega
  subst hke
  rw [List.take_length] at hkl ⊢
  generalize jfm f.params 0=V at *
  rw [← hkl]
  cases hR:R.1 with
  | true=>
   cases O with
   | none=>rw [hag.1] at hR;cases hR
   | some W=>
    have hW:R.2.1=W:=hag.2
    rw [hR] at hfc
    (refine S ?_;try exact True.intro)
    (repeat' (first|refine jaa fun K hK=>?_|refine wkA ?_|(refine hK _ _ ?_;clear hK K)|(refine jad (fun hc=>?_) (fun hc=>?_)<;>first | contradiction | (exfalso;omega) | skip)|refine al 7 ?_|(refine cl hfc ?_)|(refine hKo _ _ ?_)|refine wkB ?_|exact True.intro|(clear hK K)))
    subst hW
    refine jfG [.tmp 4] ?_
    exact VTo.rowCut R.2.1 R.2.2 rfl (by show some (Row.vec _ _ _)=some (Row.vec _ _ _);rw [List.map_append]) rfl rfl
  | false=>
   cases O with
   | some W=>rw [hag.1] at hR;cases hR
   | none=>
    rw [hR] at hfc
    (refine S ?_;try exact True.intro)
    (repeat' (first|refine jaa fun K hK=>?_|refine wkA ?_|(refine hK _ _ ?_;clear hK K)|(refine jad (fun hc=>?_) (fun hc=>?_)<;>first | contradiction | (exfalso;omega) | skip)|refine al 7 ?_|(refine cl hfc ?_)|(refine hKo _ _ ?_)|refine wkB ?_|exact True.intro|(clear hK K)))
    refine jfG [.tmp 4] ?_
    exact VTo.nil _ _
end Go.Proofs.YtdekkklnfifphaaGreatDoor
namespace Go.Gd
open Go
@[go_sem] theorem j3a (a:UInt8):(#[a]:Array UInt8).size=1:=(rfl)
@[go_sem] theorem j3b (a b c:UInt8):(#[a,b,c]:Array UInt8).size=3:=(rfl)
@[go_sem] theorem j3c (a b c d:UInt8):(#[a,b,c,d]:Array UInt8).size=4:=(rfl)
@[go_sem] theorem j3d (a b c d e:UInt8):(#[a,b,c,d,e]:Array UInt8).size=5:=(rfl)
@[go_sem] theorem j3e (a b c d e f:UInt8):(#[a,b,c,d,e,f]:Array UInt8).size=6:=(rfl)
@[go_sem] theorem j3f (a b c d e f g:UInt8):(#[a,b,c,d,e,f,g]:Array UInt8).size=7:=(rfl)
theorem jbe {n:Int} (h:rng n):(jbJ n).size≤21:=by
 have:=Lib.itoa_length_le n h.1 h.2
 show (Lib.itoa n).toArray.size≤21
 simpa using this
theorem jdc (x:Int) (l:List Int) (b:Bool) (t:ByteArray):jch (x::l) b t=jch l true ((if b=true then t++(⟨#[44]⟩:ByteArray) else t)++jbJ x):=rfl
@[go_sem] theorem jyh (b:Bool) (t:ByteArray):jch [] b t=t:=(rfl)
attribute [go_sem] List.take_zero
theorem jgs:∀ (l:List Int) (b:Bool) (t:ByteArray) (x:Int),jch (l++[x]) b t=(if b=true∨l≠[] then jch l b t++(⟨#[44]⟩:ByteArray) else jch l b t)++jbJ x
 | [],b,t,x=>by
  rw [List.nil_append,jdc]
  show jch [] true _=_
  cases b<;>simp [jch]
 | y::l,b,t,x=>by
  rw [List.cons_append,jdc,jgs l true _ x,jdc]
  simp
theorem jeZ:∀ (l:List Int) (b:Bool) (t:ByteArray),(∀ x∈l,rng x)→(jch l b t).size≤t.size+22 * l.length
 | [],b,t,_=>by show t.size≤_;omega
 | y::l,b,t,h=>by
  rw [jdc]
  have h1:=jeZ l true ((if b=true then t++(⟨#[44]⟩:ByteArray) else t)++jbJ y) fun x hx=>h x (by simp [hx])
  have h2:=jbe (h y (by simp))
  have h3:(if b=true then t++(⟨#[44]⟩:ByteArray) else t).size≤t.size+1:=by
   split
   ·rw [ByteArray.size_append];exact Nat.le_refl _
   ·omega
  rw [ByteArray.size_append] at h1
  simp only [List.length_cons]
  omega
theorem jl5 {v:GValue} (h:rng v.n) (hs:v.s.size≤40):(jgl v).size≤40:=by
 have:=jbe h
 unfold jgl
 (repeat' split)<;>first | omega | (show (_:Nat)≤40;decide)
end Go.Gd
namespace Go.Proofs.YtdekkklnfifphaaGreatDoor
open Go Go.Gd
set_option maxHeartbeats 4000000
set_option maxRecDepth 10000
theorem jrh (v:GValue) (h:rng v.n) (hz:v.s.size≤1000000):PCall Tryz.prog 77 [rV v] (rS (jef v)):=by
 have hw:=jr8 v h
 refine jbO Tryz.func77 Tryz.ntmps77 ?_
 (repeat' (first|refine jaa fun K hK=>?_|refine wkA ?_|(refine hK _ _ ?_;clear hK K)|(refine jad (fun hc=>?_) (fun hc=>?_)<;>first | contradiction | (exfalso;omega) | skip)|refine cp (hw) ?_|refine wkB ?_|exact True.intro|(clear hK K)))
 all_goals (refine jaU [.tmp 2] ?_;try simp only [go_sem])
 all_goals (unfold jef;(repeat' split)<;>first | rfl | (exfalso;omega) | contradiction | skip)
theorem jri (v:GValue) (h:rng v.n) (hz:v.s.size≤1000000):PCall Tryz.prog 124 [rV v] (rS (jef v)):=by
 have hw:=jwM v h
 refine jbO Tryz.func124 Tryz.ntmps124 ?_
 (repeat' (first|refine jaa fun K hK=>?_|refine wkA ?_|(refine hK _ _ ?_;clear hK K)|(refine jad (fun hc=>?_) (fun hc=>?_)<;>first | contradiction | (exfalso;omega) | skip)|refine cp (hw) ?_|refine wkB ?_|exact True.intro|(clear hK K)))
 all_goals (refine jaU [.tmp 2] ?_;try simp only [go_sem])
 all_goals (unfold jef;(repeat' split)<;>first | rfl | (exfalso;omega) | contradiction | skip)
end Go.Proofs.YtdekkklnfifphaaGreatDoor
namespace Go.Gd
open Go
theorem RelW.below {w:NW} {H:Hp} (r:RelW w H) {W:World} (hb:RowKit.Below w.heap.size w.toWorld W):RelW (w.to W) H∧Ext w H (w.to W) H:=by
 have ex:Ext w H (w.to W) H:={ size:=hb.size,free:=fun b hb' hO=>⟨hb.block b hb',hO⟩,names:=fun _ _ _ _ h=>h,os:=hb.os,tape:=hb.tape,output:=hb.output,rest:=fun b hb' hO hno=>⟨hb.block b hb',hO,hno⟩,base:=rfl }
 refine ⟨{ rows:=fun i row hi=>?_,dom:=r.dom,inj:=r.inj,own:=r.own,glob:=r.glob.keep ex.toKeep,fin:=fun b hb'=>Nat.lt_of_lt_of_le (r.fin b hb') hb.size },ex⟩
 obtain ⟨h1,z,h2,h3⟩:=r.rows i row hi
 exact ⟨h1,z,h2,h3.ext ex fun b t s e=>by subst e;exact hb.block b (r.lt h2)⟩
def jhi (l:List ByteArray) (sep:ByteArray):ByteArray:=⟨(Lib.join (l.map (·.data.toList)) sep.data.toList).toArray⟩
theorem jiV {a b:ByteArray} (h:a.data.toList=b.data.toList):a=b:=by
 cases a;cases b
 simp only [ByteArray.mk.injEq]
 exact Array.ext' h
theorem jel (a b:ByteArray):(a++b).data.toList=a.data.toList++b.data.toList:=by simp
theorem jgB (x:ByteArray) (l:List ByteArray) (sep:ByteArray):(jhi (x::l) sep).data.toList=x.data.toList++Lib.joinTail sep.data.toList (l.map (·.data.toList)):=by
 show Lib.join (List.map _ (x::l)) _=_
 rw [List.map_cons,Lib.join_cons]
theorem jiY:∀ (l:List Int) (T:ByteArray),(jch l true T).data.toList=T.data.toList++Lib.joinTail [44] ((l.map jbJ).map (·.data.toList))
 | [],T=>by simp [jch,Lib.joinTail]
 | x::l,T=>by
  rw [jdc,jiY l,if_pos rfl,jel,jel]
  simp [Lib.joinTail,List.append_assoc]
theorem jiX (l:List Int) (T:ByteArray):jch l false T=T++jhi (l.map jbJ) (⟨#[44]⟩:ByteArray):=by
 apply jiV
 cases l with
 | nil=>rw [jel];simp [jch,jhi,Lib.join_nil]
 | cons x l=>
  rw [jdc,jiY,if_neg (by decide),jel,jel,List.map_cons,jgB,List.append_assoc]
theorem jot (sep:List UInt8) (M:Nat):∀ (l:List ByteArray),(∀ x∈l,x.size≤M)→(Lib.joinTail sep (l.map (·.data.toList))).length≤l.length * (sep.length+M)
 | [],_=>by simp [Lib.joinTail]
 | x::l,h=>by
  have h1:=jot sep M l fun y hy=>h y (by simp [hy])
  have h2:x.data.toList.length≤M:=by have:=h x (by simp);simpa using this
  simp only [Lib.joinTail,List.map_cons,List.flatten_cons,List.length_append,List.length_cons] at h1 ⊢
  have:(l.length+1) * (sep.length+M)=l.length * (sep.length+M)+(sep.length+M):=by rw [Nat.add_mul,Nat.one_mul]
  omega
theorem jj8 (l:List ByteArray) (sep:ByteArray) (M:Nat) (h:∀ x∈l,x.size≤M):(jhi l sep).size≤l.length * (sep.size+M):=by
 cases l with
 | nil=>show (Lib.join _ _).toArray.size≤_;simp [Lib.join_nil]
 | cons x l=>
  have e:(jhi (x::l) sep).size=(jhi (x::l) sep).data.toList.length:=by simp
  rw [e,jgB]
  have h1:=jot sep.data.toList M l fun y hy=>h y (by simp [hy])
  have h2:x.data.toList.length≤M:=by have:=h x (by simp);simpa using this
  have h3:sep.data.toList.length=sep.size:=by simp
  simp only [List.length_append,List.length_cons]
  have:(l.length+1) * (sep.size+M)=l.length * (sep.size+M)+(sep.size+M):=by rw [Nat.add_mul,Nat.one_mul]
  rw [h3] at h1
  omega
end Go.Gd
namespace Go.Proofs.YtdekkklnfifphaaGreatDoor
open Go Go.Gd
theorem jvH {H:Hp} {e:TypeId} {i n:Nat} (l:List ByteArray) (sep:ByteArray) (hi:H.get i=some (.vec e 1 (l.map eS))) (hn:n=l.length) (hlen:(jhi l sep).size≤140737488355328) (hl:l.length≤140737488355328) :
  HCalls Tryz.prog 51 [.rs i n 1 n,rS sep] H (fun r H'=>r=rS (jhi l sep)∧H'=H):=by
 intro w vs hw hv
 obtain ⟨hsz,hv⟩:=hv
 have hsz:vs.size=2:=hsz.symm
 obtain ⟨v0,v1,rfl⟩:∃ v0 v1,vs=#[v0,v1]:=by
  rcases vs with ⟨vs⟩
  match vs,hsz with
  | [a,b],_=>exact ⟨a,b,rfl⟩
 have h0:=hv 0 _ v0 rfl rfl
 have h1:=jap (hv 1 _ v1 rfl rfl)
 subst h1
 cases h0 with
 | rs0 _ _ _ A hnm=>
  have hl0:l=[]:=List.length_eq_zero_iff.1 hn.symm
  subst hl0
  refine (Tryz.strings_Join_none A 0 sep w.toWorld).mono ?_
  rintro e W ⟨rfl,rfl⟩
  exact ⟨_,_,H,w,rfl,rfl,⟨rfl,rfl⟩,hw,.raw _,Ext.refl w H⟩
 | rs _ _ _ _ b t c hnm hc hle hs0=>
  subst hn
  have hlen':(Lib.join (l.map (·.data.toList)) sep.data.toList).length≤140737488355328:=by
   have:(jhi l sep).size=(Lib.join (l.map (·.data.toList)) sep.data.toList).length:=by show (Lib.join _ _).toArray.size=_;simp
   omega
  refine (Tryz.strings_Join b 0 c l sep w.toWorld (fun j x hx=>?_) (hw.lt hnm) hl hle hlen').mono ?_
  ·have hj:j < (l.map eS).length:=by simpa using (List.getElem?_eq_some_iff.1 hx).1
   obtain ⟨_,_,_,v,g1,g2⟩:=jfa hw hi (by simpa using hnm) hj (j:=0) (by omega)
   have hxe:((l.map eS).getD j [])[0]?=some (.raw (.string x)):=by
    rw [List.getD_eq_getElem?_getD,List.getElem?_map,hx];rfl
   have:=jap (g2 _ hxe)
   subst this
   rw [show 0+j=j * 1+0 by omega]
   exact g1
  ·rintro e W ⟨rfl,hb⟩
   obtain ⟨k1,k2⟩:=hw.below hb
   exact ⟨_,_,H,w.to W,rfl,rfl,⟨rfl,rfl⟩,k1,.raw _,k2⟩
theorem cJ {H:Hp} {K:AV→Hp→Prop} {e:TypeId} {i n:Nat} (l:List ByteArray) (sep:ByteArray) (hi:H.get i=some (.vec e 1 (l.map eS))) (hn:n=l.length) (hlen:(jhi l sep).size≤140737488355328) (hl:l.length≤140737488355328) (h0:jaf Tryz.prog 51=true) (k:K (rS (jhi l sep)) H):jbT Tryz.prog (.raw (.func (.func 51) #[] #[])) [.rs i n 1 n,rS sep] H K:=
 jbF h0 ((jvH l sep hi hn hlen hl).mono fun r H' ⟨e1,e2⟩=>by subst e1 e2;exact k)
end Go.Proofs.YtdekkklnfifphaaGreatDoor

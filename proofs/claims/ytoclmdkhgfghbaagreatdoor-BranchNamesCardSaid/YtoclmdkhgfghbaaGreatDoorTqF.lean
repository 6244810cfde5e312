/- The law of branches: forks by any name. The law of branches' names. No conditions. -/
import Derived.Test.YtoclmdkhgfghbaaGreatDoorTqD
set_option linter.all false
namespace Go.Proofs.YtoclmdkhgfghbaaGreatDoor
open Go Go.Gd
set_option maxHeartbeats 4000000
set_option maxRecDepth 10000
@[go_sem] theorem jjE:srcL.length=6:=by decide +kernel
@[go_sem] theorem jlS:srcL.all AV.one=true:=by decide +kernel
@[go_sem] theorem jmF:jaV noQ srcL=true:=by decide +kernel
@[go_sem] theorem jlT:List.take 6 srcL=srcL:=by rw [← jjE,List.take_length]
def bN (s:ByteArray):AV:=.agg [qS s,nl,nl,jh9]
theorem jmd (s:ByteArray):jax Tryz.prog 14 [bN s] jke:=by
 have h1:=jiN
 unfold bN jh9 jke eX at *
 refine jhG Tryz.func14 Tryz.ntmps14 ?_
 (repeat' (first|refine jat fun K hK=>?_|refine wkA ?_|(refine hK _ _ ?_;clear hK K)|(refine jcu (fun hc=>?_) (fun hc=>?_)<;>first | contradiction | (exfalso;omega) | skip)|refine bxF 1 ?_|refine cp (h1) ?_|refine wkB ?_|exact True.intro|(clear hK K)))
 (refine jhL [.tmp 2] ?_;try simp only [go_sem])
theorem jmf (s:ByteArray):jax Tryz.prog 33 [jdK,bN s] (qI 0):=by
 have h1:=jmd s
 have h2:=jnu
 unfold bN jh9 jke eX jdK at *
 refine jhG Tryz.func33 Tryz.ntmps33 ?_
 (repeat' (first|refine jat fun K hK=>?_|refine wkA ?_|(with_reducible refine gR 1 ?_);refine dC 1 ([],[9,10],[]) [] [0,1,2,3,4,5,6] mixed ?_|(refine hK _ _ ?_;clear hK K)|(refine jcu (fun hc=>?_) (fun hc=>?_)<;>first | contradiction | (exfalso;omega) | skip)|refine bxF 2 ?_|refine bxF 3 ?_|refine cq (h1) ?_|refine cq (h2) ?_|refine wkB ?_|exact True.intro|(clear hK K)))
 (refine jhL [.tmp 4] ?_;try simp only [go_sem])
theorem jkM (s:ByteArray):jax Tryz.prog 16 [jdK,bN s] (.tup [bN s,qI 0]):=by
 have h1:=jmf s
 unfold bN jh9 eX jdK at *
 refine jhG Tryz.func16 Tryz.ntmps16 ?_
 (repeat' (first|refine jat fun K hK=>?_|refine wkA ?_|(refine hK _ _ ?_;clear hK K)|(refine jcu (fun hc=>?_) (fun hc=>?_)<;>first | contradiction | (exfalso;omega) | skip)|refine bxF 2 ?_|refine bxF 3 ?_|refine alF 4 ?_|refine cp (h1) ?_|refine wkB ?_|exact True.intro|(clear hK K)))
 (refine jhL [.cell 4 39,.tmp 5] ?_;try simp only [go_sem])
theorem jiH (s:ByteArray) (hb:jby s=true):jax Tryz.prog 6 [jdK,b0,qS s,.agg eX] (.tup [bN s,qI 0]):=by
 have h0:=jdB s
 rw [hb] at h0
 have h1:=jm5
 have h2:=jm0
 have h3:=jlj
 have h4:=at1
 have h5:=jiA
 have h6:=jkM s
 unfold bN jh9 eX jdK b0 jjC at *
 refine jhG Tryz.func6 Tryz.ntmps6 ?_
 (repeat' (first|refine jat fun K hK=>?_|refine wkA ?_|(with_reducible refine gR 3 ?_);refine dC 3 ([],[21,24],[]) [] [0,1,2,3,4,5] mixed ?_|(with_reducible refine gR 4 ?_);refine dC 4 ([],[30],[]) [] [0,1,2,3,4,5,6,7,8,9] mixed ?_|(with_reducible refine gR 8 ?_);refine dC 8 ([],[45,50],[]) [] [0,1,2,3,4,5,6,7,8,9,10,11,12,13] mixed ?_|(refine hK _ _ ?_;clear hK K)|(refine jcu (fun hc=>?_) (fun hc=>?_)<;>first | contradiction | (exfalso;omega) | skip)|refine bxF 4 ?_|refine bxF 5 ?_|refine bxF 7 ?_|refine alF 8 ?_|refine cp (h0) ?_|(first | refine cg (h1) ?_ | refine cg' (h1) ?_)|refine cq (h1) ?_|refine cq (h2) ?_|refine cq (h3) ?_|refine cq (h4) ?_|refine cq (h5) ?_|refine cq (h6) ?_|refine wkB ?_|exact True.intro|(clear hK K)))
 (refine jhL [.cell 8 39,.tmp 9] ?_;try simp only [go_sem])
theorem jjm (s:ByteArray) (hb:jby s=false):jax Tryz.prog 6 [jdK,b0,qS s,.agg eX] (.tup [b0,qI 1]):=by
 have h0:=jdB s
 rw [hb] at h0
 have h1:=jm5
 unfold eX jdK b0 at *
 refine jhG Tryz.func6 Tryz.ntmps6 ?_
 (repeat' (first|refine jat fun K hK=>?_|refine wkA ?_|(with_reducible refine gR 3 ?_);refine dQ 3 mixed ?_|(with_reducible refine gR 4 ?_);refine dQ 4 mixed ?_|(with_reducible refine gR 8 ?_);refine dQ 8 mixed ?_|(refine hK _ _ ?_;clear hK K)|(refine jcu (fun hc=>?_) (fun hc=>?_)<;>first | contradiction | (exfalso;omega) | skip)|refine bxF 4 ?_|refine bxF 5 ?_|refine bxF 7 ?_|refine alF 8 ?_|refine cp (h0) ?_|refine ⟨qB true,?_⟩|refine wkB ?_|exact True.intro|(clear hK K)))
 (refine jhL [.cell 8 39,.tmp 9] ?_;try simp only [go_sem])
theorem jh5 (s:ByteArray) (hb:jby s=false):jax Tryz.prog 7 [jdK,b0,qS s,qI 1,qI 7] (.tup [b0,qI 1]):=by
 have h0:=jdB s
 rw [hb] at h0
 unfold jdK b0 at *
 refine jhG Tryz.func7 Tryz.ntmps7 ?_
 (repeat' (first|refine jat fun K hK=>?_|refine wkA ?_|(refine hK _ _ ?_;clear hK K)|(refine jcu (fun hc=>?_) (fun hc=>?_)<;>first | contradiction | (exfalso;omega) | skip)|refine bxF 5 ?_|refine bxF 6 ?_|refine alF 10 ?_|refine cp (h0) ?_|refine wkB ?_|exact True.intro|(clear hK K)))
 (refine jhL [.cell 10 39,.tmp 11] ?_;try simp only [go_sem])
theorem jjq (s:ByteArray) (hb:jby s=true):jax Tryz.prog 7 [jdK,b0,qS s,qI 1,qI 7] (.tup [.agg [qS s,.sl false 1 [[qI 7]] [],nl,nl],qI 0]):=by
 have h0:=jdB s
 rw [hb] at h0
 have h2:=jm0
 have h3:=jlj
 have h4:=at1
 have h5:=jiA
 unfold jdK b0 jjC at *
 refine jhG Tryz.func7 Tryz.ntmps7 ?_
 (repeat' (first|refine jat fun K hK=>?_|refine wkA ?_|(refine hK _ _ ?_;clear hK K)|(refine jcu (fun hc=>?_) (fun hc=>?_)<;>first | contradiction | (exfalso;omega) | skip)|refine bxF 5 ?_|refine bxF 6 ?_|refine alF 10 ?_|refine alF 12 ?_|refine cp (h0) ?_|refine cp (h2) ?_|refine cp (h3) ?_|refine cp (h4) ?_|refine cp (h5) ?_|refine wkB ?_|exact True.intro|(clear hK K)))
 refine jnY [.cell 10 39,.tmp 11] ?_
 refine .tup _ _ rfl fun i c d hc hd=>?_
 match i with
 | 0=>
  simp at hc hd
  subst hc hd
  refine .agg _ _ rfl fun i c d hc hd=>?_
  match i with
  | 0=>simp at hc hd;subst hc hd;exact .same _ rfl
  | 1=>
   simp at hc hd
   subst hc hd
   exact VTo.rowC rfl rfl rfl (fun cs h=>by simp at h;subst h;rfl) (fun cs h=>by simp at h;subst h;rfl)
  | 2=>simp at hc hd;subst hc hd;exact .same _ rfl
  | 3=>simp at hc hd;subst hc hd;exact .same _ rfl
  | i+4=>simp at hc
 | 1=>simp at hc hd;subst hc hd;exact .same _ rfl
 | i+2=>simp at hc
def xT5:XT:=(5,[qS jiW],.tup [jdK,qI 0,qI 0])::(6,[jdK,b0,qS (⟨#[98]⟩:ByteArray),.agg eX],.tup [bN (⟨#[98]⟩:ByteArray),qI 0])::(15,[jdK,bN (⟨#[98]⟩:ByteArray),qI 2],jla)::xT
theorem jlv:jhP Tryz.prog xT5:=⟨⟨by kernel_rfl,jlc⟩,⟨by kernel_rfl,jiH _ (by decide)⟩,⟨by kernel_rfl,at2⟩,jcQ⟩
theorem jjD:jax Tryz.prog 4 [] (qB true):=ja0 jlv mixed xH 400 60 (by decide +kernel)
def jeq (c:ByteArray) (i:Nat):Bool:=(decide (0 < (c.size:Int)) && decide ((c.size:Int)≤8)) && ((c.data.toList.take i).all fun b=>jbz b.toNat)
theorem jkL (c:ByteArray):jeq c 0=(decide (0 < (c.size:Int)) && decide ((c.size:Int)≤8)):=by simp [jeq]
theorem jh1 (c:ByteArray):jeq c c.size=jby c:=by
 unfold jeq jby
 rw [List.take_of_length_le (by simp)]
 congr 2
 ·simp;omega
 ·simp;omega
theorem jkN (c:ByteArray) (i:Nat) (hi:i < c.size):jeq c (i+1)=(jeq c i && jbz (jbS c i).toNat):=by
 unfold jeq
 have hl:i < c.data.toList.length:=by simpa using hi
 have e:jbS c i=((c.data.toList[i].toNat:Nat):Int):=by
  unfold jbS
  simp only [Int.toNat_natCast]
  have:c.data[i]?=some c.data.toList[i]:=by simp [hi]
  rw [this];rfl
 rw [e,Int.toNat_natCast,List.take_succ,List.getElem?_eq_getElem hl,List.all_append]
 simp [Bool.and_assoc]
theorem jgY (b:Nat):jbz b=((decide (97≤(b:Int)) && decide ((b:Int)≤122)) || (decide (48≤(b:Int)) && decide ((b:Int)≤57))):=by
 unfold jbz
 congr 2<;>congr 1<;>simp<;>omega
theorem jdS (s:ByteArray):jax Tryz.prog 3 [qS s] (qB true):=by
 obtain ⟨c,hcut⟩:∃ c,(if 20 < (s.size:Int) then s.extract 0 20 else s)=c:=⟨_,rfl⟩
 by_cases h20:20 < (s.size:Int)
 all_goals
  first | rw [if_pos h20] at hcut | rw [if_neg h20] at hcut
  refine jhG Tryz.func3 Tryz.ntmps3 ?_
  (have W:=h20;repeat' (first|refine jat fun K hK=>?_|refine wkA ?_|(refine hK _ _ ?_;clear hK K)|(refine jcu (fun hc=>?_) (fun hc=>?_)<;>first | contradiction | (exfalso;omega) | skip)|refine cp (jjD) ?_|refine wkB ?_|exact True.intro|(clear hK K)));all_goals (try clear W)
  have hc20:(c.size:Int)≤20:=by
   rw [← hcut]
   first | omega | (rw [ByteArray.size_extract];omega)
  rw [hcut]
  clear h20 hcut
  rw [← jkL]
  have hKo:=hK;clear hK
  refine jem (S:=Nat) [(4,2),(28,31)] (fun k=>k≤c.size) (fun k=>[(4,qB (jeq c k)),(5,qI k)]) (fun _=>⟨[],[]⟩) (fun k=>c.size - k) 0 (Nat.zero_le _) (jkR rfl lle) ?_
  rintro k hk2 Kr hKr
  by_cases hlt:(k:Int) < (c.size:Int)
  ·have hs:=jkN c k (by omega)
   have hb0:0≤(k:Int):=by omega
   obtain ⟨b,hb⟩:∃ b:Nat,jbS c k=(b:Int):=⟨_,rfl⟩
   rw [hb,Int.toNat_natCast,jgY] at hs
   (refine S ?_;try exact True.intro)
   (have W:=And.intro hlt (And.intro hb (hb0));repeat' (first|refine jat fun K hK=>?_|refine wkA ?_|(refine hK _ _ ?_;clear hK K)|(refine jcu (fun hc=>?_) (fun hc=>?_)<;>first | contradiction | (exfalso;omega) | skip)|refine hKr _ _ (jjv (k+1) (by omega) (by omega) rfl (by rw [hs];exact lle))|refine wkB ?_|exact True.intro|(clear hK K)));all_goals (try clear W)
  ·have hk:k=c.size:=by omega
   subst hk
   rw [jh1]
   have h0:=jdB c
   have h1:=jlc
   by_cases h:jby c=true
   ·have h2:=jiH c h
    have h3:=jjq c h
    rw [h] at h0 ⊢
    unfold jdK eX b0 bN jh9 jiW at *
    (refine S ?_;try exact True.intro)
    (repeat' (first|refine jat fun K hK=>?_|refine wkA ?_|(refine hK _ _ ?_;clear hK K)|(refine jcu (fun hc=>?_) (fun hc=>?_)<;>first | contradiction | (exfalso;omega) | skip)|refine hKo _ _ ?_|refine alF 6 ?_|refine alF 9 ?_|refine alF 10 ?_|refine alF 12 ?_|refine cp (h1) ?_|refine cp (h2) ?_|refine cp (h3) ?_|refine cp (h0) ?_|refine cq (h0) ?_|refine wkB ?_|exact True.intro|(clear hK K)))
    (refine jhL [.tmp 2] ?_;try simp only [go_sem])
   ·have h:=Bool.eq_false_iff.2 h
    have h2:=jjm c h
    have h3:=jh5 c h
    rw [h] at h0 ⊢
    unfold jdK eX b0 jiW at *
    (refine S ?_;try exact True.intro)
    (repeat' (first|refine jat fun K hK=>?_|refine wkA ?_|(refine hK _ _ ?_;clear hK K)|(refine jcu (fun hc=>?_) (fun hc=>?_)<;>first | contradiction | (exfalso;omega) | skip)|refine hKo _ _ ?_|refine alF 6 ?_|refine alF 9 ?_|refine alF 10 ?_|refine alF 12 ?_|refine cp (h1) ?_|refine cp (h2) ?_|refine cp (h3) ?_|refine cp (h0) ?_|refine cq (h0) ?_|refine wkB ?_|exact True.intro|(clear hK K)))
    (refine jhL [.tmp 2] ?_;try simp only [go_sem])
end Go.Proofs.YtoclmdkhgfghbaaGreatDoor

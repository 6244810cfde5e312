/- What the law of this claim needs beside the others' texts (only for the hand-ins of ViewLines, ViewNames, ViewLists, where the shared texts leave thes. The law ViewNames: the first byte of what is shown. The law ViewLists: what is seen does not hang on the lists' numbers. The law ViewLists: what it says is so. The law ViewLists: its walk. No conditions. -/
import Derived.Test.YtdekkklnfifphaaGreatDoorLvD
import Derived.Test.YtdekkklnfifphaaGreatDoorSoC
set_option linter.all false
namespace Go.Gd
open Go
@[go_sem] theorem toNat_add0 (a b : Nat) : ((a : Int) + (b : Int)).toNat = a + b := by omega
@[go_sem] theorem map_set_enc {α : Type} (enc : α → List AV) (l : List α) (k : Nat) (x : α) : (l.map enc).set k (enc x) = (l.set k x).map enc := List.map_set.symm
@[go_sem] theorem eGShot_take (x : GShot) : (jcc x).take 7 = jcc x := (rfl)
@[go_sem] theorem eGValue_u1 (x : GValue) (v : Int) : List.take 1 (jan x) ++ [.raw (.int .i64 v)] ++ List.drop 2 (jan x) = jan { x with n := v } := (rfl)
@[go_sem] theorem ldOK_convert {A : AS} {ev : Operand → AV} (s d : TypeId) (x : Operand) : jh1 A ev (.convert s d x) = true := (rfl)
@[go_sem] theorem vcD_convert {P : Program} {ev : Operand → AV} {H : Hp} {ty : TypeId} {K : AV → Hp → Prop} (s d : TypeId) (x : Operand) : vcD P ev H ty K (.convert s d x) = vc P ev H ty K (.convert s d x) := (rfl)
@[go_sem] theorem vcD_rem {P : Program} {ev : Operand → AV} {H : Hp} {ty : TypeId} {K : AV → Hp → Prop} (t : TypeId) (x y : Operand) (t' : TypeId) : vcD P ev H ty K (.binOp .rem t x y t') = vc P ev H ty K (.binOp .rem t x y t') := (rfl)
@[go_sem] theorem vc_max {P : Program} {ev : Operand → AV} {H : Hp} {ty : TypeId} {K : AV → Hp → Prop} (xs : Array Operand) (ts : Array TypeId) : vc P ev H ty K (.call ⟨.builtin .max, xs, ts⟩) = ((jb9 P H .max ts.toList (xs.toList.map ev)).1 ∧ K (jb9 P H .max ts.toList (xs.toList.map ev)).2 H) := by simp [vc, jaq, vq]
end Go.Gd
namespace Go.Proofs.YtdekkklnfifphaaGreatDoor
open Go Go.Gd
@[go_sem] theorem cb_20 : jaf Tryz.prog 20 = true := by kernel_rfl
theorem vis_ty {p : GProg} (h : POk p) (node : Int) : ∀ v ∈ jiS p node, 1 ≤ v.ty ∧ v.ty ≤ 4 := fun v hv => by
  unfold jiS at hv
  cases e : ja2 p node p.tree.nodes.length (nth p.tree.fns (nth p.fn node.toNat).toNat).body (jfm (nth p.tree.fns (nth p.fn node.toNat).toNat).params 0) with
  | none => rw [e] at hv; cases hv
  | some R =>
    rw [e] at hv
    refine joA (P := fun v => 1 ≤ v.ty ∧ v.ty ≤ 4) (fun x k10 => ?_) _ _ _ R (fun w hw => ?_) e v hv
    · have hl : x.toNat < p.tree.nodes.length := by
        rcases jjc p.tree.nodes x.toNat with e | e
        · exact Classical.byContradiction fun hn => by
            have : nth p.tree.nodes x.toNat = default := by unfold nth; rw [List.getD_eq_getElem?_getD, List.getElem?_eq_none (by omega)]; rfl
            unfold jaj at k10; rw [this] at k10; exact absurd k10 (by decide)
        · unfold jaj at k10; rw [e] at k10; exact absurd k10 (by decide)
      exact (h.ty x.toNat (Nat.zero_le _) hl).let_ k10
    · obtain ⟨x, hx, _, e2⟩ := jq2 _ _ _ hw
      rw [e2]
      rcases jjc p.tree.fns (nth p.fn node.toNat).toNat with e | e
      · exact ((h.tree.fn _ e).1.ps x hx)
      · rw [e] at hx; cases hx
set_option maxHeartbeats 4000000
set_option maxRecDepth 10000
theorem byte_app (a b:ByteArray) (h:0 < a.size):jaG (a++b) 0=jaG a 0:=by
 obtain ⟨⟨a⟩⟩:=a
 obtain ⟨⟨b⟩⟩:=b
 cases a with
 | nil=>exact absurd h (by decide)
 | cons x l=>rfl
structure Begins (t:ByteArray) (T:Int):Prop where
 ne:t≠⟨#[]⟩
 l:T=4↔jaG t 0=35
 q:T=3↔jaG t 0=34
 b:T=2→t=(⟨#[116,114,117,101]⟩:ByteArray)∨t=(⟨#[102,97,108,115,101]⟩:ByteArray)
theorem comma_byte:∀ (l:List Int) (b:Bool) (t:ByteArray),0 < t.size→jaG (jch l b t) 0=jaG t 0∧0 < (jch l b t).size
 | [],b,t,h=>⟨rfl,h⟩
 | x::l,b,t,h=>by
  rw [jdc]
  have h1:jaG (if b=true then t++(⟨#[44]⟩:ByteArray) else t) 0=jaG t 0∧0 < (if b=true then t++(⟨#[44]⟩:ByteArray) else t).size:=by
   split
   ·exact ⟨byte_app _ _ h,by rw [ByteArray.size_append];omega⟩
   ·exact ⟨rfl,h⟩
  obtain ⟨g1,g2⟩:=comma_byte l true ((if b=true then t++(⟨#[44]⟩:ByteArray) else t)++jbJ x) (by rw [ByteArray.size_append];omega)
  exact ⟨by rw [g1,byte_app _ _ h1.2,h1.1],g2⟩
theorem ne_of {t:ByteArray} (h:0 < t.size):t≠⟨#[]⟩:=fun e=>by rw [e] at h;exact absurd h (by decide)
theorem list_begins (seen:List Int) (n:Int) (l:List Int):Begins (jmH seen n l) 4:=by
 have h0:jaG ((⟨#[35]⟩:ByteArray)++jbJ (jee n seen 0+1)++(⟨#[91]⟩:ByteArray)) 0=35∧0 < ((⟨#[35]⟩:ByteArray)++jbJ (jee n seen 0+1)++(⟨#[91]⟩:ByteArray)).size:=by
  rw [ByteArray.append_assoc]
  exact ⟨byte_app _ _ (by decide),by rw [ByteArray.size_append];have:((⟨#[35]⟩:ByteArray):ByteArray).size=1:=rfl;omega⟩
 obtain ⟨g1,g2⟩:=comma_byte l false _ h0.2
 have hb:jaG (jmH seen n l) 0=35:=by
  unfold jmH
  rw [byte_app _ _ g2,g1,h0.1]
 refine ⟨ne_of (by unfold jmH;rw [ByteArray.size_append];omega),⟨fun _=>hb,fun _=>rfl⟩,⟨fun h=>absurd h (by decide),fun h=>absurd (hb.symm.trans h) (by decide)⟩,fun h=>absurd h (by decide)⟩
theorem dec_head:∀ (n u:Nat),u < n→∃ d l,Lib.decDigits u=UInt8.ofNat (48+d)::l∧d < 10
 | 0,u,h=>by omega
 | n+1,u,h=>by
  rw [Lib.decDigits]
  split
  ·rename_i h1;exact ⟨u,[],rfl,h1⟩
  ·obtain ⟨d,l,e,hd⟩:=dec_head n (u / 10) (by omega)
   exact ⟨d,l++_,by rw [e];rfl,hd⟩
theorem itoa_begins (n:Int):∃ x l,jbJ n=⟨⟨x::l⟩⟩∧(x=45∨∃ d,d < 10∧x=UInt8.ofNat (48+d)):=by
 unfold jbJ Lib.itoa
 split
 ·exact ⟨45,_,rfl,.inl rfl⟩
 ·obtain ⟨d,l,e,hd⟩:=dec_head _ n.toNat (Nat.lt_succ_self _)
  rw [e]
  exact ⟨_,l,rfl,.inr ⟨d,hd,rfl⟩⟩
theorem num_begins (n:Int):Begins (jbJ n) 1:=by
 obtain ⟨x,l,e,hx⟩:=itoa_begins n
 have hb:jaG (jbJ n) 0=(x.toNat:Int):=by rw [e];rfl
 have hx:x.toNat≠34∧x.toNat≠35:=by
  rcases hx with rfl | ⟨d,hd,rfl⟩
  ·decide
  ·have:∀ d:Nat,d < 10→(UInt8.ofNat (48+d)).toNat≠34∧(UInt8.ofNat (48+d)).toNat≠35:=by decide
   exact this d hd
 refine ⟨ne_of (by rw [e];exact Nat.succ_pos _),⟨fun h=>absurd h (by decide),fun h=>?_⟩,⟨fun h=>absurd h (by decide),fun h=>?_⟩,fun h=>absurd h (by decide)⟩
 ·rw [hb] at h;omega
 ·rw [hb] at h;omega
theorem get_ty_ (slots:List GValue) (k t:Int):(jes slots k t).ty=t:=by
 unfold jes
 split
 ·rfl
 split
 ·rename_i h;exact h.2
 ·rfl
theorem text_begins (heap:List (List Int)) (seen:List Int) (slots:List GValue) (k:Int) {t:Int} (ht:1≤t∧t≤4):Begins (jdv heap seen (jes slots k t)).1 t:=by
 have hv:=get_ty_ slots k t
 generalize jes slots k t=v at *
 have h4:t=1∨t=2∨t=3∨t=4:=by omega
 rcases h4 with rfl | rfl | rfl | rfl
 ·have e:(jdv heap seen v).1=jbJ v.n:=by unfold jdv;rw [if_neg (by omega)];show jef v=_;unfold jef jgl;rw [if_neg (by omega),if_pos hv]
  rw [e];exact num_begins _
 ·have e:(jdv heap seen v).1=if v.n=1 then (⟨#[116,114,117,101]⟩:ByteArray) else (⟨#[102,97,108,115,101]⟩:ByteArray):=by unfold jdv;rw [if_neg (by omega)];show jef v=_;unfold jef jgl;rw [if_neg (by omega),if_neg (by omega),if_pos hv]
  rw [e]
  split
  ·exact ⟨by decide,by decide,by decide,fun _=>.inl rfl⟩
  ·exact ⟨by decide,by decide,by decide,fun _=>.inr rfl⟩
 ·have e:(jdv heap seen v).1=(⟨#[34]⟩:ByteArray)++v.s++(⟨#[34]⟩:ByteArray):=by unfold jdv;rw [if_neg (by omega)];show jef v=_;unfold jef;rw [if_pos hv]
  rw [e,ByteArray.append_assoc]
  have hb:jaG ((⟨#[34]⟩:ByteArray)++(v.s++(⟨#[34]⟩:ByteArray))) 0=34:=byte_app _ _ (by decide)
  refine ⟨ne_of (by rw [ByteArray.size_append];have:(⟨#[34]⟩:ByteArray).size=1:=rfl;omega),⟨fun h=>absurd h (by decide),fun h=>absurd (hb.symm.trans h) (by decide)⟩,⟨fun _=>hb,fun _=>rfl⟩,fun h=>absurd h (by decide)⟩
 ·unfold jdv
  rw [if_pos hv]
  split
  ·exact list_begins _ _ _
  ·show Begins ((⟨#[35,48,91,93]⟩:ByteArray)) 4
   exact ⟨by decide,by decide,by decide,fun h=>absurd h (by decide)⟩
theorem vars_as (heap:List (List Int)) (slots:List GValue):∀ (l:List GVar) (a:List GShown×List Int),∃ B,(l.foldl (jgM heap slots) a).1=a.1++B∧B.length=l.length∧∀ i,i < l.length→∃ seen,nth B i=⟨(nth l i).name,(jdv heap seen (jes slots (nth l i).slot (nth l i).ty)).1⟩
 | [],a=>⟨[],by simp,rfl,fun i h=>by simp at h⟩
 | x::l,a=>by
  obtain ⟨B,h1,h2,h3⟩:=vars_as heap slots l (jgM heap slots a x)
  refine ⟨⟨x.name,(jdv heap a.2 (jes slots x.slot x.ty)).1⟩::B,?_,by simp [h2],fun i hi=>?_⟩
  ·rw [List.foldl_cons,h1];unfold jgM;simp
  ·cases i with
   | zero=>exact ⟨a.2,rfl⟩
   | succ i=>exact h3 i (by simpa using hi)
theorem calls_as (p:GProg) (heap:List (List Int)):∀ (l:List GSpot) (a:List GSeen×List Int),∃ B,(l.foldl (jeY p heap) a).1=a.1++B∧B.length=l.length∧∀ i,i < l.length→∃ seen,nth B i=⟨(nth p.tree.fns (nth l i).fn.toNat).name,(jaj p (nth l i).node).line,(jcb heap (nth l i).slots (jiS p (nth l i).node) seen).1⟩
 | [],a=>⟨[],by simp,rfl,fun i h=>by simp at h⟩
 | x::l,a=>by
  obtain ⟨B,h1,h2,h3⟩:=calls_as p heap l (jeY p heap a x)
  refine ⟨⟨(nth p.tree.fns x.fn.toNat).name,(jaj p x.node).line,(jcb heap x.slots (jiS p x.node) a.2).1⟩::B,?_,by simp [h2],fun i hi=>?_⟩
  ·rw [List.foldl_cons,h1];unfold jeY;simp
  ·cases i with
   | zero=>exact ⟨a.2,rfl⟩
   | succ i=>exact h3 i (by simpa using hi)
structure SeenAs (p:GProg) (x:GSpot) (c:GSeen):Prop where
 name:c.name=(nth p.tree.fns x.fn.toNat).name
 line:c.line=(nth p.tree.nodes x.node.toNat).line
 len:c.vars.length=(jiS p x.node).length
 var:∀ k,k < (jiS p x.node).length→(nth c.vars k).name=(nth (jiS p x.node) k).name∧Begins (nth c.vars k).text (nth (jiS p x.node) k).ty
theorem seen_as {p:GProg} (h:POk p) (z:GShot) {i:Nat} (hi:i < z.calls.length):SeenAs p (nth z.calls i) (nth (ofV p z).calls i):=by
 obtain ⟨B,h1,h2,h3⟩:=calls_as p z.heap z.calls ([],[])
 have e:(ofV p z).calls=B:=h1
 obtain ⟨seen,e2⟩:=h3 i hi
 rw [e,e2]
 obtain ⟨C,g1,g2,g3⟩:=vars_as z.heap (nth z.calls i).slots (jiS p (nth z.calls i).node) ([],seen)
 have e3:(jcb z.heap (nth z.calls i).slots (jiS p (nth z.calls i).node) seen).1=C:=g1
 rw [e3]
 refine ⟨rfl,rfl,g2,fun k hk=>?_⟩
 obtain ⟨seen2,e4⟩:=g3 k hk
 show (nth C k).name=_∧Begins (nth C k).text _
 rw [e4]
 exact ⟨rfl,text_begins _ _ _ _ (vis_ty h _ _ (jam hk))⟩
def swapV (n:Int) (v:GValue):GValue:=if v.ty=4∧0 < v.n then ⟨v.ty,n+1 - v.n,v.s⟩ else v
def swapS (n:Int) (c:GSpot):GSpot:=⟨c.fn,c.node,c.slots.map (swapV n)⟩
def swapZ (z:GShot):GShot:=⟨z.calls.map (swapS z.heap.length),z.heap.reverse,z.in_,z.out_,z.status,z.trap,z.time⟩
def revI (n:Int) (l:List Int):List Int:=l.map (fun x=>n+1 - x)
theorem pos_rev (n N:Int):∀ (l:List Int) (i:Int),jee (n+1 - N) (revI n l) i=jee N l i
 | [],i=>rfl
 | x::l,i=>by
  show jee (n+1 - N) ((n+1 - x)::revI n l) i=jee N (x::l) i
  rw [jf3,jf3,pos_rev n N l (i+1)]
  by_cases h:x=N
  ·rw [if_pos h,if_pos (by omega)]
  ·rw [if_neg h,if_neg (by omega)]
theorem saw_rev (n N:Int) (l:List Int):joj (revI n l) (n+1 - N)=revI n (joj l N):=by
 unfold joj
 rw [pos_rev]
 split
 ·unfold revI;rw [List.map_append];rfl
 ·rfl
theorem nth_rev {α:Type} [Inhabited α] (l:List α) {k:Nat} (h:k < l.length):nth l.reverse (l.length - 1 - k)=nth l k:=by
 rw [jbc h,jbc (by rw [List.length_reverse];omega),List.getElem_reverse]
 congr 1
 omega
theorem text_out {heap:List (List Int)} {seen:List Int} {v:GValue} (h:v.ty=4→¬ (1≤v.n∧v.n≤heap.length)):jdv heap seen v=(if v.ty=4 then (⟨#[35,48,91,93]⟩:ByteArray) else jef v,seen):=by
 unfold jdv
 by_cases e:v.ty=4
 ·rw [if_pos e,if_neg (h e),if_pos e]
 ·rw [if_neg e,if_neg e]
theorem get_in {slots:List GValue} {k t:Int} (h:¬ (k < 0∨(slots.length:Int)≤k)):jes slots k t=if jl7 (nth slots k.toNat)=true∧(nth slots k.toNat).ty=t then nth slots k.toNat else vZ t:=by
 unfold jes;rw [if_neg h]
theorem zero_out {heap:List (List Int)} {seen:List Int} (t:Int):jdv heap seen (vZ t)=(if t=4 then (⟨#[35,48,91,93]⟩:ByteArray) else jef (vZ t),seen):=
 text_out (v:=vZ t) fun _ h=>absurd h.1 (by show ¬ ((1:Int)≤0);decide)
theorem text_swap (heap:List (List Int)) (seen:List Int) (slots:List GValue) (k t:Int) :
  jdv heap.reverse (revI heap.length seen) (jes (slots.map (swapV heap.length)) k t)=((jdv heap seen (jes slots k t)).1,revI heap.length (jdv heap seen (jes slots k t)).2):=by
 by_cases hk:k < 0∨(slots.length:Int)≤k
 ·have e1:jes slots k t=vZ t:=by unfold jes;rw [if_pos hk]
  have e2:jes (slots.map (swapV heap.length)) k t=vZ t:=by unfold jes;rw [if_pos (by rw [List.length_map];exact hk)]
  rw [e1,e2,zero_out,zero_out]
 ·have hkl:k.toNat < slots.length:=by omega
  rw [get_in hk,get_in (by rw [List.length_map];exact hk),jte _ _ _ hkl]
  generalize nth slots k.toNat=v
  by_cases hv:v.ty=4∧0 < v.n
  ·have hw:swapV heap.length v=⟨v.ty,heap.length+1 - v.n,v.s⟩:=by unfold swapV;rw [if_pos hv]
   rw [hw]
   by_cases ht:v.ty=t
   rotate_left
   ·rw [if_neg (fun h=>ht h.2),if_neg (fun h=>ht h.2),zero_out,zero_out]
   have hm:jl7 v=(decide (v.s=sE) && decide (0≤v.n)):=by unfold jl7;rw [if_neg (by omega),if_neg (by omega),if_neg (by omega),if_pos hv.1]
   have hm2:jl7 ⟨v.ty,heap.length+1 - v.n,v.s⟩=(decide (v.s=sE) && decide (0≤(heap.length:Int)+1 - v.n)):=by unfold jl7;rw [if_neg (by show ¬ v.ty=1;omega),if_neg (by show ¬ v.ty=2;omega),if_neg (by show ¬ v.ty=3;omega),if_pos hv.1]
   rw [hm,hm2]
   have t4:t=4:=by omega
   subst t4
   by_cases hs:v.s=sE
   rotate_left
   ·rw [if_neg (by simp [hs]),if_neg (by simp [hs]),zero_out,zero_out]
   have hpos:(decide (v.s=sE) && decide (0≤v.n))=true∧v.ty=4:=⟨by simp [hs];omega,ht⟩
   rw [if_pos hpos]
   by_cases hn:v.n≤heap.length
   ·rw [if_pos ⟨by simp [hs];omega,ht⟩]
    unfold jdv
    rw [if_pos (show (GValue.mk v.ty (heap.length+1 - v.n) v.s).ty=4 from ht),if_pos ht]
    rw [if_pos (show 1≤v.n∧v.n≤heap.length by omega)]
    rw [if_pos (show 1≤(heap.length:Int)+1 - v.n∧(heap.length:Int)+1 - v.n≤heap.reverse.length by rw [List.length_reverse];omega)]
    show (jmH (joj (revI heap.length seen) (heap.length+1 - v.n)) (heap.length+1 - v.n) (nth heap.reverse ((heap.length:Int)+1 - v.n - 1).toNat),joj (revI heap.length seen) (heap.length+1 - v.n))=_
    have e:((heap.length:Int)+1 - v.n - 1).toNat=heap.length - 1 - (v.n - 1).toNat:=by omega
    rw [saw_rev,e,nth_rev heap (by omega)]
    unfold jmH
    rw [pos_rev]
   ·rw [text_out (v:=v) (fun _ h=>hn h.2)]
    rw [if_pos ht]
    by_cases h0:(0:Int)≤heap.length+1 - v.n
    ·rw [if_pos ⟨by simp [hs];omega,ht⟩,text_out (fun _ h=>absurd h.1 (by show ¬ (1:Int)≤heap.length+1 - v.n;omega))]
     rw [if_pos (show (GValue.mk v.ty (heap.length+1 - v.n) v.s).ty=4 from ht)]
    ·rw [if_neg (fun h=>h0 (by simpa [hs] using h.1)),zero_out]
     rfl
  ·have hw:swapV heap.length v=v:=by unfold swapV;rw [if_neg hv]
   rw [hw]
   have key:∀ (H:List (List Int)) (S:List Int),jdv H S (if jl7 v=true∧v.ty=t then v else vZ t)=(if (if jl7 v=true∧v.ty=t then v else vZ t).ty=4 then (⟨#[35,48,91,93]⟩:ByteArray) else jef (if jl7 v=true∧v.ty=t then v else vZ t),S):=fun H S=>by
    refine text_out fun h4 h=>?_
    split at h
    ·rename_i hh
     rw [if_pos hh] at h4
     exact hv ⟨h4,by omega⟩
    ·exact absurd h.1 (by show ¬ ((1:Int)≤0);decide)
   rw [key,key]
theorem vars_swap (heap:List (List Int)) (slots:List GValue):∀ (l:List GVar) (a:List GShown×List Int),l.foldl (jgM heap.reverse (slots.map (swapV heap.length))) (a.1,revI heap.length a.2)=((l.foldl (jgM heap slots) a).1,revI heap.length (l.foldl (jgM heap slots) a).2)
 | [],a=>rfl
 | x::l,a=>by
  rw [List.foldl_cons,List.foldl_cons,← vars_swap heap slots l]
  congr 1
  unfold jgM
  rw [text_swap]
theorem calls_swap (p:GProg) (heap:List (List Int)):∀ (l:List GSpot) (a:List GSeen×List Int),(l.map (swapS heap.length)).foldl (jeY p heap.reverse) (a.1,revI heap.length a.2)=((l.foldl (jeY p heap) a).1,revI heap.length (l.foldl (jeY p heap) a).2)
 | [],a=>rfl
 | c::l,a=>by
  rw [List.map_cons,List.foldl_cons,List.foldl_cons,← calls_swap p heap l]
  congr 1
  have h:=vars_swap heap c.slots (jiS p c.node) ([],a.2)
  unfold jeY jcb
  show (a.1++[⟨_,_,((jiS p c.node).foldl (jgM heap.reverse (c.slots.map (swapV heap.length))) ([],revI heap.length a.2)).1⟩],((jiS p c.node).foldl (jgM heap.reverse (c.slots.map (swapV heap.length))) ([],revI heap.length a.2)).2)=_
  rw [h]
  rfl
theorem of_swap (p:GProg) (z:GShot):ofV p (swapZ z)=ofV p z:=by
 have h:=calls_swap p z.heap z.calls ([],[])
 have h:jbW p (swapZ z).heap (swapZ z).calls=((jbW p z.heap z.calls).1,revI z.heap.length (jbW p z.heap z.calls).2):=h
 unfold ofV
 rw [h]
 rfl
-- the numbers of lists
theorem comma_app:∀ (l:List Int) (b:Bool) (t:ByteArray),∃ r,jch l b t=t++r
 | [],b,t=>⟨(⟨#[]⟩:ByteArray),by show t=t++⟨#[]⟩;exact (ByteArray.append_empty (b:=t)).symm⟩
 | x::l,b,t=>by
  rw [jdc]
  obtain ⟨r,h⟩:=comma_app l true ((if b=true then t++(⟨#[44]⟩:ByteArray) else t)++jbJ x)
  rw [h]
  cases b
  ·exact ⟨jbJ x++r,by rw [if_neg (by decide),ByteArray.append_assoc]⟩
  ·exact ⟨(⟨#[44]⟩:ByteArray)++jbJ x++r,by rw [if_pos rfl,ByteArray.append_assoc,ByteArray.append_assoc,ByteArray.append_assoc]⟩
structure Seen (n:Nat) (l:List Int):Prop where
 nd:l.Nodup
 in_:∀ x∈l,1≤x∧x≤(n:Int)
theorem nd_len:∀ (n:Nat) (l:List Int),Seen n l→l.length≤n
 | 0,[],_=>Nat.le_refl _
 | 0,x::l,h=>by have:=h.in_ x (by simp);omega
 | n+1,l,h=>by
  have h2:Seen n (l.erase ((n+1:Nat):Int)):=⟨h.nd.erase _,fun x hx=>by
   have h3:=(h.nd.mem_erase_iff).1 hx
   have:=h.in_ x h3.2
   have:=h3.1
   omega⟩
  have:=nd_len n _ h2
  rw [List.length_erase] at this
  split at this<;>omega
theorem Seen.saw {n:Nat} {l:List Int} (h:Seen n l) {N:Int} (h1:1≤N) (h2:N≤n):Seen n (joj l N):=by
 unfold joj
 split
 ·rename_i hp
  have hm:=((jik N l 0 (by decide)).1).1 hp
  refine ⟨?_,fun x hx=>?_⟩
  ·refine List.nodup_append.2 ⟨h.nd,by simp,fun a ha b hb=>?_⟩
   rw [List.mem_singleton] at hb
   subst hb
   obtain ⟨j,hj,rfl⟩:=List.getElem_of_mem ha
   have:=hm j hj
   rwa [jbc hj] at this
  ·rcases List.mem_append.1 hx with hx | hx
   ·exact h.in_ x hx
   ·rw [List.mem_singleton] at hx;subst hx;exact ⟨h1,h2⟩
 ·exact h
theorem Seen.text {heap:List (List Int)} {l:List Int} (h:Seen heap.length l) (v:GValue):Seen heap.length (jdv heap l v).2:=by
 unfold jdv
 split
 ·split
  ·rename_i e;exact h.saw e.1 e.2
  ·exact h
 ·exact h
theorem Seen.vars {heap:List (List Int)} (slots:List GValue):∀ (l:List GVar) (a:List GShown×List Int),Seen heap.length a.2→Seen heap.length (l.foldl (jgM heap slots) a).2
 | [],a,h=>h
 | x::l,a,h=>Seen.vars slots l _ (h.text _)
theorem Seen.calls {p:GProg} {heap:List (List Int)}:∀ (l:List GSpot) (a:List GSeen×List Int),Seen heap.length a.2→Seen heap.length (l.foldl (jeY p heap) a).2
 | [],a,h=>h
 | c::l,a,h=>Seen.calls l _ (Seen.vars (heap:=heap) c.slots (jiS p c.node) ([],a.2) h)
structure Which (t:ByteArray) (m:Nat) (a b:Nat):Prop where
 eq:∃ r,t=(⟨#[35]⟩:ByteArray)++(jbJ m++((⟨#[91]⟩:ByteArray)++r))
 le:m≤a+1
 mx:max a m=b
theorem itoa_zero:jbJ 0=(⟨#[48]⟩:ByteArray):=by
 apply jiV
 unfold jbJ Lib.itoa
 rw [if_neg (by decide),Lib.decDigits]
 rfl
theorem text_which (heap:List (List Int)) (seen:List Int) {v:GValue} (hv:v.ty=4):∃ m,Which (jdv heap seen v).1 m seen.length (jdv heap seen v).2.length:=by
 unfold jdv
 rw [if_pos hv]
 split
 ·have hp:=(jik v.n (joj seen v.n) 0 (by decide)).2
  have hs:=jn5 v.n seen 0 v.n (by decide)
  have hq:=(jik v.n seen 0 (by decide)).2
  obtain ⟨r,hr⟩:=comma_app (nth heap (v.n - 1).toNat) false ((⟨#[35]⟩:ByteArray)++jbJ (jee v.n (joj seen v.n) 0+1)++(⟨#[91]⟩:ByteArray))
  have hm:0≤jee v.n (joj seen v.n) 0∧jee v.n (joj seen v.n) 0≤seen.length∧max seen.length (jee v.n (joj seen v.n) 0+1).toNat=(joj seen v.n).length:=by
   unfold joj at *
   by_cases e:jee v.n seen 0 < 0
   ·rw [if_pos e] at *
    rw [if_pos rfl] at hs
    rw [hs]
    simp
   ·rw [if_neg e] at *
    omega
  refine ⟨(jee v.n (joj seen v.n) 0+1).toNat,⟨r++(⟨#[93]⟩:ByteArray),?_⟩,by omega,hm.2.2⟩
  show jmH (joj seen v.n) v.n _=_
  unfold jmH
  rw [hr,show (((jee v.n (joj seen v.n) 0+1).toNat:Nat):Int)=jee v.n (joj seen v.n) 0+1 by omega]
  simp only [ByteArray.append_assoc]
 ·exact ⟨0,⟨(⟨#[93]⟩:ByteArray),by show (⟨#[35,48,91,93]⟩:ByteArray)=(⟨#[35]⟩:ByteArray)++(jbJ 0++((⟨#[91]⟩:ByteArray)++(⟨#[93]⟩:ByteArray)));rw [itoa_zero];rfl⟩,by omega,by simp⟩
theorem text_none (heap:List (List Int)) (seen:List Int) {v:GValue} (hv:v.ty≠4):(jdv heap seen v).2=seen:=by unfold jdv;rw [if_neg hv]
theorem fold_vars (heap:List (List Int)) (slots:List GValue) (l:List GVar) (s:List Int) {k:Nat} (h:k < l.length):nth (jcb heap slots l s).1 k=⟨(nth l k).name,(jdv heap (jcb heap slots (l.take k) s).2 (jes slots (nth l k).slot (nth l k).ty)).1⟩:=by
 have e:jcb heap slots l s=(l.drop (k+1)).foldl (jgM heap slots) (jcb heap slots (l.take (k+1)) s):=by
  unfold jcb;rw [← List.foldl_append,List.take_append_drop]
 obtain ⟨B,h1,_⟩:=vars_as heap slots (l.drop (k+1)) (jcb heap slots (l.take (k+1)) s)
 rw [e,h1,ja8 h,jgN]
 have hn:=(jgi heap slots k (l.take k) s (by simp;omega)).1
 unfold jgM
 show nth (((jcb heap slots (l.take k) s).1++[_])++B) k=_
 rw [List.append_assoc]
 unfold nth
 rw [List.getD_eq_getElem?_getD,List.getElem?_append_right (by omega),hn,Nat.sub_self]
 rfl
theorem fold_calls (p:GProg) (heap:List (List Int)) (l:List GSpot) {i:Nat} (h:i < l.length):nth (jbW p heap l).1 i=⟨(nth p.tree.fns (nth l i).fn.toNat).name,(jaj p (nth l i).node).line,(jcb heap (nth l i).slots (jiS p (nth l i).node) (jbW p heap (l.take i)).2).1⟩:=by
 have e:jbW p heap l=(l.drop (i+1)).foldl (jeY p heap) (jbW p heap (l.take (i+1))):=by
  unfold jbW;rw [← List.foldl_append,List.take_append_drop]
 obtain ⟨B,h1,_⟩:=calls_as p heap (l.drop (i+1)) (jbW p heap (l.take (i+1)))
 rw [e,h1,ja8 h,jfu]
 have hn:=jdQ p heap i (l.take i) (by simp;omega)
 unfold jeY
 show nth (((jbW p heap (l.take i)).1++[_])++B) i=_
 rw [List.append_assoc]
 unfold nth
 rw [List.getD_eq_getElem?_getD,List.getElem?_append_right (by omega),hn,Nat.sub_self]
 rfl
theorem seen_lists {p:GProg} (h:POk p) (z:GShot) {i:Nat} (hi:i < z.calls.length) {S:Nat→Nat} (hS:S=fun k=>(jcb z.heap (nth z.calls i).slots ((jiS p (nth z.calls i).node).take k) (jbW p z.heap (z.calls.take i)).2).2.length) :
  S 0=(jbW p z.heap (z.calls.take i)).2.length∧S (jiS p (nth z.calls i).node).length=(jbW p z.heap (z.calls.take (i+1))).2.length∧
  ∀ k,k < (jiS p (nth z.calls i).node).length→(jaG (nth (nth (ofV p z).calls i).vars k).text 0≠35∧S (k+1)=S k)∨(jaG (nth (nth (ofV p z).calls i).vars k).text 0=35∧∃ m,Which (nth (nth (ofV p z).calls i).vars k).text m (S k) (S (k+1))):=by
 subst hS
 have hc:=fold_calls p z.heap z.calls hi
 refine ⟨rfl,?_,fun k hk=>?_⟩
 ·show (jcb z.heap (nth z.calls i).slots ((jiS p (nth z.calls i).node).take _) _).2.length=_
  rw [List.take_length,ja8 hi,jfu]
  rfl
 ·have hv:=fold_vars z.heap (nth z.calls i).slots (jiS p (nth z.calls i).node) (jbW p z.heap (z.calls.take i)).2 hk
  have e:(nth (nth (ofV p z).calls i).vars k).text=(jdv z.heap (jcb z.heap (nth z.calls i).slots ((jiS p (nth z.calls i).node).take k) (jbW p z.heap (z.calls.take i)).2).2 (jes (nth z.calls i).slots (nth (jiS p (nth z.calls i).node) k).slot (nth (jiS p (nth z.calls i).node) k).ty)).1:=by
   show (nth (nth (jbW p z.heap z.calls).1 i).vars k).text=_
   rw [hc]
   show (nth (jcb z.heap (nth z.calls i).slots (jiS p (nth z.calls i).node) _).1 k).text=_
   rw [hv]
  have ht:=vis_ty h _ _ (jam hk)
  have hb:=text_begins z.heap (jcb z.heap (nth z.calls i).slots ((jiS p (nth z.calls i).node).take k) (jbW p z.heap (z.calls.take i)).2).2 (nth z.calls i).slots (nth (jiS p (nth z.calls i).node) k).slot ht
  have hty:=get_ty_ (nth z.calls i).slots (nth (jiS p (nth z.calls i).node) k).slot (nth (jiS p (nth z.calls i).node) k).ty
  have es:(jcb z.heap (nth z.calls i).slots ((jiS p (nth z.calls i).node).take (k+1)) (jbW p z.heap (z.calls.take i)).2).2=(jdv z.heap (jcb z.heap (nth z.calls i).slots ((jiS p (nth z.calls i).node).take k) (jbW p z.heap (z.calls.take i)).2).2 (jes (nth z.calls i).slots (nth (jiS p (nth z.calls i).node) k).slot (nth (jiS p (nth z.calls i).node) k).ty)).2:=by
   rw [ja8 hk,jgN];rfl
  rw [e]
  simp only [es]
  generalize jcb z.heap (nth z.calls i).slots ((jiS p (nth z.calls i).node).take k) (jbW p z.heap (z.calls.take i)).2=Q at *
  generalize jes (nth z.calls i).slots (nth (jiS p (nth z.calls i).node) k).slot (nth (jiS p (nth z.calls i).node) k).ty=g at *
  by_cases h4:(nth (jiS p (nth z.calls i).node) k).ty=4
  ·exact .inr ⟨hb.l.1 h4,text_which _ _ (by omega)⟩
  ·exact .inl ⟨fun hh=>h4 (hb.l.2 hh),by rw [text_none _ _ (by omega)]⟩
theorem seen_most (p:GProg) (z:GShot) (i:Nat):(jbW p z.heap (z.calls.take i)).2.length≤z.heap.length:=
 nd_len _ _ (Seen.calls (z.calls.take i) ([],[]) ⟨List.nodup_nil,fun x hx=>by cases hx⟩)
def jzP (a:Int) (b:UInt8):Int:=a * 10+((b.toNat:Int) - 48)
def valD (l:List UInt8):Int:=l.foldl jzP 0
@[go_sem] theorem valD_nil:valD []=0:=(rfl)
theorem dec_all:∀ (n u:Nat),u < n→valD (Lib.decDigits u)=u∧∀ x∈Lib.decDigits u,48≤x.toNat∧x.toNat≤57
 | 0,u,h=>by omega
 | n+1,u,h=>by
  have hd:∀ d:Nat,d < 10→(UInt8.ofNat (48+d)).toNat=48+d:=by decide
  rw [Lib.decDigits]
  split
  ·rename_i h1
   refine ⟨?_,fun x hx=>?_⟩
   ·show (0:Int) * 10+(((UInt8.ofNat (48+u)).toNat:Int) - 48)=u
    rw [hd u h1];omega
   ·rw [List.mem_singleton] at hx;subst hx;rw [hd u h1];omega
  ·obtain ⟨e1,e2⟩:=dec_all n (u / 10) (by omega)
   have h3:=hd (u % 10) (by omega)
   refine ⟨?_,fun x hx=>?_⟩
   ·unfold valD at e1 ⊢
    rw [List.foldl_append,e1]
    show (((u / 10:Nat):Int) * 10+(((UInt8.ofNat (48+u % 10)).toNat:Int) - 48))=_
    rw [h3];omega
   ·rcases List.mem_append.1 hx with hx | hx
    ·exact e2 x hx
    ·rw [List.mem_singleton] at hx;subst hx;rw [h3];omega
theorem val_ge:∀ (l:List UInt8) (a:Int),(∀ x∈l,48≤x.toNat)→0≤a→a≤l.foldl jzP a
 | [],a,_,_=>Int.le_refl _
 | x::l,a,h,h0=>by
  have hx:=h x (by simp)
  have h1:a≤jzP a x:=by unfold jzP;omega
  have:=val_ge l (jzP a x) (fun y hy=>h y (by simp [hy])) (by omega)
  rw [List.foldl_cons]
  omega
theorem wrap_u8 {n:Int} (h:0≤n∧n≤255):IntKind.u8.wrap n=n:=by
 have h1:(2:Int) ^ 8=256:=by decide
 simp only [IntKind.wrap,IntKind.bits,IntKind.signed,Bool.false_and,h1]
 rw [if_neg (by decide)]
 omega
theorem digits_c (m:Nat) (hm:m≤1000000) (r:ByteArray):PCall Tryz.prog 20 [rS (jbJ m++((⟨#[91]⟩:ByteArray)++r))] (rI m):=by
 obtain ⟨hv,hd⟩:=dec_all (m+1) m (Nat.lt_succ_self m)
 have hl:(jbJ m++((⟨#[91]⟩:ByteArray)++r)).data.toList=Lib.decDigits m++(91::r.data.toList):=by
  rw [jel,jel]
  unfold jbJ Lib.itoa
  rw [if_neg (by omega)]
  rfl
 have hDl:(Lib.decDigits m).length≤21:=by
  have:=Lib.itoa_length_le (m:Int) (by omega) (by omega)
  unfold Lib.itoa at this
  rw [if_neg (by omega)] at this
  exact this
 generalize Lib.decDigits m=D at *
 generalize jbJ m++((⟨#[91]⟩:ByteArray)++r)=s at *
 have hsz:D.length < s.size:=by
  have:s.data.toList.length=s.size:=by simp
  rw [← this,hl];simp
 have hb1:∀ i,i < D.length→jaG s i=((nth D i).toNat:Int):=fun i hi=>by
  rw [jft,hl,List.getD_eq_getElem?_getD,List.getElem?_append_left hi,jbc hi];simp [hi]
 have hb2:jaG s D.length=91:=by
  rw [jft,hl,List.getD_eq_getElem?_getD,List.getElem?_append_right (Nat.le_refl _),Nat.sub_self];rfl
 have hle:∀ i,0≤valD (D.take i)∧valD (D.take i)≤m:=fun i=>by
  have h0:=val_ge (D.take i) 0 (fun x hx=>(hd x (List.mem_of_mem_take hx)).1) (by decide)
  have h1:=val_ge (D.drop i) (valD (D.take i)) (fun x hx=>(hd x (List.mem_of_mem_drop hx)).1) h0
  unfold valD at h1 hv h0 ⊢
  rw [← List.foldl_append,List.take_append_drop,hv] at h1
  exact ⟨h0,h1⟩
 refine jbO Tryz.func20 Tryz.ntmps20 ?_
 (repeat' (first|refine jaa fun K hK=>?_|refine wkA ?_|(refine hK _ _ ?_;clear hK K)|(refine jad (fun hc=>?_) (fun hc=>?_)<;>first | contradiction | (exfalso;omega) | skip)|refine wkB ?_|exact True.intro|(clear hK K)))
 have hKo:=hK;clear hK
 refine jag (S:=Nat) [(3,28)] (fun i=>i≤D.length) (fun i=>[(3,rI (valD (D.take i))),(4,rI i)]) (fun i=>⟨[],[]⟩) (fun i=>D.length - i) 0 (by omega) (jau (by simp only [go_sem]) lle) ?_
 rintro i hi Kr hKr
 have hlei:=hle i
 by_cases hlt:i < D.length
 ·have hbi:=hb1 i hlt
  have hdi:=hd _ (jam hlt)
  have hlen:=hle (i+1)
  have hst:valD (D.take (i+1))=valD (D.take i) * 10+(jaG s i - 48):=by
   rw [hbi,ja8 hlt];unfold valD;rw [List.foldl_append];rfl
  rw [hst] at hlen
  have hb48:48≤jaG s i∧jaG s i≤57:=by rw [hbi];omega
  obtain ⟨hb3,hb4⟩:=hb48
  have hsi:(i:Int) < s.size:=by omega
  have w1:IntKind.u8.wrap (jaG s i - 48)=jaG s i - 48:=wrap_u8 (by omega)
  have w2:IntKind.i64.wrap (jaG s i - 48)=jaG s i - 48:=jac (by omega)
  have w3:IntKind.i64.wrap (valD (D.take i) * 10+(jaG s i - 48))=valD (D.take i) * 10+(jaG s i - 48):=jac (by omega)
  have w4:IntKind.i64.wrap ((i:Int)+1)=((i+1:Nat):Int):=(jac (by omega)).trans (by omega)
  (refine S ?_;try exact True.intro)
  (repeat' (first|refine jaa fun K hK=>?_|refine wkA ?_|(refine hK _ _ ?_;clear hK K)|(refine jad (fun hc=>?_) (fun hc=>?_)<;>first | contradiction | (exfalso;omega) | skip)|refine wkB ?_|exact True.intro|(clear hK K)))
  refine hKr _ _ (jar (i+1) (by omega) (by show D.length - (i+1) < D.length - i;omega) (by simp only [go_sem]) ?_)
  rw [hst]
  simp only [w1,w2,w3,w4]
  exact lle
 ·have hie:i=D.length:=by omega
  subst hie
  rw [List.take_length,hv]
  (refine S ?_;try exact True.intro)
  (have W:=hb2;repeat' (first|refine jaa fun K hK=>?_|refine wkA ?_|(refine hK _ _ ?_;clear hK K)|(refine jad (fun hc=>?_) (fun hc=>?_)<;>first | contradiction | (exfalso;omega) | skip)|(refine hKo _ _ ?_)|refine wkB ?_|exact True.intro|(clear hK K)));all_goals (try clear W)
  (refine jaU [.tmp 2] ?_;try simp only [go_sem])
theorem swap_ok {p:GProg} {z:GShot} (h:ShotOk p z):ShotOk p (swapZ z):=by
 have hl:(swapZ z).calls.length=z.calls.length:=by show (z.calls.map _).length=_;simp
 have hn:∀ k,k < z.calls.length→nth (swapZ z).calls k=swapS z.heap.length (nth z.calls k):=fun k hk=>jte _ _ _ hk
 have hhl:=h.hl
 refine ⟨by rw [hl];exact h.calls,fun k hk=>?_,fun k hk=>?_,fun k hk=>?_,fun l hl=>h.hp l (List.mem_reverse.1 hl),by show z.heap.reverse.length≤_;rw [List.length_reverse];exact h.hl,fun k hk=>?_⟩
 ·rw [hl] at hk;rw [hn k hk];exact h.fn k hk
 ·rw [hl] at hk;rw [hn k hk];exact h.node k hk
 ·rw [hl] at hk;rw [hn k hk]
  obtain ⟨a,b⟩:=h.sl k hk
  refine ⟨fun v hv=>?_,by show ((nth z.calls k).slots.map _).length≤_;rw [List.length_map];exact b⟩
  obtain ⟨u,hu,rfl⟩:=List.mem_map.1 (show v∈(nth z.calls k).slots.map (swapV z.heap.length) from hv)
  have hr:=a u hu
  unfold swapV
  split
  ·rename_i hh
   unfold rng at hr ⊢
   show _≤(z.heap.length:Int)+1 - u.n∧(z.heap.length:Int)+1 - u.n≤_
   omega
  ·exact hr
 ·have hk':k < z.heap.length:=by have:k < z.heap.reverse.length:=hk;rwa [List.length_reverse] at this
  have hm:nth z.heap.reverse k∈z.heap.reverse:=jam (by rw [List.length_reverse];exact hk')
  obtain ⟨j,hj,e⟩:=List.getElem_of_mem (List.mem_reverse.1 hm)
  show (nth z.heap.reverse k).length≤_
  rw [← e,← jbc hj]
  exact h.hls j hj
theorem ext_one (X:ByteArray):((⟨#[35]⟩:ByteArray)++X).extract 1 ((⟨#[35]⟩:ByteArray)++X).size=X:=by
 apply jiV
 rw [ByteArray.size_append]
 show (((⟨#[35]⟩:ByteArray)++X).extract 1 (1+X.size)).data.toList=_
 have e2:X.data.toList.length=X.size:=by simp
 simp [ByteArray.data_extract]
 rw [← e2,List.take_length]
def swapK (n:Int) (l:List GValue) (k:Nat):List GValue:=(l.take k).map (swapV n)++l.drop k
theorem swapK_len (n:Int) (l:List GValue) (k:Nat) (h:k≤l.length):(swapK n l k).length=l.length:=by unfold swapK;simp;omega
theorem swapK_nth (n:Int) (l:List GValue) (k:Nat) (h:k < l.length):nth (swapK n l k) k=nth l k:=by
 unfold swapK nth
 rw [List.getD_eq_getElem?_getD,List.getElem?_append_right (by simp;omega),List.getD_eq_getElem?_getD,List.length_map,List.length_take,List.getElem?_drop]
 congr 2
 omega
theorem swapK_set (n:Int) (l:List GValue) (k:Nat) (h:k < l.length):swapK n l (k+1)=(swapK n l k).set k (swapV n (nth l k)):=by
 unfold swapK
 rw [List.set_append_right _ _ (by simp;omega),ja8 h,List.map_append,List.append_assoc]
 congr 1
 rw [show k - (List.map (swapV n) (List.take k l)).length=0 by simp;omega,List.drop_eq_getElem_cons h,jbc h]
 rfl
theorem swapK_all (n:Int) (l:List GValue):swapK n l l.length=l.map (swapV n):=by unfold swapK;simp
theorem set_nth {α:Type} [Inhabited α] (l:List α) (k:Nat):l.set k (nth l k)=l:=by
 by_cases h:k < l.length
 ·rw [jbc h,List.set_getElem_self]
 ·exact List.set_eq_of_length_le (by omega)
theorem viewLists_c (s:ByteArray) (inp:List Int) (a:Int) (hi:∀ x∈inp,rng x) (ha:0≤a∧a < 256):PCall Tryz.prog 3 [rS s,jaI eI 1 inp,.raw (.int .u8 a)] (rB true):=by
 have hs:=joq (jg6 s) (jph s)
 have hok:=@jzK (jg6 s)
 obtain ⟨n,hn,ea⟩:=jtZ ha
 generalize jaP (jg6 s)=R at hs hok
 obtain ⟨p,x,e⟩:=R
 simp only at hs hok
 by_cases he:e=0
 ·have hp:=hok he
  have hin:=js0 inp
  have hr1:=jrr hp.s (jsZ inp) (jj2 _) (jj3 hi) n (by omega)
  have o1:=jwf hp.s hp.fn hp.nm (jj2 inp) (jj3 hi) n
  have hg:=jga hp.s (jj2 inp) (jj3 hi) n
  have hso:=juz hp.s hg.inv hg.rng (joi hp.s (jj2 inp) (jj3 hi) n)
  have hou:(jcJ p (joh p (jsZ inp) n)).out_.length≤1000:=by have:=hg.inv.outs;show (joh p (jsZ inp) n).out_.length≤1000;omega
  have h1:=o1.shot
  have h2:=o1.of_
  have v1:=o1.view
  clear o1 hg
  generalize joh p (jsZ inp) n=s1 at *
  generalize jcJ p s1=z at *
  have h3:=jzu hp.s hp.fn (swap_ok hso) hou
  rw [of_swap] at h3
  have hsl:∀ i,i < z.calls.length→∃ S:Nat→Nat,(S 0=(jbW p z.heap (z.calls.take i)).2.length∧S (jiS p (nth z.calls i).node).length=(jbW p z.heap (z.calls.take (i+1))).2.length∧
   ∀ k,k < (jiS p (nth z.calls i).node).length→(jaG (nth (nth (ofV p z).calls i).vars k).text 0≠35∧S (k+1)=S k)∨(jaG (nth (nth (ofV p z).calls i).vars k).text 0=35∧∃ m,Which (nth (nth (ofV p z).calls i).vars k).text m (S k) (S (k+1))))∧∀ k,S k≤z.heap.length:=fun i hi=>⟨_,seen_lists hp.s.ok z hi rfl,fun k=>nd_len _ _ (Seen.vars (heap:=z.heap) (nth z.calls i).slots ((jiS p (nth z.calls i).node).take k) ([],_) (Seen.calls (p:=p) (z.calls.take i) ([],[]) ⟨List.nodup_nil,fun x hx=>by cases hx⟩))⟩
  have hmost:=fun i=>seen_most p z i
  obtain ⟨M,hM⟩:∃ M:Nat→Nat,∀ i,(jbW p z.heap (z.calls.take i)).2.length=M i:=⟨_,fun i=>rfl⟩
  have hM0:M 0=0:=(hM 0).symm
  simp only [hM] at hsl hmost
  clear hM
  have hvc:(ofV p z).calls.length=z.calls.length:=jp2 z
  have hsa:=fun i hi=>@seen_as p hp.s.ok z i hi
  have hc2:∀ c∈(ofV p z).calls,c.vars.length≤100000:=fun c hc=>(v1.call c hc).1
  have g2:=jkr (ofV p z) (ofV p z) v1.outs v1.calls hc2
  rw [decide_eq_true rfl] at g2
  generalize ofV p z=w at *
  have hcl:=hso.calls
  have hhl:=hso.hl
  refine jbO Tryz.func3 Tryz.ntmps3 ?_
  (have W:=And.intro he (ea);repeat' (first|refine jaa fun K hK=>?_|refine wkA ?_|(with_reducible refine gR 5 ?_);refine dC 5 ([],[],[39,43,44]) [9] [0,1,2,4,5,6,3,7,8,9,10] mixed ?_|(refine hK _ _ ?_;clear hK K)|(refine jad (fun hc=>?_) (fun hc=>?_)<;>first | contradiction | (exfalso;omega) | skip)|refine cp (jrv) ?_|refine cp (jru _) ?_|refine cp (hs) ?_|(refine cN hin ?_)|(refine cN hr1 ?_)|(refine cN h1 ?_)|refine wkB ?_|exact True.intro|(clear hK K)));all_goals (try clear W)
  (repeat clear hc)
  refine jaD (FLe.nilC 9 2 1 22 1 rfl (by decide) rfl rfl) ?_
  refine jaD (FLe.nilC 10 2 0 47 3 rfl (by decide) rfl rfl) ?_
  (refine S ?_;try exact True.intro)
  have hKo:=hK;clear hK
  refine jag (S:=Nat) [(14,1),(53,14)] (fun k=>k≤z.heap.length) (fun k=>[(14,rI ((z.heap.length:Int) - 1 - k))]) (fun k=>⟨[],[(0,.var 29 (jah p)),(1,.var 38 (jcc z)),(2,.var 38 [.rs 10 0 3 0,.rs 9 k 1 k,rI z.in_,jaI eS 1 z.out_,rI z.status,rI z.trap,rI z.time]),(9,.vec 22 1 ((z.heap.reverse.take k).map eLI)),(10,.vec 47 3 [])]⟩) (fun k=>z.heap.length - k) 0 (by omega) (jau rfl lle) ?_
  rintro k hk Kr hKr
  by_cases hlt:k < z.heap.length
  ·have hre:=nth_rev z.heap (k:=z.heap.length - 1 - k) (by omega)
   rw [show z.heap.length - 1 - (z.heap.length - 1 - k)=k by omega] at hre
   have htk:=ja8 (l:=z.heap.reverse) (i:=k) (by rw [List.length_reverse];exact hlt)
   rw [hre] at htk
   have htl:(z.heap.reverse.take k).length=k:=by rw [List.length_take,List.length_reverse];omega
   have hix:(z.heap.length:Int) - 1 - k=((z.heap.length - 1 - k:Nat):Int):=by omega
   have hix2:(z.heap.length:Int) - 1 - ((k+1:Nat):Int)=((z.heap.length - 1 - k:Nat):Int) - 1:=by omega
   have hin':z.heap.length - 1 - k < z.heap.length:=by omega
   rw [hix]
   generalize z.heap.length - 1 - k=i at *
   (refine S ?_;try exact True.intro)
   (have W:=htl;repeat' (first|refine jaa fun K hK=>?_|refine wkA ?_|(with_reducible refine gR 13 ?_);refine dE 13 [0,1,2,3,4,5,6,7,8,9,10] mixed ?_|(refine hK _ _ ?_;clear hK K)|(refine jad (fun hc=>?_) (fun hc=>?_)<;>first | contradiction | (exfalso;omega) | skip)|refine wkB ?_|exact True.intro|(clear hK K)));all_goals (try clear W)
   refine hKr _ _ (jar (k+1) (by omega) (by show z.heap.length - (k+1) < z.heap.length - k;omega) ?_ (by rw [hix2];exact lle))
   rw [htk,List.map_append]
   rfl
  have hke:k=z.heap.length:=by omega
  subst hke
  rw [show z.heap.reverse.take z.heap.length=z.heap.reverse from List.take_of_length_le (by simp),show (z.heap.length:Int) - 1 - z.heap.length=-1 by omega]
  (refine S ?_;try exact True.intro)
  (repeat' (first|refine jaa fun K hK=>?_|refine wkA ?_|(refine hK _ _ ?_;clear hK K)|(refine jad (fun hc=>?_) (fun hc=>?_)<;>first | contradiction | (exfalso;omega) | skip)|(refine hKo _ _ ?_)|refine wkB ?_|exact True.intro|(clear hK K)))
  have hKo:=hK;clear hK
  refine jag (S:=Nat) [(15,3),(67,60)] (fun i=>i≤z.calls.length) (fun i=>[(15,rI i)]) (fun i=>⟨[],[(0,.var 29 (jah p)),(1,.var 38 (jcc z)),(2,.var 38 [.rs 10 i 3 i,.rs 9 z.heap.length 1 z.heap.length,rI z.in_,jaI eS 1 z.out_,rI z.status,rI z.trap,rI z.time]),(9,.vec 22 1 (z.heap.reverse.map eLI)),(10,.vec 47 3 (((z.calls.take i).map (swapS z.heap.length)).map jb4))]⟩) (fun i=>z.calls.length - i) 0 (by omega) (jau rfl lle) ?_
  rintro i hi2 Ks hKs
  have htl:((z.calls.take i).map (swapS z.heap.length)).length=i:=by simp;omega
  by_cases hlt:i < z.calls.length
  ·obtain ⟨hsr,hsll⟩:=hso.sl i hlt
   have htk:=ja8 hlt
   generalize hcd:nth z.calls i=c at hsr hsll htk ⊢
   (refine S ?_;try exact True.intro)
   (have W:=And.intro hcd (htl);repeat' (first|refine jaa fun K hK=>?_|refine wkA ?_|(refine hK _ _ ?_;clear hK K)|(refine jad (fun hc=>?_) (fun hc=>?_)<;>first | contradiction | (exfalso;omega) | skip)|refine al 3 ?_|refine jsg 4 ?_|refine wkB ?_|exact True.intro|(clear hK K)));all_goals (try clear W)
   have hKb:=hK;clear hK
   have hKa:=hK;clear hK
   refine jag (S:=Nat) [(17,1),(84,37)] (fun k=>k≤c.slots.length) (fun k=>[(17,rI k)]) (fun k=>⟨[],[(0,.var 29 (jah p)),(1,.var 38 (jcc z)),(2,.var 38 [.rs 10 i 3 i,.rs 9 z.heap.length 1 z.heap.length,rI z.in_,jaI eS 1 z.out_,rI z.status,rI z.trap,rI z.time]),(9,.vec 22 1 (z.heap.reverse.map eLI)),(10,.vec 47 3 (((z.calls.take i).map (swapS z.heap.length)).map jb4)),(3,.var 47 [rI c.fn,rI c.node,.rs 4 c.slots.length 3 c.slots.length]),(4,.vec 49 3 ((swapK z.heap.length c.slots k).map jan))]⟩) (fun k=>c.slots.length - k) 0 (by omega) (jau rfl lle) ?_
   rintro k hk2 Kt hKt
   have hTl:=swapK_len z.heap.length c.slots k hk2
   by_cases hkl:k < c.slots.length
   ·have hTn:=swapK_nth z.heap.length c.slots k hkl
    have hTs:=swapK_set z.heap.length c.slots k hkl
    have hrv:=hsr _ (jam hkl)
    generalize hvd:nth c.slots k=v at *
    generalize swapK z.heap.length c.slots k=T at *
    unfold swapV at hTs
    by_cases hty:v.ty=4
    ·by_cases hvn:0 < v.n
     ·rw [if_pos ⟨hty,hvn⟩] at hTs
      unfold rng at hrv
      (refine S ?_;try exact True.intro)
      (have W:=And.intro hTl (And.intro hTn (hty));repeat' (first|refine jaa fun K hK=>?_|refine wkA ?_|(with_reducible refine gR 23 ?_);refine dE 23 [0,1,2,3,4,5,6,7,8,9,10,11,12,13,14] mixed ?_|(refine hK _ _ ?_;clear hK K)|(refine jad (fun hc=>?_) (fun hc=>?_)<;>first | contradiction | (exfalso;omega) | skip)|refine wkB ?_|exact True.intro|(clear hK K)));all_goals (try clear W)
      refine hKt _ _ (jar (k+1) (by omega) (by show c.slots.length - (k+1) < c.slots.length - k;omega) ?_ lle)
      rw [hTs,hty]
     ·rw [if_neg (fun h=>hvn h.2),← hTn,set_nth] at hTs
      (refine S ?_;try exact True.intro)
      (have W:=And.intro hTl (And.intro hTn (hty));repeat' (first|refine jaa fun K hK=>?_|refine wkA ?_|(refine hK _ _ ?_;clear hK K)|(refine jad (fun hc=>?_) (fun hc=>?_)<;>first | contradiction | (exfalso;omega) | skip)|refine wkB ?_|exact True.intro|(clear hK K)));all_goals (try clear W)
      refine hKt _ _ (jar (k+1) (by omega) (by show c.slots.length - (k+1) < c.slots.length - k;omega) ?_ lle)
      rw [hTs]
    ·rw [if_neg (fun h=>hty h.1),← hTn,set_nth] at hTs
     have hty':=eq_false hty
     (refine S ?_;try exact True.intro)
     (have W:=And.intro hTl (And.intro hTn (hty'));repeat' (first|refine jaa fun K hK=>?_|refine wkA ?_|(refine hK _ _ ?_;clear hK K)|(refine jad (fun hc=>?_) (fun hc=>?_)<;>first | contradiction | (exfalso;omega) | skip)|refine wkB ?_|exact True.intro|(clear hK K)));all_goals (try clear W)
     refine hKt _ _ (jar (k+1) (by omega) (by show c.slots.length - (k+1) < c.slots.length - k;omega) ?_ lle)
     rw [hTs]
   ·have hke:k=c.slots.length:=by omega
    subst hke
    rw [swapK_all] at hTl ⊢
    (refine S ?_;try exact True.intro)
    (have W:=And.intro htl (hTl);repeat' (first|refine jkM (id:=24) [4] 3 [rI c.fn,rI c.node,jaI jan 3 (c.slots.map (swapV z.heap.length))] [(79,4),(86,1)] [] ?_|refine jaa fun K hK=>?_|refine wkA ?_|(refine hK _ _ ?_;clear hK K)|(refine jad (fun hc=>?_) (fun hc=>?_)<;>first | contradiction | (exfalso;omega) | skip)|(refine hKb _ _ ?_)|(refine hKa _ _ ?_)|refine wkB ?_|exact True.intro|(clear hK K)));all_goals (try clear W)
    refine hKs _ _ (jaM [3] (i+1) (by omega) (by show z.calls.length - (i+1) < z.calls.length - i;omega) rfl Sd ?_ vtl)
    rw [htk,List.map_append,List.map_append]
    rfl
  have hie:i=z.calls.length:=by omega
  subst hie
  rw [List.take_length] at htl ⊢
  have hrl:z.heap.reverse.length=z.heap.length:=List.length_reverse
  (refine S ?_;try exact True.intro)
  (have W:=And.intro htl (hrl);repeat' (first|refine jkM (id:=25) [9,10] 2 [jaI jb4 3 (z.calls.map (swapS z.heap.length)),jaI eLI 1 z.heap.reverse,rI z.in_,jaI eS 1 z.out_,rI z.status,rI z.trap,rI z.time] [] [] ?_|refine jaa fun K hK=>?_|refine wkA ?_|(refine hK _ _ ?_;clear hK K)|(refine jad (fun hc=>?_) (fun hc=>?_)<;>first | contradiction | (exfalso;omega) | skip)|refine al 5 ?_|refine al 6 ?_|refine cp (h2) ?_|refine cp (h3) ?_|(refine hKo _ _ ?_)|refine wkB ?_|exact True.intro|(clear hK K)));all_goals (try clear W)
  clear h2 h3
  have hKo:=hK;clear hK
  refine jag (S:=Nat) [(6,1),(20,5),(133,46)] (fun i=>i≤z.calls.length) (fun i=>[(21,rI i),(20,rI (M i))]) (fun _=>⟨[],[(0,.var 29 (jah p)),(1,.var 38 (jcc z)),(2,.var 38 (jcc (swapZ z))),(5,.var 52 (ja4 w)),(6,.var 52 (ja4 w))]⟩) (fun i=>z.calls.length - i) 0 (by omega) (jau rfl (by rw [hM0];exact lle)) ?_
  rintro i hi3 Kt hKt
  by_cases hlt:i < z.calls.length
  ·obtain ⟨Q,⟨q0,q1,q2⟩,q3⟩:=hsl i hlt
   have hlen:=(hsa i hlt).len
   have hnd:=hso.node i hlt
   have hvl:=jkE hp.s.ok hp.fn hnd.2
   rw [← hlen] at q1 q2 hvl
   generalize hwd:nth w.calls i=c at *
   (refine S ?_;try exact True.intro)
   (have W:=And.intro hvc (hwd);repeat' (first|refine jaa fun K hK=>?_|refine wkA ?_|(refine hK _ _ ?_;clear hK K)|(refine jad (fun hc=>?_) (fun hc=>?_)<;>first | contradiction | (exfalso;omega) | skip)|refine wkB ?_|exact True.intro|(clear hK K)));all_goals (try clear W)
   have hKb:=hK;clear hK
   refine jag (S:=Nat) [(6,1),(20,1),(22,3),(140,39)] (fun k=>k≤c.vars.length) (fun k=>[(22,rI k),(20,rI (Q k))]) (fun _=>⟨[],[(0,.var 29 (jah p)),(1,.var 38 (jcc z)),(2,.var 38 (jcc (swapZ z))),(5,.var 52 (ja4 w)),(6,.var 52 (ja4 w))]⟩) (fun k=>c.vars.length - k) 0 (by omega) (jau rfl (by rw [q0];exact lle)) ?_
   rintro k hk3 Ku hKu
   by_cases hkl:k < c.vars.length
   ·have hq:=q2 k hkl
    generalize hyd:nth c.vars k=y at *
    rcases hq with ⟨b1,b2⟩ | ⟨b1,m,⟨r,hr⟩,b2,b3⟩
    ·have b1':=eq_false b1
     (refine S ?_;try exact True.intro)
     (have W:=And.intro hvc (And.intro hwd (And.intro hyd (b1')));repeat' (first|refine jaa fun K hK=>?_|refine wkA ?_|(refine hK _ _ ?_;clear hK K)|(refine jad (fun hc=>?_) (fun hc=>?_)<;>first | contradiction | (exfalso;omega) | skip)|refine wkB ?_|exact True.intro|(clear hK K)));all_goals (try clear W)
     refine hKu _ _ (jar (k+1) (by omega) (by show c.vars.length - (k+1) < c.vars.length - k;omega) rfl (by rw [b2];exact lle))
    ·have hq3:=q3 k
     have hq4:=q3 (k+1)
     have hm2:m≤Q (k+1):=by omega
     have hnum:=digits_c m (by omega) r
     have hsz:2≤y.text.size:=by
      rw [hr,ByteArray.size_append,ByteArray.size_append,ByteArray.size_append]
      show 2≤1+(_+(1+_))
      omega
     rw [← ext_one (jbJ m++((⟨#[91]⟩:ByteArray)++r)),← hr] at hnum
     have b3':max ((Q k:Nat):Int) (m:Int)=((Q (k+1):Nat):Int):=by omega
     (refine S ?_;try exact True.intro)
     (have W:=And.intro hvc (And.intro hwd (And.intro hyd (b1)));repeat' (first|refine jaa fun K hK=>?_|refine wkA ?_|(refine hK _ _ ?_;clear hK K)|(refine jad (fun hc=>?_) (fun hc=>?_)<;>first | contradiction | (exfalso;omega) | skip)|refine cp (hnum) ?_|refine wkB ?_|exact True.intro|(clear hK K)));all_goals (try clear W)
     refine hKu _ _ (jar (k+1) (by omega) (by show c.vars.length - (k+1) < c.vars.length - k;omega) rfl (by rw [← b3'];exact lle))
   ·have hke:k=c.vars.length:=by omega
    subst hke
    (refine S ?_;try exact True.intro)
    (have W:=And.intro hvc (hwd);repeat' (first|refine jaa fun K hK=>?_|refine wkA ?_|(refine hK _ _ ?_;clear hK K)|(refine jad (fun hc=>?_) (fun hc=>?_)<;>first | contradiction | (exfalso;omega) | skip)|(refine hKb _ _ ?_)|refine wkB ?_|exact True.intro|(clear hK K)));all_goals (try clear W)
    refine hKt _ _ (jar (i+1) (by omega) (by show z.calls.length - (i+1) < z.calls.length - i;omega) rfl (by rw [← q1];exact lle))
  ·have hie:i=z.calls.length:=by omega
   subst hie
   have hmo:=hmost z.calls.length
   (refine S ?_;try exact True.intro)
   (have W:=hvc;repeat' (first|refine jaa fun K hK=>?_|refine wkA ?_|(refine hK _ _ ?_;clear hK K)|(refine jad (fun hc=>?_) (fun hc=>?_)<;>first | contradiction | (exfalso;omega) | skip)|refine cq (g2) ?_|(refine hKo _ _ ?_)|refine wkB ?_|exact True.intro|(clear hK K)));all_goals (try clear W)
   (refine jaU [.tmp 6] ?_;try simp only [go_sem])
   rw [decide_eq_true (show ((M z.calls.length:Nat):Int)≤z.heap.length by omega)]
 ·refine jbO Tryz.func3 Tryz.ntmps3 ?_
  (have W:=he;repeat' (first|refine jaa fun K hK=>?_|refine wkA ?_|(refine hK _ _ ?_;clear hK K)|(refine jad (fun hc=>?_) (fun hc=>?_)<;>first | contradiction | (exfalso;omega) | skip)|refine cp (jrv) ?_|refine cp (jru _) ?_|refine cp (hs) ?_|refine wkB ?_|exact True.intro|(clear hK K)));all_goals (try clear W)
  (refine jaU [.tmp 6] ?_;try simp only [go_sem])
end Go.Proofs.YtdekkklnfifphaaGreatDoor

/- What the law of this claim needs beside the others' texts (only for the hand-ins of ViewLines, ViewNames, ViewLists, where the shared texts leave thes. The law ViewLines: what it says is so. No conditions. -/
import Derived.Test.YtdekkklnfifphaaGreatDoorLvD
set_option linter.all false
namespace Go.Gd
open Go
@[go_sem] theorem toNat_add0 (a b : Nat) : ((a : Int) + (b : Int)).toNat = a + b := by omega
@[go_sem] theorem map_set_enc {α : Type} (enc : α → List AV) (l : List α) (k : Nat) (x : α) : (l.map enc).set k (enc x) = (l.set k x).map enc := List.map_set.symm
@[go_sem] theorem eGShot_take (x : GShot) : (jcc x).take 7 = jcc x := (rfl)
@[go_sem] theorem eGValue_u1 (x : GValue) (v : Int) : List.take 1 (jan x) ++ [.raw (.int .i64 v)] ++ List.drop 2 (jan x) = jan { x with n := v } := (rfl)
@[go_sem] theorem ldOK_convert {A : AS} {ev : Operand → AV} (s d : TypeId) (x : Operand) : jh1 A ev (.convert s d x) = true := (rfl)
@[go_sem] theorem vcD_convert {P : Program} {ev : Operand → AV} {H : Hp} {ty : TypeId} {K : AV → Hp → Prop} (s d : TypeId) (x : Operand) : vcD P ev H ty K (.convert s d x) = vc P ev H ty K (.convert s d x) := (rfl)
@[go_sem] theorem vcD_rem {P : Program} {ev : Operand → AV} {H : Hp} {ty : TypeId} {K : AV → Hp → Prop} (t : TypeId) (x y : Operand) (t' : TypeId) : vcD P ev H ty K (.binOp .rem t x y t') = vc P ev H ty K (.binOp .rem t x y t') := (rfl)
@[go_sem] theorem vc_max {P : Program} {ev : Operand → AV} {H : Hp} {ty : TypeId} {K : AV → Hp → Prop} (xs : Array Operand) (ts : Array TypeId) : vc P ev H ty K (.call ⟨.builtin .max, xs, ts⟩) = ((jb9 P H .max ts.toList (xs.toList.map ev)).1 ∧ K (jb9 P H .max ts.toList (xs.toList.map ev)).2 H) := by simp [vc, jaq, vq]
end Go.Gd
namespace Go.Proofs.YtdekkklnfifphaaGreatDoor
open Go Go.Gd
@[go_sem] theorem cb_20 : jaf Tryz.prog 20 = true := by kernel_rfl
theorem vis_ty {p : GProg} (h : POk p) (node : Int) : ∀ v ∈ jiS p node, 1 ≤ v.ty ∧ v.ty ≤ 4 := fun v hv => by
  unfold jiS at hv
  cases e : ja2 p node p.tree.nodes.length (nth p.tree.fns (nth p.fn node.toNat).toNat).body (jfm (nth p.tree.fns (nth p.fn node.toNat).toNat).params 0) with
  | none => rw [e] at hv; cases hv
  | some R =>
    rw [e] at hv
    refine joA (P := fun v => 1 ≤ v.ty ∧ v.ty ≤ 4) (fun x k10 => ?_) _ _ _ R (fun w hw => ?_) e v hv
    · have hl : x.toNat < p.tree.nodes.length := by
        rcases jjc p.tree.nodes x.toNat with e | e
        · exact Classical.byContradiction fun hn => by
            have : nth p.tree.nodes x.toNat = default := by unfold nth; rw [List.getD_eq_getElem?_getD, List.getElem?_eq_none (by omega)]; rfl
            unfold jaj at k10; rw [this] at k10; exact absurd k10 (by decide)
        · unfold jaj at k10; rw [e] at k10; exact absurd k10 (by decide)
      exact (h.ty x.toNat (Nat.zero_le _) hl).let_ k10
    · obtain ⟨x, hx, _, e2⟩ := jq2 _ _ _ hw
      rw [e2]
      rcases jjc p.tree.fns (nth p.fn node.toNat).toNat with e | e
      · exact ((h.tree.fn _ e).1.ps x hx)
      · rw [e] at hx; cases hx
set_option maxHeartbeats 4000000
set_option maxRecDepth 10000
theorem lines_len (v:GView):(jbU v).length=v.calls.length+v.out_.length+1:=by unfold jbU;simp;omega
theorem lines_out (v:GView) {i:Nat} (h:i < v.out_.length):nth (jbU v) (v.calls.length+i)=jv2 (nth v.out_ i):=by
 unfold jbU
 rw [jbz (by simp;omega)]
 have e:∀ (l r:List ByteArray) (k:Nat),nth (l++r) (l.length+k)=nth r k:=fun l r k=>by
  unfold nth
  rw [List.getD_eq_getElem?_getD,List.getElem?_append_right (by omega),Nat.add_sub_cancel_left,List.getD_eq_getElem?_getD]
 have:=e (v.calls.map jei) (v.out_.map jv2) i
 rw [List.length_map] at this
 rw [this,jte _ _ _ h]
theorem viewLines_c (s:ByteArray) (inp:List Int) (a b:Int) (hi:∀ x∈inp,rng x) (ha:0≤a∧a < 256) (hb:0≤b∧b < 256):PCall Tryz.prog 6 [rS s,jaI eI 1 inp,.agg [.raw (.int .u8 a),.raw (.int .u8 b)]] (rB true):=by
 have hs:=joq (jg6 s) (jph s)
 have hok:=@jzK (jg6 s)
 obtain ⟨n,hn,ea⟩:=jtZ ha
 obtain ⟨m,hm,eb⟩:=jtZ hb
 generalize jaP (jg6 s)=R at hs hok
 obtain ⟨p,x,e⟩:=R
 simp only at hs hok
 by_cases he:e=0
 ·have hp:=hok he
  have hr1:=jrr hp.s (jsZ inp) (jj2 _) (jj3 hi) n (by omega)
  have hr2:=jrr hp.s (jsZ inp) (jj2 _) (jj3 hi) m (by omega)
  have o1:=jwf hp.s hp.fn hp.nm (jj2 inp) (jj3 hi) n
  have o2:=jwf hp.s hp.fn hp.nm (jj2 inp) (jj3 hi) m
  generalize joh p (jsZ inp) n=s1 at *
  generalize joh p (jsZ inp) m=s2 at *
  have h1:=o1.src
  have h2:=o2.src
  have h3:=o1.lines
  have h4:=o2.lines
  have v1:=o1.view
  have v2:=o2.view
  clear o1 o2
  generalize ofV p (jcJ p s1)=w1 at *
  generalize ofV p (jcJ p s2)=w2 at *
  have hll:(jbU w1).length≤1000000000:=by have:=v1.calls;have:=v1.outs;unfold jbU;simp;omega
  have hc1:∀ c∈w1.calls,c.vars.length≤100000:=fun c hc=>(v1.call c hc).1
  have g4:=jlT (jbU w1) (jbU w2) hll
  have g5:=juv w1 w2 (by have:=v1.calls;omega) (fun c hc=>by have:=hc1 c hc;omega) (by have:=v1.outs;omega)
  have l1:=lines_len w1
  have l2:=lines_len w2
  have k1:=v1.calls
  have k2:=v1.outs
  have k3:=v2.calls
  have k4:=v2.outs
  have hlo:=fun i=>@lines_out w1 i
  have hww:w1=w2→jbU w1=jbU w2:=fun e=>by rw [e]
  generalize jbU w1=L1 at *
  generalize jbU w2=L2 at *
  refine jbO Tryz.func6 Tryz.ntmps6 ?_
  (have W:=And.intro he (And.intro ea (And.intro eb (And.intro l1 (l2))));repeat' (first|refine jaa fun K hK=>?_|refine wkA ?_|(with_reducible refine gR 6 ?_);refine dC 6 ([],[],[37,38]) [9] [0,1,2,3,4,5,6,7,8,9,10] mixed ?_|(with_reducible refine gR 7 ?_);refine dC 7 ([],[],[46,47]) [9] [0,1,2,3,4,5,6,7,8,9,10] mixed ?_|(refine hK _ _ ?_;clear hK K)|(refine jad (fun hc=>?_) (fun hc=>?_)<;>first | contradiction | (exfalso;omega) | skip)|refine cp (jrv) ?_|refine cp (jru _) ?_|refine cp (hs) ?_|refine cp (js0 _) ?_|(refine cN hr1 ?_)|(refine cN hr2 ?_)|(refine cN h1 ?_)|(refine cN h2 ?_)|refine cp (h3) ?_|refine cp (h4) ?_|refine cp (g4) ?_|refine wkB ?_|exact True.intro|(clear hK K)));all_goals (try clear W)
  clear hc
  clear hc
  have hKo:=hK;clear hK
  refine jag (S:=Nat) [(6,1),(16,1),(79,22)] (fun i=>i≤w1.out_.length) (fun i=>[(16,rI i)]) (fun i=>⟨[],[(0,.var 71 [.raw (.int .u8 a),.raw (.int .u8 b)]),(1,.var 29 (jah p)),(2,.var 52 (ja4 w1)),(3,.var 52 (ja4 w2))]⟩) (fun i=>w1.out_.length - i) 0 (by omega) (jau rfl lle) ?_
  rintro i hi2 Kr hKr
  by_cases hlt:i < w1.out_.length
  ·have hoi:=hlo i hlt
   have hos:=v1.out _ (jam hlt)
   unfold jv2 at hoi
   generalize hod:nth w1.out_ i=o at *
   (refine S ?_;try exact True.intro)
   (have W:=And.intro l1 (And.intro hoi (hod));repeat' (first|refine jaa fun K hK=>?_|refine wkA ?_|(with_reducible refine gR 16 ?_);refine dE 16 [0,1,2,3,4,5,6,7,8,9,10,11,12,13,14] mixed ?_|(refine hK _ _ ?_;clear hK K)|(refine jad (fun hc=>?_) (fun hc=>?_)<;>first | contradiction | (exfalso;omega) | skip)|refine wkB ?_|exact True.intro|(clear hK K)));all_goals (try clear W)
   exact hKr _ _ (jar (i+1) (by omega) (by show w1.out_.length - (i+1) < w1.out_.length - i;omega) rfl lle)
  ·(refine S ?_;try exact True.intro)
   (have W:=l1;repeat' (first|refine jaa fun K hK=>?_|refine wkA ?_|(refine hK _ _ ?_;clear hK K)|(refine jad (fun hc=>?_) (fun hc=>?_)<;>first | contradiction | (exfalso;omega) | skip)|refine cq (g5) ?_|(refine hKo _ _ ?_)|refine wkB ?_|exact True.intro|(clear hK K)));all_goals (try clear W)
   (refine jaU [.tmp 6] ?_;try simp only [go_sem])
   show AV.raw _=rB true
   rw [show (!decide (w1=w2) || decide (L1=L2))=true from by
    by_cases q:w1=w2
    ·rw [decide_eq_true q,decide_eq_true (hww q)];rfl
    ·rw [decide_eq_false q];rfl]
 ·refine jbO Tryz.func6 Tryz.ntmps6 ?_
  (have W:=he;repeat' (first|refine jaa fun K hK=>?_|refine wkA ?_|(refine hK _ _ ?_;clear hK K)|(refine jad (fun hc=>?_) (fun hc=>?_)<;>first | contradiction | (exfalso;omega) | skip)|refine cp (jrv) ?_|refine cp (jru _) ?_|refine cp (hs) ?_|refine wkB ?_|exact True.intro|(clear hK K)));all_goals (try clear W)
  (refine jaU [.tmp 6] ?_;try simp only [go_sem])
end Go.Proofs.YtdekkklnfifphaaGreatDoor

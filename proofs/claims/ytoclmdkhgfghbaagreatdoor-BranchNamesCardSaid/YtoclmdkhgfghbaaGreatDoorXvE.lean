/- Walks that are reckoned. Walks that are reckoned: operations, regions, code, calls. Walks that are reckoned: the commonest operations, at once. Walks that are reckoned: regions, code, calls. Walks that are reckoned: what is given back, read only from then on; the rest of a walk. No conditions. -/
import Derived.Test.YtoclmdkhgfghbaaGreatDoorGdR
set_option linter.all false
namespace Go.Gd
open Go
set_option maxRecDepth 10000
-- values that are alike, as far as it is looked
def vEq:Value→Value→Bool
 | .int k a,.int k' b=>decide (k=k') && decide (a=b)
 | .string a,.string b=>decide (a=b)
 | .bool a,.bool b=>a == b
 | .slice none a b,.slice none c d=>decide (a=c) && decide (b=d)
 | .pointer none,.pointer none=>true
 | _,_=>false
theorem jhi {a b:Value} (h:vEq a b=true):a=b:=by
 unfold vEq at h
 split at h<;>simp_all
mutual
def aEq:AV→AV→Bool
 | .raw a,.raw b=>vEq a b
 | .any,.any=>true
 | .agg a,.agg b=>jeV a b
 | .tup a,.tup b=>jeV a b
 | .sl x s c d,.sl y t e f=>x == y && s == t && jj2 c e && jeV d f
 | .ip a,.ip b=>jeV a b
 | .clo f a,.clo g b=>f == g && jeV a b
 | .pt i m k j,.pt i' m' k' j'=>i == i' && m == m' && k == k' && j == j'
 | .rs i m k j,.rs i' m' k' j'=>i == i' && m == m' && k == k' && j == j'
 | .bd f a,.bd g b=>f == g && jeV a b
 | .ifc t a,.ifc u b=>t == u && aEq a b
 | .mr i,.mr j=>i == j
 | _,_=>false
def jeV:List AV→List AV→Bool
 | [],[]=>true
 | a::l,b::m=>aEq a b && jeV l m
 | _,_=>false
def jj2:List (List AV)→List (List AV)→Bool
 | [],[]=>true
 | a::l,b::m=>jeV a b && jj2 l m
 | _,_=>false
end
mutual
theorem jfy:∀ (a b:AV),aEq a b=true→a=b
 | .raw a,b,h=>by cases b<;>simp_all [aEq];exact jhi h
 | .any,b,h=>by cases b<;>simp_all [aEq]
 | .agg a,b,h=>by cases b<;>simp_all [aEq];exact jaZ _ _ h
 | .tup a,b,h=>by cases b<;>simp_all [aEq];exact jaZ _ _ h
 | .sl x s c d,b,h=>by cases b<;>simp_all [aEq];exact ⟨jeW _ _ h.1.2,jaZ _ _ h.2⟩
 | .ip a,b,h=>by cases b<;>simp_all [aEq];exact jaZ _ _ h
 | .gd p a,b,h=>by cases b<;>simp_all [aEq]
 | .clo f a,b,h=>by cases b<;>simp_all [aEq];exact jaZ _ _ h.2
 | .pt i m k j,b,h=>by cases b<;>simp_all [aEq]
 | .rs i m k j,b,h=>by cases b<;>simp_all [aEq]
 | .rc i m k j,b,h=>by cases b<;>simp_all [aEq]
 | .rv i m k j n,b,h=>by cases b<;>simp_all [aEq]
 | .mr i,b,h=>by cases b<;>simp_all [aEq]
 | .bd f a,b,h=>by cases b<;>simp_all [aEq];exact jaZ _ _ h.2
 | .ifc t a,b,h=>by cases b<;>simp_all [aEq];exact jfy _ _ h.2
 | .mv m a,b,h=>by cases b<;>simp_all [aEq]
theorem jaZ:∀ (a b:List AV),jeV a b=true→a=b
 | [],b,h=>by cases b<;>simp_all [jeV]
 | x::l,b,h=>by cases b<;>simp_all [jeV];exact ⟨jfy _ _ h.1,jaZ _ _ h.2⟩
theorem jeW:∀ (a b:List (List AV)),jj2 a b=true→a=b
 | [],b,h=>by cases b<;>simp_all [jj2]
 | x::l,b,h=>by cases b<;>simp_all [jj2];exact ⟨jaZ _ _ h.1,jeW _ _ h.2⟩
end
def jlk:List Value→List Value→Bool
 | [],[]=>true
 | a::l,b::m=>vEq a b && jlk l m
 | _,_=>false
theorem jhh:∀ {l m:List Value},jlk l m=true→l=m
 | [],m,h=>by cases m<;>simp_all [jlk]
 | x::l,m,h=>by
  cases m with
  | nil=>cases h
  | cons y m=>
   simp only [jlk,Bool.and_eq_true] at h
   rw [jhi h.1,jhh h.2]
def rEq:Row→Row→Bool
 | .mp k a,.mp l b=>jlk k l && jeV a b
 | .var t a,.var u b=>t == u && jeV a b
 | .vec e s a,.vec f t b=>e == f && s == t && jj2 a b
 | _,_=>false
theorem jiS {a b:Row} (h:rEq a b=true):a=b:=by
 cases a<;>cases b<;>simp_all [rEq]
 ·exact jaZ _ _ h.2
 ·exact jeW _ _ h.2
 ·exact ⟨jhh h.1,jaZ _ _ h.2⟩
-- what quiet operations ask
def dP (q:PA) [Decidable q.1]:Option AV:=if q.1 then some q.2 else none
theorem jje {q:PA} [Decidable q.1] {r:AV} (h:dP q=some r):q.1∧q.2=r:=by
 unfold dP at h
 split at h
 ·rename_i h1;exact ⟨h1,by simpa using h⟩
 ·cases h
instance {c a b:AV}:Decidable (jdG c a b).1:=by unfold jdG;split<;>(simp only [jaP];infer_instance)
instance {c a b:AV}:Decidable (jaT c a b).1:=by unfold jaT;split<;>infer_instance
instance {P:Program} {a:AV}:Decidable (jiR P a).1:=by unfold jiR;split<;>(simp only [jaP];infer_instance)
instance {op:BinOp} {k k':IntKind} {a b:Int}:Decidable (jiQ op k a k' b).1:=by unfold jiQ;split<;>(simp only [jaP];infer_instance)
instance {op:BinOp} {a b:ByteArray}:Decidable (jhK op a b).1:=by unfold jhK;split<;>(simp only [jaP];infer_instance)
instance {P:Program} {ne:Bool} {t:TypeId} {a b:AV}:Decidable (jfi P ne t a b).1:=by
 unfold jfi
 split
 case h_9=>split<;>(simp only [jaP];infer_instance)
 all_goals (simp only [jaP];infer_instance)
instance {P:Program} {op:BinOp} {t:TypeId} {a b:AV}:Decidable (jb5 P op t a b).1:=by
 unfold jb5
 split
 ·infer_instance
 ·infer_instance
 ·split<;>first | infer_instance | (simp only [jaP];infer_instance)
instance {op:UnOp} {a:AV}:Decidable (qUn op a).1:=by unfold qUn;split<;>(simp only [jaP];infer_instance)
instance {P:Program} {t:TypeId} {a:AV} {f:Nat}:Decidable (jaq P t a f).1:=by unfold jaq;split<;>(simp only [jaP];infer_instance)
instance {P:Program} {t:TypeId} {cs:List AV} {off:Nat}:Decidable (jgj P t cs off).1:=by unfold jgj;split<;>(simp only [jaP];infer_instance)
instance {P:Program} {t:TypeId} {a:AV} {f:Nat}:Decidable (jcf P t a f).1:=by unfold jcf;split<;>first | infer_instance | (simp only [jaP];infer_instance)
instance {o:Option (Nat×Nat)} {i:Int} {f:Nat→AV}:Decidable (jkf o i f).1:=by unfold jkf;split<;>(simp only [jaP];infer_instance)
instance {P:Program} {t:TypeId} {a b:AV}:Decidable (jaD P t a b).1:=by unfold jaD;split<;>first | infer_instance | (simp only [jaP];infer_instance)
instance {P:Program} {t:TypeId} {a b:AV}:Decidable (jbB P t a b).1:=by unfold jbB;split<;>(simp only [jaP];infer_instance)
instance {a:AV} {i:Nat}:Decidable (jaM a i).1:=by unfold jaM;split<;>(simp only [jaP];infer_instance)
instance {P:Program} {t:TypeId} {a:AV} {x y z:Option AV}:Decidable (jbs P t a x y z).1:=by unfold jbs;split<;>(simp only [jaP];infer_instance)
instance {fn:Fn} {a b:List AV}:Decidable (jfk fn a b).1:=by unfold jfk;split<;>(simp only [jaP];infer_instance)
instance {P:Program} {t:TypeId} {a:AV}:Decidable (jde P t a).1:=by unfold jde;split<;>(simp only [jaP];infer_instance)
instance {P:Program} {s t:TypeId} {a:AV}:Decidable (jfh P s t a).1:=by unfold jfh;split<;>(simp only [jaP];infer_instance)
instance {P:Program} {t:TypeId} {l:List (Nat×AV)}:Decidable (jce P t l).1:=by
 unfold jce
 split
 ·split<;>(simp only [jaP];infer_instance)
 ·simp only [jaP];infer_instance
instance {P:Program} {H:Hp} {t:TypeId} {a:AV}:Decidable (jg4 P H t a).1:=by
 unfold jg4
 split
 ·split
  ·split<;>(simp only [jaP];infer_instance)
  ·simp only [jaP];infer_instance
 all_goals (simp only [jaP];infer_instance)
instance {P:Program} {t:TypeId} {a:AV}:Decidable (jkg P t a).1:=by unfold jkg;split<;>(simp only [jaP];infer_instance)
instance {b:Bool} {l:List AV}:Decidable (jb2 b l).1:=by unfold jb2;split<;>(simp only [jaP];infer_instance)
instance {P:Program} {H:Hp} {b:Builtin} {ts:List TypeId} {l:List AV}:Decidable (jaA P H b ts l).1:=by unfold jaA;split<;>first | infer_instance | (simp only [jaP];infer_instance)
def cB (H:Hp):AV→Option (List AV)
 | .ip cs=>some cs
 | .pt i m k j=>match H.get i with
  | some (.var _ cs)=>if m=0 then some (cs.drop j) else none
  | some (.vec _ _ css)=>if m=css.length∧k < css.length then some ((css.getD k []).drop j) else none
  | _=>none
 | _=>none
theorem jkx {H:Hp} {a:AV} {cs:List AV} (h:cB H a=some cs):∃ c:Prop,c∧jaR H a=some (c,cs):=by
 unfold cB at h
 unfold jaR
 split at h
 ·cases h;exact ⟨_,trivial,rfl⟩
 ·split at h
  ·rename_i e
   split at h<;>cases h
   rename_i hm
   exact ⟨_,hm,by simp only [e]⟩
  ·rename_i e
   split at h<;>cases h
   rename_i hm
   exact ⟨_,hm,by simp only [e]⟩
  ·cases h
 ·cases h
def jio (P:Program) (H:Hp) (t:TypeId) (a:AV):Option AV:=match cB H a,jal P t,jba P t with
 | some cs,some ag,some k=>if k≤cs.length∧1≤cs.length then some (jcd ag k cs) else none
 | _,_,_=>none
theorem jfX {P:Program} {H:Hp} {t:TypeId} {a r:AV} (h:jio P H t a=some r):(jb1 P H t a).1∧(jb1 P H t a).2=r:=by
 unfold jio at h
 split at h
 ·rename_i cs ag k e1 e2 e3
  obtain ⟨c,hc,e⟩:=jkx e1
  split at h<;>cases h
  rename_i hk
  unfold jb1
  try simp only [e,e2,e3]
  cases ag
  ·exact ⟨⟨hc,hk⟩,rfl⟩
  ·exact ⟨⟨hc,hk⟩,rfl⟩
 ·cases h
def xq (P:Program) (ev:Operand→AV) (H:Hp):Op→Option AV
 | .move x=>some (ev x)
 | .assign x=>some (ev x)
 | .pick c a b=>dP (jaT (ev c) (ev a) (ev b))
 | .nilCheck x=>dP (jiR P (ev x))
 | .binOp op t x y _=>dP (jb5 P op t (ev x) (ev y))
 | .unOp op _ x=>dP (qUn op (ev x))
 | .load t a=>jio P H t (ev a)
 | .fieldAddr t a f=>dP (jaq P t (ev a) f)
 | .field t a f=>dP (jcf P t (ev a) f)
 | .indexAddr t a i=>dP (jaD P t (ev a) (ev i))
 | .index t a i=>dP (jbB P t (ev a) (ev i))
 | .extract a i=>dP (jaM (ev a) i)
 | .slice t a lo hi mx=>dP (jbs P t (ev a) (lo.map ev) (hi.map ev) (mx.map ev))
 | .makeFunc fn first captured=>dP (jfk fn (first.toList.map ev) (captured.toList.map ev))
 | .makeInterface t x=>dP (jde P t (ev x))
 | .convert s d x=>dP (jfh P s d (ev x))
 | .build t parts=>dP (jce P t (parts.toList.map fun p=>(p.1,ev p.2)))
 | .call { callee:=.builtin b,args,argTypes }=>dP (jaA P H b argTypes.toList (args.toList.map ev))
 | _=>none
theorem jjX {P:Program} {ev:Operand→AV} {H:Hp} {o:Op} {r:AV} (h:xq P ev H o=some r):(vq P ev H o).1∧(vq P ev H o).2=r:=by
 unfold xq at h
 split at h
 case h_1=>cases h;exact ⟨trivial,rfl⟩
 case h_2=>cases h;exact ⟨trivial,rfl⟩
 case h_7=>exact jfX h
 case h_19=>cases h
 all_goals (have h2:=jje h;exact h2)
abbrev XC:=FuncId→List AV→Hp→Option (AV×Hp)
def XOk (P:Program) (c:XC):Prop:=∀ f args H r H',c f args H=some (r,H')→∀ K:AV→Hp→Prop,K r H'→jae P f=true∧HCalls P f args H K
def jjZ (c:XC) (a:AV) (args:List AV) (H:Hp):Option (AV×Hp):=match jlK a with
 | some (f,x,y)=>c f (x++args++y) H
 | none=>none
theorem jdh {P:Program} {c:XC} (hc:XOk P c) {a:AV} {args:List AV} {H:Hp} {x:AV×Hp} (h:jjZ c a args H=some x) {K:AV→Hp→Prop} (k:K x.1 x.2):jaU P a args H K:=by
 unfold jjZ at h
 unfold jaU
 split at h
 ·rename_i e
  try simp only [e]
  exact .inl (hc _ _ _ _ _ h K k)
 ·cases h
def jl7 (P:Program) (c:XC) (a:AV) (m:String) (args:List AV) (H:Hp):Option (AV×Hp):=match a with
 | .ifc t v=>match je9 P t m with
  | some f=>c f (v::args) H
  | none=>none
 | _=>none
theorem jhu {P:Program} {c:XC} (hc:XOk P c) {a:AV} {m:String} {args:List AV} {H:Hp} {x:AV×Hp} (h:jl7 P c a m args H=some x) {K:AV→Hp→Prop} (k:K x.1 x.2):jb3 P a m args H K:=by
 unfold jl7 at h
 unfold jb3
 split at h
 ·split at h
  ·rename_i e
   try simp only [e]
   exact jbC (hc _ _ _ _ _ h K k).1 (hc _ _ _ _ _ h K k).2
  ·cases h
 ·cases h
instance {r:Row} {m k j n:Nat}:Decidable (jbN r m k j n):=by unfold jbN;split<;>infer_instance
def jhB (P:Program) (H:Hp) (t:TypeId) (a x:AV):Option (AV×Hp):=match a,jba P t with
 | .pt i m k j,some n=>match H.get i with
  | some r=>if ones x.cells=true∧x.cells.length=n∧jbN r m k j n then some (.any,H.put i (jeH r k j x.cells)) else none
  | none=>none
 | _,_=>none
theorem jhC {P:Program} {H:Hp} {t:TypeId} {a x:AV} {y:AV×Hp} (h:jhB P H t a x=some y) {K:AV→Hp→Prop} (k:K y.1 y.2):jcI P H t a x K:=by
 unfold jhB at h
 unfold jcI
 split at h
 ·rename_i e0
  split at h
  ·rename_i e
   split at h<;>cases h
   try simp only [e0,e]
   exact ⟨by assumption,k⟩
  ·cases h
 ·cases h
instance decLit {sz:Nat}:∀ {k:Nat} {l:List (Nat×AV)},Decidable (jes sz k l)
 | _,[]=>isTrue trivial
 | k,(i,a)::rest=>by
  unfold jes
  have:=decLit (sz:=sz) (k:=k+1) (l:=rest)
  infer_instance
def jjV (own:Bool) (P:Program) (H:Hp) (t:TypeId) (n:Nat) (parts:List (Nat×AV)):Option (AV×Hp):=match elT P t with
 | some e=>match jba P e with
  | some sz=>if parts.length=n∧jes sz 0 parts∧n * sz≤16777216∧(n * sz=0∨(jaG P e).isSome=true) then
    (if own=true then (if 0 < sz then some (.rs (nx H.l) (jaB parts).length sz (jaB parts).length,H.put (nx H.l) (.vec e sz (jaB parts))) else none)
     else if jaV noQ (jaB parts).flatten=true then some (.sl true sz (jaB parts) [],H) else none) else none
  | none=>none
 | none=>none
theorem jbX (H:Hp):H.get (nx H.l)=none:=(jd3 H.l 0 (nx H.l) (Nat.le_refl _)).1
theorem jhv {P:Program} {H:Hp} {t:TypeId} {n:Nat} {parts:List (Nat×AV)} {y:AV×Hp} {own:Bool} (h:jjV own P H t n parts=some y) {K:AV→Hp→Prop} (k:K y.1 y.2):jft P H t n parts K:=by
 unfold jjV at h
 unfold jft
 split at h
 ·rename_i e
  split at h
  ·rename_i e'
   split at h
   ·rename_i hc
    try simp only [e,e']
    refine ⟨hc,?_⟩
    split at h
    ·split at h<;>cases h
     exact .inr ⟨by assumption,_,jbX H,k⟩
    ·split at h<;>cases h
     exact .inl ⟨by assumption,k⟩
   ·cases h
  ·cases h
 ·cases h
theorem jit {P:Program} {H:Hp} {t:TypeId} {n:Nat} {parts:List (Nat×AV)} {y:AV×Hp} (h:jjV false P H t n parts=some y) {K:AV→Hp→Prop} (k:K y.1 y.2):jcj P t n parts fun r=>K r H:=by
 unfold jjV at h
 unfold jcj
 split at h
 ·rename_i e
  split at h
  ·rename_i e'
   split at h
   ·rename_i hc
    try simp only [e,e']
    rw [if_neg Bool.false_ne_true] at h
    split at h<;>cases h
    exact ⟨⟨hc,by assumption⟩,k⟩
   ·cases h
  ·cases h
 ·cases h
def jl8 (P:Program) (ne:Bool) (t:TypeId) (x y:AV):Option AV:=match x,y with
 | .sl _ _ css _,.raw (.slice none 0 0)=>if jai P t=true∧¬ css=[] then some (.raw (.bool (ne ^^ false))) else none
 | .rs _ _ _ n,.raw (.slice none 0 0)=>if jai P t=true∧¬ n=0 then some (.raw (.bool (ne ^^ false))) else none
 | x,y=>dP (jb5 P (if ne then .neq else .eql) t x y)
theorem jhx {P:Program} {H:Hp} {t:TypeId} {ne:Bool} {x y r:AV} (h:jl8 P ne t x y=some r) {K:AV→Hp→Prop} (k:K r H):jbk P ne t x y H K:=by
 unfold jl8 at h
 unfold jbk
 split at h
 ·split at h<;>cases h
  rename_i hc
  refine ⟨hc.1,fun b hb=>?_⟩
  cases b
  ·exact k
  ·exact (hc.2 (hb rfl)).elim
 ·split at h<;>cases h
  rename_i hc
  refine ⟨hc.1,fun b hb=>?_⟩
  cases b
  ·exact k
  ·exact (hc.2 (hb rfl)).elim
 ·obtain ⟨h1,h2⟩:=jje h
  rename_i n1 n2
  split
  ·exact (n1 _ _ _ _ rfl rfl).elim
  ·exact (n2 _ _ _ _ rfl rfl).elim
  ·exact ⟨h1,h2 ▸ k⟩
def xmk (P:Program) (H:Hp) (t:TypeId) (l c:AV):Option (AV×Hp):=match l,c,elT P t with
 | .raw (.int .i64 n),.raw (.int .i64 n'),some e=>match jba P e,jaG P e with
  | some sz,some zs=>if n=(n.toNat:Int)∧n'=(n.toNat:Int)∧zs.length=sz∧0 < sz∧(n.toNat * jca P e≤140737488355328∧n.toNat≤9223372036854775807) then
    some (.rs (nx H.l) n.toNat sz n.toNat,H.put (nx H.l) (.vec e sz (List.replicate n.toNat (zs.map .raw)))) else none
  | _,_=>none
 | _,_,_=>none
theorem ji3 {P:Program} {H:Hp} {t:TypeId} {ev:Operand→AV} {ty:TypeId} {l c:Operand} {y:AV×Hp} (h:xmk P H t (ev l) (ev c)=some y) {K:AV→Hp→Prop} (k:K y.1 y.2):jcK P (.makeSlice t l c) ty ev H K:=by
 unfold xmk at h
 split at h
 ·rename_i n n' e e1 e2 e3
  split at h
  ·rename_i sz zs e4 e5
   split at h<;>cases h
   rename_i hc
   obtain ⟨h1,h2,h3,h4,h5⟩:=hc
   exact mkS (nx H.l) k (n:=n.toNat) (by rw [e1];exact congrArg (fun x=>AV.raw (.int .i64 x)) h1) (by rw [e2];exact congrArg (fun x=>AV.raw (.int .i64 x)) h2) e3 e4 e5 h3 h4 h5 (jbX H) rfl
  ·cases h
 ·cases h
def jma (H:Hp):AV→Option (List (List AV))
 | .sl _ _ css _=>some css
 | .rs i m sz n=>match H.get i with
  | some (.vec _ sz' css)=>if sz'=sz∧m=css.length∧n≤m then some (css.take n) else none
  | _=>none
 | .rv i m sz o n=>match H.get i with
  | some (.vec _ sz' css)=>if sz'=sz∧m=css.length∧o+n≤m then some ((css.drop o).take n) else none
  | _=>none
 | .raw (.slice none 0 0)=>some []
 | _=>none
theorem jhA {H:Hp} {a:AV} {css:List (List AV)} (h:jma H a=some css):∃ c:Prop,c∧jfp H a=some (c,css):=by
 unfold jma at h
 unfold jfp
 split at h
 ·cases h;exact ⟨_,trivial,rfl⟩
 ·split at h
  ·rename_i e
   split at h<;>cases h
   rename_i hm
   exact ⟨_,hm,by simp only [e]⟩
  ·cases h
 ·split at h
  ·rename_i e
   split at h<;>cases h
   rename_i hm
   exact ⟨_,hm,by simp only [e]⟩
  ·cases h
 ·cases h;exact ⟨_,trivial,rfl⟩
 ·cases h
instance {b n:Nat}:Decidable (jhM b n):=by unfold jhM;infer_instance
instance {sz:Nat} {css:List (List AV)}:Decidable (jgs sz css):=by unfold jgs;infer_instance
def jhq (b:Nat) (e:TypeId) (sz:Nat) (ys:List (List AV)) (a:AV) (H:Hp):Option (AV×Hp):=match a with
 | .rs i m sz' n=>match H.get i with
  | some (.vec e' sz'' css)=>if e'=e∧sz'=sz∧sz''=sz∧m=css.length∧n≤m∧jhM b (n+ys.length) then
    (if n=m then some (.rs i (m+ys.length) sz (n+ys.length),H.put i (.vec e sz (css++ys))) else some (.rs i (max m (n+ys.length)) sz (n+ys.length),H.put i (.vec e sz (jcr css n ys)))) else none
  | _=>none
 | .raw (.slice none 0 0)=>if jhM b ys.length then some (.rs (nx H.l) ys.length sz ys.length,H.put (nx H.l) (.vec e sz ys)) else none
 | .sl true sz' css _=>if sz'=sz∧jhM b (css.length+ys.length)∧(css.length=0∨0 < ys.length) then some (.rs (nx H.l) (css.length+ys.length) sz (css.length+ys.length),H.put (nx H.l) (.vec e sz (css++ys))) else none
 | _=>none
theorem jhr {b:Nat} {e:TypeId} {sz:Nat} {ys:List (List AV)} {a:AV} {H:Hp} {y:AV×Hp} (h:jhq b e sz ys a H=some y) {K:AV→Hp→Prop} (k:K y.1 y.2):jeI b e sz ys a H K:=by
 unfold jhq at h
 unfold jeI
 split at h
 ·split at h
  ·rename_i e1
   split at h
   ·rename_i hc
    try simp only [e1]
    refine ⟨hc,?_⟩
    unfold jfW
    split at h<;>cases h
    ·rw [if_pos (by assumption)];exact k
    ·rw [if_neg (by assumption)];exact k
   ·cases h
  ·cases h
 ·split at h<;>cases h
  exact ⟨by assumption,_,jbX H,k⟩
 ·split at h<;>cases h
  exact ⟨by assumption,_,jbX H,k⟩
 ·cases h
def jmV (P:Program) (t:TypeId) (a x:AV) (H:Hp):Option (AV×Hp):=match elT P t with
 | some e=>match jba P e,jaG P e,jma H x with
  | some sz,some zs,some ys=>if zs.length=sz∧0 < sz∧jgs sz ys then jhq (jca P e) e sz ys a H else none
  | _,_,_=>none
 | none=>none
theorem jjR {P:Program} {t:TypeId} {a x:AV} {H:Hp} {y:AV×Hp} (h:jmV P t a x H=some y) {K:AV→Hp→Prop} (k:K y.1 y.2):jkj P t a x H K:=by
 unfold jmV at h
 unfold jkj
 split at h
 ·rename_i e1
  split at h
  ·rename_i e2 e3 e4
   split at h
   ·rename_i hc
    obtain ⟨c,hp,e5⟩:=jhA e4
    try simp only [e1]
    try simp only [e2,e3,e5]
    exact ⟨⟨hc.1,hc.2.1,hp,hc.2.2⟩,jhr h k⟩
   ·cases h
  ·cases h
 ·cases h
-- maps
def jht:List Value→Option (List Int)
 | []=>some []
 | .int .i64 n::l=>(jht l).map (n::·)
 | _=>none
theorem jef:∀ {l:List Value} {ks:List Int},jht l=some ks→l=ks.map (Value.int .i64)
 | [],ks,h=>by cases h;rfl
 | v::l,ks,h=>by
  unfold jht at h
  split at h
  ·rename_i e;cases e
  ·rename_i n l' e
   cases e
   obtain ⟨m,h1,rfl⟩:=Option.map_eq_some_iff.1 h
   rw [jef h1];rfl
  ·cases h
def jl9 (P:Program) (H:Hp) (t:TypeId) (m k x:AV):Option (AV×Hp):=match m,jkb P t,k with
 | .mr i,some (false,_),.raw (.int .i64 n)=>match H.get i with
  | some (.mp kv vs)=>match jht kv with
   | some ks=>some (.any,H.put i (.mp ((jfa n ks).map (Value.int .i64)) (jfb n x ks vs)))
   | none=>none
  | _=>none
 | _,_,_=>none
theorem jhz {P:Program} {H:Hp} {ev:Operand→AV} {ty:TypeId} {t:TypeId} {om ok ox:Operand} {op:Op} {y:AV×Hp} (hop:op=.insert t om ok ox∨op=.mapUpdate t om ok ox) (h:jl9 P H t (ev om) (ev ok) (ev ox)=some y) {K:AV→Hp→Prop} (k:K y.1 y.2):jcK P op ty ev H K:=by
 unfold jl9 at h
 split at h
 ·rename_i i et n e1 e2 e3
  split at h
  ·rename_i kv vs e4
   split at h
   ·rename_i ks e5
    cases h
    have:=jef e5
    subst this
    exact jnW ks e2 k hop e1 e3 e4 rfl
   ·cases h
  ·cases h
 ·cases h
def jmX (P:Program) (H:Hp) (t:TypeId) (m k:AV) (c:Bool):Option AV:=match m,jkb P t,k with
 | .mr i,some (false,et),.raw (.int .i64 n)=>match H.get i,(P.info? et).bind (·.zero) with
  | some (.mp kv vs),some z=>match jht kv with
   | some ks=>some (jgX n ks vs (.raw z) c)
   | none=>none
  | _,_=>none
 | _,_,_=>none
theorem jjU {P:Program} {H:Hp} {ev:Operand→AV} {ty:TypeId} {t:TypeId} {om ok:Operand} {c:Bool} {r:AV} (h:jmX P H t (ev om) (ev ok) c=some r) {K:AV→Hp→Prop} (k:K r H):jcK P (.lookup t om ok c) ty ev H K:=by
 unfold jmX at h
 split at h
 ·rename_i i et n e1 e2 e3
  split at h
  ·rename_i kv vs z e4 e6
   split at h
   ·rename_i ks e5
    cases h
    have:=jef e5
    subst this
    exact jnJ ks z _ e2 e6 rfl k e1 e3 e4 rfl
   ·cases h
  ·cases h
 ·cases h
def jjS (P:Program) (t:TypeId) (a x:AV) (H:Hp):Option (AV×Hp):=match a,elT P t with
 | .rs d m sz n,some e=>match H.get d,jba P e,jaG P e,jma H x with
  | some (.vec e' sz' css),some sz'',some zs,some ys=>if m=n∧e'=e∧sz'=sz∧sz''=sz∧n=css.length∧zs.length=sz∧0 < sz∧jgs sz ys∧ys.length≤n then some (.raw (.int .i64 (ys.length:Nat)),H.put d (.vec e sz (jcr css 0 ys))) else none
  | _,_,_,_=>none
 | _,_=>none
theorem jir {P:Program} {t:TypeId} {a x:AV} {H:Hp} {y:AV×Hp} (h:jjS P t a x H=some y) {K:AV→Hp→Prop} (k:K y.1 y.2):jaL P .copy [t,t] [a,x] H K:=by
 unfold jjS at h
 split at h
 ·rename_i d m sz n e e1
  split at h
  ·rename_i e' sz' css sz'' zs ys e2 e3 e4 e5
   split at h
   ·rename_i hc
    obtain ⟨rfl,rfl,rfl,rfl,rfl,h6,h7,h8,h9⟩:=hc
    obtain ⟨c,hp,e6⟩:=jhA e5
    cases h
    exact jjd k e2 e1 e3 e4 h6 h7 rfl e6 hp h8 h9 rfl
   ·cases h
  ·cases h
 ·cases h
def xe (P:Program) (c:XC) (ev:Operand→AV) (H:Hp):Op→Option (AV×Hp)
 | .box t x=>if ones (ev x).cells=true then some (.pt (nx H.l) 0 0 0,H.put (nx H.l) (.var t (ev x).cells)) else none
 | .alloc t=>match jaG P t with
  | some zs=>some (.pt (nx H.l) 0 0 0,H.put (nx H.l) (.var t (zs.map .raw)))
  | none=>none
 | .store t a x=>jhB P H t (ev a) (ev x)
 | .buildSlice t n parts=>jjV (n == 0 || !jaV noQ (jaB (parts.toList.map fun p=>(p.1,ev p.2))).flatten) P H t n (parts.toList.map fun p=>(p.1,ev p.2))
 | .binOp .eql t x y _=>(jl8 P false t (ev x) (ev y)).map fun r=>(r,H)
 | .binOp .neq t x y _=>(jl8 P true t (ev x) (ev y)).map fun r=>(r,H)
 | .makeSlice t l n=>xmk P H t (ev l) (ev n)
 | .makeMap _ none=>some (.mr (nx H.l),H.put (nx H.l) (.mp [] []))
 | .insert t m k x=>jl9 P H t (ev m) (ev k) (ev x)
 | .mapUpdate t m k x=>jl9 P H t (ev m) (ev k) (ev x)
 | .lookup t m k c=>(jmX P H t (ev m) (ev k) c).map fun r=>(r,H)
 | .call { callee:=.value f,args,.. }=>jjZ c (ev f) (args.toList.map ev) H
 | .call { callee:=.invoke r m,args,.. }=>jl7 P c (ev r) m (args.toList.map ev) H
 | .call { callee:=.builtin .append,args,argTypes }=>match argTypes.toList,args.toList with
  | [t,t'],[a,x]=>if t'=t then jmV P t (ev a) (ev x) H else none
  | _,_=>none
 | .call { callee:=.builtin .copy,args,argTypes }=>match argTypes.toList,args.toList with
  | [t,t'],[a,x]=>if t'=t then jjS P t (ev a) (ev x) H else none
  | _,_=>none
 | o=>if jac o=true then (xq P ev H o).map fun r=>(r,H) else none
theorem jis {P:Program} {c:XC} (hc:XOk P c) {ev:Operand→AV} {H:Hp} {ty:TypeId} {o:Op} {y:AV×Hp} (h:xe P c ev H o=some y) {K:AV→Hp→Prop} (k:K y.1 y.2):vc P ev H ty K o:=by
 unfold xe at h
 split at h
 ·split at h<;>cases h
  exact ⟨by assumption,_,jbX H,k⟩
 ·split at h<;>cases h
  rename_i e
  show ja5 P H _ K
  unfold ja5
  try simp only [e]
  exact ⟨_,jbX H,k⟩
 ·exact jhC h k
 ·exact jhv h k
 ·obtain ⟨r,h1,rfl⟩:=Option.map_eq_some_iff.1 h
  exact jhx h1 k
 ·obtain ⟨r,h1,rfl⟩:=Option.map_eq_some_iff.1 h
  exact jhx h1 k
 ·rw [jeN];exact ji3 h k
 ·cases h
  rw [jgr];exact mkM (nx H.l) k (jbX H) rfl
 ·rw [jhm];exact jhz (.inl rfl) h k
 ·rw [jeO];exact jhz (.inr rfl) h k
 ·obtain ⟨r,h1,rfl⟩:=Option.map_eq_some_iff.1 h
  rw [jhn];exact jjU h1 k
 ·exact jdh hc h k
 ·exact jhu hc h k
 ·split at h
  ·rename_i e1 e2
   split at h
   ·rename_i e3
    subst e3
    simp only [vc,e1,e2]
    exact jcx (jjR h k)
   ·cases h
  ·cases h
 ·split at h
  ·rename_i e1 e2
   split at h
   ·rename_i e3
    subst e3
    rw [jjO]
    try simp only [e1,e2]
    exact jir h k
   ·cases h
  ·cases h
 ·split at h
  ·rename_i hq
   obtain ⟨r,h1,rfl⟩:=Option.map_eq_some_iff.1 h
   obtain ⟨h2,h3⟩:=jjX h1
   rw [jee hq]
   exact ⟨h2,h3 ▸ k⟩
  ·cases h
-- what is reckoned is brought to its form at once
def fN {α:Type} (m:Nat) (k:Nat→α):α:=Nat.rec (motive:=fun _=>α) (k 0) (fun n _=>k (Nat.succ n)) m
theorem ja3 {α:Type} (m:Nat) (k:Nat→α):fN m k=k m:=by cases m<;>rfl
def fI {α:Type} (n:Int) (k:Int→α):α:=match n with
 | .ofNat m=>fN m fun m=>k (.ofNat m)
 | .negSucc m=>fN m fun m=>k (.negSucc m)
theorem jkG {α:Type} (n:Int) (k:Int→α):fI n k=k n:=by cases n<;>(unfold fI;exact ja3 _ _)
def fB {α:Type} (b:Bool) (k:Bool→α):α:=match b with
 | true=>k true
 | false=>k false
theorem jkC {α:Type} (b:Bool) (k:Bool→α):fB b k=k b:=by cases b<;>rfl
def fSp {α β:Type}:List β→(List β→α)→α
 | [],k=>k []
 | b::l,k=>fSp l fun l=>k (b::l)
theorem jfG {α β:Type}:∀ (l:List β) (k:List β→α),fSp l k=k l
 | [],_=>rfl
 | b::l,k=>by unfold fSp;rw [jfG l]
def fV {α:Type} (v:Value) (k:Value→α):α:=match v with
 | .int t n=>fI n fun n=>k (.int t n)
 | .bool b=>fB b fun b=>k (.bool b)
 | .string ⟨⟨l⟩⟩=>fSp l fun l=>k (.string ⟨⟨l⟩⟩)
 | v=>k v
theorem jmn {α:Type} (v:Value) (k:Value→α):fV v k=k v:=by
 unfold fV
 split
 ·exact jkG _ _
 ·exact jkC _ _
 ·exact jfG _ _
 ·rfl
mutual
def fA {α:Type}:AV→(AV→α)→α
 | .raw v,k=>fV v fun v=>k (.raw v)
 | .agg cs,k=>fL cs fun cs=>k (.agg cs)
 | .tup cs,k=>fL cs fun cs=>k (.tup cs)
 | .sl x sz css d,k=>fM css fun css=>fL d fun d=>k (.sl x sz css d)
 | .ip cs,k=>fL cs fun cs=>k (.ip cs)
 | .gd p v,k=>fA v fun v=>k (.gd p v)
 | .pt i m c j,k=>fN i fun i=>fN m fun m=>fN c fun c=>fN j fun j=>k (.pt i m c j)
 | .rs i m sz n,k=>fN i fun i=>fN m fun m=>fN sz fun sz=>fN n fun n=>k (.rs i m sz n)
 | .rc i m sz n,k=>fN i fun i=>fN m fun m=>fN sz fun sz=>fN n fun n=>k (.rc i m sz n)
 | .rv i m sz o n,k=>fN i fun i=>fN m fun m=>fN sz fun sz=>fN o fun o=>fN n fun n=>k (.rv i m sz o n)
 | .ifc t v,k=>fA v fun v=>k (.ifc t v)
 | .any,k=>k .any
 | .clo f cs,k=>k (.clo f cs)
 | .mr i,k=>k (.mr i)
 | .bd f fs,k=>k (.bd f fs)
 | .mv m v,k=>k (.mv m v)
def fL {α:Type}:List AV→(List AV→α)→α
 | [],k=>k []
 | a::l,k=>fA a fun a=>fL l fun l=>k (a::l)
def fM {α:Type}:List (List AV)→(List (List AV)→α)→α
 | [],k=>k []
 | a::l,k=>fL a fun a=>fM l fun l=>k (a::l)
end
mutual
theorem jhY {α:Type}:∀ (a:AV) (k:AV→α),fA a k=k a
 | .raw v,k=>by unfold fA;rw [jmn]
 | .agg cs,k=>by unfold fA;rw [jga cs]
 | .tup cs,k=>by unfold fA;rw [jga cs]
 | .sl x sz css d,k=>by unfold fA;rw [jkJ css,jga d]
 | .ip cs,k=>by unfold fA;rw [jga cs]
 | .gd p v,k=>by unfold fA;rw [jhY v]
 | .pt i m c j,k=>by unfold fA;rw [ja3,ja3,ja3,ja3]
 | .rs i m c j,k=>by unfold fA;rw [ja3,ja3,ja3,ja3]
 | .rc i m c j,k=>by unfold fA;rw [ja3,ja3,ja3,ja3]
 | .rv i m c j n,k=>by unfold fA;rw [ja3,ja3,ja3,ja3,ja3]
 | .ifc t v,k=>by unfold fA;rw [jhY v]
 | .any,k=>rfl
 | .clo f cs,k=>rfl
 | .mr i,k=>rfl
 | .bd f fs,k=>rfl
 | .mv m v,k=>rfl
theorem jga {α:Type}:∀ (l:List AV) (k:List AV→α),fL l k=k l
 | [],_=>rfl
 | a::l,k=>by unfold fL;rw [jhY a,jga l]
theorem jkJ {α:Type}:∀ (l:List (List AV)) (k:List (List AV)→α),fM l k=k l
 | [],_=>rfl
 | a::l,k=>by unfold fM;rw [jga a,jkJ l]
end
def fH {α:Type} (a:AV) (k:AV→α):α:=match a with
 | .raw v=>k (.raw v)
 | .agg cs=>k (.agg cs)
 | .sl x sz css d=>k (.sl x sz css d)
 | .gd p v=>k (.gd p v)
 | a=>k a
theorem jkF {α:Type} (a:AV) (k:AV→α):fH a k=k a:=by unfold fH;split<;>rfl
def fC {α:Type}:List AV→(List AV→α)→α
 | [],k=>k []
 | a::l,k=>fH a fun a=>fC l fun l=>k (a::l)
theorem jhZ {α:Type}:∀ (l:List AV) (k:List AV→α),fC l k=k l
 | [],_=>rfl
 | a::l,k=>by unfold fC;rw [jkF,jhZ l]
def fCs {α:Type}:List (List AV)→(List (List AV)→α)→α
 | [],k=>k []
 | a::l,k=>fC a fun a=>fCs l fun l=>k (a::l)
theorem jiE {α:Type}:∀ (l:List (List AV)) (k:List (List AV)→α),fCs l k=k l
 | [],_=>rfl
 | a::l,k=>by unfold fCs;rw [jhZ,jiE l]
def fW {α:Type} (r:Row) (k:Row→α):α:=match r with
 | .var t cs=>fC cs fun cs=>k (.var t cs)
 | .vec e sz css=>fCs css fun css=>k (.vec e sz css)
 | r=>k r
theorem jmo {α:Type} (r:Row) (k:Row→α):fW r k=k r:=by
 unfold fW
 split
 ·exact jhZ _ _
 ·exact jiE _ _
 ·rfl
def fT {α:Type}:List (Nat×Row)→(List (Nat×Row)→α)→α
 | [],k=>k []
 | (i,r)::l,k=>fN i fun i=>fW r fun r=>fT l fun l=>k ((i,r)::l)
theorem jjk {α:Type}:∀ (l:List (Nat×Row)) (k:List (Nat×Row)→α),fT l k=k l
 | [],_=>rfl
 | (i,r)::l,k=>by unfold fT;rw [ja3,jmo,jjk l]
def jnM:Op→Bool
 | .move _=>true
 | .assign _=>true
 | .pick ..=>true
 | _=>false
def fR {α:Type} (o:Op) (a:AV) (k:AV→α):α:=if jnM o=true then fH a k else fA a k
theorem je4 {α:Type} (o:Op) (a:AV) (k:AV→α):fR o a k=k a:=by
 unfold fR
 split
 ·exact jkF _ _
 ·exact jhY _ _
def jnL:Op→Bool
 | .move _=>false
 | .assign _=>false
 | .pick ..=>false
 | .nilCheck _=>false
 | .binOp ..=>false
 | .unOp ..=>false
 | .load ..=>false
 | .fieldAddr ..=>false
 | .field ..=>false
 | .indexAddr ..=>false
 | .index ..=>false
 | .extract ..=>false
 | .slice ..=>false
 | .build ..=>false
 | .call c=>match c.callee with
  | .builtin _=>true
  | _=>false
 | _=>true
def fG {α:Type} (l:Array Oper) (H:Hp) (k:Hp→α):α:=if (l.toList.any fun o=>jnL o.op)=true then fT H.l fun l=>k ⟨H.B,l⟩ else k H
theorem jmj {α:Type} (l:Array Oper) (H:Hp) (k:Hp→α):fG l H k=k H:=by
 unfold fG
 split
 ·exact jjk _ _
 ·rfl
noncomputable section
-- frames
inductive Fr where
 | lf
 | nd (a:AV) (l r:Fr)
def oT (T:Fr):Nat→Option AV:=Fr.rec (motive:=fun _=>Nat→Option AV) (fun _=>none) (fun a _ _ il ir n=>Nat.rec (motive:=fun _=>Option AV) (some a) (fun m _=>match m % 2 with
 | 0=>il (m / 2)
 | _=>ir (m / 2)) n) T
def gT (T:Fr):Nat→AV:=Fr.rec (motive:=fun _=>Nat→AV) (fun _=>.any) (fun a _ _ il ir n=>Nat.rec (motive:=fun _=>AV) a (fun m _=>match m % 2 with
 | 0=>il (m / 2)
 | _=>ir (m / 2)) n) T
def pT (T:Fr):Nat→AV→Fr:=Fr.rec (motive:=fun _=>Nat→AV→Fr) (fun _ _=>.lf) (fun a l r il ir n x=>Nat.rec (motive:=fun _=>Fr) (.nd x l r) (fun m _=>match m % 2 with
 | 0=>.nd a (il (m / 2) x) r
 | _=>.nd a l (ir (m / 2) x)) n) T
theorem jiP (a:AV) (l r:Fr) (m:Nat):oT (.nd a l r) (m+1)=if m % 2=0 then oT l (m / 2) else oT r (m / 2):=by
 show (match m % 2 with
  | 0=>oT l (m / 2)
  | _=>oT r (m / 2))=_
 split
 ·rename_i e;rw [if_pos e]
 ·rename_i e;rw [if_neg fun h=>e h]
theorem jnI (a:AV) (l r:Fr) (m:Nat):gT (.nd a l r) (m+1)=if m % 2=0 then gT l (m / 2) else gT r (m / 2):=by
 show (match m % 2 with
  | 0=>gT l (m / 2)
  | _=>gT r (m / 2))=_
 split
 ·rename_i e;rw [if_pos e]
 ·rename_i e;rw [if_neg fun h=>e h]
theorem jm8 (a:AV) (l r:Fr) (m:Nat) (x:AV):pT (.nd a l r) (m+1) x=if m % 2=0 then .nd a (pT l (m / 2) x) r else .nd a l (pT r (m / 2) x):=by
 show (match m % 2 with
  | 0=>Fr.nd a (pT l (m / 2) x) r
  | _=>Fr.nd a l (pT r (m / 2) x))=_
 split
 ·rename_i e;rw [if_pos e]
 ·rename_i e;rw [if_neg fun h=>e h]
theorem jjo:∀ (T:Fr) (i:Nat),gT T i=(oT T i).getD .any
 | .lf,i=>rfl
 | .nd a l r,0=>rfl
 | .nd a l r,m+1=>by
  rw [jnI,jiP]
  split
  ·exact jjo l _
  ·exact jjo r _
theorem jjx:∀ (T:Fr) (d:Nat) (x:AV) (i:Nat),oT (pT T d x) i=if i=d then (oT T i).map fun _=>x else oT T i
 | .lf,d,x,i=>by show none=_;split<;>rfl
 | .nd a l r,0,x,0=>rfl
 | .nd a l r,0,x,i+1=>by
  rw [if_neg (by omega),jiP]
  exact jiP _ _ _ _
 | .nd a l r,m+1,x,0=>by
  rw [if_neg (by omega),jm8]
  split<;>rfl
 | .nd a l r,m+1,x,i+1=>by
  rw [jm8]
  split
  ·rename_i e
   rw [jiP,jiP,jjx l]
   by_cases h:i % 2=0
   ·rw [if_pos h,if_pos h]
    by_cases h1:i=m
    ·subst h1;rw [if_pos rfl,if_pos rfl]
    ·rw [if_neg (by omega),if_neg (by omega)]
   ·rw [if_neg h,if_neg h,if_neg (by omega)]
  ·rename_i e
   rw [jiP,jiP,jjx r]
   by_cases h:i % 2=0
   ·rw [if_pos h,if_pos h,if_neg (by omega)]
   ·rw [if_neg h,if_neg h]
    by_cases h1:i=m
    ·subst h1;rw [if_pos rfl,if_pos rfl]
    ·rw [if_neg (by omega),if_neg (by omega)]
def RF (T:Fr) (F:List AV):Prop:=∀ i,F[i]?=oT T i
theorem RF.get {T:Fr} {F:List AV} (h:RF T F) (i:Nat):gT T i=F.getD i .any:=by
 rw [jjo,← h i,List.getD_eq_getElem?_getD]
theorem RF.put {T:Fr} {F:List AV} (h:RF T F) (d:Nat) (x:AV):RF (pT T d x) (F.set d x):=fun i=>by
 rw [jjx,← h i,List.getElem?_set]
 by_cases e:d=i
 ·subst e
  rw [if_pos rfl,if_pos rfl]
  by_cases hl:d < F.length
  ·rw [if_pos hl,List.getElem?_eq_getElem hl];rfl
  ·rw [if_neg hl,List.getElem?_eq_none (by omega)];rfl
 ·rw [if_neg e,if_neg fun h=>e h.symm]
def mkT (f:Nat→AV) (n k:Nat):Nat→Nat→Fr:=Nat.rec (motive:=fun _=>Nat→Nat→Fr) (fun _ _=>.lf) (fun _ ih o s=>match Nat.blt o n with
 | true=>.nd (f o) (ih (o+s) (s+s)) (ih (o+s+s) (s+s))
 | false=>.lf) k
theorem jkZ (f:Nat→AV) (n k o s:Nat):mkT f n (k+1) o s=if o < n then .nd (f o) (mkT f n k (o+s) (s+s)) (mkT f n k (o+s+s) (s+s)) else .lf:=by
 show (match Nat.blt o n with
  | true=>Fr.nd (f o) (mkT f n k (o+s) (s+s)) (mkT f n k (o+s+s) (s+s))
  | false=>.lf)=_
 split
 ·rename_i e;rw [if_pos (show o < n from Nat.le_of_ble_eq_true e)]
 ·rename_i e
  rw [if_neg fun h=>?_]
  have:Nat.blt o n=true:=Nat.ble_eq_true_of_le h
  rw [e] at this;cases this
theorem jda (f:Nat→AV) (n:Nat):∀ k o s i,(i < k→o+s * i < n→oT (mkT f n k o s) i=some (f (o+s * i)))∧(n≤o+s * i→oT (mkT f n k o s) i=none)
 | 0,o,s,i=>⟨fun h=>by omega,fun _=>rfl⟩
 | k+1,o,s,0=>by
  rw [jkZ]
  exact ⟨fun _ h=>by rw [if_pos (show o < n from by omega)];rfl,fun h=>by rw [if_neg (show ¬ o < n from by omega)];rfl⟩
 | k+1,o,s,m+1=>by
  rw [jkZ]
  by_cases hn:o < n
  ·rw [if_pos hn,jiP]
   by_cases h:m % 2=0
   ·rw [if_pos h]
    have e:o+s * (m+1)=o+s+(s+s) * (m / 2):=by
     have h2:m=2 * (m / 2):=by omega
     have h3:s * (m+1)=s * m+s:=Nat.mul_succ _ _
     have h4:s * m=2 * (s * (m / 2)):=by rw [← Nat.mul_left_comm,← h2]
     have h5:(s+s) * (m / 2)=s * (m / 2)+s * (m / 2):=Nat.add_mul _ _ _
     omega
    rw [e]
    exact ⟨fun h1 h2=>(jda f n k _ _ _).1 (by omega) h2,(jda f n k _ _ _).2⟩
   ·rw [if_neg h]
    have e:o+s * (m+1)=o+s+s+(s+s) * (m / 2):=by
     have h2:m+1=2 * (m / 2)+2:=by omega
     have h4:s * (m+1)=2 * (s * (m / 2))+s * 2:=by rw [h2,Nat.mul_add,Nat.mul_left_comm]
     have h5:(s+s) * (m / 2)=s * (m / 2)+s * (m / 2):=Nat.add_mul _ _ _
     omega
    rw [e]
    exact ⟨fun h1 h2=>(jda f n k _ _ _).1 (by omega) h2,(jda f n k _ _ _).2⟩
  ·rw [if_neg hn]
   exact ⟨fun _ h=>by omega,fun _=>rfl⟩
theorem jkY {f:Nat→AV} {n:Nat} {F:List AV} (hl:F.length=n) (h:∀ i,i < n→F.getD i .any=f i):RF (mkT f n n 0 1) F:=fun i=>by
 obtain ⟨h1,h2⟩:=jda f n n 0 1 i
 rw [Nat.one_mul,Nat.zero_add] at h1 h2
 by_cases hi:i < n
 ·rw [h1 hi hi,← h i hi,List.getElem?_eq_getElem (by omega),List.getD_eq_getElem?_getD,List.getElem?_eq_getElem (by omega)];rfl
 ·rw [h2 (by omega),List.getElem?_eq_none (by omega)]
def gA (F:List AV):Nat→AV:=List.rec (motive:=fun _=>Nat→AV) (fun _=>.any) (fun a _ ih i=>Nat.rec (motive:=fun _=>AV) a (fun j _=>ih j) i) F
theorem jjn:∀ (F:List AV) (i:Nat),gA F i=F.getD i .any
 | [],i=>rfl
 | a::F,0=>rfl
 | a::F,i+1=>by show gA F i=_;rw [jjn F i];rfl
def jhI {α:Type} (l:List α):Nat:=List.rec (motive:=fun _=>Nat) 0 (fun _ _ n=>Nat.succ n) l
theorem jbY {α:Type}:∀ l:List α,jhI l=l.length
 | []=>rfl
 | _::l=>by show Nat.succ (jhI l)=_;rw [jbY l];rfl
def eT (T:Fr) (x:Operand):AV:=match x with
 | .tmp t=>gT T t
 | .const v=>.raw v
 | .global g=>.raw (.pointer (some ⟨g,0,none⟩))
 | .func f=>.raw (.func (.func f) #[] #[])
theorem RF.ev {T:Fr} {F:List AV} (h:RF T F):eT T=evA F:=by funext x;cases x<;>first | exact h.get _ | rfl
def putF (T:Fr) (d:Option Tmp) (a:AV):Fr:=match d with
 | some d=>pT T d a
 | none=>T
theorem RF.putF {T:Fr} {F:List AV} (h:RF T F) (d:Option Tmp) (a:AV):RF (putF T d a) (jaw F d a):=by
 cases d with
 | some d=>exact h.put d a
 | none=>exact h
def gE (ev:Operand→AV) (x:Operand):AV:=match ev x with
 | .gd _ v=>v
 | v=>v
theorem jgc (F:List AV):gE (evA F)=evG F:=by
 funext x
 unfold gE evG
 cases evA F x<;>rfl
def uE (ev:Operand→AV) (x:Operand):Bool:=match ev x with
 | .gd p _=>p
 | _=>true
theorem jil (F:List AV) (x:Operand):uE (evA F) x=(unG (evA F x)).1:=by
 unfold uE
 cases evA F x<;>rfl
def okE (ev:Operand→AV) (o:Op):Bool:=o.operands.toList.all fun x=>uE ev x
theorem jev (F:List AV) (o:Op):okE (evA F) o=okG F o:=by
 unfold okE okG
 congr 1
 funext x
 exact jil F x
-- operations
def eqU:List UInt8→List UInt8→Bool
 | [],[]=>true
 | a::l,b::m=>match Nat.beq a.toNat b.toNat with
  | true=>eqU l m
  | false=>false
 | _,_=>false
theorem jiC:∀ (l m:List UInt8),eqU l m=decide (l=m)
 | [],[]=>rfl
 | [],_::_=>rfl
 | _::_,[]=>rfl
 | a::l,b::m=>by
  unfold eqU
  split
  ·rename_i h
   have:a=b:=UInt8.toNat.inj (Nat.eq_of_beq_eq_true h)
   subst this
   rw [jiC l m];simp
  ·rename_i h
   have:a≠b:=fun e=>by subst e;rw [Nat.beq_refl] at h;cases h
   simp [this]
def eqS (a b:ByteArray):Bool:=match a,b with
 | ⟨⟨l⟩⟩,⟨⟨m⟩⟩=>eqU l m
theorem jiB (a b:ByteArray):eqS a b=decide (a=b):=by
 obtain ⟨⟨l⟩⟩:=a
 obtain ⟨⟨m⟩⟩:=b
 show eqU l m=_
 rw [jiC];simp
def rb (b:Bool):Option AV:=fB b fun b=>some (.raw (.bool b))
theorem jjA (b:Bool):rb b=some (.raw (.bool b)):=jkC _ _
def ri (k:IntKind) (n:Int):Option AV:=fI n fun n=>some (.raw (.int k n))
theorem jmE (k:IntKind) (n:Int):ri k n=some (.raw (.int k n)):=jkG _ _
def jlJ (op:BinOp):IntKind→Int→Int→Option AV:=match op with
 | .add=>fun k a b=>ri k (k.wrap (a+b))
 | .sub=>fun k a b=>ri k (k.wrap (a - b))
 | .mul=>fun k a b=>ri k (k.wrap (a * b))
 | .eql=>fun _ a b=>rb (decide (a=b))
 | .neq=>fun _ a b=>rb (!decide (a=b))
 | .lss=>fun _ a b=>rb (decide (a < b))
 | .leq=>fun _ a b=>rb (decide (a≤b))
 | .gtr=>fun _ a b=>rb (decide (b < a))
 | .geq=>fun _ a b=>rb (decide (b≤a))
 | _=>fun _ _ _=>none
theorem jjg {op:BinOp} {k:IntKind} {a b:Int} {r:AV} (h:jlJ op k a b=some r):(jiQ op k a k b).1∧(jiQ op k a k b).2=r:=by
 cases op<;>first
  | (cases h;done)
  | (simp only [jlJ,jmE,Option.some.injEq] at h;exact ⟨rfl,h⟩)
  | (simp only [jlJ,jjA,Option.some.injEq] at h;exact ⟨rfl,h⟩)
def jeh {α:Type} (b:Bool) (x:Option α):Option α:=match b with
 | true=>x
 | false=>none
theorem jaI {α:Type} {b:Bool} {x:Option α} {y:α} (h:jeh b x=some y):b=true∧x=some y:=by
 cases b
 ·cases h
 ·exact ⟨rfl,h⟩
theorem jgF {a b:Nat} (h:Nat.ble a b=true):a≤b:=Nat.le_of_ble_eq_true h
def jm1 (a b:ByteArray):Option AV:=match a,b with
 | ⟨⟨l⟩⟩,⟨⟨m⟩⟩=>jeh (Nat.ble (jhI l+jhI m) 9223372036854775807) (fSp (l++m) fun l=>some (.raw (.string ⟨⟨l⟩⟩)))
theorem jjf {a b:ByteArray} {r:AV} (h:jm1 a b=some r):(jhK .add a b).1∧(jhK .add a b).2=r:=by
 obtain ⟨⟨l⟩⟩:=a
 obtain ⟨⟨m⟩⟩:=b
 obtain ⟨h1,h2⟩:=jaI h
 rw [jfG] at h2
 cases h2
 rw [jbY,jbY] at h1
 refine ⟨jgF h1,?_⟩
 show AV.raw (.string _)=AV.raw (.string _)
 congr 2
def jmm (op:BinOp):ByteArray→ByteArray→Option AV:=match op with
 | .eql=>fun a b=>rb (eqS a b)
 | .neq=>fun a b=>rb (!eqS a b)
 | .add=>fun a b=>jm1 a b
 | _=>fun _ _=>none
theorem jjj {op:BinOp} {a b:ByteArray} {r:AV} (h:jmm op a b=some r):(jhK op a b).1∧(jhK op a b).2=r:=by
 cases op<;>first
  | (cases h;done)
  | exact jjf h
  | (simp only [jmm,jjA,jiB,Option.some.injEq] at h;exact ⟨trivial,h⟩)
def fV1 (op:BinOp) (v:Value):Value→Option AV:=match v with
 | .int k a=>fun w=>match w with
  | .int k' b=>match decide (k=k') with
   | true=>jlJ op k a b
   | false=>none
  | _=>none
 | .string a=>fun w=>match w with
  | .string b=>jmm op a b
  | _=>none
 | _=>fun _=>none
def jmi (op:BinOp) (x:AV):AV→Option AV:=match x with
 | .raw v=>fun y=>match y with
  | .raw w=>fV1 op v w
  | _=>none
 | _=>fun _=>none
theorem jgK {P:Program} {op:BinOp} {t:TypeId} {x y r:AV} (h:jmi op x y=some r):((jb5 P op t x y).1∧(jb5 P op t x y).2=r)∧∃ v w,x=.raw v∧y=.raw w∧(v≠.slice none 0 0∧w≠.slice none 0 0):=by
 unfold jmi at h
 split at h
 ·rename_i v
  split at h
  ·rename_i w
   unfold fV1 at h
   split at h
   ·split at h
    ·split at h
     ·rename_i e
      have:=of_decide_eq_true e
      subst this
      exact ⟨jjg h,_,_,rfl,rfl,by simp,by simp⟩
     ·cases h
    ·cases h
   ·split at h
    ·exact ⟨jjj h,_,_,rfl,rfl,by simp,by simp⟩
    ·cases h
   ·cases h
  ·cases h
 ·cases h
def jml (op:UnOp) (x:AV):Option AV:=match op with
 | .not=>match x with
  | .raw v=>match v with
   | .bool b=>rb (!b)
   | _=>none
  | _=>none
 | _=>none
theorem jji {op:UnOp} {x r:AV} (h:jml op x=some r):(qUn op x).1∧(qUn op x).2=r:=by
 unfold jml at h
 split at h
 ·split at h
  ·split at h
   ·rw [jjA] at h;cases h;exact ⟨trivial,rfl⟩
   ·cases h
  ·cases h
 ·cases h
def fFa (P:Program) (t:TypeId) (f:Nat) (a:AV):Option AV:=match a with
 | .ip cs=>match jgL P t f with
  | some off=>some (.ip (cs.drop off))
  | none=>none
 | .pt i m k j=>match jgL P t f with
  | some off=>some (.pt i m k (j+off))
  | none=>none
 | _=>none
theorem jkE {P:Program} {t:TypeId} {f:Nat} {a r:AV} (h:fFa P t f a=some r):(jaq P t a f).1∧(jaq P t a f).2=r:=by
 unfold fFa at h
 unfold jaq
 split at h
 ·split at h<;>cases h
  rename_i e
  simp only [e];exact ⟨trivial,trivial⟩
 ·split at h<;>cases h
  rename_i e
  simp only [e];exact ⟨trivial,trivial⟩
 ·cases h
def isO (o:Option Nat) (n:Nat):Bool:=match o with
 | some m=>Nat.beq m n
 | none=>false
theorem jiK {o:Option Nat} {n:Nat} (h:isO o n=true):o=some n:=by
 unfold isO at h
 split at h
 ·rw [Nat.eq_of_beq_eq_true h]
 ·cases h
def jk1 (i:AV):Option Nat:=match i with
 | .raw v=>match v with
  | .int _ n=>match n with
   | .ofNat n=>some n
   | .negSucc _=>none
  | _=>none
 | _=>none
theorem jfc {i:AV} {n:Nat} (h:jk1 i=some n):∃ k,i=.raw (.int k (n:Int)):=by
 unfold jk1 at h
 split at h
 ·split at h
  ·split at h<;>cases h
   exact ⟨_,rfl⟩
  ·cases h
 ·cases h
def fIx (P:Program) (t:TypeId) (a i:AV):Option AV:=match jk1 i with
 | some n=>match a with
  | .sl _ sz css d=>jeh (isO (jei P t) sz) (jeh (Nat.blt n css.length) (some (.ip (css.getD n d))))
  | .rs d m sz k=>jeh (isO (jei P t) sz) (jeh (Nat.blt n k) (some (.pt d m n 0)))
  | _=>none
 | none=>none
theorem jgG {a b:Nat} (h:Nat.blt a b=true):a < b:=Nat.le_of_ble_eq_true h
theorem jkI {P:Program} {t:TypeId} {a i r:AV} (h:fIx P t a i=some r):(jaD P t a i).1∧(jaD P t a i).2=r:=by
 unfold fIx at h
 split at h
 ·rename_i n e
  obtain ⟨k,rfl⟩:=jfc e
  split at h
  ·obtain ⟨h1,h2⟩:=jaI h
   obtain ⟨h3,h4⟩:=jaI h2
   cases h4
   refine ⟨⟨jiK h1,by omega,by have:=jgG h3;omega⟩,rfl⟩
  ·obtain ⟨h1,h2⟩:=jaI h
   obtain ⟨h3,h4⟩:=jaI h2
   cases h4
   refine ⟨⟨jiK h1,by omega,by have:=jgG h3;omega⟩,rfl⟩
  ·cases h
 ·cases h
def jlO (l:List UInt8):Nat→Option UInt8:=List.rec (motive:=fun _=>Nat→Option UInt8) (fun _=>none) (fun a _ ih i=>Nat.rec (motive:=fun _=>Option UInt8) (some a) (fun j _=>ih j) i) l
theorem jgZ:∀ (l:List UInt8) (i:Nat),jlO l i=l[i]?
 | [],i=>by simp [jlO]
 | a::l,0=>rfl
 | a::l,i+1=>by show jlO l i=_;rw [jgZ l i];simp
def fId (P:Program) (t:TypeId) (a i:AV):Option AV:=match jk1 i with
 | some n=>match a with
  | .raw v=>match v with
   | .string s=>match s with
    | ⟨⟨l⟩⟩=>match jlO l n with
     | some b=>jeh (jbW P t) (fN b.toNat fun n=>some (.raw (.int .u8 (Int.ofNat n))))
     | none=>none
   | _=>none
  | _=>none
 | none=>none
theorem jkH {P:Program} {t:TypeId} {a i r:AV} (h:fId P t a i=some r):(jbB P t a i).1∧(jbB P t a i).2=r:=by
 unfold fId at h
 split at h
 ·rename_i n e
  obtain ⟨k,rfl⟩:=jfc e
  split at h
  ·split at h
   ·split at h
    rename_i l
    split at h
    ·rename_i b e2
     obtain ⟨h1,h2⟩:=jaI h
     rw [ja3] at h2
     cases h2
     rw [jgZ] at e2
     have hl:n < l.length:=by
      rcases Nat.lt_or_ge n l.length with h | h
      ·exact h
      ·rw [List.getElem?_eq_none h] at e2;cases e2
     refine ⟨⟨h1,by omega,?_⟩,?_⟩
     ·show (n:Int) < (l.length:Int)
      omega
     ·show AV.raw (.int .u8 (jbS _ _))=_
      unfold jbS
      have:(((⟨⟨l⟩⟩:ByteArray).data)[(n:Int).toNat]?)=some b:=by
       show (⟨l⟩:Array UInt8)[n]?=some b
       rw [← e2];simp
      rw [this];rfl
    ·cases h
   ·cases h
  ·cases h
 ·cases h
def jlP (o:Option AV) (d:Nat):Option Nat:=match o with
 | none=>some d
 | some x=>jk1 x
def fSl (P:Program) (t:TypeId) (lo hi mx:Option AV) (a:AV):Option AV:=match mx with
 | none=>match a with
  | .raw v=>match v with
   | .string s=>match s with
    | ⟨⟨l⟩⟩=>match jlP lo 0 with
     | some i=>match jlP hi (jhI l) with
      | some j=>jeh (jbW P t) (jeh (Nat.ble i j) (jeh (Nat.ble j (jhI l)) (fSp (List.take (j - i) (List.drop i l)) fun l=>some (.raw (.string ⟨⟨l⟩⟩)))))
      | none=>none
     | none=>none
   | _=>none
  | _=>none
 | some _=>none
theorem jg0 {o:Option AV} {d n:Nat} (h:jlP o d=some n):∃ x:Option Int,jbA o=some x∧x.getD (d:Int)=(n:Int):=by
 unfold jlP at h
 split at h
 ·cases h;exact ⟨none,rfl,rfl⟩
 ·obtain ⟨k,rfl⟩:=jfc h
  exact ⟨some n,rfl,rfl⟩
theorem jkK {P:Program} {t:TypeId} {a r:AV} {lo hi mx:Option AV} (h:fSl P t lo hi mx a=some r):(jbs P t a lo hi mx).1∧(jbs P t a lo hi mx).2=r:=by
 unfold fSl at h
 split at h
 ·split at h
  ·split at h
   ·split at h
    rename_i l
    split at h
    ·rename_i i e1
     split at h
     ·rename_i j e2
      obtain ⟨h1,h2⟩:=jaI h
      obtain ⟨h3,h4⟩:=jaI h2
      obtain ⟨h5,h6⟩:=jaI h4
      rw [jfG] at h6
      cases h6
      rw [jbY] at h5 e2
      obtain ⟨x,e3,e4⟩:=jg0 e1
      obtain ⟨y,e5,e6⟩:=jg0 e2
      have h3:=jgF h3
      have h5:=jgF h5
      have hs:(⟨⟨l⟩⟩:ByteArray).size=l.length:=rfl
      unfold jbs
      simp only [e3,e5,show jbA none=some none from rfl]
      have e4':x.getD 0=(i:Int):=e4
      simp only [e4',hs,e6]
      refine ⟨⟨h1,by omega,by omega,by omega⟩,?_⟩
      rw [show ((j:Int)).toNat=j from rfl,show ((i:Int)).toNat=i from rfl]
      congr 2
      apply ByteArray.ext
      apply Array.ext'
      simp
     ·cases h
    ·cases h
   ·cases h
  ·cases h
 ·cases h
def jmk (P:Program) (t:TypeId) (x:AV):Option AV:=match x with
 | .sl _ _ css _=>jeh (jai P t) (fN (jhI css) fun n=>some (.raw (.int .i64 (Int.ofNat n))))
 | .rs _ _ _ n=>jeh (jai P t) (some (.raw (.int .i64 (Int.ofNat n))))
 | .raw v=>match v with
  | .string s=>match s with
   | ⟨⟨l⟩⟩=>jeh (jbW P t) (fN (jhI l) fun n=>some (.raw (.int .i64 (Int.ofNat n))))
  | _=>none
 | _=>none
theorem jjh {P:Program} {H:Hp} {t:TypeId} {x r:AV} (h:jmk P t x=some r):(jg4 P H t x).1∧(jg4 P H t x).2=r:=by
 unfold jmk at h
 split at h
 ·obtain ⟨h1,h2⟩:=jaI h
  rw [ja3,jbY] at h2
  cases h2;exact ⟨h1,rfl⟩
 ·obtain ⟨h1,h2⟩:=jaI h
  cases h2;exact ⟨h1,rfl⟩
 ·split at h
  ·split at h
   obtain ⟨h1,h2⟩:=jaI h
   rw [ja3,jbY] at h2
   cases h2;exact ⟨h1,rfl⟩
  ·cases h
 ·cases h
def fEx (i:Nat) (a:AV):Option AV:=match a with
 | .tup vs=>jeh (Nat.blt i vs.length) (some (gA vs i))
 | _=>none
theorem jkD {i:Nat} {a r:AV} (h:fEx i a=some r):(jaM a i).1∧(jaM a i).2=r:=by
 unfold fEx at h
 split at h
 ·obtain ⟨h1,h2⟩:=jaI h
  cases h2
  exact ⟨jgG h1,(jjn _ _).symm⟩
 ·cases h
def fCl (P:Program) (c:Call):(Operand→AV)→Option AV:=match c with
 | ⟨f,⟨as⟩,⟨ts⟩⟩=>match f with
  | .builtin b=>match b with
   | .len=>match as with
    | x::_=>match ts with
     | t::_=>fun ev=>jmk P t (ev x)
     | _=>fun _=>none
    | _=>fun _=>none
   | _=>fun _=>none
  | _=>fun _=>none
def fUn (a:AV):Option AV:=match a with
 | .gd p x=>jeh p (some x)
 | x=>some x
theorem jiG {a r:AV} (h:fUn a=some r):unG a=(true,r):=by
 cases a with
 | gd p x=>cases p<;>simp_all [fUn,jeh,unG]
 | _=>simp_all [fUn,unG]
theorem jjz {a b r:AV} (h:unG a=(true,r)):(jaT (.raw (.bool true)) a b).1∧(jaT (.raw (.bool true)) a b).2=r:=by
 unfold jaT;split<;>simp_all [jdG,jjb]
theorem jjy {a b r:AV} (h:unG b=(true,r)):(jaT (.raw (.bool false)) a b).1∧(jaT (.raw (.bool false)) a b).2=r:=by
 unfold jaT;split<;>simp_all [jdG,jjb]
def fPk (c a b:AV):Option AV:=match c with
 | .raw v=>match v with
  | .bool c=>match c with
   | true=>fUn a
   | false=>fUn b
  | _=>none
 | _=>none
theorem jiF {c a b r:AV} (h:fPk c a b=some r):(jaT c a b).1∧(jaT c a b).2=r:=by
 unfold fPk at h
 split at h
 ·split at h
  ·split at h
   ·exact jjz (jiG h)
   ·exact jjy (jiG h)
  ·cases h
 ·cases h
def xf (o:Op):Program→(Operand→AV)→Hp→Option AV:=match o with
 | .move x=>fun _ ev _=>some (ev x)
 | .assign x=>fun _ ev _=>some (ev x)
 | .binOp op _ x y _=>fun _ ev _=>jmi op (ev x) (ev y)
 | .unOp op _ x=>fun _ ev _=>jml op (ev x)
 | .load t a=>fun P ev H=>jio P H t (ev a)
 | .fieldAddr t a f=>fun P ev _=>fFa P t f (ev a)
 | .indexAddr t a i=>fun P ev _=>fIx P t (ev a) (ev i)
 | .index t a i=>fun P ev _=>fId P t (ev a) (ev i)
 | .extract a i=>fun _ ev _=>fEx i (ev a)
 | .slice t a lo hi mx=>fun P ev _=>fSl P t (lo.map ev) (hi.map ev) (mx.map ev) (ev a)
 | .call c=>fun P ev _=>fCl P c ev
 | .pick c a b=>fun _ ev _=>fPk (ev c) (ev a) (ev b)
 | _=>fun _ _ _=>none
theorem jiD {P:Program} {c:Call} {ev:Operand→AV} {H:Hp} {r:AV} (h:fCl P c ev=some r):∃ a t,c=⟨.builtin .len,a,t⟩∧(vq P ev H (.call c)).1∧(vq P ev H (.call c)).2=r:=by
 obtain ⟨f,⟨as⟩,⟨ts⟩⟩:=c
 unfold fCl at h
 simp only at h
 split at h
 ·split at h
  ·split at h
   ·split at h
    ·exact ⟨_,_,rfl,jjh h⟩
    ·cases h
   ·cases h
  ·cases h
 ·cases h
theorem jjT {P:Program} {o:Op} {ev:Operand→AV} {H:Hp} {r:AV} (h:xf o P ev H=some r):((vq P ev H o).1∧(vq P ev H o).2=r)∧jad o=true∧jan o=false:=by
 unfold xf at h
 split at h
 ·cases h;exact ⟨⟨trivial,rfl⟩,rfl,rfl⟩
 ·cases h;exact ⟨⟨trivial,rfl⟩,rfl,rfl⟩
 ·rename_i op _ _ _ _
  exact ⟨(jgK h).1,by cases op<;>rfl,rfl⟩
 ·exact ⟨jji h,rfl,rfl⟩
 ·exact ⟨jfX h,rfl,rfl⟩
 ·exact ⟨jkE h,rfl,rfl⟩
 ·exact ⟨jkI h,rfl,rfl⟩
 ·exact ⟨jkH h,rfl,rfl⟩
 ·exact ⟨jkD h,rfl,rfl⟩
 ·exact ⟨jkK h,rfl,rfl⟩
 ·obtain ⟨a,t,rfl,h1⟩:=jiD (H:=H) h
  exact ⟨h1,rfl,rfl⟩
 ·exact ⟨jiF h,rfl,rfl⟩
 ·cases h
theorem jlx {P:Program} {o:Op} {ev:Operand→AV} {H:Hp} {r:AV} {ty:TypeId} {K:AV→Hp→Prop} (h:xf o P ev H=some r) (k:K r H):vc P ev H ty K o:=by
 by_cases hq:jac o=true
 ·obtain ⟨⟨h1,h2⟩,_⟩:=jjT h
  rw [jee hq]
  exact ⟨h1,h2 ▸ k⟩
 ·unfold xf at h
  split at h
  case h_3=>
   rename_i op t x y t'
   obtain ⟨⟨h1,h2⟩,v,w,h3,h4,h5,h6⟩:=jgK (P:=P) (t:=t) h
   cases op<;>first
    | exact (hq rfl).elim
    | (show jbk P _ t (ev x) (ev y) H K;unfold jbk;rw [h3,h4] at h1 h2 ⊢;exact ⟨h1,h2 ▸ k⟩)
  case h_11=>
   obtain ⟨a,t,rfl,h1⟩:=jiD (H:=H) h
   exact (hq rfl).elim
  all_goals first | exact (hq rfl).elim | cases h
def okF (o:Op):(Operand→AV)→Bool:=match o with
 | .move x=>fun ev=>uE ev x
 | .assign x=>fun ev=>uE ev x
 | .binOp _ _ x y _=>fun ev=>uE ev x && uE ev y
 | .unOp _ _ x=>fun ev=>uE ev x
 | .load _ a=>fun ev=>uE ev a
 | .fieldAddr _ a _=>fun ev=>uE ev a
 | .indexAddr _ a i=>fun ev=>uE ev a && uE ev i
 | .index _ a i=>fun ev=>uE ev a && uE ev i
 | .extract a _=>fun ev=>uE ev a
 | .slice t a lo hi mx=>fun ev=>okE ev (.slice t a lo hi mx)
 | .call c=>fun ev=>okE ev (.call c) && !jcB (.call c)
 | _=>fun _=>false
theorem jk2 {o:Op} {F:List AV} (h:okF o (evA F)=true):okG F o=true∧jcB o=false:=by
 cases o<;>first
  | (cases h;done)
  | exact ⟨(jev F _).symm.trans h,rfl⟩
  | (simpa [okF,jev] using h)
  | (refine ⟨?_,rfl⟩;simpa [okF,okG,Op.operands,jil] using h)
def xfG (o:Op):Program→(Operand→AV)→Hp→Option AV:=match o with
 | .pick c a b=>fun _ ev _=>jeh (uE ev c) (fPk (gE ev c) (ev a) (ev b))
 | o=>fun P ev H=>jeh (okF o ev) (xf o P (gE ev) H)
theorem ji2 {P:Program} {o:Op} {F:List AV} {H:Hp} {r:AV} {K:AV→Prop} (h:xfG o P (evA F) H=some r) (k:K (.gd true r)):vcG P F H true K o∧jan o=false∧jad o=true:=by
 unfold xfG at h
 split at h
 ·obtain ⟨h1,h2⟩:=jaI h
  rw [jgc] at h2
  rw [jil] at h1
  obtain ⟨h3,h4⟩:=jiF h2
  exact ⟨⟨fun _=>⟨h1,h3⟩,h4 ▸ k⟩,rfl,rfl⟩
 ·obtain ⟨h1,h2⟩:=jaI h
  obtain ⟨h3,h4⟩:=jk2 h1
  rw [jgc] at h2
  obtain ⟨⟨h5,h6⟩,h7,h8⟩:=jjT h2
  rw [jbl _ h8 h4,if_pos h7]
  exact ⟨⟨fun _=>⟨h3,h5⟩,h6 ▸ k⟩,h8,h7⟩
def xsk (o:Op):Bool:=match o with
 | .move _=>true
 | .assign _=>true
 | .binOp ..=>true
 | .unOp ..=>true
 | .load ..=>true
 | .fieldAddr ..=>true
 | .indexAddr ..=>true
 | .index ..=>true
 | .extract ..=>true
 | _=>false
theorem ji4 {P:Program} {o:Op} {F:List AV} {H:Hp} {K:AV→Prop} (h:xsk o=true) (k:K (.gd false (vq P (gE (evA F)) H o).2)):vcG P F H false K o∧jan o=false∧jad o=true:=by
 rw [jgc] at k
 unfold xsk at h
 split at h<;>first
  | (cases h;done)
  | exact ⟨⟨fun e=>(by cases e),k⟩,rfl,rfl⟩
  | (rename_i op _ _ _ _;cases op<;>exact ⟨⟨fun e=>(by cases e),k⟩,rfl,rfl⟩)
def gB (ops:Array Oper) (T:Fr) (j:Nat) (want:Bool):Option Bool:=match (ops[j]?).bind (·.dst) with
 | some d=>match gT T d with
  | .raw v=>match v with
   | .bool b=>some (b == want)
   | _=>none
  | .gd g x=>match x with
   | .raw v=>match v with
    | .bool b=>some (g && (b == want))
    | _=>none
   | _=>none
  | _=>none
 | none=>none
theorem jiI {T:Fr} {F:List AV} (hT:RF T F) {i:Nat} {a:AV} (h:gT T i=a) (ha:a≠.any):F[i]?=some a:=by
 rw [hT.get,List.getD_eq_getElem?_getD] at h
 cases e:F[i]? with
 | none=>rw [e] at h;exact (ha h.symm).elim
 | some b=>rw [e] at h;exact congrArg some h
theorem jh3 {ops:Array Oper} {T:Fr} {F:List AV} (hT:RF T F) {j:Nat} {want b:Bool} (h:gB ops T j want=some b):ja4 ops F j want=some b:=by
 unfold gB at h
 unfold ja4
 split at h
 ·rename_i d e
  simp only [e]
  split at h
  ·rename_i v e1
   have:=jiI hT e1 (by simp)
   split at h
   ·rw [this];exact h
   ·cases h
  ·rename_i g x e1
   have:=jiI hT e1 (by simp)
   split at h
   ·split at h
    ·rw [this];exact h
    ·cases h
   ·cases h
  ·cases h
 ·cases h
-- alike, at once
def an (a b:Bool):Bool:=match a with
 | true=>b
 | false=>false
theorem jcl {a b:Bool} (h:an a b=true):a=true∧b=true:=by
 cases a
 ·cases h
 ·exact ⟨rfl,h⟩
def vQ (v:Value):Value→Bool:=match v with
 | .int k a=>fun w=>match w with
  | .int l b=>an (decide (k=l)) (decide (a=b))
  | _=>false
 | .string a=>fun w=>match w with
  | .string b=>eqS a b
  | _=>false
 | .bool a=>fun w=>match w with
  | .bool b=>a == b
  | _=>false
 | v=>vEq v
theorem jmI {v w:Value} (h:vQ v w=true):v=w:=by
 unfold vQ at h
 split at h
 ·split at h
  ·obtain ⟨h1,h2⟩:=jcl h
   rw [of_decide_eq_true h1,of_decide_eq_true h2]
  ·cases h
 ·split at h
  ·rw [jiB] at h
   rw [of_decide_eq_true h]
  ·cases h
 ·split at h
  ·rw [eq_of_beq h]
  ·cases h
 ·exact jhi h
def aQ (a:AV):AV→Bool:=match a with
 | .raw v=>fun b=>match b with
  | .raw w=>vQ v w
  | _=>false
 | .any=>fun b=>match b with
  | .any=>true
  | _=>false
 | .pt i m k j=>fun b=>match b with
  | .pt i' m' k' j'=>an (Nat.beq i i') (an (Nat.beq m m') (an (Nat.beq k k') (Nat.beq j j')))
  | _=>false
 | .rs i m k j=>fun b=>match b with
  | .rs i' m' k' j'=>an (Nat.beq i i') (an (Nat.beq m m') (an (Nat.beq k k') (Nat.beq j j')))
  | _=>false
 | a=>aEq a
theorem jkr {a b:AV} (h:aQ a b=true):a=b:=by
 unfold aQ at h
 split at h
 ·split at h
  ·rw [jmI h]
  ·cases h
 ·split at h
  ·rfl
  ·cases h
 ·split at h
  ·obtain ⟨h1,h2⟩:=jcl h
   obtain ⟨h3,h4⟩:=jcl h2
   obtain ⟨h5,h6⟩:=jcl h4
   rw [Nat.eq_of_beq_eq_true h1,Nat.eq_of_beq_eq_true h3,Nat.eq_of_beq_eq_true h5,Nat.eq_of_beq_eq_true h6]
  ·cases h
 ·split at h
  ·obtain ⟨h1,h2⟩:=jcl h
   obtain ⟨h3,h4⟩:=jcl h2
   obtain ⟨h5,h6⟩:=jcl h4
   rw [Nat.eq_of_beq_eq_true h1,Nat.eq_of_beq_eq_true h3,Nat.eq_of_beq_eq_true h5,Nat.eq_of_beq_eq_true h6]
  ·cases h
 ·exact jfy _ _ h
def lQ {α:Type} (q:α→α→Bool) (l:List α):List α→Bool:=List.rec (motive:=fun _=>List α→Bool) (fun m=>match m with
 | []=>true
 | _=>false) (fun a _ ih m=>match m with
 | []=>false
 | b::m=>match q a b with
  | true=>ih m
  | false=>false) l
theorem jgd {α:Type} {q:α→α→Bool} (hq:∀ {a b},q a b=true→a=b):∀ {l m:List α},lQ q l m=true→l=m
 | [],[],_=>rfl
 | [],_::_,h=>by cases h
 | _::_,[],h=>by cases h
 | a::l,b::m,h=>by
  change (match q a b with
   | true=>lQ q l m
   | false=>false)=true at h
  split at h
  ·rename_i e;rw [hq e,jgd hq h]
  ·cases h
def rQ (r:Row):Row→Bool:=match r with
 | .var t a=>fun s=>match s with
  | .var u b=>an (Nat.beq t u) (lQ aQ a b)
  | _=>false
 | .vec e s a=>fun r=>match r with
  | .vec f t b=>an (Nat.beq e f) (an (Nat.beq s t) (lQ (lQ aQ) a b))
  | _=>false
 | r=>rEq r
theorem jk8 {r s:Row} (h:rQ r s=true):r=s:=by
 unfold rQ at h
 split at h
 ·split at h
  ·obtain ⟨h1,h2⟩:=jcl h
   rw [Nat.eq_of_beq_eq_true h1,jgd (fun h=>jkr h) h2]
  ·cases h
 ·split at h
  ·obtain ⟨h1,h2⟩:=jcl h
   obtain ⟨h3,h4⟩:=jcl h2
   rw [Nat.eq_of_beq_eq_true h1,Nat.eq_of_beq_eq_true h3,jgd (fun h=>jgd (fun h=>jkr h) h) h4]
  ·cases h
 ·exact jiS h
def hQ (l m:List (Nat×Row)):Bool:=lQ (fun x y=>match x with
 | (i,r)=>match y with
  | (j,s)=>an (Nat.beq i j) (rQ r s)) l m
theorem jmy {l m:List (Nat×Row)} (h:hQ l m=true):l=m:=jgd (fun {a b} h=>by
 obtain ⟨i,r⟩:=a
 obtain ⟨j,s⟩:=b
 obtain ⟨h1,h2⟩:=jcl h
 rw [Nat.eq_of_beq_eq_true h1,jk8 h2]) h
def zQ (A:AS) (l:List (Nat×Row)):List (Nat×Row)→Bool:=List.rec (motive:=fun _=>List (Nat×Row)→Bool) (fun _=>true) (fun x _ ih m=>match m with
 | []=>false
 | y::m=>match x with
  | (i,r)=>match y with
   | (j,s)=>match Nat.beq i j with
    | true=>match A.1.contains i with
     | true=>ih m
     | false=>match rQ r s with
      | true=>ih m
      | false=>false
    | false=>false) l
theorem jj0 {A:AS}:∀ {l m:List (Nat×Row)},zQ A l m=true→∀ {i:Nat} {r:Row},A.1.contains i=false→jaQ l i=some r→jaQ m i=some r
 | [],_,_,i,r,_,hg=>by cases hg
 | (k,s)::l,[],h,_,_,_,_=>by cases h
 | (k,s)::l,(j,t)::m,h,i,r,ha,hg=>by
  change (match Nat.beq k j with
    | true=>match A.1.contains k with
     | true=>zQ A l m
     | false=>match rQ s t with
      | true=>zQ A l m
      | false=>false
    | false=>false)=true at h
  split at h
  ·rename_i e
   have e:=Nat.eq_of_beq_eq_true e
   subst e
   simp only [jaQ] at hg ⊢
   split at h
   ·rename_i e2
    split at hg
    ·rename_i e3;subst e3;rw [ha] at e2;cases e2
    ·rename_i e3
     rw [if_neg e3];exact jj0 h ha hg
   ·split at h
    ·rename_i e2
     have e2:=jk8 e2
     subst e2
     split at hg
     ·rename_i e3;rw [if_pos e3];exact hg
     ·rename_i e3;rw [if_neg e3];exact jj0 h ha hg
    ·cases h
  ·cases h
-- what names nothing
def nA (q:Nat→Bool) (a:AV):Bool:=match a with
 | .raw _=>true
 | .any=>true
 | .sl ..=>true
 | .pt i _ _ _=>q i
 | .rs i _ _ _=>q i
 | a=>a.all q
theorem jk0 {q:Nat→Bool} {a:AV} (h:nA q a=true):a.all q=true:=by
 unfold nA at h
 split at h
 ·unfold AV.all;rfl
 ·unfold AV.all;rfl
 ·unfold AV.all;rfl
 ·unfold AV.all;exact h
 ·unfold AV.all;exact h
 ·exact h
def evB {α:Type} (q:α→Bool) (l:List α):Bool:=List.rec (motive:=fun _=>Bool) true (fun a _ ih=>match q a with
 | true=>ih
 | false=>false) l
theorem jdx {α:Type} {q:α→Bool}:∀ {l:List α},evB q l=true→∀ x∈l,q x=true
 | [],_,x,hx=>by cases hx
 | a::l,h,x,hx=>by
  change (match q a with
   | true=>evB q l
   | false=>false)=true at h
  split at h
  ·rename_i e
   rcases List.mem_cons.1 hx with rfl | hx
   ·exact e
   ·exact jdx h x hx
  ·cases h
theorem jdN {q:Nat→Bool}:∀ {l:List AV},(∀ x∈l,nA q x=true)→jaV q l=true
 | [],_=>by unfold jaV;rfl
 | a::l,h=>by
  unfold jaV
  rw [jk0 (h a (by simp)),jdN fun x hx=>h x (List.mem_cons_of_mem _ hx)];rfl
def nR (q:Nat→Bool) (r:Row):Bool:=match r with
 | .var _ cs=>evB (nA q) cs
 | .vec _ _ css=>evB (evB (nA q)) css
 | .mp _ vs=>jaV q vs
theorem jmz {q:Nat→Bool} {r:Row} (h:nR q r=true):jk9 q r:=by
 unfold nR at h
 split at h
 ·exact jdN (jdx h)
 ·exact fun cs hcs=>jdN (jdx (jdx h cs hcs))
 ·exact h
def stB (D:Nat→Bool) (l:List (Nat×Row)):Bool:=evB (fun x=>match x with
 | (j,r)=>match D j with
  | true=>true
  | false=>nR (jeu D) r) l
theorem jld {D:Nat→Bool} {l:List (Nat×Row)} (h:stB D l=true):jgm D l:=by
 have h1:=jdx h
 clear h
 induction l with
 | nil=>trivial
 | cons a l ih=>
  obtain ⟨j,r⟩:=a
  refine ⟨?_,ih fun x hx=>h1 x (List.mem_cons_of_mem _ hx)⟩
  have:=h1 (j,r) (by simp)
  simp only at this
  split at this
  ·rename_i e;exact .inl e
  ·exact .inr (jmz this)
end
noncomputable section
def jhy (x:Option (AV×Hp)) (H:Hp):Option AV:=match x with
 | some (r,H')=>match an (hQ H'.l H.l) (lQ Nat.beq H'.B H.B) with
  | true=>some r
  | false=>none
 | none=>none
theorem jeg {x:Option (AV×Hp)} {H:Hp} {r:AV} (h:jhy x H=some r):x=some (r,H):=by
 unfold jhy at h
 split at h
 ·rename_i r' H'
  split at h<;>cases h
  rename_i hc
  obtain ⟨h1,h2⟩:=jcl hc
  have h1:=jmy h1
  have h2:=jgd (fun h=>Nat.eq_of_beq_eq_true h) h2
  obtain ⟨B,l⟩:=H'
  obtain ⟨B',l'⟩:=H
  simp only at h1 h2
  rw [h1,h2]
 ·cases h
def xg (P:Program) (c:XC) (ev:Operand→AV) (H:Hp) (g:Bool) (o:Op):Option AV:=match o with
 | .call { callee:=.value f,args,argTypes }=>if g=true then (if okE ev (.call ⟨.value f,args,argTypes⟩)=true then jhy (jjZ c (gE ev f) (args.toList.map (gE ev)) H) H else none) else some .any
 | .call { callee:=.invoke f m,args,argTypes }=>if g=true then (if okE ev (.call ⟨.invoke f m,args,argTypes⟩)=true then jhy (jl7 P c (gE ev f) m (args.toList.map (gE ev)) H) H else none) else some (.raw (.int .i64 0))
 | .pick c a b=>if g=true then (if uE ev c=true then dP (jaT (gE ev c) (ev a) (ev b)) else none) else some (jaT (gE ev c) (ev a) (ev b)).2
 | o=>if jad o=true∧jan o=false∧jcB o=false then (if g=true then (if okE ev o=true then xq P (gE ev) H o else none) else some (vq P (gE ev) H o).2) else none
theorem jlA {P:Program} {c:XC} (hc:XOk P c) {F:List AV} {H:Hp} {g:Bool} {o:Op} {r:AV} (h:xg P c (evA F) H g o=some r) {K:AV→Prop} (k:K (.gd g r)):vcG P F H g K o:=by
 unfold xg at h
 simp only [jev,jgc,jil] at h
 split at h
 ·split at h
  ·rename_i e
   subst e
   split at h
   ·rename_i ho
    exact ⟨r,fun _=>⟨ho,jdh hc (jeg h) ⟨rfl,rfl⟩⟩,k⟩
   ·cases h
  ·rename_i e
   cases h
   exact ⟨.any,fun e'=>(e e').elim,k⟩
 ·split at h
  ·rename_i e
   subst e
   split at h
   ·rename_i ho
    exact ⟨r,fun _=>⟨ho,jhu hc (jeg h) ⟨rfl,rfl⟩⟩,k⟩
   ·cases h
  ·rename_i e
   cases h
   exact ⟨_,fun e'=>(e e').elim,k⟩
 ·split at h
  ·rename_i e
   subst e
   split at h
   ·rename_i ho
    obtain ⟨h1,h2⟩:=jje h
    exact ⟨fun _=>⟨ho,h1⟩,h2 ▸ k⟩
   ·cases h
  ·rename_i e
   cases h
   exact ⟨fun e'=>(e e').elim,k⟩
 ·split at h
  ·rename_i hq
   rw [jbl _ hq.2.1 hq.2.2,if_pos hq.1]
   split at h
   ·rename_i e
    subst e
    split at h
    ·rename_i ho
     obtain ⟨h1,h2⟩:=jjX h
     exact ⟨fun _=>⟨ho,h1⟩,h2 ▸ k⟩
    ·cases h
   ·rename_i e
    cases h
    exact ⟨fun e'=>(e e').elim,k⟩
  ·cases h
def xD (l:List Oper):List Nat:=l.filterMap fun o=>if (o.guard.isSome && jan o.op)=true then o.dst else none
def xs (c:XC) (ev:Operand→AV) (H:Hp):Op→Option (AV×Hp)
 | .call { callee:=.value f,args,.. }=>jjZ c (ev f) (args.toList.map ev) H
 | _=>none
theorem jmZ {P:Program} {c:XC} (hc:XOk P c) {ev:Operand→AV} {H:Hp} {o:Op} {y:AV×Hp} (h:xs c ev H o=some y) {K:AV→Hp→Prop} (k:K y.1 y.2):vcS P ev H K o:=by
 unfold xs at h
 split at h
 ·exact jdh hc h k
 ·cases h
def xcs (P:Program) (c:XC) (D:List Nat) (ops:Array Oper) (o:Oper) (T:Fr) (H:Hp):Option (Fr×Hp):=match o.guard with
  | none=>match xe P c (eT T) H o.op with
   | some y=>fR o.op y.1 fun r=>some (putF T o.dst r,y.2)
   | none=>none
  | some (j,want)=>match gB ops T j want with
   | some b=>if (inD D o.dst && jan o.op)=true then (if b=true then (if okE (eT T) o.op=true then (match xs c (gE (eT T)) H o.op with
      | some y=>fR o.op y.1 fun r=>some (putF T o.dst r,y.2)
      | none=>none) else none)
     else some (putF T o.dst (.gd false (.raw (.bool false))),H))
    else if (jan o.op || jad o.op)=true then (match xg P c (eT T) H b o.op with
     | some r=>some (putF T o.dst (.gd b r),H)
     | none=>none)
    else if b=true then (match xe P c (eT T) H o.op with
     | some y=>fR o.op y.1 fun r=>some (putF T o.dst r,y.2)
     | none=>none)
    else some (putF T o.dst .any,H)
   | none=>none
theorem jhs {P:Program} {c:XC} (hc:XOk P c) {D:List Nat} {ops:Array Oper} {K:List AV→Hp→Prop} {o:Oper} {rest:List Oper} {T:Fr} {F:List AV} (hT:RF T F) {H:Hp} {y:Fr×Hp} (h:xcs P c D ops o T H=some y) (k:∀ F',RF y.1 F'→jcT D P ops K rest F' y.2):jcT D P ops K (o::rest) F H:=by
  unfold xcs at h
  unfold jcT
  rw [hT.ev] at h
  simp only [jev,jgc] at h
  split at h
  ·rename_i e
   try simp only [e]
   split at h
   ·rename_i y e2
    rw [je4] at h
    cases h
    exact jis hc e2 (k _ (hT.putF _ _))
   ·cases h
  ·rename_i j want e
   try simp only [e]
   split at h
   ·rename_i b e2
    have e2:=jh3 hT e2
    try simp only [e2]
    split at h
    ·rename_i e0
     rw [if_pos e0]
     split at h
     ·rename_i e4
      subst e4
      split at h
      ·rename_i e5
       split at h
       ·rename_i y e6
        rw [je4] at h
        cases h
        exact ⟨fun _=>⟨e5,jmZ hc e6 (k _ (hT.putF _ _))⟩,fun e7=>by cases e7⟩
       ·cases h
      ·cases h
     ·rename_i e4
      cases h
      exact ⟨fun e5=>(e4 e5).elim,fun _=>k _ (hT.putF _ _)⟩
    ·rename_i e0
     rw [if_neg e0]
     split at h
     ·rename_i e3
      rw [if_pos e3]
      split at h
      ·rename_i r e4
       cases h
       exact jlA hc e4 (k _ (hT.putF _ _))
      ·cases h
     ·rename_i e3
      rw [if_neg e3]
      split at h
      ·rename_i e4
       subst e4
       split at h
       ·rename_i y e5
        rw [je4] at h
        cases h
        exact ⟨fun _=>jis hc e5 (k _ (hT.putF _ _)),fun e6=>by cases e6⟩
       ·cases h
      ·rename_i e4
       cases h
       exact ⟨fun e5=>(e4 e5).elim,fun _=>k _ (hT.putF _ _)⟩
   ·cases h
def xc1 (P:Program) (c:XC) (D:List Nat) (ops:Array Oper) (o:Oper) (T:Fr) (H:Hp):Option (Fr×Hp):=match o.guard with
  | none=>match xf o.op P (eT T) H with
   | some r=>some (putF T o.dst r,H)
   | none=>xcs P c D ops o T H
  | some (j,want)=>match gB ops T j want with
   | some true=>match xfG o.op P (eT T) H with
    | some r=>some (putF T o.dst (.gd true r),H)
    | none=>xcs P c D ops o T H
   | some false=>match xsk o.op with
    | true=>some (putF T o.dst (.gd false (vq P (gE (eT T)) H o.op).2),H)
    | false=>xcs P c D ops o T H
   | none=>none
theorem jlw {P:Program} {c:XC} (hc:XOk P c) {D:List Nat} {ops:Array Oper} {K:List AV→Hp→Prop} {o:Oper} {rest:List Oper} {T:Fr} {F:List AV} (hT:RF T F) {H:Hp} {y:Fr×Hp} (h:xc1 P c D ops o T H=some y) (k:∀ F',RF y.1 F'→jcT D P ops K rest F' y.2):jcT D P ops K (o::rest) F H:=by
  unfold xc1 at h
  split at h
  ·rename_i e
   split at h
   ·rename_i r e2
    cases h
    unfold jcT
    try simp only [e]
    rw [hT.ev] at e2
    exact jlx e2 (k _ (hT.putF _ _))
   ·exact jhs hc hT h k
  ·rename_i j want e
   split at h
   ·rename_i e1
    split at h
    ·rename_i r e2
     cases h
     unfold jcT
     try simp only [e]
     rw [jh3 hT e1]
     rw [hT.ev] at e2
     obtain ⟨h1,h2,h3⟩:=ji2 (K:=fun r=>jcT D P ops K rest (jaw F o.dst r) H) e2 (k _ (hT.putF _ _))
     simp only [h2,h3,Bool.and_false,Bool.false_eq_true,if_false,Bool.or_true,if_true]
     exact h1
    ·exact jhs hc hT h k
   ·rename_i e1
    split at h
    ·rename_i e2
     cases h
     rw [hT.ev] at k
     unfold jcT
     try simp only [e]
     rw [jh3 hT e1]
     obtain ⟨h1,h2,h3⟩:=ji4 (P:=P) (K:=fun r=>jcT D P ops K rest (jaw F o.dst r) H) e2 (k _ (hT.putF _ _))
     simp only [h2,h3,Bool.and_false,Bool.false_eq_true,if_false,Bool.or_true,if_true]
     exact h1
    ·exact jhs hc hT h k
   ·cases h
def xcl (P:Program) (c:XC) (D:List Nat) (ops:Array Oper) (l:List Oper):Fr→Hp→Option (Fr×Hp):=List.rec (motive:=fun _=>Fr→Hp→Option (Fr×Hp)) (fun T H=>some (T,H)) (fun o _ ih T H=>match xc1 P c D ops o T H with
  | some y=>ih y.1 y.2
  | none=>none) l
theorem ji1 {P:Program} {c:XC} (hc:XOk P c) {D:List Nat} {ops:Array Oper} {K:List AV→Hp→Prop}:∀ {l:List Oper} {T:Fr} {F:List AV} {H:Hp} {T':Fr} {H':Hp},RF T F→xcl P c D ops l T H=some (T',H')→(∀ F',RF T' F'→K F' H')→jcT D P ops K l F H
 | [],T,F,H,T',H',hT,h,k=>by cases h;exact k F hT
 | o::rest,T,F,H,T',H',hT,h,k=>by
  change (match xc1 P c D ops o T H with
   | some y=>xcl P c D ops rest y.1 y.2
   | none=>none)=some (T',H') at h
  split at h
  ·rename_i y e
   exact jlw hc hT e fun F' hF=>ji1 hc hF h k
  ·cases h
theorem jgV:∀ {l:List (Nat×Row)} {i:Nat} {r:Row},jaQ l i=some r→(i,r)∈l
 | [],_,_,h=>by cases h
 | (j,s)::l,i,r,h=>by
  simp only [jaQ] at h
  split at h
  ·rename_i e;subst e;cases h;simp
  ·exact List.mem_cons_of_mem _ (jgV h)
def fEq:Row→Row→Bool
 | .var t (_::a),.var u (_::b)=>t == u && jeV a b
 | _,_=>false
def xhl (A:AS) (H H':Hp):Bool:=H.l.all fun x=>A.1.contains x.1 || match H'.get x.1 with
 | some r=>rEq x.2 r || (A.1.contains (x.1+16) && fEq x.2 r)
 | none=>false
theorem jlB {A:AS} {H H':Hp} (h:xhl A H H'=true):HLx A H H':=fun i r ha hg=>by
 have:=List.all_eq_true.1 h (i,r) (jgV hg)
 simp only [ha,Bool.false_or] at this
 split at this
 ·rename_i s e
  rw [Bool.or_eq_true] at this
  rcases this with this | this
  ·rw [jiS this];exact .inl e
  ·rw [Bool.and_eq_true] at this
   obtain ⟨h1,h2⟩:=this
   unfold fEq at h2
   split at h2
   ·rename_i t c a u d b
    rw [Bool.and_eq_true,beq_iff_eq] at h2
    obtain ⟨rfl,h3⟩:=h2
    have:=jaZ _ _ h3
    subst this
    exact .inr ⟨h1,_,_,_,_,rfl,e⟩
   ·cases h2
 ·cases this
def xhA (A:AS) (H H':Hp):Bool:=match zQ A H.l H'.l with
 | true=>true
 | false=>xhl A H H'
theorem jf0 {A:AS} {H H':Hp} (h:xhA A H H'=true):HLx A H H':=by
 unfold xhA at h
 split at h
 ·rename_i e
  exact fun i r ha hg=>.inl (jj0 e ha hg)
 ·exact jlB h
def jn5 (H H':Hp):List Nat:=H.l.flatMap fun x=>match H'.get x.1 with
 | some r=>if rEq x.2 r=true then [] else if fEq x.2 r=true then [x.1+16] else [x.1]
 | none=>[x.1]
def xn (P:Program) (c:XC) (A:AS) (ev:Operand→AV) (H:Hp):Op→Option (AV×Hp)
 | .call { callee:=.value f,args,.. }=>(jjZ c (ev f) (args.toList.map ev) H).filter fun y=>xhA A H y.2
 | .buildSlice t n parts=>(jjV true P H t n (parts.toList.map fun p=>(p.1,ev p.2))).filter fun y=>xhA A H y.2
 | .makeSlice t l n=>(xmk P H t (ev l) (ev n)).filter fun y=>xhA A H y.2
 | .call { callee:=.builtin .append,args,argTypes }=>(xe P c ev H (.call ⟨.builtin .append,args,argTypes⟩)).filter fun y=>xhA A H y.2
 | _=>none
theorem jlC {P:Program} {c:XC} (hc:XOk P c) {A:AS} {ev:Operand→AV} {H:Hp} {o:Op} {y:AV×Hp} (h:xn P c A ev H o=some y) {K:AV→Hp→Prop} (k:K y.1 y.2):vcN P A ev H K o:=by
 unfold xn at h
 split at h
 ·obtain ⟨h1,h2⟩:=Option.filter_eq_some_iff.1 h
  exact jdh hc h1 ⟨jf0 h2,k⟩
 ·obtain ⟨h1,h2⟩:=Option.filter_eq_some_iff.1 h
  exact jhv h1 ⟨jf0 h2,k⟩
 ·obtain ⟨h1,h2⟩:=Option.filter_eq_some_iff.1 h
  exact ji3 h1 ⟨jf0 h2,k⟩
 ·obtain ⟨h1,h2⟩:=Option.filter_eq_some_iff.1 h
  exact jis (ty:=0) hc h1 ⟨jf0 h2,k⟩
 ·cases h
def xd (P:Program) (c:XC) (ev:Operand→AV) (H:Hp) (o:Op):Option (AV×Hp):=if jgt o=true then (xq P ev H o).map fun r=>(r,H) else match o with
 | .buildSlice t n parts=>jjV false P H t n (parts.toList.map fun p=>(p.1,ev p.2))
 | o=>xe P c ev H o
theorem jmW {P:Program} {c:XC} (hc:XOk P c) {ev:Operand→AV} {H:Hp} {ty:TypeId} {o:Op} {y:AV×Hp} (h:xd P c ev H o=some y) {K:AV→Hp→Prop} (k:K y.1 y.2):vcD P ev H ty K o:=by
 unfold xd at h
 unfold vcD
 split at h
 ·rename_i e
  rw [if_pos e]
  obtain ⟨r,h1,rfl⟩:=Option.map_eq_some_iff.1 h
  obtain ⟨h2,h3⟩:=jjX h1
  exact ⟨h2,h3 ▸ k⟩
 ·rename_i e
  rw [if_neg e]
  split at h
  ·exact jit h k
  ·rename_i hn
   split
   ·exact (hn _ _ _ rfl).elim
   ·exact jis hc h k
theorem jly {P:Program} {o:Op} {ev:Operand→AV} {H:Hp} {r:AV} {ty:TypeId} {K:AV→Hp→Prop} (h:xf o P ev H=some r) (k:K r H):vcD P ev H ty K o:=by
 unfold vcD
 split
 ·obtain ⟨⟨h1,h2⟩,_⟩:=jjT h
  exact ⟨h1,h2 ▸ k⟩
 ·split
  ·cases h
  ·exact jlx h k
def xgF (b:Bool) (o:Op) (P:Program) (ev:Operand→AV) (H:Hp):Option AV:=match b with
 | true=>xfG o P ev H
 | false=>match xsk o with
  | true=>some (vq P (gE ev) H o).2
  | false=>none
theorem jlz {P:Program} {b:Bool} {o:Op} {F:List AV} {H:Hp} {r:AV} {K:AV→Prop} (h:xgF b o P (evA F) H=some r) (k:K (.gd b r)):vcG P F H b K o∧jan o=false∧jad o=true:=by
 unfold xgF at h
 split at h
 ·exact ji2 h k
 ·split at h
  ·rename_i e
   cases h
   exact ji4 e k
  ·cases h
def xel (A:AS) (P:Program) (c:XC) (ops:Array Oper):List Oper→Fr→Hp→Option (Fr×Hp)
 | [],T,H=>some (T,H)
 | o::rest,T,H=>match o.guard with
  | none=>if qcO A o=true then (match o.op with
    | .call { callee:=.value f,args,.. }=>match jhy (jjZ c (eT T f) (args.toList.map (eT T)) H) H with
     | some r=>fR o.op r fun r=>xel A P c ops rest (putF T o.dst r) H
     | none=>none
    | _=>none)
   else if gcO A o=true then (match xn P c A (eT T) H o.op with
    | some y=>fR o.op y.1 fun r=>xel A P c ops rest (putF T o.dst r) y.2
    | none=>none)
   else if je7 A (eT T) o.op=true then (match xf o.op P (eT T) H with
    | some r=>xel A P c ops rest (putF T o.dst r) H
    | none=>match xd P c (eT T) H o.op with
     | some y=>fR o.op y.1 fun r=>xel A P c ops rest (putF T o.dst r) y.2
     | none=>none)
   else none
  | some (j,want)=>match gB ops T j want with
   | some b=>if gdO A o=true then (if b=true then (if okE (eT T) o.op=true then (match xn P c A (gE (eT T)) H o.op with
      | some y=>fR o.op y.1 fun r=>xel A P c ops rest (putF T o.dst r) y.2
      | none=>none) else none)
     else xel A P c ops rest (putF T o.dst (.gd false (.raw (.bool false)))) H)
    else match xgF b o.op P (eT T) H with
     | some r=>xel A P c ops rest (putF T o.dst (.gd b r)) H
     | none=>if (jan o.op || jad o.op)=true then (match xg P c (eT T) H b o.op with
      | some r=>xel A P c ops rest (putF T o.dst (.gd b r)) H
      | none=>none)
     else none
   | none=>none
theorem jck {A:AS} {P:Program} {c:XC} (hc:XOk P c) {ops:Array Oper} {K:List AV→Hp→Prop}:∀ {l:List Oper} {T:Fr} {F:List AV} {H:Hp} {T':Fr} {H':Hp},RF T F→xel A P c ops l T H=some (T',H')→(∀ F',RF T' F'→K F' H')→jcJ A P ops K l F H
 | [],T,F,H,T',H',hT,h,k=>by cases h;exact k F hT
 | o::rest,T,F,H,T',H',hT,h,k=>by
  unfold xel at h
  unfold jcJ
  rw [hT.ev] at h
  simp only [jev,jgc] at h
  split at h
  ·rename_i e
   try simp only [e]
   split at h
   ·rename_i e2
    rw [if_pos e2]
    split at h
    ·rename_i e3
     rw [e3]
     split at h
     ·rename_i r e4
      rw [je4] at h
      exact ⟨r,jdh hc (jeg e4) ⟨rfl,rfl⟩,jck hc (hT.putF _ _) h k⟩
     ·cases h
    ·cases h
   ·rename_i e2
    rw [if_neg e2]
    split at h
    ·rename_i e3
     rw [if_pos e3]
     split at h
     ·rename_i y e4
      rw [je4] at h
      exact jlC hc e4 (jck hc (hT.putF _ _) h k)
     ·cases h
    ·rename_i e3
     rw [if_neg e3]
     split at h
     ·rename_i e4
      split at h
      ·rename_i r e5
       exact ⟨e4,jly e5 (jck hc (hT.putF _ _) h k)⟩
      ·split at h
       ·rename_i y e5
        rw [je4] at h
        exact ⟨e4,jmW hc e5 (jck hc (hT.putF _ _) h k)⟩
       ·cases h
     ·cases h
  ·rename_i j want e
   try simp only [e]
   split at h
   ·rename_i b e2
    have e2:=jh3 hT e2
    try simp only [e2]
    split at h
    ·rename_i e3
     rw [if_pos e3]
     split at h
     ·rename_i e4
      subst e4
      split at h
      ·rename_i e5
       split at h
       ·rename_i y e6
        rw [je4] at h
        exact ⟨fun _=>⟨e5,jlC hc e6 (jck hc (hT.putF _ _) h k)⟩,fun e7=>by cases e7⟩
       ·cases h
      ·cases h
     ·rename_i e4
      exact ⟨fun e5=>(e4 e5).elim,fun _=>jck hc (hT.putF _ _) h k⟩
    ·rename_i e3
     rw [if_neg e3]
     split at h
     ·rename_i r e5
      obtain ⟨h1,h2,h3⟩:=jlz (P:=P) (K:=fun r=>jcJ A P ops K rest (jaw F o.dst r) H) e5 (jck hc (hT.putF _ _) h k)
      exact ⟨by simp only [h3,Bool.or_true],h1⟩
     ·split at h
      ·rename_i e4
       split at h
       ·rename_i r e5
        exact ⟨e4,jlA hc e5 (jck hc (hT.putF _ _) h k)⟩
       ·cases h
      ·cases h
   ·cases h
instance decEarly {P:Program} {l:List Oper}:∀ {E:List Nat},Decidable (jbT P l E)
 | []=>isTrue trivial
 | i::E=>by
  unfold jbT
  have:=decEarly (P:=P) (l:=l) (E:=E)
  have:Decidable (match (atO l i).op with | .alloc t=>(jaG P t).isSome=true | _=>False):=by split<;>infer_instance
  have:Decidable ((atO l i).guard=none):=by
   cases (atO l i).guard with
   | none=>exact isTrue rfl
   | some x=>exact isFalse (by simp)
  infer_instance
abbrev XH:=FuncId→Nat→Option (Bool×List Nat×List Nat×List Nat×List Nat)
def jiw (P:Program) (c:XC) (l:Array Oper) (A:AS) (E ord:List Nat) (T:Fr) (H:Hp):Option (Fr×Hp):=if jhX A E l.toList ord=true∧jbT P l.toList E then xel A P c l (ord.map (atO l.toList)) T H else none
def jnn (n:Nat) (o:List Nat):List Nat:=if o.isEmpty=true then List.range n else o
def jnN:Op→Bool
 | .store ..=>true
 | _=>false
def jn6 (P:Program) (c:XC) (l:Array Oper) (D o:List Nat) (F:Fr) (H:Hp):Bool→List Nat
 | true=>match xcl P c (xD l.toList) l (((jnn l.size o).map (atO l.toList)).filter fun x=>!(D.contains 1000000 && jnN x.op)) F H with
  | some y=>jn5 H y.2
  | none=>[]
 | false=>[]
def jmY (P:Program) (c:XC) (h:XH) (f:FuncId) (id:Nat) (l:Array Oper) (d:Bool) (F:Fr) (H:Hp):Option (Fr×Hp):=if d=true then (match h f id with
  | some (dy,C,D,E,o)=>jiw P c l (jn6 P c l D o F H dy,C,D) E (jnn l.size o) F H
  | none=>jiw P c l ([],[],[]) [] (List.range l.size) F H)
 else xcl P c (xD l.toList) l l.toList F H
theorem jf2 {P:Program} {c:XC} (hc:XOk P c) (hm:P.follows .mixedOrders=true) {id:Nat} {l:Array Oper} {A:AS} {E ord:List Nat} {T:Fr} {F:List AV} (hT:RF T F) {H:Hp} {T':Fr} {H':Hp} (e:jiw P c l A E ord T H=some (T',H')) {Q:Exit→List AV→Hp→Prop} (k:∀ F',RF T' F'→Q .normal F' H'):AWP P (.region id l true) Q F H:=by
 unfold jiw at e
 have el:l=l.toList.toArray:=by simp
 split at e
 ·rename_i hk
  rw [el]
  exact jbw _ _ _ hm hk.1 hk.2 (by rw [← el];exact jck hc hT e k)
 ·cases e
theorem jjY {P:Program} {c:XC} (hc:XOk P c) (hm:P.follows .mixedOrders=true) {h:XH} {f:FuncId} {id:Nat} {l:Array Oper} {d:Bool} {T:Fr} {F:List AV} (hT:RF T F) {H:Hp} {T':Fr} {H':Hp} (e:jmY P c h f id l d T H=some (T',H')) {Q:Exit→List AV→Hp→Prop} (k:∀ F',RF T' F'→Q .normal F' H'):AWP P (.region id l d) Q F H:=by
 unfold jmY at e
 have el:l=l.toList.toArray:=by simp
 split at e
 ·rename_i hd
  subst hd
  split at e
  ·exact jf2 hc hm hT e k
  ·exact jf2 hc hm hT e k
 ·rename_i hd
  have:d=false:=by simpa using hd
  subst this
  rw [el]
  exact sS (xD l.toList) (by rw [← el];exact ji1 hc hT e k) rfl
abbrev XS:=Option (Exit×Fr×Hp)
def jhw (b:Fr→Hp→XS) (n:Nat):Fr→Hp→XS:=Nat.rec (motive:=fun _=>Fr→Hp→XS) (fun _ _=>none) (fun _ ih T H=>match b T H with
  | some y=>match y with
   | (e,T',H')=>match e with
    | .normal=>ih T' H'
    | e=>some (e,T',H')
  | none=>none) n
theorem jjW (b:Fr→Hp→XS) (n:Nat) (T:Fr) (H:Hp):jhw b (n+1) T H=match b T H with
  | some y=>match y with
   | (e,T',H')=>match e with
    | .normal=>jhw b n T' H'
    | e=>some (e,T',H')
  | none=>none:=rfl
theorem jiv {P:Program} {c:Code} {b:Fr→Hp→XS} (hb:∀ {T F H e T' H'} {Q:Exit→List AV→Hp→Prop},RF T F→b T H=some (e,T',H')→(∀ F',RF T' F'→Q e F' H')→AWP P c Q F H) {n:Nat} {T:Fr} {F:List AV} (hT:RF T F) {H:Hp} {e:Exit} {T':Fr} {H':Hp} {Q:Exit→List AV→Hp→Prop}
  (h:jhw b n T H=some (e,T',H')) (k:∀ F',RF T' F'→Q e F' H'):AWP P (.loop c) Q F H:=by
 refine jfC (S:=Nat) (fun s F H=>∃ T,RF T F∧jhw b s T H=some (e,T',H')) id n (FLe.refl F H) ⟨T,hT,h⟩ fun s F1 H1 hI=>?_
 obtain ⟨T1,hT1,hI⟩:=hI
 cases s with
 | zero=>cases hI
 | succ s=>
  rw [jjW] at hI
  split at hI
  ·rename_i y e2
   obtain ⟨e1,T2,H2⟩:=y
   simp only at hI
   split at hI
   ·exact hb hT1 e2 fun F' hF=>⟨s,F',H2,Nat.lt_succ_self s,FLe.refl _ _,T2,hF,hI⟩
   ·rename_i hn
    cases hI
    refine hb hT1 e2 fun F' hF=>?_
    have k:=k F' hF
    cases e with
    | normal=>exact (hn rfl).elim
    | exit id=>exact k
    | goto l=>exact k
    | ret=>exact k
    | panic ch=>exact k
    | outgrown=>exact k
  ·cases hI
def jb4 (P:Program) (c:XC) (h:XH) (f:FuncId) (n:Nat):Code→Fr→Hp→XS
 | .skip,T,H=>some (.normal,T,H)
 | .label _,T,H=>some (.normal,T,H)
 | .exit i,T,H=>some (.exit i,T,H)
 | .ret,T,H=>some (.ret,T,H)
 | .seq a b,T,H=>match jb4 P c h f n a T H with
  | some y=>match y with
   | (e,T',H')=>match e with
    | .normal=>jb4 P c h f n b T' H'
    | e=>some (e,T',H')
  | none=>none
 | .cond x a b,T,H=>match eT T x with
  | .raw v=>match v with
   | .bool v=>match v with
    | true=>jb4 P c h f n a T H
    | false=>jb4 P c h f n b T H
   | _=>none
  | _=>none
 | .block i a,T,H=>match jb4 P c h f n a T H with
  | some y=>match y with
   | (e,T',H')=>match e with
    | .exit j=>match Nat.beq j i with
     | true=>some (.normal,T',H')
     | false=>some (.exit j,T',H')
    | e=>some (e,T',H')
  | none=>none
 | .loop a,T,H=>jhw (jb4 P c h f n a) n T H
 | .scope a,T,H=>match jb4 P c h f n a T H with
  | some y=>match y with
   | (e,T',H')=>match e with
    | .goto _=>none
    | e=>some (e,T',H')
  | none=>none
 | .region i l d,T,H=>match jmY P c h f i l d T H with
  | some y=>match y with
   | (T',H')=>fG l H' fun H'=>some (.normal,T',H')
  | none=>none
 | _,_,_=>none
theorem jaO {P:Program} {c:XC} (hc:XOk P c) (hm:P.follows .mixedOrders=true) {h:XH} {f:FuncId} {n:Nat}:∀ {C:Code} {T:Fr} {F:List AV} {H:Hp} {e:Exit} {T':Fr} {H':Hp} {Q:Exit→List AV→Hp→Prop},RF T F→jb4 P c h f n C T H=some (e,T',H')→(∀ F',RF T' F'→Q e F' H')→AWP P C Q F H
 | .skip,T,F,H,e,T',H',Q,hT,x,k=>by cases x;exact jfD (k F hT)
 | .label _,T,F,H,e,T',H',Q,hT,x,k=>by cases x;exact jgz (k F hT)
 | .exit i,T,F,H,e,T',H',Q,hT,x,k=>by cases x;exact jfB (k F hT)
 | .ret,T,F,H,e,T',H',Q,hT,x,k=>by cases x;exact jgA (k F hT)
 | .seq a b,T,F,H,e,T',H',Q,hT,x,k=>by
  unfold jb4 at x
  refine jgC ?_
  split at x
  ·rename_i y e2
   obtain ⟨e1,T2,H2⟩:=y
   simp only at x
   split at x
   ·exact jaO hc hm hT e2 fun F' hF=>jaO hc hm hF x k
   ·rename_i hn
    cases x
    refine jaO hc hm hT e2 fun F' hF=>?_
    have k:=k F' hF
    cases e with
    | normal=>exact (hn rfl).elim
    | exit id=>exact k
    | goto l=>exact k
    | ret=>exact k
    | panic ch=>exact k
    | outgrown=>exact k
  ·cases x
 | .cond y a b,T,F,H,e,T',H',Q,hT,x,k=>by
  unfold jb4 at x
  rw [hT.ev] at x
  split at x
  ·rename_i e2
   split at x
   ·split at x
    ·exact jdR e2 (jaO hc hm hT x k)
    ·exact jdj e2 (jaO hc hm hT x k)
   ·cases x
  ·cases x
 | .block i a,T,F,H,e,T',H',Q,hT,x,k=>by
  unfold jb4 at x
  refine jel ?_
  split at x
  ·rename_i y e2
   obtain ⟨e1,T2,H2⟩:=y
   simp only at x
   split at x
   ·split at x<;>cases x
    ·rename_i e3
     exact jaO hc hm hT e2 fun F' hF=>by simp only [jb6,if_pos (Nat.eq_of_beq_eq_true e3)];exact k F' hF
    ·rename_i e3
     exact jaO hc hm hT e2 fun F' hF=>by
      rw [show jb6 i Q (.exit _) F' _=_ from rfl]
      simp only [jb6,if_neg (Nat.ne_of_beq_eq_false e3)];exact k F' hF
   ·rename_i hn
    cases x
    refine jaO hc hm hT e2 fun F' hF=>?_
    have k:=k F' hF
    cases e with
    | normal=>exact k
    | exit id=>exact (hn _ rfl).elim
    | goto l=>exact k
    | ret=>exact k
    | panic ch=>exact k
    | outgrown=>exact k
  ·cases x
 | .loop a,T,F,H,e,T',H',Q,hT,x,k=>by
  unfold jb4 at x
  exact jiv (fun h0 h1 h2=>jaO hc hm h0 h1 h2) hT x k
 | .scope a,T,F,H,e,T',H',Q,hT,x,k=>by
  unfold jb4 at x
  refine jgB ?_
  split at x
  ·rename_i y e2
   obtain ⟨e1,T2,H2⟩:=y
   simp only at x
   split at x
   ·cases x
   ·rename_i hn
    cases x
    exact jaO hc hm hT e2 fun F' hF=>⟨fun l hl=>by subst hl;exact (hn _ rfl).elim,k F' hF⟩
  ·cases x
 | .region i l d,T,F,H,e,T',H',Q,hT,x,k=>by
  unfold jb4 at x
  split at x
  ·rename_i y e2
   obtain ⟨T2,H2⟩:=y
   simp only [jmj] at x
   cases x
   exact jjY hc hm hT e2 k
  ·cases x
 | .rangeFunc ..,T,F,H,e,T',H',Q,hT,x,k=>by cases x
 | .goto _,T,F,H,e,T',H',Q,hT,x,k=>by cases x
 | .refuse _,T,F,H,e,T',H',Q,hT,x,k=>by cases x
def jlD (P:Program) (H:Hp) (T:Fr):List ResultVar→Option (List AV)
 | []=>some []
 | .tmp t::rest=>(jlD P H T rest).map (gT T t::·)
 | .cell a t::rest=>match cB H (gT T a),jal P t,jba P t with
  | some cs,some ag,some k=>if k≤cs.length∧1≤cs.length then (jlD P H T rest).map (jcd ag k cs::·) else none
  | _,_,_=>none
theorem jfw {P:Program} {H:Hp} {T:Fr} {F:List AV} (hT:RF T F):∀ {rs:List ResultVar} {out:List AV},jlD P H T rs=some out→jdt P H F rs=some out∧jaW P H F rs
 | [],out,h=>⟨h,trivial⟩
 | .tmp t::rest,out,h=>by
  obtain ⟨l,h1,rfl⟩:=Option.map_eq_some_iff.1 h
  obtain ⟨h2,h3⟩:=jfw hT h1
  exact ⟨by simp only [jdt,h2,hT.get];rfl,h3⟩
 | .cell a t::rest,out,h=>by
  unfold jlD at h
  simp only [hT.get] at h
  split at h
  ·rename_i cs ag k e1 e2 e3
   obtain ⟨c,hc,e⟩:=jkx e1
   split at h
   ·rename_i hk
    obtain ⟨l,h1,rfl⟩:=Option.map_eq_some_iff.1 h
    obtain ⟨h2,h3⟩:=jfw hT h1
    refine ⟨by simp only [jdt,e,e2,e3,h2];rfl,?_⟩
    simp only [jaW,e,e3]
    exact ⟨⟨hc,hk⟩,h3⟩
   ·cases h
  ·cases h
def jkP:AV→AV
 | .sl x sz css []=>.sl x sz css (css.headD [])
 | a=>a
theorem jjl {w:NW} {a:AV} {v:Value} (h:RelV w a v):RelV w (jkP a) v:=by
 unfold jkP
 split
 ·cases h<;>(constructor<;>assumption)
 ·exact h
theorem jkQ (F:List AV) (H:Hp):FLe F H (F.map jkP) H:=fun w tm h1 h2=>⟨w,rfl,h1,⟨by rw [List.length_map];exact h2.1,fun i a v ha hv=>by
 rw [List.getElem?_map] at ha
 obtain ⟨b,hb,rfl⟩:=Option.map_eq_some_iff.1 ha
 exact jjl (h2.2 i b v hb hv)⟩,ExtB.refl w H⟩
def ent (args:List AV) (m:Nat):Fr:=fC args fun args=>fN (jhI args+(m - jhI args)) fun n=>mkT (fun i=>jkP (gA args i)) n n 0 1
theorem jkA (args:List AV) (m:Nat):RF (ent args m) ((args++List.replicate (m - args.length) AV.any).map jkP):=by
 unfold ent
 rw [jhZ,ja3,jbY]
 refine jkY (by simp) fun i _=>?_
 rw [jjn,List.getD_eq_getElem?_getD,List.getElem?_map,List.getD_eq_getElem?_getD]
 by_cases h:i < args.length
 ·rw [List.getElem?_append_left h,List.getElem?_eq_getElem h];rfl
 ·rw [List.getElem?_append_right (by omega),List.getElem?_eq_none (by omega:args.length≤i)]
  by_cases h1:i - args.length < m - args.length
  ·rw [List.getElem?_replicate,if_pos h1];rfl
  ·rw [List.getElem?_replicate,if_neg h1];rfl
def jkT:Exit→Bool
 | .normal=>true
 | .ret=>true
 | _=>false
theorem jfL {e:Exit} (h:jkT e=true):e=.normal∨e=.ret:=by
 cases e<;>first | exact .inl rfl | exact .inr rfl | cases h
theorem jjw {q:Nat→Bool} {out:List AV} (h:∀ x∈out,nA q x=true):(jaF out).all q=true:=by
 unfold jaF
 split
 ·exact jk0 (h _ (by simp))
 ·unfold AV.all;exact jdN h
def jip (P:Program) (c:XC) (h:XH) (n:Nat) (f:FuncId) (args:List AV) (l:List (Nat×Row)):Option (AV×List (Nat×Row)):=match P.funcs[f]? with
 | some fn=>match fn.body with
  | some b=>match jb4 P c h f n b (ent args fn.ntmps) (entry l) with
   | some (e,F,H)=>if jkT e=true then (match jlD P H F fn.results.toList with
     | some out=>match an (stB (jbu H.B) H.l) (evB (nA (jeu (jbu H.B))) out) with
      | true=>fT (jbo (jbu H.B) H.l) fun l=>some (jaF out,l)
      | false=>some (jaF out,H.l)
     | none=>none) else none
   | none=>none
  | none=>none
 | none=>none
theorem jfY {P:Program} {c:XC} (hc:XOk P c) (hm:P.follows .mixedOrders=true) {h:XH} {n:Nat} {f:FuncId} {args:List AV} {l:List (Nat×Row)} {y:AV×List (Nat×Row)} (x:jip P c h n f args l=some y):ACalls P f args l fun r l'=>r=y.1∧l'=y.2:=by
 unfold jip at x
 split at x
 ·rename_i fn e1
  split at x
  ·rename_i b e2
   split at x
   ·rename_i e F H e3
    split at x
    ·rename_i e4
     split at x
     ·rename_i out e5
      refine jej e1 e2 (jhU (jkQ _ _) (jaO hc hm (jkA _ _) e3 fun F' hF=>?_))
      obtain ⟨e6,e7⟩:=jfw hF e5
      split at x
      ·rename_i e8
       rw [jjk] at x
       cases x
       obtain ⟨e9,e10⟩:=jcl e8
       exact jfT (jfL e4) e6 e7 (jld e9) (ji0 rfl (jjw (jdx e10))) rfl
      ·cases x
       exact jjB (jfL e4) e6 e7 rfl rfl
     ·cases x
    ·cases x
   ·cases x
  ·cases x
 ·cases x
theorem jgO {P:Program} {f:FuncId} {args:List AV} {H:Hp} {K:AV→Hp→Prop} {y:AV×List (Nat×Row)} (hc:ACalls P f args H.l fun r l'=>r=y.1∧l'=y.2) (k:K y.1 ⟨H.B,y.2⟩):HCalls P f args H K:=fun w vs hw hv=>by
 have hw':RelW w (entry H.l):={ glob:=hw.glob,rows:=hw.rows,dom:=hw.dom,inj:=hw.inj,own:=hw.own,fin:=hw.fin }
 refine (hc w vs hw' hv).mono ?_
 rintro e W ⟨v,r,H',w',e0,e1,⟨e2,e3⟩,g1,g2,g3⟩
 have g1':RelW w' ⟨H.B,y.2⟩:=by rw [← e3];exact { glob:=g1.glob,rows:=g1.rows,dom:=g1.dom,inj:=g1.inj,own:=g1.own,fin:=g1.fin }
 refine ⟨v,r,⟨H.B,y.2⟩,w',e0,e1,by rw [e2];exact k,g1',g2,{ g3.toExtQ with names:=fun i m z _ hz=>?_,base:=rfl }⟩
 obtain ⟨s,hs,_⟩:=hw.dom i m z hz
 exact g3.toExtQ.names i m z (jcS hs) hz
abbrev XT:=List (FuncId×List AV×AV)
def jiu (T:XT) (f:FuncId) (args:List AV):Option AV:=match T with
 | []=>none
 | (g,bs,r)::T=>if (g == f && jeV bs args && jaV noQ args)=true then some r else jiu T f args
def jhP (P:Program):XT→Prop
 | []=>True
 | (g,bs,r)::T=>(jae P g=true∧jax P g bs r)∧jhP P T
theorem jf1 {P:Program}:∀ {T:XT} {f:FuncId} {args:List AV} {r:AV},jhP P T→jiu T f args=some r→jae P f=true∧jax P f args r∧jaV noQ args=true
 | [],_,_,_,_,h=>by cases h
 | (g,bs,s)::T,f,args,r,hT,h=>by
  unfold jiu at h
  split at h
  ·rename_i hc
   cases h
   simp only [Bool.and_eq_true,beq_iff_eq] at hc
   obtain ⟨⟨rfl,h2⟩,h3⟩:=hc
   have:=jaZ _ _ h2
   subst this
   exact ⟨hT.1.1,hT.1.2,h3⟩
  ·exact jf1 hT.2 h
def jiq (P:Program) (T:XT) (h:XH) (n:Nat):Nat→XC
 | 0=>fun _ _ _=>none
 | d+1=>fun f args H=>match jiu T f args with
  | some r=>some (r,H)
  | none=>if jae P f=true then (match jip P (jiq P T h n d) h n f args H.l with
   | some y=>some (y.1,⟨H.B,y.2⟩)
   | none=>none) else none
theorem jfZ {P:Program} {T:XT} (hT:jhP P T) (hm:P.follows .mixedOrders=true) {h:XH} {n:Nat}:∀ d,XOk P (jiq P T h n d)
 | 0=>fun _ _ _ _ _ e=>by cases e
 | d+1=>fun f args H r H' e K k=>by
  unfold jiq at e
  split at e
  ·rename_i e1
   cases e
   obtain ⟨h1,h2,h3⟩:=jf1 hT e1
   exact ⟨h1,jbe h2 h3 k⟩
  ·split at e
   ·rename_i h1
    split at e
    ·rename_i y e2
     cases e
     exact ⟨h1,jgO (jfY (jfZ hT hm d) hm e2) k⟩
    ·cases e
   ·cases e
end
def D1:Nat→Bool:=fun _=>true
def jj5 (g:AV→Option AV):List AV→Option (List AV)
 | []=>some []
 | a::l=>match g a,jj5 g l with
  | some b,some m=>some (b::m)
  | _,_=>none
theorem jdZ {g:AV→Option AV}:∀ {l m:List AV},jj5 g l=some m→l.length=m.length∧∀ (i:Nat) c d,l[i]?=some c→m[i]?=some d→g c=some d
 | [],m,h=>by cases h;exact ⟨rfl,fun i c d h=>by simp at h⟩
 | a::l,m,h=>by
  unfold jj5 at h
  split at h
  ·rename_i b m' e1 e2
   cases h
   obtain ⟨h1,h2⟩:=jdZ e2
   refine ⟨by simp [h1],fun i c d hc hd=>?_⟩
   cases i with
   | zero=>simp at hc hd;subst hc hd;exact e1
   | succ i=>exact h2 i c d (by simpa using hc) (by simpa using hd)
  ·cases h
def jlL (g:AV→Option AV):List (List AV)→Option (List (List AV))
 | []=>some []
 | a::l=>match jj5 g a,jlL g l with
  | some b,some m=>some (b::m)
  | _,_=>none
theorem jgM {g:AV→Option AV}:∀ {l m:List (List AV)},jlL g l=some m→l.length=m.length∧∀ (k j:Nat) c d,(l.getD k [])[j]?=some c→(m.getD k [])[j]?=some d→g c=some d
 | [],m,h=>by cases h;exact ⟨rfl,fun k j c d h=>by simp at h⟩
 | a::l,m,h=>by
  unfold jlL at h
  split at h
  ·rename_i b m' e1 e2
   cases h
   obtain ⟨h1,h2⟩:=jgM e2
   refine ⟨by simp [h1],fun k j c d hc hd=>?_⟩
   cases k with
   | zero=>exact (jdZ e1).2 j c d (by simpa using hc) (by simpa using hd)
   | succ k=>exact h2 k j c d (by simpa using hc) (by simpa using hd)
  ·cases h
instance {q:Nat→Bool} {css:List (List AV)}:Decidable (QL q css):=by unfold QL;infer_instance
def frz (H:Hp):Nat→AV→Option AV
 | 0,_=>none
 | f+1,a=>match a with
  | .agg cs=>(jj5 (frz H f) cs).map .agg
  | .tup cs=>(jj5 (frz H f) cs).map .tup
  | .rs i m sz n=>match H.get i with
   | some (.vec _ sz' css)=>if sz'=sz∧m=css.length∧n≤m then (match jlL (frz H f) (css.take n) with
     | some dss=>if (∀ ds∈dss,ds.length=sz)∧QL noQ dss then some (.sl false sz dss []) else none
     | none=>none) else none
   | _=>none
  | a=>if a.all (jeu D1)=true then some a else none
theorem jfI {H:Hp}:∀ {f:Nat} {a b:AV},frz H f a=some b→VTo D1 H a b
 | 0,a,b,h=>by cases h
 | f+1,a,b,h=>by
  unfold frz at h
  split at h
  ·obtain ⟨l,h1,rfl⟩:=Option.map_eq_some_iff.1 h
   obtain ⟨h2,h3⟩:=jdZ h1
   exact .agg _ _ h2 fun i c d hc hd=>jfI (h3 i c d hc hd)
  ·obtain ⟨l,h1,rfl⟩:=Option.map_eq_some_iff.1 h
   obtain ⟨h2,h3⟩:=jdZ h1
   exact .tup _ _ h2 fun i c d hc hd=>jfI (h3 i c d hc hd)
  ·rename_i i m sz n
   split at h
   ·rename_i e sz' css hi
    split at h
    ·rename_i hc
     obtain ⟨rfl,rfl,hn⟩:=hc
     split at h
     ·rename_i dss e2
      split at h
      ·rename_i hd
       cases h
       obtain ⟨h2,h3⟩:=jgM e2
       refine .rsc [] i _ _ n e css dss rfl hi rfl hn (by rw [← h2,List.length_take];omega) hd.1 hd.2 fun k j c d hk hc hd'=>jfI (h3 k j c d ?_ hd')
       rw [List.getD_eq_getElem?_getD,List.getElem?_take,if_pos hk,← List.getD_eq_getElem?_getD];exact hc
      ·cases h
     ·cases h
    ·cases h
   ·cases h
  ·split at h
   ·rename_i hq
    cases h
    exact .same _ hq
   ·cases h
theorem jhf:∀ l:List (Nat×Row),jgm D1 l
 | []=>trivial
 | (_,_)::l=>⟨.inl rfl,jhf l⟩
theorem jfM:∀ l:List (Nat×Row),jbo D1 l=[]
 | []=>rfl
 | (_,_)::l=>by show jbo D1 l=[];exact jfM l
theorem jf3 {P:Program} {f:FuncId} {args:List AV} {r r':AV} {l:List (Nat×Row)} (hc:ACalls P f args [] fun r1 l1=>r1=r∧l1=l) (hv:VTo D1 ⟨[],l⟩ r r'):jax P f args r':=fun w vs h1 h2=>by
 refine (hc w vs h1 h2).mono ?_
 rintro e W ⟨v,r1,⟨B,l1⟩,w',e0,e1,⟨e2,e3⟩,g1,g2,g3⟩
 have hB:B=[]:=g3.base
 simp only at e3
 subst e2 e3 hB
 obtain ⟨w'',k0,k1,k2,k3⟩:=RLe.free D1 rfl (jhf l1) hv w' v g1 g2
 exact ⟨v,r',_,w'',e0.trans k0.symm,e1,⟨rfl,jfM l1⟩,k1,k2,g3.trans k3⟩
noncomputable section
def jno (x:Option (AV×List (Nat×Row))):Option AV:=match x with
 | some (r,l)=>frz ⟨[],l⟩ 12 r
 | none=>none
theorem ja0 {P:Program} {T:XT} (hT:jhP P T) (hm:P.follows .mixedOrders=true) (h:XH) (n d:Nat) {f:FuncId} {args:List AV} {r:AV} (e:(match jno (jip P (jiq P T h n d) h n f args []) with | some s=>aEq s r | none=>false)=true):jax P f args r:=by
 split at e
 ·rename_i s e1
  have:=jfy _ _ e
  subst this
  unfold jno at e1
  split at e1
  ·rename_i s l e2
   exact jf3 (jfY (jfZ hT hm d) hm e2) (jfI e1)
  ·cases e1
 ·cases e
end
end Go.Gd

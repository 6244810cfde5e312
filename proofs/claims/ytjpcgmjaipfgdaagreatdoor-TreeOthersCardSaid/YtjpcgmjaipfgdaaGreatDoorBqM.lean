/- Lemmas. No conditions. -/
import Derived.Test.YtjpcgmjaipfgdaaGreatDoorBqL
set_option linter.all false
set_option maxHeartbeats 4000000
set_option maxRecDepth 10000
namespace Go.Gd
open Go
structure wI where
 name:ByteArray
 x:aD
 t:Int
 n:Int
 deriving Inhabited,DecidableEq
def Bs(x:wI):TE:=[.raw (.string x.name),.raw (.int .i64 x.x.at_),.raw (.string x.x.name),.raw (.int .i64 x.x.v.ty),.raw (.int .i64 x.x.v.n),.raw (.string x.x.v.s),.raw (.int .i64 x.t),.raw (.int .i64 x.n)]
section
variable (x y:wI)
@[go_sem] def PK(q:TN):aX q (Bs x)=true:=by simp[Bs,aX,AV.all]
instance:bC Bs 8:=⟨fun _=>rfl,fun _=>rfl,fun x=>PK x _⟩
end
def qN(s:TI):TI:=if 700<s.size then s.extract 0 700 else s
def P9(s:TI):(qN s).size<=1000000:=by
 unfold qN;split
 ·rw[ByteArray.size_extract];omega
 ·omega
def Gv(s:TI):TI:=if 20<s.size then s.extract 0 20 else s
end Go.Gd
namespace Go.Proofs.YtjpcgmjaipfgdaaGreatDoor
open Go Go.Gd
def IT{s:TI}(he:(fX s).2.2=0):mA (fX s).1:=⟨xS he,KM he⟩
end Go.Proofs.YtjpcgmjaipfgdaaGreatDoor
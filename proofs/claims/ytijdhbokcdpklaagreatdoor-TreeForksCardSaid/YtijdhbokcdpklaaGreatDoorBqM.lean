/- Lemmas. No conditions. -/
import Derived.Test.YtijdhbokcdpklaaGreatDoorBqL
set_option linter.all false
set_option maxHeartbeats 4000000
set_option maxRecDepth 10000
namespace Go.Gd
open Go
structure xV where
 name:ByteArray
 x:aB
 t:Int
 n:Int
 deriving Inhabited,DecidableEq
def AZ(x:xV):UE:=[.raw (.string x.name),.raw (.int .i64 x.x.at_),.raw (.string x.x.name),.raw (.int .i64 x.x.v.ty),.raw (.int .i64 x.x.v.n),.raw (.string x.x.v.s),.raw (.int .i64 x.t),.raw (.int .i64 x.n)]
section
variable (x y:xV)
@[go_sem] def SE(q:UO):aY q (AZ x)=true:=by simp[AZ,aY,AV.all]
instance:bH AZ 8:=⟨fun _=>rfl,fun _=>rfl,fun x=>SE x _⟩
end
def qP(s:UI):UI:=if 700<s.size then s.extract 0 700 else s
def RC(s:UI):(qP s).size<=1000000:=by
 unfold qP;split
 ·rw[ByteArray.size_extract];omega
 ·omega
def F4(s:UI):UI:=if 20<s.size then s.extract 0 20 else s
end Go.Gd
namespace Go.Proofs.YtijdhbokcdpklaaGreatDoor
open Go Go.Gd
def IA{s:UI}(he:(gh s).2.2=0):mJ (gh s).1:=⟨zi he,M9 he⟩
end Go.Proofs.YtijdhbokcdpklaaGreatDoor
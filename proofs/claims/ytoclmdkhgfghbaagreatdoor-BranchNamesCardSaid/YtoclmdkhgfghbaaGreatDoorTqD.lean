/- The law of branches: the example, reckoned: the machine with an edit. No conditions. -/
import Derived.Test.YtoclmdkhgfghbaaGreatDoorTqC
set_option linter.all false
namespace Go.Proofs.YtoclmdkhgfghbaaGreatDoor
open Go Go.Gd
set_option maxHeartbeats 4000000
set_option maxRecDepth 10000
def b1:AV:=.agg [qS (⟨#[98]⟩:ByteArray),nl,nl,jh9]
def jla:AV:=.agg [nl,nl,(qI 0),(.sl false 1 [[(qS (⟨#[53]⟩:ByteArray))]] []),(qI 2),(qI 0),(qI 2)]
def xT4:XT:=(30,[nl,jh9],jke)::xT
theorem jlu:jhP Tryz.prog xT4:=⟨⟨by kernel_rfl,jiN⟩,jcQ⟩
theorem jnu:jax Tryz.prog 54 [jdK,nl,jke] (qI 0):=ja0 jcQ mixed xH 400 60 (by decide +kernel)
theorem at2:jax Tryz.prog 15 [jdK,b1,qI 2] jla:=ja0 jlu mixed xH 400 60 (by decide +kernel)
end Go.Proofs.YtoclmdkhgfghbaaGreatDoor

/- The program, as it is laid. No conditions. -/
import Derived.Test.YtoclmdkhgfghbaaGreatDoorTqF
import Derived.Test.YtoclmdkhgfghbaaGreatDoorRows
set_option linter.all false
namespace Go.Proofs.YtoclmdkhgfghbaaGreatDoor
open Go Go.Gd
theorem jia:ownKnob Tryz.prog.godebug=none:=by kernel_rfl
theorem jgS:laidOutB Tryz.prog=true:=by kernel_rfl
end Go.Proofs.YtoclmdkhgfghbaaGreatDoor

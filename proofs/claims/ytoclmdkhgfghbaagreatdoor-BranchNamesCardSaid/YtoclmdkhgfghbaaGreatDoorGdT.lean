/- The facts on the types and functions of the translation, as the kernel reckons them. No conditions. -/
import Derived.Test.YtoclmdkhgfghbaaGreatDoorGdL
import Derived.Test.YtoclmdkhgfghbaaGreatDoorProg
import Derived.KernelRfl
set_option linter.all false
namespace Go.Proofs.YtoclmdkhgfghbaaGreatDoor
open Go Go.Gd
@[go_sem] theorem jok:jba Tryz.prog 3=some 1:=by kernel_rfl
@[go_sem] theorem joc:jal Tryz.prog 3=some false:=by kernel_rfl
@[go_sem] theorem jol:jaG Tryz.prog 3=some [.int .i64 0]:=by kernel_rfl
@[go_sem] theorem joe:jca Tryz.prog 3=8:=by kernel_rfl
@[go_sem] theorem jod:jal Tryz.prog 4=some false:=by kernel_rfl
@[go_sem] theorem jnP:jai Tryz.prog 4=false:=by kernel_rfl
@[go_sem] theorem jnQ:jc8 Tryz.prog 4=false:=by kernel_rfl
@[go_sem] theorem jnO:jd0 Tryz.prog 4=true:=by kernel_rfl
@[go_sem] theorem jnR:jbW Tryz.prog 9=true:=by kernel_rfl
@[go_sem] theorem jnZ:jba Tryz.prog 27=some 1:=by kernel_rfl
@[go_sem] theorem jnp:jal Tryz.prog 27=some false:=by kernel_rfl
@[go_sem] theorem jnF:elT Tryz.prog 27=some 3:=by kernel_rfl
@[go_sem] theorem jnH:jei Tryz.prog 27=some 1:=by kernel_rfl
@[go_sem] theorem jm2:jai Tryz.prog 27=true:=by kernel_rfl
@[go_sem] theorem jn0:jba Tryz.prog 29=some 6:=by kernel_rfl
@[go_sem] theorem jnq:jal Tryz.prog 29=some true:=by kernel_rfl
@[go_sem] theorem jn7:jaG Tryz.prog 29=some [.slice none 0 0,.slice none 0 0,.slice none 0 0,.slice none 0 0,.slice none 0 0,.slice none 0 0]:=by kernel_rfl
@[go_sem] theorem jn8:jaG Tryz.prog 34=some [.int .i64 0,.int .i64 0,.string ⟨#[]⟩]:=by kernel_rfl
@[go_sem] theorem jnT:jdD Tryz.prog 34=some [(0,1),(1,1),(2,1)]:=by kernel_rfl
@[go_sem] theorem jn1:jba Tryz.prog 36=some 5:=by kernel_rfl
@[go_sem] theorem jnr:jal Tryz.prog 36=some true:=by kernel_rfl
@[go_sem] theorem jn9:jaG Tryz.prog 36=some [.int .i64 0,.string ⟨#[]⟩,.int .i64 0,.int .i64 0,.string ⟨#[]⟩]:=by kernel_rfl
@[go_sem] theorem jmp:jgL Tryz.prog 36 0=some 0:=by kernel_rfl
@[go_sem] theorem jnU:jdD Tryz.prog 36=some [(0,1),(1,1),(2,3)]:=by kernel_rfl
@[go_sem] theorem jn2:jba Tryz.prog 37=some 1:=by kernel_rfl
@[go_sem] theorem jns:jal Tryz.prog 37=some false:=by kernel_rfl
@[go_sem] theorem jnG:elT Tryz.prog 37=some 36:=by kernel_rfl
@[go_sem] theorem jm3:jai Tryz.prog 37=true:=by kernel_rfl
@[go_sem] theorem jn3:jba Tryz.prog 39=some 4:=by kernel_rfl
@[go_sem] theorem jnt:jal Tryz.prog 39=some true:=by kernel_rfl
@[go_sem] theorem joa:jaG Tryz.prog 39=some [.string ⟨#[]⟩,.slice none 0 0,.slice none 0 0,.slice none 0 0]:=by kernel_rfl
@[go_sem] theorem jmq:jgL Tryz.prog 39 1=some 1:=by kernel_rfl
@[go_sem] theorem jmr:jgL Tryz.prog 39 2=some 2:=by kernel_rfl
@[go_sem] theorem jms:jgL Tryz.prog 39 3=some 3:=by kernel_rfl
@[go_sem] theorem jnV:jdD Tryz.prog 39=some [(0,1),(1,1),(2,1),(3,1)]:=by kernel_rfl
@[go_sem] theorem jn4:jba Tryz.prog 60=some 7:=by kernel_rfl
@[go_sem] theorem job:jaG Tryz.prog 60=some [.slice none 0 0,.slice none 0 0,.int .i64 0,.slice none 0 0,.int .i64 0,.int .i64 0,.int .i64 0]:=by kernel_rfl
@[go_sem] theorem jmt:jgL Tryz.prog 60 2=some 2:=by kernel_rfl
@[go_sem] theorem jmu:jgL Tryz.prog 60 6=some 6:=by kernel_rfl
@[go_sem] theorem jmv:fTy Tryz.prog 60 6=some (3,6):=by kernel_rfl
@[go_sem] theorem jof:jae Tryz.prog 4=true:=by kernel_rfl
@[go_sem] theorem jog:jae Tryz.prog 5=true:=by kernel_rfl
@[go_sem] theorem joh:jae Tryz.prog 6=true:=by kernel_rfl
@[go_sem] theorem joi:jae Tryz.prog 7=true:=by kernel_rfl
@[go_sem] theorem joj:jae Tryz.prog 8=true:=by kernel_rfl
@[go_sem] theorem jnv:jae Tryz.prog 12=true:=by kernel_rfl
@[go_sem] theorem jnw:jae Tryz.prog 13=true:=by kernel_rfl
@[go_sem] theorem jnx:jae Tryz.prog 14=true:=by kernel_rfl
@[go_sem] theorem jny:jae Tryz.prog 15=true:=by kernel_rfl
@[go_sem] theorem jnz:jae Tryz.prog 16=true:=by kernel_rfl
@[go_sem] theorem jnA:jae Tryz.prog 17=true:=by kernel_rfl
@[go_sem] theorem jnB:jae Tryz.prog 19=true:=by kernel_rfl
@[go_sem] theorem jnC:jae Tryz.prog 30=true:=by kernel_rfl
@[go_sem] theorem jnD:jae Tryz.prog 33=true:=by kernel_rfl
@[go_sem] theorem jnE:jae Tryz.prog 54=true:=by kernel_rfl
theorem mixed:Tryz.prog.follows .mixedOrders=true:=by kernel_rfl
end Go.Proofs.YtoclmdkhgfghbaaGreatDoor

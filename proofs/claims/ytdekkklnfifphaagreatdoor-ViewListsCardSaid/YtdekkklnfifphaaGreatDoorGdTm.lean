/- The facts on the types and functions of the translation, as the kernel reckons them. The facts on the map types of the translation, as the kernel reckons them. No conditions. -/
import Derived.Test.YtdekkklnfifphaaGreatDoorGdJ
import Derived.Test.YtdekkklnfifphaaGreatDoorProg
import Derived.KernelRfl
import Derived.Test.YtdekkklnfifphaaGreatDoorGdQ
set_option linter.all false
namespace Go.Proofs.YtdekkklnfifphaaGreatDoor
open Go Go.Gd
@[go_sem] theorem j8P:jcf Tryz.prog 3=some 1:=by kernel_rfl
@[go_sem] theorem j8I:jaz Tryz.prog 3=some false:=by kernel_rfl
@[go_sem] theorem j8W:jbt Tryz.prog 3=some [.int .i64 0]:=by kernel_rfl
@[go_sem] theorem j7z:jqq Tryz.prog 3=some .i64:=by kernel_rfl
@[go_sem] theorem j8M:jb3 Tryz.prog 3=8:=by kernel_rfl
@[go_sem] theorem j8J:jaz Tryz.prog 4=some false:=by kernel_rfl
@[go_sem] theorem j7y:jaK Tryz.prog 4=false:=by kernel_rfl
@[go_sem] theorem j7A:jhZ Tryz.prog 4=false:=by kernel_rfl
@[go_sem] theorem j7x:jj5 Tryz.prog 4=true:=by kernel_rfl
@[go_sem] theorem j8Q:jcf Tryz.prog 5=some 1:=by kernel_rfl
@[go_sem] theorem j8K:jaz Tryz.prog 5=some false:=by kernel_rfl
@[go_sem] theorem j8R:jcf Tryz.prog 9=some 1:=by kernel_rfl
@[go_sem] theorem j8L:jaz Tryz.prog 9=some false:=by kernel_rfl
@[go_sem] theorem j8X:jbt Tryz.prog 9=some [.string ⟨#[]⟩]:=by kernel_rfl
@[go_sem] theorem j7B:jh0 Tryz.prog 9=true:=by kernel_rfl
@[go_sem] theorem j8N:jb3 Tryz.prog 9=16:=by kernel_rfl
@[go_sem] theorem j7V:jcf Tryz.prog 22=some 1:=by kernel_rfl
@[go_sem] theorem j5x:jaz Tryz.prog 22=some false:=by kernel_rfl
@[go_sem] theorem j8r:jbt Tryz.prog 22=some [.slice none 0 0]:=by kernel_rfl
@[go_sem] theorem j63:elT Tryz.prog 22=some 3:=by kernel_rfl
@[go_sem] theorem j7g:jhe Tryz.prog 22=some 1:=by kernel_rfl
@[go_sem] theorem j4B:jaK Tryz.prog 22=true:=by kernel_rfl
@[go_sem] theorem j52:jb3 Tryz.prog 22=24:=by kernel_rfl
@[go_sem] theorem j7W:jcf Tryz.prog 24=some 1:=by kernel_rfl
@[go_sem] theorem j5y:jaz Tryz.prog 24=some false:=by kernel_rfl
@[go_sem] theorem j64:elT Tryz.prog 24=some 68:=by kernel_rfl
@[go_sem] theorem j7h:jhe Tryz.prog 24=some 5:=by kernel_rfl
@[go_sem] theorem j4C:jaK Tryz.prog 24=true:=by kernel_rfl
@[go_sem] theorem j7X:jcf Tryz.prog 25=some 1:=by kernel_rfl
@[go_sem] theorem j5z:jaz Tryz.prog 25=some false:=by kernel_rfl
@[go_sem] theorem j65:elT Tryz.prog 25=some 66:=by kernel_rfl
@[go_sem] theorem j7i:jhe Tryz.prog 25=some 5:=by kernel_rfl
@[go_sem] theorem j4D:jaK Tryz.prog 25=true:=by kernel_rfl
@[go_sem] theorem j7Y:jcf Tryz.prog 27=some 2:=by kernel_rfl
@[go_sem] theorem j5A:jaz Tryz.prog 27=some true:=by kernel_rfl
@[go_sem] theorem j8s:jbt Tryz.prog 27=some [.slice none 0 0,.slice none 0 0]:=by kernel_rfl
@[go_sem] theorem j1y:jbX Tryz.prog 27 0=some 0:=by kernel_rfl
@[go_sem] theorem j1z:jbX Tryz.prog 27 1=some 1:=by kernel_rfl
@[go_sem] theorem j7E:jb1 Tryz.prog 27=some [(0,1),(1,1)]:=by kernel_rfl
@[go_sem] theorem j7Z:jcf Tryz.prog 29=some 6:=by kernel_rfl
@[go_sem] theorem j5B:jaz Tryz.prog 29=some true:=by kernel_rfl
@[go_sem] theorem j8t:jbt Tryz.prog 29=some [.slice none 0 0,.slice none 0 0,.slice none 0 0,.slice none 0 0,.slice none 0 0,.slice none 0 0]:=by kernel_rfl
@[go_sem] theorem j1A:jbX Tryz.prog 29 0=some 0:=by kernel_rfl
@[go_sem] theorem j1B:jbX Tryz.prog 29 1=some 2:=by kernel_rfl
@[go_sem] theorem j1C:jbX Tryz.prog 29 2=some 3:=by kernel_rfl
@[go_sem] theorem j1D:jbX Tryz.prog 29 3=some 4:=by kernel_rfl
@[go_sem] theorem j1E:jbX Tryz.prog 29 4=some 5:=by kernel_rfl
@[go_sem] theorem j7F:jb1 Tryz.prog 29=some [(0,2),(2,1),(3,1),(4,1),(5,1)]:=by kernel_rfl
@[go_sem] theorem j70:jcf Tryz.prog 30=some 1:=by kernel_rfl
@[go_sem] theorem j5C:jaz Tryz.prog 30=some false:=by kernel_rfl
@[go_sem] theorem j71:jcf Tryz.prog 34=some 1:=by kernel_rfl
@[go_sem] theorem j5D:jaz Tryz.prog 34=some false:=by kernel_rfl
@[go_sem] theorem j66:elT Tryz.prog 34=some 47:=by kernel_rfl
@[go_sem] theorem j7j:jhe Tryz.prog 34=some 3:=by kernel_rfl
@[go_sem] theorem j4E:jaK Tryz.prog 34=true:=by kernel_rfl
@[go_sem] theorem j72:jcf Tryz.prog 35=some 1:=by kernel_rfl
@[go_sem] theorem j5E:jaz Tryz.prog 35=some false:=by kernel_rfl
@[go_sem] theorem j67:elT Tryz.prog 35=some 22:=by kernel_rfl
@[go_sem] theorem j7k:jhe Tryz.prog 35=some 1:=by kernel_rfl
@[go_sem] theorem j4F:jaK Tryz.prog 35=true:=by kernel_rfl
@[go_sem] theorem j73:jcf Tryz.prog 36=some 1:=by kernel_rfl
@[go_sem] theorem j5F:jaz Tryz.prog 36=some false:=by kernel_rfl
@[go_sem] theorem j68:elT Tryz.prog 36=some 9:=by kernel_rfl
@[go_sem] theorem j7l:jhe Tryz.prog 36=some 1:=by kernel_rfl
@[go_sem] theorem j4G:jaK Tryz.prog 36=true:=by kernel_rfl
@[go_sem] theorem j74:jcf Tryz.prog 38=some 7:=by kernel_rfl
@[go_sem] theorem j5G:jaz Tryz.prog 38=some true:=by kernel_rfl
@[go_sem] theorem j8u:jbt Tryz.prog 38=some [.slice none 0 0,.slice none 0 0,.int .i64 0,.slice none 0 0,.int .i64 0,.int .i64 0,.int .i64 0]:=by kernel_rfl
@[go_sem] theorem j1F:jbX Tryz.prog 38 0=some 0:=by kernel_rfl
@[go_sem] theorem j1G:jbX Tryz.prog 38 1=some 1:=by kernel_rfl
@[go_sem] theorem j1H:jbX Tryz.prog 38 2=some 2:=by kernel_rfl
@[go_sem] theorem j1I:jbX Tryz.prog 38 3=some 3:=by kernel_rfl
@[go_sem] theorem j1J:jbX Tryz.prog 38 4=some 4:=by kernel_rfl
@[go_sem] theorem j1K:jbX Tryz.prog 38 5=some 5:=by kernel_rfl
@[go_sem] theorem j7G:jb1 Tryz.prog 38=some [(0,1),(1,1),(2,1),(3,1),(4,1),(5,1),(6,1)]:=by kernel_rfl
@[go_sem] theorem j75:jcf Tryz.prog 40=some 1:=by kernel_rfl
@[go_sem] theorem j5H:jaz Tryz.prog 40=some false:=by kernel_rfl
@[go_sem] theorem j69:elT Tryz.prog 40=some 86:=by kernel_rfl
@[go_sem] theorem j7m:jhe Tryz.prog 40=some 3:=by kernel_rfl
@[go_sem] theorem j4H:jaK Tryz.prog 40=true:=by kernel_rfl
@[go_sem] theorem j76:jcf Tryz.prog 42=some 7:=by kernel_rfl
@[go_sem] theorem j5I:jaz Tryz.prog 42=some true:=by kernel_rfl
@[go_sem] theorem j8v:jbt Tryz.prog 42=some [.slice none 0 0,.slice none 0 0,.int .i64 0,.slice none 0 0,.int .i64 0,.int .i64 0,.int .i64 0]:=by kernel_rfl
@[go_sem] theorem j1L:jbX Tryz.prog 42 0=some 0:=by kernel_rfl
@[go_sem] theorem j1M:jbX Tryz.prog 42 1=some 1:=by kernel_rfl
@[go_sem] theorem j1N:jbX Tryz.prog 42 2=some 2:=by kernel_rfl
@[go_sem] theorem j1O:jbX Tryz.prog 42 3=some 3:=by kernel_rfl
@[go_sem] theorem j1P:jbX Tryz.prog 42 4=some 4:=by kernel_rfl
@[go_sem] theorem j1Q:jbX Tryz.prog 42 5=some 5:=by kernel_rfl
@[go_sem] theorem j1R:jbX Tryz.prog 42 6=some 6:=by kernel_rfl
@[go_sem] theorem j7H:jb1 Tryz.prog 42=some [(0,1),(1,1),(2,1),(3,1),(4,1),(5,1),(6,1)]:=by kernel_rfl
@[go_sem] theorem j77:jcf Tryz.prog 45=some 1:=by kernel_rfl
@[go_sem] theorem j5J:jaz Tryz.prog 45=some false:=by kernel_rfl
@[go_sem] theorem j7a:elT Tryz.prog 45=some 49:=by kernel_rfl
@[go_sem] theorem j7n:jhe Tryz.prog 45=some 3:=by kernel_rfl
@[go_sem] theorem j4I:jaK Tryz.prog 45=true:=by kernel_rfl
@[go_sem] theorem j78:jcf Tryz.prog 47=some 3:=by kernel_rfl
@[go_sem] theorem j5K:jaz Tryz.prog 47=some true:=by kernel_rfl
@[go_sem] theorem j8w:jbt Tryz.prog 47=some [.int .i64 0,.int .i64 0,.slice none 0 0]:=by kernel_rfl
@[go_sem] theorem j1S:jbX Tryz.prog 47 0=some 0:=by kernel_rfl
@[go_sem] theorem j1T:jbX Tryz.prog 47 1=some 1:=by kernel_rfl
@[go_sem] theorem j1U:jbX Tryz.prog 47 2=some 2:=by kernel_rfl
@[go_sem] theorem j7I:jb1 Tryz.prog 47=some [(0,1),(1,1),(2,1)]:=by kernel_rfl
@[go_sem] theorem j53:jb3 Tryz.prog 47=40:=by kernel_rfl
@[go_sem] theorem j79:jcf Tryz.prog 49=some 3:=by kernel_rfl
@[go_sem] theorem j5L:jaz Tryz.prog 49=some true:=by kernel_rfl
@[go_sem] theorem j8x:jbt Tryz.prog 49=some [.int .i64 0,.int .i64 0,.string ⟨#[]⟩]:=by kernel_rfl
@[go_sem] theorem j1V:jbX Tryz.prog 49 0=some 0:=by kernel_rfl
@[go_sem] theorem j1W:jbX Tryz.prog 49 1=some 1:=by kernel_rfl
@[go_sem] theorem j1X:jbX Tryz.prog 49 2=some 2:=by kernel_rfl
@[go_sem] theorem j7J:jb1 Tryz.prog 49=some [(0,1),(1,1),(2,1)]:=by kernel_rfl
@[go_sem] theorem j54:jb3 Tryz.prog 49=32:=by kernel_rfl
@[go_sem] theorem j8a:jcf Tryz.prog 50=some 1:=by kernel_rfl
@[go_sem] theorem j5M:jaz Tryz.prog 50=some false:=by kernel_rfl
@[go_sem] theorem j7b:elT Tryz.prog 50=some 56:=by kernel_rfl
@[go_sem] theorem j7o:jhe Tryz.prog 50=some 3:=by kernel_rfl
@[go_sem] theorem j4J:jaK Tryz.prog 50=true:=by kernel_rfl
@[go_sem] theorem j8b:jcf Tryz.prog 52=some 5:=by kernel_rfl
@[go_sem] theorem j5N:jaz Tryz.prog 52=some true:=by kernel_rfl
@[go_sem] theorem j8y:jbt Tryz.prog 52=some [.slice none 0 0,.slice none 0 0,.int .i64 0,.int .i64 0,.int .i64 0]:=by kernel_rfl
@[go_sem] theorem j1Y:jbX Tryz.prog 52 0=some 0:=by kernel_rfl
@[go_sem] theorem j1Z:jbX Tryz.prog 52 1=some 1:=by kernel_rfl
@[go_sem] theorem j10:jbX Tryz.prog 52 2=some 2:=by kernel_rfl
@[go_sem] theorem j11:jbX Tryz.prog 52 3=some 3:=by kernel_rfl
@[go_sem] theorem j12:jbX Tryz.prog 52 4=some 4:=by kernel_rfl
@[go_sem] theorem j7K:jb1 Tryz.prog 52=some [(0,1),(1,1),(2,1),(3,1),(4,1)]:=by kernel_rfl
@[go_sem] theorem j8c:jcf Tryz.prog 54=some 1:=by kernel_rfl
@[go_sem] theorem j5O:jaz Tryz.prog 54=some false:=by kernel_rfl
@[go_sem] theorem j7c:elT Tryz.prog 54=some 58:=by kernel_rfl
@[go_sem] theorem j7p:jhe Tryz.prog 54=some 2:=by kernel_rfl
@[go_sem] theorem j4K:jaK Tryz.prog 54=true:=by kernel_rfl
@[go_sem] theorem j8d:jcf Tryz.prog 56=some 3:=by kernel_rfl
@[go_sem] theorem j5P:jaz Tryz.prog 56=some true:=by kernel_rfl
@[go_sem] theorem j8z:jbt Tryz.prog 56=some [.string ⟨#[]⟩,.int .i64 0,.slice none 0 0]:=by kernel_rfl
@[go_sem] theorem j13:jbX Tryz.prog 56 0=some 0:=by kernel_rfl
@[go_sem] theorem j14:jbX Tryz.prog 56 1=some 1:=by kernel_rfl
@[go_sem] theorem j15:jbX Tryz.prog 56 2=some 2:=by kernel_rfl
@[go_sem] theorem j7L:jb1 Tryz.prog 56=some [(0,1),(1,1),(2,1)]:=by kernel_rfl
@[go_sem] theorem j55:jb3 Tryz.prog 56=48:=by kernel_rfl
@[go_sem] theorem j8e:jcf Tryz.prog 58=some 2:=by kernel_rfl
@[go_sem] theorem j5Q:jaz Tryz.prog 58=some true:=by kernel_rfl
@[go_sem] theorem j8A:jbt Tryz.prog 58=some [.string ⟨#[]⟩,.string ⟨#[]⟩]:=by kernel_rfl
@[go_sem] theorem j16:jbX Tryz.prog 58 0=some 0:=by kernel_rfl
@[go_sem] theorem j17:jbX Tryz.prog 58 1=some 1:=by kernel_rfl
@[go_sem] theorem j7M:jb1 Tryz.prog 58=some [(0,1),(1,1)]:=by kernel_rfl
@[go_sem] theorem j4x:jjM Tryz.prog 58=some [.str,.str]:=by kernel_rfl
@[go_sem] theorem j56:jb3 Tryz.prog 58=32:=by kernel_rfl
@[go_sem] theorem j8f:jcf Tryz.prog 62=some 1:=by kernel_rfl
@[go_sem] theorem j5R:jaz Tryz.prog 62=some false:=by kernel_rfl
@[go_sem] theorem j8B:jbt Tryz.prog 62=some [.slice none 0 0]:=by kernel_rfl
@[go_sem] theorem j7d:elT Tryz.prog 62=some 70:=by kernel_rfl
@[go_sem] theorem j7q:jhe Tryz.prog 62=some 3:=by kernel_rfl
@[go_sem] theorem j4L:jaK Tryz.prog 62=true:=by kernel_rfl
@[go_sem] theorem j8g:jcf Tryz.prog 64=some 1:=by kernel_rfl
@[go_sem] theorem j5S:jaz Tryz.prog 64=some false:=by kernel_rfl
@[go_sem] theorem j7e:elT Tryz.prog 64=some 100:=by kernel_rfl
@[go_sem] theorem j7r:jhe Tryz.prog 64=some 2:=by kernel_rfl
@[go_sem] theorem j4M:jaK Tryz.prog 64=true:=by kernel_rfl
@[go_sem] theorem j8h:jcf Tryz.prog 66=some 5:=by kernel_rfl
@[go_sem] theorem j5T:jaz Tryz.prog 66=some true:=by kernel_rfl
@[go_sem] theorem j8C:jbt Tryz.prog 66=some [.string ⟨#[]⟩,.int .i64 0,.slice none 0 0,.int .i64 0,.int .i64 0]:=by kernel_rfl
@[go_sem] theorem j18:jbX Tryz.prog 66 0=some 0:=by kernel_rfl
@[go_sem] theorem j19:jbX Tryz.prog 66 2=some 2:=by kernel_rfl
@[go_sem] theorem j2a:jbX Tryz.prog 66 3=some 3:=by kernel_rfl
@[go_sem] theorem j2b:jbX Tryz.prog 66 4=some 4:=by kernel_rfl
@[go_sem] theorem j7N:jb1 Tryz.prog 66=some [(0,1),(1,1),(2,1),(3,1),(4,1)]:=by kernel_rfl
@[go_sem] theorem j57:jb3 Tryz.prog 66=64:=by kernel_rfl
@[go_sem] theorem j8i:jcf Tryz.prog 68=some 5:=by kernel_rfl
@[go_sem] theorem j5U:jaz Tryz.prog 68=some true:=by kernel_rfl
@[go_sem] theorem j8D:jbt Tryz.prog 68=some [.int .i64 0,.int .i64 0,.int .i64 0,.string ⟨#[]⟩,.slice none 0 0]:=by kernel_rfl
@[go_sem] theorem j2c:jbX Tryz.prog 68 0=some 0:=by kernel_rfl
@[go_sem] theorem j2d:jbX Tryz.prog 68 1=some 1:=by kernel_rfl
@[go_sem] theorem j2e:jbX Tryz.prog 68 2=some 2:=by kernel_rfl
@[go_sem] theorem j2f:jbX Tryz.prog 68 3=some 3:=by kernel_rfl
@[go_sem] theorem j2g:jbX Tryz.prog 68 4=some 4:=by kernel_rfl
@[go_sem] theorem j7O:jb1 Tryz.prog 68=some [(0,1),(1,1),(2,1),(3,1),(4,1)]:=by kernel_rfl
@[go_sem] theorem j58:jb3 Tryz.prog 68=64:=by kernel_rfl
@[go_sem] theorem j8j:jcf Tryz.prog 70=some 3:=by kernel_rfl
@[go_sem] theorem j5V:jaz Tryz.prog 70=some true:=by kernel_rfl
@[go_sem] theorem j8E:jbt Tryz.prog 70=some [.string ⟨#[]⟩,.int .i64 0,.int .i64 0]:=by kernel_rfl
@[go_sem] theorem j2h:jbX Tryz.prog 70 0=some 0:=by kernel_rfl
@[go_sem] theorem j2i:jbX Tryz.prog 70 1=some 1:=by kernel_rfl
@[go_sem] theorem j2j:jbX Tryz.prog 70 2=some 2:=by kernel_rfl
@[go_sem] theorem j7P:jb1 Tryz.prog 70=some [(0,1),(1,1),(2,1)]:=by kernel_rfl
@[go_sem] theorem j59:jb3 Tryz.prog 70=32:=by kernel_rfl
@[go_sem] theorem j50:jpV Tryz.prog 71=some (2,1):=by kernel_rfl
@[go_sem] theorem j8k:jcf Tryz.prog 84=some 1:=by kernel_rfl
@[go_sem] theorem j5W:jaz Tryz.prog 84=some false:=by kernel_rfl
@[go_sem] theorem j7f:elT Tryz.prog 84=some 92:=by kernel_rfl
@[go_sem] theorem j7s:jhe Tryz.prog 84=some 2:=by kernel_rfl
@[go_sem] theorem j4N:jaK Tryz.prog 84=true:=by kernel_rfl
@[go_sem] theorem j8l:jcf Tryz.prog 86=some 3:=by kernel_rfl
@[go_sem] theorem j5X:jaz Tryz.prog 86=some true:=by kernel_rfl
@[go_sem] theorem j8F:jbt Tryz.prog 86=some [.int .i64 0,.slice none 0 0,.slice none 0 0]:=by kernel_rfl
@[go_sem] theorem j2k:jbX Tryz.prog 86 0=some 0:=by kernel_rfl
@[go_sem] theorem j2l:jbX Tryz.prog 86 1=some 1:=by kernel_rfl
@[go_sem] theorem j2m:jbX Tryz.prog 86 2=some 2:=by kernel_rfl
@[go_sem] theorem j7Q:jb1 Tryz.prog 86=some [(0,1),(1,1),(2,1)]:=by kernel_rfl
@[go_sem] theorem j6a:jb3 Tryz.prog 86=56:=by kernel_rfl
@[go_sem] theorem j8m:jcf Tryz.prog 92=some 2:=by kernel_rfl
@[go_sem] theorem j5Y:jaz Tryz.prog 92=some true:=by kernel_rfl
@[go_sem] theorem j8G:jbt Tryz.prog 92=some [.int .i64 0,.int .i64 0]:=by kernel_rfl
@[go_sem] theorem j2n:jbX Tryz.prog 92 0=some 0:=by kernel_rfl
@[go_sem] theorem j2o:jbX Tryz.prog 92 1=some 1:=by kernel_rfl
@[go_sem] theorem j7R:jb1 Tryz.prog 92=some [(0,1),(1,1)]:=by kernel_rfl
@[go_sem] theorem j6b:jb3 Tryz.prog 92=16:=by kernel_rfl
@[go_sem] theorem j8n:jcf Tryz.prog 94=some 1:=by kernel_rfl
@[go_sem] theorem j5Z:jaz Tryz.prog 94=some false:=by kernel_rfl
@[go_sem] theorem j8H:jbt Tryz.prog 96=some [.slice none 0 0,.map none]:=by kernel_rfl
@[go_sem] theorem j2p:jbX Tryz.prog 96 0=some 0:=by kernel_rfl
@[go_sem] theorem j2q:jbX Tryz.prog 96 1=some 1:=by kernel_rfl
@[go_sem] theorem j7S:jb1 Tryz.prog 96=some [(0,1),(1,1)]:=by kernel_rfl
@[go_sem] theorem j4X:jcf Tryz.prog 100=some 2:=by kernel_rfl
@[go_sem] theorem j24:jaz Tryz.prog 100=some true:=by kernel_rfl
@[go_sem] theorem j5q:jbt Tryz.prog 100=some [.string ⟨#[]⟩,.int .i64 0]:=by kernel_rfl
@[go_sem] theorem j0x:jbX Tryz.prog 100 0=some 0:=by kernel_rfl
@[go_sem] theorem j0y:jbX Tryz.prog 100 1=some 1:=by kernel_rfl
@[go_sem] theorem j4S:jb1 Tryz.prog 100=some [(0,1),(1,1)]:=by kernel_rfl
@[go_sem] theorem j3g:jb3 Tryz.prog 100=24:=by kernel_rfl
@[go_sem] theorem j4Y:jcf Tryz.prog 123=some 1:=by kernel_rfl
@[go_sem] theorem j25:jaz Tryz.prog 123=some false:=by kernel_rfl
@[go_sem] theorem j4w:elT Tryz.prog 123=some 169:=by kernel_rfl
@[go_sem] theorem j4y:jhe Tryz.prog 123=some 3:=by kernel_rfl
@[go_sem] theorem j5r:jbt Tryz.prog 128=some [.string ⟨#[]⟩,.slice none 0 0,.int .i64 0,.slice none 0 0,.int .i64 0,.int .i64 0,.int .i64 0]:=by kernel_rfl
@[go_sem] theorem j0z:jbX Tryz.prog 128 0=some 0:=by kernel_rfl
@[go_sem] theorem j0A:jbX Tryz.prog 128 1=some 1:=by kernel_rfl
@[go_sem] theorem j0B:jbX Tryz.prog 128 2=some 2:=by kernel_rfl
@[go_sem] theorem j0C:jbX Tryz.prog 128 3=some 3:=by kernel_rfl
@[go_sem] theorem j0D:jbX Tryz.prog 128 4=some 4:=by kernel_rfl
@[go_sem] theorem j0E:jbX Tryz.prog 128 5=some 5:=by kernel_rfl
@[go_sem] theorem j0F:jbX Tryz.prog 128 6=some 6:=by kernel_rfl
@[go_sem] theorem j4T:jb1 Tryz.prog 128=some [(0,1),(1,1),(2,1),(3,1),(4,1),(5,1),(6,1)]:=by kernel_rfl
@[go_sem] theorem j4Z:jcf Tryz.prog 129=some 1:=by kernel_rfl
@[go_sem] theorem j26:jaz Tryz.prog 129=some false:=by kernel_rfl
@[go_sem] theorem j5s:jbt Tryz.prog 129=some [.nilFunc]:=by kernel_rfl
@[go_sem] theorem j5t:jbt Tryz.prog 133=some [.slice none 0 0,.slice none 0 0,.slice none 0 0,.slice none 0 0,.slice none 0 0,.slice none 0 0,.int .i64 0,.slice none 0 0,.int .i64 0,.int .i64 0,.int .i64 0]:=by kernel_rfl
@[go_sem] theorem j0G:jbX Tryz.prog 133 0=some 0:=by kernel_rfl
@[go_sem] theorem j0H:jbX Tryz.prog 133 1=some 6:=by kernel_rfl
@[go_sem] theorem j0I:jbX Tryz.prog 133 2=some 7:=by kernel_rfl
@[go_sem] theorem j0J:jbX Tryz.prog 133 3=some 8:=by kernel_rfl
@[go_sem] theorem j0K:jbX Tryz.prog 133 4=some 9:=by kernel_rfl
@[go_sem] theorem j0L:jbX Tryz.prog 133 5=some 10:=by kernel_rfl
@[go_sem] theorem j4U:jb1 Tryz.prog 133=some [(0,6),(6,1),(7,1),(8,1),(9,1),(10,1)]:=by kernel_rfl
@[go_sem] theorem j40:jcf Tryz.prog 169=some 3:=by kernel_rfl
@[go_sem] theorem j27:jaz Tryz.prog 169=some true:=by kernel_rfl
@[go_sem] theorem j5u:jbt Tryz.prog 169=some [.int .i64 0,.string ⟨#[]⟩,.int .i64 0]:=by kernel_rfl
@[go_sem] theorem j0M:jbX Tryz.prog 169 0=some 0:=by kernel_rfl
@[go_sem] theorem j0N:jbX Tryz.prog 169 1=some 1:=by kernel_rfl
@[go_sem] theorem j0O:jbX Tryz.prog 169 2=some 2:=by kernel_rfl
@[go_sem] theorem j4V:jb1 Tryz.prog 169=some [(0,1),(1,1),(2,1)]:=by kernel_rfl
@[go_sem] theorem j3h:jb3 Tryz.prog 169=32:=by kernel_rfl
@[go_sem] theorem j6c:jaf Tryz.prog 13=true:=by kernel_rfl
@[go_sem] theorem j6d:jaf Tryz.prog 14=true:=by kernel_rfl
@[go_sem] theorem j6e:jaf Tryz.prog 15=true:=by kernel_rfl
@[go_sem] theorem j6f:jaf Tryz.prog 16=true:=by kernel_rfl
@[go_sem] theorem j6g:jaf Tryz.prog 17=true:=by kernel_rfl
@[go_sem] theorem j6h:jaf Tryz.prog 18=true:=by kernel_rfl
@[go_sem] theorem j6i:jaf Tryz.prog 19=true:=by kernel_rfl
@[go_sem] theorem j6j:jaf Tryz.prog 21=true:=by kernel_rfl
@[go_sem] theorem j6k:jaf Tryz.prog 22=true:=by kernel_rfl
@[go_sem] theorem j6l:jaf Tryz.prog 23=true:=by kernel_rfl
@[go_sem] theorem j6m:jaf Tryz.prog 24=true:=by kernel_rfl
@[go_sem] theorem j6n:jaf Tryz.prog 25=true:=by kernel_rfl
@[go_sem] theorem j6o:jaf Tryz.prog 26=true:=by kernel_rfl
@[go_sem] theorem j6p:jaf Tryz.prog 27=true:=by kernel_rfl
@[go_sem] theorem j6q:jaf Tryz.prog 28=true:=by kernel_rfl
@[go_sem] theorem j6r:jaf Tryz.prog 33=true:=by kernel_rfl
@[go_sem] theorem j6s:jaf Tryz.prog 36=true:=by kernel_rfl
@[go_sem] theorem j6t:jaf Tryz.prog 38=true:=by kernel_rfl
@[go_sem] theorem j6u:jaf Tryz.prog 40=true:=by kernel_rfl
@[go_sem] theorem j6v:jaf Tryz.prog 42=true:=by kernel_rfl
@[go_sem] theorem j6w:jaf Tryz.prog 43=true:=by kernel_rfl
@[go_sem] theorem j6x:jaf Tryz.prog 44=true:=by kernel_rfl
@[go_sem] theorem j6y:jaf Tryz.prog 45=true:=by kernel_rfl
@[go_sem] theorem j6z:jaf Tryz.prog 46=true:=by kernel_rfl
@[go_sem] theorem j6A:jaf Tryz.prog 47=true:=by kernel_rfl
@[go_sem] theorem j6B:jaf Tryz.prog 48=true:=by kernel_rfl
@[go_sem] theorem j6C:jaf Tryz.prog 49=true:=by kernel_rfl
@[go_sem] theorem j6D:jaf Tryz.prog 50=true:=by kernel_rfl
@[go_sem] theorem j6E:jaf Tryz.prog 51=true:=by kernel_rfl
@[go_sem] theorem j6F:jaf Tryz.prog 52=true:=by kernel_rfl
@[go_sem] theorem j6G:jaf Tryz.prog 53=true:=by kernel_rfl
@[go_sem] theorem j6H:jaf Tryz.prog 54=true:=by kernel_rfl
@[go_sem] theorem j6I:jaf Tryz.prog 55=true:=by kernel_rfl
@[go_sem] theorem j6J:jaf Tryz.prog 60=true:=by kernel_rfl
@[go_sem] theorem j6K:jaf Tryz.prog 61=true:=by kernel_rfl
@[go_sem] theorem j6L:jaf Tryz.prog 64=true:=by kernel_rfl
@[go_sem] theorem j6M:jaf Tryz.prog 68=true:=by kernel_rfl
@[go_sem] theorem j6N:jaf Tryz.prog 69=true:=by kernel_rfl
@[go_sem] theorem j6O:jaf Tryz.prog 70=true:=by kernel_rfl
@[go_sem] theorem j6P:jaf Tryz.prog 71=true:=by kernel_rfl
@[go_sem] theorem j6Q:jaf Tryz.prog 72=true:=by kernel_rfl
@[go_sem] theorem j6R:jaf Tryz.prog 73=true:=by kernel_rfl
@[go_sem] theorem j6S:jaf Tryz.prog 74=true:=by kernel_rfl
@[go_sem] theorem j6T:jaf Tryz.prog 75=true:=by kernel_rfl
@[go_sem] theorem j6U:jaf Tryz.prog 76=true:=by kernel_rfl
@[go_sem] theorem j6V:jaf Tryz.prog 77=true:=by kernel_rfl
@[go_sem] theorem j6W:jaf Tryz.prog 78=true:=by kernel_rfl
@[go_sem] theorem j6X:jaf Tryz.prog 85=true:=by kernel_rfl
@[go_sem] theorem j6Y:jaf Tryz.prog 88=true:=by kernel_rfl
@[go_sem] theorem j6Z:jaf Tryz.prog 89=true:=by kernel_rfl
@[go_sem] theorem j3i:jaf Tryz.prog 102=true:=by kernel_rfl
@[go_sem] theorem j3j:jaf Tryz.prog 103=true:=by kernel_rfl
@[go_sem] theorem j3k:jaf Tryz.prog 104=true:=by kernel_rfl
@[go_sem] theorem j3l:jaf Tryz.prog 105=true:=by kernel_rfl
@[go_sem] theorem j3m:jaf Tryz.prog 106=true:=by kernel_rfl
@[go_sem] theorem j3n:jaf Tryz.prog 107=true:=by kernel_rfl
@[go_sem] theorem j3o:jaf Tryz.prog 108=true:=by kernel_rfl
@[go_sem] theorem j3p:jaf Tryz.prog 109=true:=by kernel_rfl
@[go_sem] theorem j3q:jaf Tryz.prog 110=true:=by kernel_rfl
@[go_sem] theorem j3r:jaf Tryz.prog 111=true:=by kernel_rfl
@[go_sem] theorem j3s:jaf Tryz.prog 112=true:=by kernel_rfl
@[go_sem] theorem j3t:jaf Tryz.prog 113=true:=by kernel_rfl
@[go_sem] theorem j3u:jaf Tryz.prog 114=true:=by kernel_rfl
@[go_sem] theorem j3v:jaf Tryz.prog 115=true:=by kernel_rfl
@[go_sem] theorem j3w:jaf Tryz.prog 116=true:=by kernel_rfl
@[go_sem] theorem j3x:jaf Tryz.prog 117=true:=by kernel_rfl
@[go_sem] theorem j3y:jaf Tryz.prog 118=true:=by kernel_rfl
@[go_sem] theorem j3z:jaf Tryz.prog 119=true:=by kernel_rfl
@[go_sem] theorem j3A:jaf Tryz.prog 120=true:=by kernel_rfl
@[go_sem] theorem j3B:jaf Tryz.prog 121=true:=by kernel_rfl
@[go_sem] theorem j3C:jaf Tryz.prog 122=true:=by kernel_rfl
@[go_sem] theorem j3D:jaf Tryz.prog 123=true:=by kernel_rfl
@[go_sem] theorem j3E:jaf Tryz.prog 124=true:=by kernel_rfl
@[go_sem] theorem j3F:jaf Tryz.prog 135=true:=by kernel_rfl
@[go_sem] theorem j3G:jaf Tryz.prog 137=true:=by kernel_rfl
@[go_sem] theorem j3H:jaf Tryz.prog 138=true:=by kernel_rfl
@[go_sem] theorem j3I:jaf Tryz.prog 139=true:=by kernel_rfl
@[go_sem] theorem j3J:jaf Tryz.prog 140=true:=by kernel_rfl
@[go_sem] theorem j3K:jaf Tryz.prog 141=true:=by kernel_rfl
@[go_sem] theorem j3L:jaf Tryz.prog 142=true:=by kernel_rfl
@[go_sem] theorem j3M:jaf Tryz.prog 143=true:=by kernel_rfl
@[go_sem] theorem j3N:jaf Tryz.prog 144=true:=by kernel_rfl
@[go_sem] theorem j3O:jaf Tryz.prog 145=true:=by kernel_rfl
@[go_sem] theorem j3P:jaf Tryz.prog 146=true:=by kernel_rfl
@[go_sem] theorem j3Q:jaf Tryz.prog 147=true:=by kernel_rfl
@[go_sem] theorem j3R:jaf Tryz.prog 148=true:=by kernel_rfl
@[go_sem] theorem j3S:jaf Tryz.prog 149=true:=by kernel_rfl
@[go_sem] theorem j3T:jaf Tryz.prog 150=true:=by kernel_rfl
@[go_sem] theorem j3U:jaf Tryz.prog 151=true:=by kernel_rfl
@[go_sem] theorem j3V:jaf Tryz.prog 152=true:=by kernel_rfl
@[go_sem] theorem j3W:jaf Tryz.prog 153=true:=by kernel_rfl
@[go_sem] theorem j3X:jaf Tryz.prog 154=true:=by kernel_rfl
@[go_sem] theorem j3Y:jaf Tryz.prog 155=true:=by kernel_rfl
@[go_sem] theorem j3Z:jaf Tryz.prog 156=true:=by kernel_rfl
@[go_sem] theorem j30:jaf Tryz.prog 164=true:=by kernel_rfl
@[go_sem] theorem j31:jaf Tryz.prog 165=true:=by kernel_rfl
@[go_sem] theorem j32:jaf Tryz.prog 166=true:=by kernel_rfl
@[go_sem] theorem j33:jaf Tryz.prog 167=true:=by kernel_rfl
@[go_sem] theorem j34:jaf Tryz.prog 168=true:=by kernel_rfl
@[go_sem] theorem j35:jaf Tryz.prog 169=true:=by kernel_rfl
@[go_sem] theorem j36:jaf Tryz.prog 170=true:=by kernel_rfl
@[go_sem] theorem j37:jaf Tryz.prog 171=true:=by kernel_rfl
@[go_sem] theorem j38:jaf Tryz.prog 172=true:=by kernel_rfl
@[go_sem] theorem j39:jaf Tryz.prog 173=true:=by kernel_rfl
@[go_sem] theorem j4a:jaf Tryz.prog 174=true:=by kernel_rfl
@[go_sem] theorem j4b:jaf Tryz.prog 175=true:=by kernel_rfl
@[go_sem] theorem j4c:jaf Tryz.prog 176=true:=by kernel_rfl
@[go_sem] theorem j4d:jaf Tryz.prog 177=true:=by kernel_rfl
@[go_sem] theorem j4e:jaf Tryz.prog 185=true:=by kernel_rfl
@[go_sem] theorem j4f:jaf Tryz.prog 186=true:=by kernel_rfl
@[go_sem] theorem j4g:jaf Tryz.prog 187=true:=by kernel_rfl
@[go_sem] theorem j4h:jaf Tryz.prog 188=true:=by kernel_rfl
@[go_sem] theorem j4i:jaf Tryz.prog 189=true:=by kernel_rfl
@[go_sem] theorem j4j:jaf Tryz.prog 201=true:=by kernel_rfl
@[go_sem] theorem j4k:jaf Tryz.prog 202=true:=by kernel_rfl
@[go_sem] theorem j4l:jaf Tryz.prog 203=true:=by kernel_rfl
@[go_sem] theorem j4m:jaf Tryz.prog 204=true:=by kernel_rfl
@[go_sem] theorem j4n:jaf Tryz.prog 205=true:=by kernel_rfl
@[go_sem] theorem j4o:jaf Tryz.prog 210=true:=by kernel_rfl
@[go_sem] theorem j4p:jaf Tryz.prog 211=true:=by kernel_rfl
@[go_sem] theorem j4q:jaf Tryz.prog 215=true:=by kernel_rfl
theorem mixed:Tryz.prog.follows .mixedOrders=true:=by kernel_rfl
theorem jqN:jsh Tryz.prog 94=some (false,3):=by kernel_rfl
@[go_sem] theorem j7D:jnH Tryz.prog 94=true:=by kernel_rfl
theorem jcs:jsh Tryz.prog 105=some (false,9):=by kernel_rfl
end Go.Proofs.YtdekkklnfifphaaGreatDoor

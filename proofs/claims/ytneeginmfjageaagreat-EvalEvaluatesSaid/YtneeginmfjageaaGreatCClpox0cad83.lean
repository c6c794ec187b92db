/-
  slices.Clip of values: the same cells, no room behind. Conditions: none.
-/
import Derived.KernelRfl
import Derived.Test.YtneeginmfjageaaGreatCDrnox4dccf6
set_option linter.all false
namespace Go.Proofs.YtneeginmfjageaaGreat
namespace Abs
open Go Go.Proofs
def aHz:mQ Tryz.prog 74=true:=by kernel_rfl
def Ke(a:Option Addr)(len cap:Nat)(h:len<=cap)(l:len<=140737488355328)(W:World):Calls Tryz.prog 74 #[.slice a len cap] W λe w=>e=.returned (.slice a len len)/\w=W:=by
 go_enter Tryz.func74,Tryz.ntmps74
 go_wp2
 go_ret
 exact⟨rfl,rfl⟩
end Abs
end Go.Proofs.YtneeginmfjageaaGreat

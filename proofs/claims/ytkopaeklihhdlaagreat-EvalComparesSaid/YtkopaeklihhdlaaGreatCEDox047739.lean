/-
  Structures of the program (printed by gen.py). Conditions: none.
-/
import Derived.KernelRfl
import Derived.Test.YtkopaeklihhdlaaGreatCEDx01e46e
import Derived.Test.YtkopaeklihhdlaaGreatCDmoxc84b38
set_option linter.unusedSimpArgs false
set_option linter.unusedVariables false
namespace Go.Proofs.YtkopaeklihhdlaaGreat
namespace Abs
open Go Go.Proofs
theorem Jf : aX Tryz.prog 26 = true := by kernel_rfl
theorem Ro : aX Tryz.prog 66 = true := by kernel_rfl
end Abs
end Go.Proofs.YtkopaeklihhdlaaGreat

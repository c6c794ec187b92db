/-
  More structures of the program (printed by gen.py). Conditions: none.
-/
import Derived.Test.YtkopaeklihhdlaaGreatCDnx4dbce8
import Derived.Test.YtkopaeklihhdlaaGreatCEDx01e46e
set_option linter.unusedSimpArgs false
set_option linter.unusedVariables false
namespace Go.Proofs.YtkopaeklihhdlaaGreat
namespace Abs
open Go Go.Proofs
theorem JO : aX Tryz.prog 21 = true := by kernel_rfl
theorem Q6 : aX Tryz.prog 24 = true := by kernel_rfl
theorem abu : aX Tryz.prog 36 = true := by kernel_rfl
theorem WU : aX Tryz.prog 52 = true := by kernel_rfl
end Abs
end Go.Proofs.YtkopaeklihhdlaaGreat

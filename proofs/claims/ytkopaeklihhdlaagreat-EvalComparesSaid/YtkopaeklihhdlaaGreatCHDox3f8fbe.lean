/-
  More structures of the program (printed by gen.py). Conditions: none.
-/
import Derived.Test.YtkopaeklihhdlaaGreatCHDx814cb8
import Derived.Test.YtkopaeklihhdlaaGreatCDnox97d44d
import Derived.Test.YtkopaeklihhdlaaGreatCEDox047739
set_option linter.unusedSimpArgs false
set_option linter.unusedVariables false
namespace Go.Proofs.YtkopaeklihhdlaaGreat
namespace Abs
open Go Go.Proofs
theorem abV : aX Tryz.prog 25 = true := by kernel_rfl
theorem abB : aX Tryz.prog 54 = true := by kernel_rfl
theorem ab2 : aX Tryz.prog 64 = true := by kernel_rfl
theorem Xx : aX Tryz.prog 65 = true := by kernel_rfl
theorem QD : aX Tryz.prog 71 = true := by kernel_rfl
theorem ZR : aX Tryz.prog 121 = true := by kernel_rfl
end Abs
end Go.Proofs.YtkopaeklihhdlaaGreat

/-
  More structures of the program (printed by gen.py). Conditions: none.
-/
import Derived.Test.YtkopaeklihhdlaaGreatCDnox4fa3fa
import Derived.Test.YtkopaeklihhdlaaGreatCEDoxbbef31
set_option linter.unusedSimpArgs false
set_option linter.unusedVariables false
namespace Go.Proofs.YtkopaeklihhdlaaGreat
namespace Abs
open Go Go.Proofs
theorem Ct : aU Tryz.prog 21 = true := by kernel_rfl
theorem aal : aU Tryz.prog 36 = true := by kernel_rfl
theorem GQ : aU Tryz.prog 52 = true := by kernel_rfl
theorem MN : aU Tryz.prog 54 = true := by kernel_rfl
theorem TK : aU Tryz.prog 65 = true := by kernel_rfl
end Abs
end Go.Proofs.YtkopaeklihhdlaaGreat

/-
  More structures of the program (printed by gen.py). Conditions: none.
-/
import Derived.Test.YtkopaeklihhdlaaGreatCDnox6c6596
import Derived.Test.YtkopaeklihhdlaaGreatCEDoxca9dbf
set_option linter.unusedSimpArgs false
set_option linter.unusedVariables false
namespace Go.Proofs.YtkopaeklihhdlaaGreat
namespace Abs
open Go Go.Proofs
theorem zI : aY Tryz.prog 21 = true := by kernel_rfl
theorem acP : aY Tryz.prog 36 = true := by kernel_rfl
theorem Iw : aY Tryz.prog 52 = true := by kernel_rfl
theorem MU : aY Tryz.prog 54 = true := by kernel_rfl
theorem Xf : aY Tryz.prog 65 = true := by kernel_rfl
theorem OG : aY Tryz.prog 71 = true := by kernel_rfl
theorem afH : aY Tryz.prog 121 = true := by kernel_rfl
end Abs
end Go.Proofs.YtkopaeklihhdlaaGreat

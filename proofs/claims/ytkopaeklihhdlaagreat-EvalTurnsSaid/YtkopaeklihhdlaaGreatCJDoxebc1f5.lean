/-
  More structures of the program (printed by gen.py). Conditions: none.
-/
import Derived.Test.YtkopaeklihhdlaaGreatCDoox208ebf
import Derived.Test.YtkopaeklihhdlaaGreatCHDoxe065cb
set_option linter.unusedSimpArgs false
set_option linter.unusedVariables false
namespace Go.Proofs.YtkopaeklihhdlaaGreat
namespace Abs
open Go Go.Proofs
theorem Vh : aY Tryz.prog 22 = true := by kernel_rfl
theorem abA : aY Tryz.prog 55 = true := by kernel_rfl
theorem acj : aY Tryz.prog 56 = true := by kernel_rfl
theorem agR : aY Tryz.prog 57 = true := by kernel_rfl
theorem agi : aY Tryz.prog 58 = true := by kernel_rfl
theorem aeQ : aY Tryz.prog 108 = true := by kernel_rfl
theorem afy : aY Tryz.prog 111 = true := by kernel_rfl
theorem afd : aY Tryz.prog 112 = true := by kernel_rfl
theorem Zg : aY Tryz.prog 113 = true := by kernel_rfl
theorem Za : aY Tryz.prog 169 = true := by kernel_rfl
theorem ZL : aY Tryz.prog 170 = true := by kernel_rfl
theorem aft : aY Tryz.prog 171 = true := by kernel_rfl
end Abs
end Go.Proofs.YtkopaeklihhdlaaGreat

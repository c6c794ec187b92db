/-
  More structures of the program (printed by gen.py). Conditions: none.
-/
import Derived.Test.YtkopaeklihhdlaaGreatCDoox6402f9
import Derived.Test.YtkopaeklihhdlaaGreatCHDox21eab3
set_option linter.unusedSimpArgs false
set_option linter.unusedVariables false
namespace Go.Proofs.YtkopaeklihhdlaaGreat
namespace Abs
open Go Go.Proofs
theorem ZJ : aU Tryz.prog 17 = true := by kernel_rfl
theorem aez : aU Tryz.prog 18 = true := by kernel_rfl
theorem ZQ : aU Tryz.prog 19 = true := by kernel_rfl
theorem afP : aU Tryz.prog 20 = true := by kernel_rfl
theorem aaj : aU Tryz.prog 22 = true := by kernel_rfl
theorem Z4 : aU Tryz.prog 51 = true := by kernel_rfl
theorem Zq : aU Tryz.prog 53 = true := by kernel_rfl
theorem aft : aU Tryz.prog 55 = true := by kernel_rfl
theorem afa : aU Tryz.prog 56 = true := by kernel_rfl
theorem afO : aU Tryz.prog 57 = true := by kernel_rfl
theorem afF : aU Tryz.prog 58 = true := by kernel_rfl
theorem adF : aU Tryz.prog 105 = true := by kernel_rfl
theorem adS : aU Tryz.prog 106 = true := by kernel_rfl
theorem acy : aU Tryz.prog 108 = true := by kernel_rfl
theorem adJ : aU Tryz.prog 111 = true := by kernel_rfl
theorem acN : aU Tryz.prog 112 = true := by kernel_rfl
theorem XE : aU Tryz.prog 113 = true := by kernel_rfl
theorem Xm : aU Tryz.prog 169 = true := by kernel_rfl
theorem Xb : aU Tryz.prog 170 = true := by kernel_rfl
theorem ady : aU Tryz.prog 171 = true := by kernel_rfl
end Abs
end Go.Proofs.YtkopaeklihhdlaaGreat

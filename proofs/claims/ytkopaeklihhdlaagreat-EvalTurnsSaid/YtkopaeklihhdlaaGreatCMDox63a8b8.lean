/-
  More structures of the program (printed by gen.py). Conditions: none.
-/
import Derived.Test.YtkopaeklihhdlaaGreatCDpox3709b3
import Derived.Test.YtkopaeklihhdlaaGreatCJDoxebc1f5
set_option linter.unusedSimpArgs false
set_option linter.unusedVariables false
namespace Go.Proofs.YtkopaeklihhdlaaGreat
namespace Abs
open Go Go.Proofs
def eX (x : S_refinementlaw03_Turned) : List AV := [.str x.carrier, .slice (List.map encI x.perm) .shared]
theorem yx (g : Nat → Nat) (l : List S_refinementlaw03_Turned) : bq g (l.map eX) = l.map eX := sI (fun g x => by simp only [eX, bD, ren, dx, aR, bE, bQ, bf, bP, au, aF, aD, aS]) g l
theorem agy : aY Tryz.prog 27 = true := by kernel_rfl
theorem agA : aY Tryz.prog 28 = true := by kernel_rfl
theorem ND : aY Tryz.prog 29 = true := by kernel_rfl
theorem NH : aY Tryz.prog 30 = true := by kernel_rfl
theorem MQ : aY Tryz.prog 31 = true := by kernel_rfl
theorem aha : aY Tryz.prog 69 = true := by kernel_rfl
attribute [simp] yx
end Abs
end Go.Proofs.YtkopaeklihhdlaaGreat

/-
  More structures of the program (printed by gen.py). Conditions: none.
-/
import Derived.Test.YtkopaeklihhdlaaGreatCDzoxad2fc4
set_option linter.all false
namespace Go.Proofs.YtkopaeklihhdlaaGreat
namespace Abs
open Go Go.Proofs
theorem V5:aZ Tryz.prog 21=true:=by kernel_rfl
theorem aiZ:aZ Tryz.prog 36=true:=by kernel_rfl
theorem acB:aZ Tryz.prog 52=true:=by kernel_rfl
end Abs
end Go.Proofs.YtkopaeklihhdlaaGreat

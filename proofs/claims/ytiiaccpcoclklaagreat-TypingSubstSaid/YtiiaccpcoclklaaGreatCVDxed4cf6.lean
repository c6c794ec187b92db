/-
  More structures of the program (printed by gen.py). Conditions: none.
-/
import Derived.Test.YtiiaccpcoclklaaGreatCDhxbbaa12
import Derived.Test.YtiiaccpcoclklaaGreatCTDx83fdfc
set_option linter.unusedSimpArgs false
set_option linter.unusedVariables false
namespace Go.Proofs.YtiiaccpcoclklaaGreat
namespace Abs
open Go Go.Proofs
theorem I6 : au Tryz.prog 109 = true := by kernel_rfl
theorem adw : au Tryz.prog 152 = true := by kernel_rfl
end Abs
end Go.Proofs.YtiiaccpcoclklaaGreat

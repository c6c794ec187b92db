/-
  Contracts of Go functions (printed). Conditions: none.
-/
import Derived.KernelRfl
import Derived.Test.YtiiaccpcoclklaaGreatCAbs38x04b7ad
import Derived.Test.YtiiaccpcoclklaaGreatCDgx5c904c
import Derived.Test.YtiiaccpcoclklaaGreatCUDxad63aa
import Derived.Test.YtiiaccpcoclklaaGreatCU3x7ec7ae
set_option linter.unusedSimpArgs false
set_option linter.unusedVariables false
namespace Go.Proofs.YtiiaccpcoclklaaGreat
namespace Abs
open Go Go.Proofs
set_option maxRecDepth 100000
set_option maxHeartbeats 40000000
end Abs
end Go.Proofs.YtiiaccpcoclklaaGreat

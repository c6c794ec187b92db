/-
  Plain functions and the contracts of Go functions by them (printed by gen.py). Conditions: none.
-/
import Derived.KernelRfl
import Derived.Test.YtiiaccpcoclklaaGreatCAbs38xf390fb
import Derived.Test.YtiiaccpcoclklaaGreatCDgx37bbb7
import Derived.Test.YtiiaccpcoclklaaGreatCT6xdfb8a6
import Derived.Test.YtiiaccpcoclklaaGreatCT16x7693fd
import Derived.Test.YtiiaccpcoclklaaGreatCT17xc5e087
import Derived.Test.YtiiaccpcoclklaaGreatCU2xe03421
set_option linter.unusedSimpArgs false
set_option linter.unusedVariables false
namespace Go.Proofs.YtiiaccpcoclklaaGreat
namespace Abs
open Go Go.Proofs
set_option maxRecDepth 100000
set_option maxHeartbeats 40000000
end Abs
end Go.Proofs.YtiiaccpcoclklaaGreat

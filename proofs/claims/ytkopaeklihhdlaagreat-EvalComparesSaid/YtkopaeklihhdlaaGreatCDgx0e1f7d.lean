/-
  The plain functions of the program (printed by gen.py). Conditions: none.
-/
import Derived.Test.YtkopaeklihhdlaaGreatCDfxae847c
set_option linter.unusedSimpArgs false
set_option linter.unusedVariables false
namespace Go.Proofs.YtkopaeklihhdlaaGreat
namespace Abs
open Go Go.Proofs
set_option maxRecDepth 100000
set_option maxHeartbeats 40000000
structure S_refinementlaw02_Binding where
  env : Env
  body : Tm
  domain : Tm
  name : Str
end Abs
end Go.Proofs.YtkopaeklihhdlaaGreat

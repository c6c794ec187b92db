/-
  Plain functions of eval.sorted, slices.Clone and slices.Clip at values. Conditions: none.
-/
import Derived.Test.YtkopaeklihhdlaaGreatCP60ox978ac2
set_option linter.unusedSimpArgs false
set_option linter.unusedVariables false
namespace Go.Proofs.YtkopaeklihhdlaaGreat
namespace Abs
open Go
def sM (_ : Nat) (p0 : List Val) : Option (List Val) := app 56 ([] : List Val) p0
def mG (_ : Nat) (p0 : List Val) : Option (List Val) := some p0
end Abs
end Go.Proofs.YtkopaeklihhdlaaGreat

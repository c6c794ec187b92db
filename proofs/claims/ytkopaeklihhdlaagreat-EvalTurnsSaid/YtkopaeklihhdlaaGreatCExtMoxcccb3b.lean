/-
  Plain function of slices.Clip at values that are shared. Conditions: none.
-/
import Derived.Test.YtkopaeklihhdlaaGreatCExtJoxd17ac8
import Derived.Test.YtkopaeklihhdlaaGreatCAbs42ox8fa330
set_option linter.unusedSimpArgs false
set_option linter.unusedVariables false
namespace Go.Proofs.YtkopaeklihhdlaaGreat
namespace Abs
open Go
def lD (_ : Nat) (p0 : List Val) : Option (List Val) := bif Nat.ble p0.length 140737488355328 then some p0 else none
end Abs
end Go.Proofs.YtkopaeklihhdlaaGreat

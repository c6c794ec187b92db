/-
  Plain functions of eval.sorted, slices.Clone and slices.Clip at values. Conditions: none.
-/
import Derived.Test.YtkopaeklihhdlaaGreatCP60ox4d8d85
set_option linter.unusedSimpArgs false
set_option linter.unusedVariables false
namespace Go.Proofs.YtkopaeklihhdlaaGreat
namespace Abs
open Go
def tK (_ : Nat) (p0 : List Val) : Option (List Val) := app 56 ([] : List Val) p0
def mV (_ : Nat) (p0 : List Val) : Option (List Val) := some p0
def pX (_ : Nat) (p0 : List Val) : Option (List Val) := (app 56 ([] : List Val) p0).bind fun r => some (sortV r)
end Abs
end Go.Proofs.YtkopaeklihhdlaaGreat

/-
  Plain functions of eval.sorted, slices.Clone and slices.Clip at values. Conditions: none.
-/
import Derived.Test.YtkopaeklihhdlaaGreatCP60xdc6092
set_option linter.unusedSimpArgs false
set_option linter.unusedVariables false
namespace Go.Proofs.YtkopaeklihhdlaaGreat
namespace Abs
open Go
def qx (_ : Nat) (p0 : List Val) : Option (List Val) := app 56 ([] : List Val) p0
def rX (_ : Nat) (p0 : List Val) : Option (List Val) := some p0
def wD (_ : Nat) (p0 : List Val) : Option (List Val) := (app 56 ([] : List Val) p0).bind fun r => some (sortV r)
end Abs
end Go.Proofs.YtkopaeklihhdlaaGreat

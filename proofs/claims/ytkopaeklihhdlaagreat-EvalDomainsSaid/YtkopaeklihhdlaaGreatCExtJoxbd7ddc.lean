/-
  Plain functions of slices.Clone and slices.Clip at carriers, declarations, types, strings and ints. Conditions: none.
-/
import Derived.Test.YtkopaeklihhdlaaGreatCExtHox0b8d54
set_option linter.all false
namespace Go.Proofs.YtkopaeklihhdlaaGreat
namespace Abs
open Go
end Abs
end Go.Proofs.YtkopaeklihhdlaaGreat

/-
  Plain functions of eval.sorted, slices.Clone and slices.Clip at values. Conditions: none.
-/
import Derived.Test.YtkopaeklihhdlaaGreatCP60ox51de85
set_option linter.all false
namespace Go.Proofs.YtkopaeklihhdlaaGreat
namespace Abs
open Go
def tX(_:Nat)(p0:List Val):Option (List Val):=app 56 ([]:List Val) p0
def qN(_:Nat)(p0:List Val):Option (List Val):=some p0
end Abs
end Go.Proofs.YtkopaeklihhdlaaGreat

/-
  A run that awake asks for. Conditions: none.
-/
import Derived.Test.YtfmdmcenjfkbhaaGreatDoorCAwEox5f2814
set_option linter.all false
namespace Go.Proofs.YtfmdmcenjfkbhaaGreatDoor
namespace Abs
open Go Go.Proofs
def k1:Known:=⟨33,[.str [120,32,60,32,121]],[],.tup [.agg [.int .i64 12,.str [],.int .i64 0,.int .i64 0,.str [],.slice [] .nils,.slice [[.int .i64 20,.str [120],.int .i64 0,.int .i64 0,.str [],.slice [] .shared,.slice [] .shared],[.int .i64 20,.str [121],.int .i64 0,.int .i64 0,.str [],.slice [] .shared,.slice [] .shared]] (.tip 0 7)],.int .i64 0,.int .i64 0],[.tip 14]⟩
theorem adP:runK [] k1.f k1.args k1.H=some (k1.res,k1.H'):=by kernel_rfl
theorem agm:aP Tryz.prog k1.f k1.args k1.H k1.res k1.H':=jQ (m:=[]) (fun _ h=>by cases h) adP
end Abs
end Go.Proofs.YtfmdmcenjfkbhaaGreatDoor

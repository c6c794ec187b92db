/-
  A run that awake asks for. Conditions: none.
-/
import Derived.Test.YtfmdmcenjfkbhaaGreatDoorCAwEox5f2814
set_option linter.all false
namespace Go.Proofs.YtfmdmcenjfkbhaaGreatDoor
namespace Abs
open Go Go.Proofs
def k2:Known:=⟨33,[.str [121,32,60,32,120]],[],.tup [.agg [.int .i64 12,.str [],.int .i64 0,.int .i64 0,.str [],.slice [] .nils,.slice [[.int .i64 20,.str [121],.int .i64 0,.int .i64 0,.str [],.slice [] .shared,.slice [] .shared],[.int .i64 20,.str [120],.int .i64 0,.int .i64 0,.str [],.slice [] .shared,.slice [] .shared]] (.tip 0 7)],.int .i64 0,.int .i64 0],[.tip 14]⟩
theorem ae3:runK [] k2.f k2.args k2.H=some (k2.res,k2.H'):=by kernel_rfl
theorem agG:aP Tryz.prog k2.f k2.args k2.H k2.res k2.H':=jQ (m:=[]) (fun _ h=>by cases h) ae3
end Abs
end Go.Proofs.YtfmdmcenjfkbhaaGreatDoor

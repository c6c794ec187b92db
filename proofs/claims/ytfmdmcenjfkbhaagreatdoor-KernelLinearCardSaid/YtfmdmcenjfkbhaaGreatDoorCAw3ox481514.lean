/-
  A run that awake asks for. Conditions: none.
-/
import Derived.Test.YtfmdmcenjfkbhaaGreatDoorCAwEox5f2814
set_option linter.all false
namespace Go.Proofs.YtfmdmcenjfkbhaaGreatDoor
namespace Abs
open Go Go.Proofs
def k3:Known:=⟨34,[.agg [.slice [] .nils,.slice [[.str [120],.int .i64 1,.str [],.slice [] .shared],[.str [121],.int .i64 1,.str [],.slice [] .shared]] (.tip 0 4),.slice [[.int .i64 12,.str [],.int .i64 0,.int .i64 0,.str [],.slice [] .shared,.slice [[.int .i64 20,.str [120],.int .i64 0,.int .i64 0,.str [],.slice [] .shared,.slice [] .shared],[.int .i64 20,.str [121],.int .i64 0,.int .i64 0,.str [],.slice [] .shared,.slice [] .shared]] .shared],[.int .i64 12,.str [],.int .i64 0,.int .i64 0,.str [],.slice [] .shared,.slice [[.int .i64 20,.str [121],.int .i64 0,.int .i64 0,.str [],.slice [] .shared,.slice [] .shared],[.int .i64 20,.str [120],.int .i64 0,.int .i64 0,.str [],.slice [] .shared,.slice [] .shared]] .shared]] (.tip 1 7),.int .i64 2,.str [],.int .i64 0,.int .i64 0,.str [],.slice [] .nils,.slice [] .nils]],[.tip 8,.tip 14],.int .i64 0,[.tip 8,.tip 14]⟩
theorem ae2:runK [] k3.f k3.args k3.H=some (k3.res,k3.H'):=by kernel_rfl
theorem abA:aP Tryz.prog k3.f k3.args k3.H k3.res k3.H':=jQ (m:=[]) (fun _ h=>by cases h) ae2
end Abs
end Go.Proofs.YtfmdmcenjfkbhaaGreatDoor

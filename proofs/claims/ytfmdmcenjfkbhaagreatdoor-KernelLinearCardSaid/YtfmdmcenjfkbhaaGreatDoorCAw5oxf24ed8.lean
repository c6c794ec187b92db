/-
  A run that awake asks for. Conditions: none.
-/
import Derived.Test.YtfmdmcenjfkbhaaGreatDoorCAw4ox9ea60e
set_option linter.all false
namespace Go.Proofs.YtfmdmcenjfkbhaaGreatDoor
namespace Abs
open Go Go.Proofs
def k5:Known:=⟨35,[.agg [.slice [] .nils,.slice [[.str [120],.int .i64 1,.str [],.slice [] .shared],[.str [121],.int .i64 1,.str [],.slice [] .shared]] (.tip 0 4),.slice [[.int .i64 12,.str [],.int .i64 0,.int .i64 0,.str [],.slice [] .shared,.slice [[.int .i64 20,.str [120],.int .i64 0,.int .i64 0,.str [],.slice [] .shared,.slice [] .shared],[.int .i64 20,.str [121],.int .i64 0,.int .i64 0,.str [],.slice [] .shared,.slice [] .shared]] .shared],[.int .i64 12,.str [],.int .i64 0,.int .i64 0,.str [],.slice [] .shared,.slice [[.int .i64 20,.str [121],.int .i64 0,.int .i64 0,.str [],.slice [] .shared,.slice [] .shared],[.int .i64 20,.str [120],.int .i64 0,.int .i64 0,.str [],.slice [] .shared,.slice [] .shared]] .shared]] (.tip 1 7),.int .i64 2,.str [],.int .i64 0,.int .i64 0,.str [],.slice [] .nils,.slice [] .nils],.agg [.int .i64 27,.int .i64 0,.str [],.slice [] .nils,.slice [[.int .i64 12,.str [],.int .i64 0,.int .i64 0,.str [],.slice [] .shared,.slice [[.int .i64 20,.str [120],.int .i64 0,.int .i64 0,.str [],.slice [] .shared,.slice [] .shared],[.int .i64 20,.str [121],.int .i64 0,.int .i64 0,.str [],.slice [] .shared,.slice [] .shared]] .shared],[.int .i64 12,.str [],.int .i64 0,.int .i64 0,.str [],.slice [] .shared,.slice [[.int .i64 20,.str [121],.int .i64 0,.int .i64 0,.str [],.slice [] .shared,.slice [] .shared],[.int .i64 20,.str [120],.int .i64 0,.int .i64 0,.str [],.slice [] .shared,.slice [] .shared]] .shared]] (.tip 2 7),.slice [[.int .i64 1],[.int .i64 1]] (.tip 3 1)]],[.tip 8,.tip 14,.tip 14,.tip 2],.tup [.psl 4 10 0,.int .i64 0],[.tip 8,.tip 14,.tip 14,.tip 2,.arr 10 []]⟩
theorem ae0:runK [k4] k5.f k5.args k5.H=some (k5.res,k5.H'):=by kernel_rfl
theorem abM:aP Tryz.prog k5.f k5.args k5.H k5.res k5.H':=jQ (m:=[k4]) (fun e h=>by
 rcases qAh.1 h with rfl|h
 ·exact ab9
 cases h) ae0
end Abs
end Go.Proofs.YtfmdmcenjfkbhaaGreatDoor

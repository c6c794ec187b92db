/-
  A run that awake asks for. Conditions: none.
-/
import Derived.Test.YtfmdmcenjfkbhaaGreatDoorCAw3ox481514
import Derived.Test.YtfmdmcenjfkbhaaGreatDoorCAw5oxf24ed8
set_option linter.all false
namespace Go.Proofs.YtfmdmcenjfkbhaaGreatDoor
namespace Abs
open Go Go.Proofs
def k6:Known:=⟨21,[.agg [.slice [] .nils,.slice [[.str [120],.int .i64 1,.str [],.slice [] .shared],[.str [121],.int .i64 1,.str [],.slice [] .shared]] (.tip 0 4),.slice [[.int .i64 12,.str [],.int .i64 0,.int .i64 0,.str [],.slice [] .shared,.slice [[.int .i64 20,.str [120],.int .i64 0,.int .i64 0,.str [],.slice [] .shared,.slice [] .shared],[.int .i64 20,.str [121],.int .i64 0,.int .i64 0,.str [],.slice [] .shared,.slice [] .shared]] .shared],[.int .i64 12,.str [],.int .i64 0,.int .i64 0,.str [],.slice [] .shared,.slice [[.int .i64 20,.str [121],.int .i64 0,.int .i64 0,.str [],.slice [] .shared,.slice [] .shared],[.int .i64 20,.str [120],.int .i64 0,.int .i64 0,.str [],.slice [] .shared,.slice [] .shared]] .shared]] (.tip 1 7),.int .i64 2,.str [],.int .i64 0,.int .i64 0,.str [],.slice [] .nils,.slice [] .nils],.agg [.int .i64 27,.int .i64 0,.str [],.slice [] .nils,.slice [[.int .i64 12,.str [],.int .i64 0,.int .i64 0,.str [],.slice [] .shared,.slice [[.int .i64 20,.str [120],.int .i64 0,.int .i64 0,.str [],.slice [] .shared,.slice [] .shared],[.int .i64 20,.str [121],.int .i64 0,.int .i64 0,.str [],.slice [] .shared,.slice [] .shared]] .shared],[.int .i64 12,.str [],.int .i64 0,.int .i64 0,.str [],.slice [] .shared,.slice [[.int .i64 20,.str [121],.int .i64 0,.int .i64 0,.str [],.slice [] .shared,.slice [] .shared],[.int .i64 20,.str [120],.int .i64 0,.int .i64 0,.str [],.slice [] .shared,.slice [] .shared]] .shared]] (.tip 2 7),.slice [[.int .i64 1],[.int .i64 1]] (.tip 3 1)]],[.tip 8,.tip 14,.tip 14,.tip 2],.tup [.slice [] .nils,.int .i64 0],[.tip 8,.tip 14,.tip 14,.tip 2]⟩
theorem adE:runK [k3,k5] k6.f k6.args k6.H=some (k6.res,k6.H'):=by kernel_rfl
theorem ahs:aP Tryz.prog k6.f k6.args k6.H k6.res k6.H':=jQ (m:=[k3,k5]) (fun e h=>by
 rcases qAh.1 h with rfl|h
 ·exact abA
 rcases qAh.1 h with rfl|h
 ·exact abM
 cases h) adE
end Abs
end Go.Proofs.YtfmdmcenjfkbhaaGreatDoor

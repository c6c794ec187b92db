/-
  A run that awake asks for. Conditions: none.
-/
import Derived.Test.YtkopaeklihhdlaaGreatCAw3ox26f803
set_option linter.all false
namespace Go.Proofs.YtkopaeklihhdlaaGreat
namespace Abs
open Go Go.Proofs
def k5:Known:=⟨40,[.agg [.slice [[.str [65],.slice [] .shared]] (.tip 0 2),.slice [[.str [110],.int .i64 1,.str [],.slice [] .shared]] (.tip 1 4),.slice [[.int .i64 2]] (.tip 2 1),.slice [[.int .i64 1,.int .i64 3,.str [],.slice [] .shared]] (.tip 3 4)],.agg [.int .i64 47,.str [],.int .i64 0,.int .i64 0,.str [],.slice [] .nils,.slice [[.int .i64 42,.str [],.int .i64 0,.int .i64 0,.str [],.slice [] .shared,.slice [[.int .i64 20,.str [65],.int .i64 0,.int .i64 0,.str [],.slice [] .shared,.slice [] .shared],[.int .i64 28,.str [],.int .i64 0,.int .i64 0,.str [],.slice [] .shared,.slice [[.int .i64 19,.str [],.int .i64 1,.int .i64 0,.str [],.slice [] .shared,.slice [] .shared]] .shared]] .shared]] (.tip 4 7)]],[.tip 2,.tip 4,.tip 1,.tip 4,.tip 7],.tup [.agg [.int .i64 1,.int .i64 4,.str [],.slice [] .shared],.int .i64 0],[.tip 2,.tip 4,.tip 1,.tip 4,.tip 7]⟩
theorem aoW:runK [k3] k5.f k5.args k5.H=some (k5.res,k5.H'):=by kernel_rfl
theorem ar1:ak Tryz.prog k5.f k5.args k5.H k5.res k5.H':=DF (fun e h=>by
 rcases qAs.1 h with rfl|h
 ·exact ar5
 ·cases h) aoW
end Abs
end Go.Proofs.YtkopaeklihhdlaaGreat

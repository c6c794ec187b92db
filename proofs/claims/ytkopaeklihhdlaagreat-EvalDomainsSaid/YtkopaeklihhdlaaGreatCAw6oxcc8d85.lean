/-
  A run that awake asks for. Conditions: none.
-/
import Derived.Test.YtkopaeklihhdlaaGreatCAw4ox754d69
set_option linter.all false
namespace Go.Proofs.YtkopaeklihhdlaaGreat
namespace Abs
open Go Go.Proofs
def k6:Known:=⟨41,[.agg [.slice [[.str [65],.slice [] .shared]] (.tip 0 2),.slice [[.str [110],.int .i64 1,.str [],.slice [] .shared]] (.tip 1 4),.slice [[.int .i64 2]] (.tip 2 1),.slice [[.int .i64 1,.int .i64 3,.str [],.slice [] .shared]] (.tip 3 4)],.agg [.int .i64 5,.str [],.int .i64 0,.int .i64 0,.str [],.slice [] .nils,.slice [[.int .i64 10,.str [],.int .i64 0,.int .i64 0,.str [],.slice [] .shared,.slice [[.int .i64 20,.str [110],.int .i64 0,.int .i64 0,.str [],.slice [] .shared,.slice [] .shared],[.int .i64 19,.str [],.int .i64 0,.int .i64 0,.str [],.slice [] .shared,.slice [] .shared]] .shared],[.int .i64 10,.str [],.int .i64 0,.int .i64 0,.str [],.slice [] .shared,.slice [[.int .i64 25,.str [],.int .i64 0,.int .i64 0,.str [],.slice [] .shared,.slice [[.int .i64 19,.str [],.int .i64 6,.int .i64 0,.str [],.slice [] .shared,.slice [] .shared],[.int .i64 20,.str [110],.int .i64 0,.int .i64 0,.str [],.slice [] .shared,.slice [] .shared]] .shared],[.int .i64 19,.str [],.int .i64 2,.int .i64 0,.str [],.slice [] .shared,.slice [] .shared]] .shared]] (.tip 4 7)]],[.tip 2,.tip 4,.tip 1,.tip 4,.tip 14],.tup [.bool true,.int .i64 0],[.tip 2,.tip 4,.tip 1,.tip 4,.tip 14]⟩
theorem aqj:runK [k4] k6.f k6.args k6.H=some (k6.res,k6.H'):=by kernel_rfl
theorem asb:ak Tryz.prog k6.f k6.args k6.H k6.res k6.H':=DF (fun e h=>by
 rcases qAs.1 h with rfl|h
 ·exact arF
 ·cases h) aqj
end Abs
end Go.Proofs.YtkopaeklihhdlaaGreat

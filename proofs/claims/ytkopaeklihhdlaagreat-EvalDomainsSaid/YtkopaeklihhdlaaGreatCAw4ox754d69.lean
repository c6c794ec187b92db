/-
  A run that awake asks for. Conditions: none.
-/
import Derived.Test.YtkopaeklihhdlaaGreatCClnox48a797
set_option linter.all false
namespace Go.Proofs.YtkopaeklihhdlaaGreat
namespace Abs
open Go Go.Proofs
def k4:Known:=⟨84,[.ptr 0 0,.agg [.int .i64 5,.str [],.int .i64 0,.int .i64 0,.str [],.slice [] .nils,.slice [[.int .i64 10,.str [],.int .i64 0,.int .i64 0,.str [],.slice [] .shared,.slice [[.int .i64 20,.str [110],.int .i64 0,.int .i64 0,.str [],.slice [] .shared,.slice [] .shared],[.int .i64 19,.str [],.int .i64 0,.int .i64 0,.str [],.slice [] .shared,.slice [] .shared]] .shared],[.int .i64 10,.str [],.int .i64 0,.int .i64 0,.str [],.slice [] .shared,.slice [[.int .i64 25,.str [],.int .i64 0,.int .i64 0,.str [],.slice [] .shared,.slice [[.int .i64 19,.str [],.int .i64 6,.int .i64 0,.str [],.slice [] .shared,.slice [] .shared],[.int .i64 20,.str [110],.int .i64 0,.int .i64 0,.str [],.slice [] .shared,.slice [] .shared]] .shared],[.int .i64 19,.str [],.int .i64 2,.int .i64 0,.str [],.slice [] .shared,.slice [] .shared]] .shared]] (.tip 5 7)]],[.box [.slice [[.str [65],.slice [] .shared]] (.tip 1 2),.slice [[.str [110],.int .i64 1,.str [],.slice [] .shared]] (.tip 2 4),.slice [[.int .i64 2]] (.tip 3 1),.mapr 4,.slice [] .nils],.tip 2,.tip 4,.tip 1,.mp [([110],.agg [.int .i64 1,.int .i64 3,.str [],.slice [] .shared])],.tip 14],.tup [.agg [.int .i64 2,.int .i64 1,.str [],.slice [] .nils],.int .i64 0],[.box [.slice [[.str [65],.slice [] .shared]] (.tip 1 2),.slice [[.str [110],.int .i64 1,.str [],.slice [] .shared]] (.tip 2 4),.slice [[.int .i64 2]] (.tip 3 1),.mapr 4,.slice [] .nils],.tip 2,.tip 4,.tip 1,.mp [([110],.agg [.int .i64 1,.int .i64 3,.str [],.slice [] .shared])],.tip 14]⟩
theorem aqE:runK [] k4.f k4.args k4.H=some (k4.res,k4.H'):=by kernel_rfl
theorem arF:ak Tryz.prog k4.f k4.args k4.H k4.res k4.H':=DF (fun _ h=>by cases h) aqE
end Abs
end Go.Proofs.YtkopaeklihhdlaaGreat

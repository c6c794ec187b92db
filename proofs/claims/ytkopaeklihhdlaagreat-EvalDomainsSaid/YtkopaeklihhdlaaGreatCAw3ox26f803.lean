/-
  A run that awake asks for. Conditions: none.
-/
import Derived.Test.YtkopaeklihhdlaaGreatCClnox48a797
set_option linter.all false
namespace Go.Proofs.YtkopaeklihhdlaaGreat
namespace Abs
open Go Go.Proofs
def k3:Known:=⟨84,[.ptr 0 0,.agg [.int .i64 47,.str [],.int .i64 0,.int .i64 0,.str [],.slice [] .nils,.slice [[.int .i64 42,.str [],.int .i64 0,.int .i64 0,.str [],.slice [] .shared,.slice [[.int .i64 20,.str [65],.int .i64 0,.int .i64 0,.str [],.slice [] .shared,.slice [] .shared],[.int .i64 28,.str [],.int .i64 0,.int .i64 0,.str [],.slice [] .shared,.slice [[.int .i64 19,.str [],.int .i64 1,.int .i64 0,.str [],.slice [] .shared,.slice [] .shared]] .shared]] .shared]] (.tip 5 7)]],[.box [.slice [[.str [65],.slice [] .shared]] (.tip 1 2),.slice [[.str [110],.int .i64 1,.str [],.slice [] .shared]] (.tip 2 4),.slice [[.int .i64 2]] (.tip 3 1),.mapr 4,.slice [] .nils],.tip 2,.tip 4,.tip 1,.mp [([110],.agg [.int .i64 1,.int .i64 3,.str [],.slice [] .shared])],.tip 7],.tup [.agg [.int .i64 1,.int .i64 4,.str [],.slice [] .nils],.int .i64 0],[.box [.slice [[.str [65],.slice [] .shared]] (.tip 1 2),.slice [[.str [110],.int .i64 1,.str [],.slice [] .shared]] (.tip 2 4),.slice [[.int .i64 2]] (.tip 3 1),.mapr 4,.slice [] .nils],.tip 2,.tip 4,.tip 1,.mp [([110],.agg [.int .i64 1,.int .i64 3,.str [],.slice [] .shared])],.tip 7]⟩
theorem ap5:runK [] k3.f k3.args k3.H=some (k3.res,k3.H'):=by kernel_rfl
theorem ar5:ak Tryz.prog k3.f k3.args k3.H k3.res k3.H':=DF (fun _ h=>by cases h) ap5
end Abs
end Go.Proofs.YtkopaeklihhdlaaGreat

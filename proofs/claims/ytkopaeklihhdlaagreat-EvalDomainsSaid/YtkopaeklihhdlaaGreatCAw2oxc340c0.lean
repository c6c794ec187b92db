/-
  A run that awake asks for. Conditions: none.
-/
import Derived.Test.YtkopaeklihhdlaaGreatCClnox48a797
set_option linter.all false
namespace Go.Proofs.YtkopaeklihhdlaaGreat
namespace Abs
open Go Go.Proofs
def k2:Known:=⟨39,[.str [110,32,61,32,48,32,111,114,32,54,32,47,32,110,32,61,32,50]],[],.tup [.agg [.int .i64 5,.str [],.int .i64 0,.int .i64 0,.str [],.slice [] .nils,.slice [[.int .i64 10,.str [],.int .i64 0,.int .i64 0,.str [],.slice [] .shared,.slice [[.int .i64 20,.str [110],.int .i64 0,.int .i64 0,.str [],.slice [] .shared,.slice [] .shared],[.int .i64 19,.str [],.int .i64 0,.int .i64 0,.str [],.slice [] .shared,.slice [] .shared]] .shared],[.int .i64 10,.str [],.int .i64 0,.int .i64 0,.str [],.slice [] .shared,.slice [[.int .i64 25,.str [],.int .i64 0,.int .i64 0,.str [],.slice [] .shared,.slice [[.int .i64 19,.str [],.int .i64 6,.int .i64 0,.str [],.slice [] .shared,.slice [] .shared],[.int .i64 20,.str [110],.int .i64 0,.int .i64 0,.str [],.slice [] .shared,.slice [] .shared]] .shared],[.int .i64 19,.str [],.int .i64 2,.int .i64 0,.str [],.slice [] .shared,.slice [] .shared]] .shared]] (.tip 0 7)],.int .i64 0,.int .i64 0],[.tip 14]⟩
theorem aqg:runK [] k2.f k2.args k2.H=some (k2.res,k2.H'):=by kernel_rfl
theorem ar8:ak Tryz.prog k2.f k2.args k2.H k2.res k2.H':=DF (fun _ h=>by cases h) aqg
end Abs
end Go.Proofs.YtkopaeklihhdlaaGreat

/-
  A run that awake asks for. Conditions: none.
-/
import Derived.Test.YtkopaeklihhdlaaGreatCClnox48a797
set_option linter.all false
namespace Go.Proofs.YtkopaeklihhdlaaGreat
namespace Abs
open Go Go.Proofs
def k1:Known:=⟨39,[.str [99,97,114,100,40,65,32,43,45,62,32,123,49,125,41]],[],.tup [.agg [.int .i64 47,.str [],.int .i64 0,.int .i64 0,.str [],.slice [] .nils,.slice [[.int .i64 42,.str [],.int .i64 0,.int .i64 0,.str [],.slice [] .shared,.slice [[.int .i64 20,.str [65],.int .i64 0,.int .i64 0,.str [],.slice [] .shared,.slice [] .shared],[.int .i64 28,.str [],.int .i64 0,.int .i64 0,.str [],.slice [] .shared,.slice [[.int .i64 19,.str [],.int .i64 1,.int .i64 0,.str [],.slice [] .shared,.slice [] .shared]] .shared]] .shared]] (.tip 0 7)],.int .i64 0,.int .i64 0],[.tip 7]⟩
theorem aqH:runK [] k1.f k1.args k1.H=some (k1.res,k1.H'):=by kernel_rfl
theorem asq:ak Tryz.prog k1.f k1.args k1.H k1.res k1.H':=DF (fun _ h=>by cases h) aqH
end Abs
end Go.Proofs.YtkopaeklihhdlaaGreat

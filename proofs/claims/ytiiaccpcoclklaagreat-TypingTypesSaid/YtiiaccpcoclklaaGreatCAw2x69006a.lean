/-
  The run of TypeOf that 'awake' asks for. Conditions: none.
-/
import Derived.Test.YtiiaccpcoclklaaGreatCAw1x491501
set_option linter.unusedSimpArgs false
set_option linter.unusedVariables false
namespace Go.Proofs.YtiiaccpcoclklaaGreat
namespace Abs
open Go Go.Proofs
def awEnv : AV := .agg [.slice [[.str [65], awZ]] (.tip 0 2), .slice [[.str [97], .int .i64 3, .str [65], awZ], [.str [102], .int .i64 5, .str [], .slice [[.int .i64 4, .str [], .slice [[.int .i64 3, .str [65], awZ], [.int .i64 1, .str [], awZ]] .shared]] .shared]] (.tip 1 4)]
def awT2 : AV := .agg [.int .i64 22, .str [], .int .i64 0, .int .i64 0, .str [], .slice [] .nils, .slice [[.int .i64 54, .str [], .int .i64 0, .int .i64 0, .str [], awZ, .slice [awN [102], awN [97]] .shared], [.int .i64 19, .str [], .int .i64 1, .int .i64 0, .str [], awZ, awZ]] (.tip 2 7)]
def kTypeOf : Known := ⟨18, [awEnv, awT2], [.tip 2, .tip 8, .tip 14], .tup [.agg [.int .i64 1, .str [], .slice [] .nils], .slice [] .nils, .int .i64 0], [.tip 2, .tip 8, .tip 14]⟩
theorem kTypeOf_run : runK [] kTypeOf.f kTypeOf.args kTypeOf.H = some (kTypeOf.res, kTypeOf.H') := by kernel_rfl
theorem kTypeOf_ok : ACalls Tryz.prog kTypeOf.f kTypeOf.args kTypeOf.H kTypeOf.res kTypeOf.H' := runK_ok (fun _ h => by cases h) kTypeOf_run
end Abs
end Go.Proofs.YtiiaccpcoclklaaGreat

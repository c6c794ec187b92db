/-
  The run of TypeOf that 'awake' asks for. Conditions: none.
-/
import Derived.Test.YtiiaccpcoclklaaGreatCAw1oxfb6963
set_option linter.unusedSimpArgs false
set_option linter.unusedVariables false
namespace Go.Proofs.YtiiaccpcoclklaaGreat
namespace Abs
open Go Go.Proofs
def auV : AV := .agg [.slice [[.str [65], Rt]] (.tip 0 2), .slice [[.str [97], .int .i64 3, .str [65], Rt], [.str [102], .int .i64 5, .str [], .slice [[.int .i64 4, .str [], .slice [[.int .i64 3, .str [65], Rt], [.int .i64 1, .str [], Rt]] .shared]] .shared]] (.tip 1 4)]
def av5 : AV := .agg [.int .i64 22, .str [], .int .i64 0, .int .i64 0, .str [], .slice [] .nils, .slice [[.int .i64 54, .str [], .int .i64 0, .int .i64 0, .str [], Rt, .slice [awN [102], awN [97]] .shared], [.int .i64 19, .str [], .int .i64 1, .int .i64 0, .str [], Rt, Rt]] (.tip 2 7)]
def xQ : Known := ⟨18, [auV, av5], [.tip 2, .tip 8, .tip 14], .aW [.agg [.int .i64 1, .str [], .slice [] .nils], .slice [] .nils, .int .i64 0], [.tip 2, .tip 8, .tip 14]⟩
theorem ajR : runK [] xQ.f xQ.args xQ.H = some (xQ.res, xQ.H') := by kernel_rfl
theorem alM : aB Tryz.prog xQ.f xQ.args xQ.H xQ.res xQ.H' := adC (fun _ h => by cases h) ajR
end Abs
end Go.Proofs.YtiiaccpcoclklaaGreat

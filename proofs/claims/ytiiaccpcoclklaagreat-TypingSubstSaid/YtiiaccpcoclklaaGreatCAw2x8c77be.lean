/-
  The run of TypeOf that 'awake' asks for. Conditions: none.
-/
import Derived.Test.YtiiaccpcoclklaaGreatCAw1x775626
set_option linter.unusedSimpArgs false
set_option linter.unusedVariables false
namespace Go.Proofs.YtiiaccpcoclklaaGreat
namespace Abs
open Go Go.Proofs
def anb : AV := .agg [.slice [[.str [65], Ld]] (.tip 0 2), .slice [[.str [97], .int .i64 3, .str [65], Ld], [.str [102], .int .i64 5, .str [], .slice [[.int .i64 4, .str [], .slice [[.int .i64 3, .str [65], Ld], [.int .i64 1, .str [], Ld]] .shared]] .shared]] (.tip 1 4)]
def anT : AV := .agg [.int .i64 22, .str [], .int .i64 0, .int .i64 0, .str [], .slice [] .nils, .slice [[.int .i64 54, .str [], .int .i64 0, .int .i64 0, .str [], Ld, .slice [awN [102], awN [97]] .shared], [.int .i64 19, .str [], .int .i64 1, .int .i64 0, .str [], Ld, Ld]] (.tip 2 7)]
def sw : Known := ⟨18, [anb, anT], [.tip 2, .tip 8, .tip 14], .aZ [.agg [.int .i64 1, .str [], .slice [] .nils], .slice [] .nils, .int .i64 0], [.tip 2, .tip 8, .tip 14]⟩
theorem adb : runK [] sw.f sw.args sw.H = some (sw.res, sw.H') := by kernel_rfl
theorem afh : aA Tryz.prog sw.f sw.args sw.H sw.res sw.H' := WY (fun _ h => by cases h) adb
end Abs
end Go.Proofs.YtiiaccpcoclklaaGreat

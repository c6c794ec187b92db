/-
  The run of TypeOf that 'awake' asks for. Conditions: none.
-/
import Derived.Test.YtiiaccpcoclklaaGreatCAw1x13560d
set_option linter.unusedSimpArgs false
set_option linter.unusedVariables false
namespace Go.Proofs.YtiiaccpcoclklaaGreat
namespace Abs
open Go Go.Proofs
def ar5 : AV := .agg [.slice [[.str [65], NM]] (.tip 0 2), .slice [[.str [97], .int .i64 3, .str [65], NM], [.str [102], .int .i64 5, .str [], .slice [[.int .i64 4, .str [], .slice [[.int .i64 3, .str [65], NM], [.int .i64 1, .str [], NM]] .shared]] .shared]] (.tip 1 4)]
def as8 : AV := .agg [.int .i64 22, .str [], .int .i64 0, .int .i64 0, .str [], .slice [] .nils, .slice [[.int .i64 54, .str [], .int .i64 0, .int .i64 0, .str [], NM, .slice [awN [102], awN [97]] .shared], [.int .i64 19, .str [], .int .i64 1, .int .i64 0, .str [], NM, NM]] (.tip 2 7)]
def uI : Known := ⟨18, [ar5, as8], [.tip 2, .tip 8, .tip 14], .bq [.agg [.int .i64 1, .str [], .slice [] .nils], .slice [] .nils, .int .i64 0], [.tip 2, .tip 8, .tip 14]⟩
theorem agS : runK [] uI.f uI.args uI.H = some (uI.res, uI.H') := by kernel_rfl
theorem ajI : ak Tryz.prog uI.f uI.args uI.H uI.res uI.H' := abg (fun _ h => by cases h) agS
end Abs
end Go.Proofs.YtiiaccpcoclklaaGreat

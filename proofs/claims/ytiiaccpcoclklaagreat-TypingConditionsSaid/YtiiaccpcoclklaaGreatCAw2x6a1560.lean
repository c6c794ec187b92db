/-
  The run of TypeOf that 'awake' asks for. Conditions: none.
-/
import Derived.Test.YtiiaccpcoclklaaGreatCAw1x6fa662
set_option linter.unusedSimpArgs false
set_option linter.unusedVariables false
namespace Go.Proofs.YtiiaccpcoclklaaGreat
namespace Abs
open Go Go.Proofs
def Xr : AV := .agg [.slice [[.str [65], Ce]] (.tip 0 2), .slice [[.str [97], .int .i64 3, .str [65], Ce], [.str [102], .int .i64 5, .str [], .slice [[.int .i64 4, .str [], .slice [[.int .i64 3, .str [65], Ce], [.int .i64 1, .str [], Ce]] .shared]] .shared]] (.tip 1 4)]
def X7 : AV := .agg [.int .i64 22, .str [], .int .i64 0, .int .i64 0, .str [], .slice [] .nils, .slice [[.int .i64 54, .str [], .int .i64 0, .int .i64 0, .str [], Ce, .slice [SB [102], SB [97]] .shared], [.int .i64 19, .str [], .int .i64 1, .int .i64 0, .str [], Ce, Ce]] (.tip 2 7)]
def nJ : Known := ⟨18, [Xr, X7], [.tip 2, .tip 8, .tip 14], .tup [.agg [.int .i64 1, .str [], .slice [] .nils], .slice [] .nils, .int .i64 0], [.tip 2, .tip 8, .tip 14]⟩
theorem MG : runK [] nJ.f nJ.args nJ.H = some (nJ.res, nJ.H') := by kernel_rfl
theorem Pb : ak Tryz.prog nJ.f nJ.args nJ.H nJ.res nJ.H' := IG (fun _ h => by cases h) MG
end Abs
end Go.Proofs.YtiiaccpcoclklaaGreat

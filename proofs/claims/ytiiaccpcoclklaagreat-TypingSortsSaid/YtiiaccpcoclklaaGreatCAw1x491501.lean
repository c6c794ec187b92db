/-
  The run of Parse that 'awake' asks for. Conditions: none.
-/
import Derived.Test.YtiiaccpcoclklaaGreatCData2x72b33f
set_option linter.unusedSimpArgs false
set_option linter.unusedVariables false
namespace Go.Proofs.YtiiaccpcoclklaaGreat
namespace Abs
open Go Go.Proofs
def awZ : AV := .slice [] .shared
def awN (s : List UInt8) : List AV := [.int .i64 20, .str s, .int .i64 0, .int .i64 0, .str [], awZ, awZ]
def awT : AV := .agg [.int .i64 22, .str [], .int .i64 0, .int .i64 0, .str [], .slice [] .nils, .slice [[.int .i64 54, .str [], .int .i64 0, .int .i64 0, .str [], awZ, .slice [awN [102], awN [97]] .shared], [.int .i64 19, .str [], .int .i64 1, .int .i64 0, .str [], awZ, awZ]] (.tip 0 7)]
def kParse : Known := ⟨29, [.str [102, 40, 97, 41, 32, 43, 32, 49]], [], .tup [awT, .int .i64 0, .int .i64 0], [.tip 14]⟩
theorem kParse_run : runK [] kParse.f kParse.args kParse.H = some (kParse.res, kParse.H') := by kernel_rfl
theorem kParse_ok : ACalls Tryz.prog kParse.f kParse.args kParse.H kParse.res kParse.H' := runK_ok (fun _ h => by cases h) kParse_run
end Abs
end Go.Proofs.YtiiaccpcoclklaaGreat

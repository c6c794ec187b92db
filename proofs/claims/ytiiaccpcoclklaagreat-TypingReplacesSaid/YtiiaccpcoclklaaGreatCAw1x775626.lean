/-
  The run of Parse that 'awake' asks for. Conditions: none.
-/
import Derived.Test.YtiiaccpcoclklaaGreatCSortx2dc54b
set_option linter.unusedSimpArgs false
set_option linter.unusedVariables false
namespace Go.Proofs.YtiiaccpcoclklaaGreat
namespace Abs
open Go Go.Proofs
def Ld : AV := .slice [] .shared
def awN (s : List UInt8) : List AV := [.int .i64 20, .str s, .int .i64 0, .int .i64 0, .str [], Ld, Ld]
def awT : AV := .agg [.int .i64 22, .str [], .int .i64 0, .int .i64 0, .str [], .slice [] .nils, .slice [[.int .i64 54, .str [], .int .i64 0, .int .i64 0, .str [], Ld, .slice [awN [102], awN [97]] .shared], [.int .i64 19, .str [], .int .i64 1, .int .i64 0, .str [], Ld, Ld]] (.tip 0 7)]
def wh : Known := ⟨29, [.str [102, 40, 97, 41, 32, 43, 32, 49]], [], .aZ [awT, .int .i64 0, .int .i64 0], [.tip 14]⟩
theorem afn : runK [] wh.f wh.args wh.H = some (wh.res, wh.H') := by kernel_rfl
theorem ahX : aA Tryz.prog wh.f wh.args wh.H wh.res wh.H' := WY (fun _ h => by cases h) afn
end Abs
end Go.Proofs.YtiiaccpcoclklaaGreat

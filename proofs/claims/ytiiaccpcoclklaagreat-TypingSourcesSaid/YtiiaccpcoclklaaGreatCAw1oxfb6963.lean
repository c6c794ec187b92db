/-
  The run of Parse that 'awake' asks for. Conditions: none.
-/
import Derived.Test.YtiiaccpcoclklaaGreatCData2ox2b18fc
set_option linter.unusedSimpArgs false
set_option linter.unusedVariables false
namespace Go.Proofs.YtiiaccpcoclklaaGreat
namespace Abs
open Go Go.Proofs
def Rt : AV := .slice [] .shared
def awN (s : List UInt8) : List AV := [.int .i64 20, .str s, .int .i64 0, .int .i64 0, .str [], Rt, Rt]
def awT : AV := .agg [.int .i64 22, .str [], .int .i64 0, .int .i64 0, .str [], .slice [] .nils, .slice [[.int .i64 54, .str [], .int .i64 0, .int .i64 0, .str [], Rt, .slice [awN [102], awN [97]] .shared], [.int .i64 19, .str [], .int .i64 1, .int .i64 0, .str [], Rt, Rt]] (.tip 0 7)]
def Ba : Known := ⟨29, [.str [102, 40, 97, 41, 32, 43, 32, 49]], [], .aW [awT, .int .i64 0, .int .i64 0], [.tip 14]⟩
theorem amG : runK [] Ba.f Ba.args Ba.H = some (Ba.res, Ba.H') := by kernel_rfl
theorem an3 : aB Tryz.prog Ba.f Ba.args Ba.H Ba.res Ba.H' := adC (fun _ h => by cases h) amG
end Abs
end Go.Proofs.YtiiaccpcoclklaaGreat

/-
  The run of Parse that 'awake' asks for. Conditions: none.
-/
import Derived.Test.YtiiaccpcoclklaaGreatCTabx0daff1
set_option linter.unusedSimpArgs false
set_option linter.unusedVariables false
namespace Go.Proofs.YtiiaccpcoclklaaGreat
namespace Abs
open Go Go.Proofs
def NM : AV := .slice [] .shared
def awN (s : List UInt8) : List AV := [.int .i64 20, .str s, .int .i64 0, .int .i64 0, .str [], NM, NM]
def awT : AV := .agg [.int .i64 22, .str [], .int .i64 0, .int .i64 0, .str [], .slice [] .nils, .slice [[.int .i64 54, .str [], .int .i64 0, .int .i64 0, .str [], NM, .slice [awN [102], awN [97]] .shared], [.int .i64 19, .str [], .int .i64 1, .int .i64 0, .str [], NM, NM]] (.tip 0 7)]
def yN : Known := ⟨29, [.str [102, 40, 97, 41, 32, 43, 32, 49]], [], .bq [awT, .int .i64 0, .int .i64 0], [.tip 14]⟩
theorem aiG : runK [] yN.f yN.args yN.H = some (yN.res, yN.H') := by kernel_rfl
theorem akf : ak Tryz.prog yN.f yN.args yN.H yN.res yN.H' := abg (fun _ h => by cases h) aiG
end Abs
end Go.Proofs.YtiiaccpcoclklaaGreat

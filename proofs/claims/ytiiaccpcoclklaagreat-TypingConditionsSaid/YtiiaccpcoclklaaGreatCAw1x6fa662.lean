/-
  The run of Parse that 'awake' asks for. Conditions: none.
-/
import Derived.Test.YtiiaccpcoclklaaGreatCSortx1efb8b
set_option linter.unusedSimpArgs false
set_option linter.unusedVariables false
namespace Go.Proofs.YtiiaccpcoclklaaGreat
namespace Abs
open Go Go.Proofs
def Ce : AV := .slice [] .shared
def SB (s : List UInt8) : List AV := [.int .i64 20, .str s, .int .i64 0, .int .i64 0, .str [], Ce, Ce]
def Yq : AV := .agg [.int .i64 22, .str [], .int .i64 0, .int .i64 0, .str [], .slice [] .nils, .slice [[.int .i64 54, .str [], .int .i64 0, .int .i64 0, .str [], Ce, .slice [SB [102], SB [97]] .shared], [.int .i64 19, .str [], .int .i64 1, .int .i64 0, .str [], Ce, Ce]] (.tip 0 7)]
def o7 : Known := ⟨29, [.str [102, 40, 97, 41, 32, 43, 32, 49]], [], .tup [Yq, .int .i64 0, .int .i64 0], [.tip 14]⟩
theorem OQ : runK [] o7.f o7.args o7.H = some (o7.res, o7.H') := by kernel_rfl
theorem QX : ak Tryz.prog o7.f o7.args o7.H o7.res o7.H' := IG (fun _ h => by cases h) OQ
end Abs
end Go.Proofs.YtiiaccpcoclklaaGreat

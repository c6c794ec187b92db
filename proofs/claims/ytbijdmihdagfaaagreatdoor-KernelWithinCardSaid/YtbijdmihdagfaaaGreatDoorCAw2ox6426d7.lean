/-
  A run that awake asks for. Conditions: none.
-/
import Derived.Test.YtbijdmihdagfaaaGreatDoorCAwEox9b165b
set_option linter.all false
namespace Go.Proofs.YtbijdmihdagfaaaGreatDoor
namespace Abs
open Go Go.Proofs
def k2:Known:=⟨43,[.str [121,32,60,32,120]],[],.tup [.agg [.int .i64 12,.str [],.int .i64 0,.int .i64 0,.str [],.slice [] .nils,.slice [[.int .i64 20,.str [121],.int .i64 0,.int .i64 0,.str [],.slice [] .shared,.slice [] .shared],[.int .i64 20,.str [120],.int .i64 0,.int .i64 0,.str [],.slice [] .shared,.slice [] .shared]] (.tip 0 7)],.int .i64 0,.int .i64 0],[.tip 14]⟩
theorem aoT:runK [] k2.f k2.args k2.H=some (k2.res,k2.H'):=by kernel_rfl
theorem arV:aR Tryz.prog k2.f k2.args k2.H k2.res k2.H':=lH (m:=[]) (fun _ h=>by cases h) aoT
end Abs
end Go.Proofs.YtbijdmihdagfaaaGreatDoor

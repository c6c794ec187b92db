/-
  No function of the program starts a goroutine. Conditions: none.
-/
import GoSem.ClaimGoes
import Derived.Test.YtbijdmihdagfaaaGreatDoorCFactsoxbb23fa
set_option linter.all false
namespace Go.Proofs.YtbijdmihdagfaaaGreatDoor
open Go Go.Proofs
theorem adV:Tryz.prog.funcs.toList.any Func.goes=false:=by kernel_rfl
theorem ajQ(f:FuncId):false=Tryz.prog.goes f:=by
 have h:∀fn∈Tryz.prog.funcs.toList,fn.goes=false:=fun fn hf=>by
  have:=qCV.1 adV fn hf;simpa using this
 have h2:Tryz.prog.funcs.any Func.goes=false:=by
  rw[←Array.any_toList];exact adV
 unfold Program.goes;rw[h2,qBD,qCA];symm;rw[qCV];intro g _;cases e:Tryz.prog.funcs[g]? with
 |none=>simp
 |some fn=>
  have:=h fn (by rw[qBf];exact qDt e);simp[this]
theorem aec(c:OpenClaim)(hc:c.start=.entering):false=c.goesBy Tryz.prog:=by
 unfold OpenClaim.goesBy Program.goesAt Program.goesFrom;rw[hc];cases Tryz.prog.funcNamed c.func with
 |none=>rfl
 |some f=>simp[←ajQ f]
end Go.Proofs.YtbijdmihdagfaaaGreatDoor

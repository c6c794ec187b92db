/-
  No function of the program starts a goroutine. Conditions: none.
-/
import GoSem.ClaimGoes
import Derived.Test.YtfmdmcenjfkbhaaGreatDoorCFactsox3583ae
set_option linter.all false
namespace Go.Proofs.YtfmdmcenjfkbhaaGreatDoor
open Go Go.Proofs
theorem Qy:Tryz.prog.funcs.toList.any Func.goes=false:=by kernel_rfl
theorem YL(f:FuncId):false=Tryz.prog.goes f:=by
 have h:∀fn∈Tryz.prog.funcs.toList,fn.goes=false:=fun fn hf=>by
  have:=qCO.1 Qy fn hf;simpa using this
 have h2:Tryz.prog.funcs.any Func.goes=false:=by
  rw[←Array.any_toList];exact Qy
 unfold Program.goes;rw[h2,qBU,qDr];symm;rw[qCO];intro g _;cases e:Tryz.prog.funcs[g]? with
 |none=>simp
 |some fn=>
  have:=h fn (by rw[qAX];exact qDg e);simp[this]
theorem aaB(c:OpenClaim)(hc:c.start=.entering):false=c.goesBy Tryz.prog:=by
 unfold OpenClaim.goesBy Program.goesAt Program.goesFrom;rw[hc];cases Tryz.prog.funcNamed c.func with
 |none=>rfl
 |some f=>simp[←YL f]
end Go.Proofs.YtfmdmcenjfkbhaaGreatDoor

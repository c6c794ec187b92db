/-
  Closed facts of the program, each by the kernel. Conditions: none.
-/
import Derived.Test.YtkopaeklihhdlaaGreatAl
import Derived.Test.YtkopaeklihhdlaaGreatRows
import Derived.JoinedOf
import Derived.KernelRfl
set_option linter.all false
namespace Go.Proofs.YtkopaeklihhdlaaGreat
open Go Go.Proofs
theorem ny{a b:Bool}(h:a=true)(k:b=true):(a&&b)=true:=by rw[h,k];rfl
theorem pf2:(laidOutB Tryz.prog)=true:=by kernel_rfl
theorem pf3:(mapsRowed Tryz.prog)=true:=by kernel_rfl
theorem pf7:((Tryz.prog.stops==[]))=true:=by kernel_rfl
theorem pf9:((Tryz.prog.stopKnobs==[]))=true:=by kernel_rfl
theorem aua:(Tryz.prog.stopsHeard)=true:=by kernel_rfl
theorem atu:(Tryz.prog.mayEnter)=true:=by kernel_rfl
end Go.Proofs.YtkopaeklihhdlaaGreat

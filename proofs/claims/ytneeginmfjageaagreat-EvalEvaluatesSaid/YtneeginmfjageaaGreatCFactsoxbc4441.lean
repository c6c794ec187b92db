/-
  Closed facts of the program, each by the kernel. Conditions: none.
-/
import Derived.Test.YtneeginmfjageaaGreatAl
import Derived.Test.YtneeginmfjageaaGreatRows
import Derived.JoinedOf
import Derived.KernelRfl
set_option linter.all false
namespace Go.Proofs.YtneeginmfjageaaGreat
open Go Go.Proofs
def nN{a b:Bool}(h:a=true)(k:b=true):(a&&b)=true:=by rw[h,k];rfl
def pf2:(laidOutB Tryz.prog)=true:=by kernel_rfl
def pf3:(mapsRowed Tryz.prog)=true:=by kernel_rfl
def pf7:((Tryz.prog.stops==[]))=true:=by kernel_rfl
def pf9:((Tryz.prog.stopKnobs==[]))=true:=by kernel_rfl
def aKI:(Tryz.prog.stopsHeard)=true:=by kernel_rfl
def aKO:(Tryz.prog.mayEnter)=true:=by kernel_rfl
end Go.Proofs.YtneeginmfjageaaGreat

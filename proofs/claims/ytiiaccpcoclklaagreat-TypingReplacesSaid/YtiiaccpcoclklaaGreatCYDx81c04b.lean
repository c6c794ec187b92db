/-
  More structures of the program (printed by gen.py). Conditions: none.
-/
import Derived.Test.YtiiaccpcoclklaaGreatCDjx51e169
import Derived.Test.YtiiaccpcoclklaaGreatCTDx83fdfc
set_option linter.unusedSimpArgs false
set_option linter.unusedVariables false
namespace Go.Proofs.YtiiaccpcoclklaaGreat
namespace Abs
open Go Go.Proofs
def eF (x : S_refinementlaw02_Put) : List AV := [.slice (List.map encI x.path) .shared, .int .i64 x.term.op, .str x.term.name, .int .i64 x.term.n, .int .i64 x.term.ty.kind, .str x.term.ty.name, .slice (List.map aF x.term.ty.kids) .shared, .slice (List.map aO x.term.kids) .shared]
theorem DI (g : Nat → Nat) (l : List S_refinementlaw02_Put) : bE g (l.map eF) = l.map eF := zY (fun g x => by simp only [eF, bR, ren, dO, aQ, bf, bT, aD, aM, aK, aN]) g l
theorem aaO : au Tryz.prog 25 = true := by kernel_rfl
theorem al9 : au Tryz.prog 26 = true := by kernel_rfl
theorem amg : au Tryz.prog 27 = true := by kernel_rfl
theorem ahV : au Tryz.prog 80 = true := by kernel_rfl
attribute [simp] DI
end Abs
end Go.Proofs.YtiiaccpcoclklaaGreat

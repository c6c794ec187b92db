/-
  More structures of the program (printed by gen.py). Conditions: none.
-/
import Derived.Test.YtiiaccpcoclklaaGreatCDgx5c904c
import Derived.Test.YtiiaccpcoclklaaGreatCTDx83fdfc
set_option linter.unusedSimpArgs false
set_option linter.unusedVariables false
namespace Go.Proofs.YtiiaccpcoclklaaGreat
namespace Abs
open Go Go.Proofs
def cZ (x : S_refinementlaw02_Binding) : List AV := [.slice (List.map bQ x.env.carriers) .shared, .slice (List.map bD x.env.names) .shared, .int .i64 x.body.op, .str x.body.name, .int .i64 x.body.n, .int .i64 x.body.ty.kind, .str x.body.ty.name, .slice (List.map aF x.body.ty.kids) .shared, .slice (List.map aO x.body.kids) .shared, .int .i64 x.domain.op, .str x.domain.name, .int .i64 x.domain.n, .int .i64 x.domain.ty.kind, .str x.domain.ty.name, .slice (List.map aF x.domain.ty.kids) .shared, .slice (List.map aO x.domain.kids) .shared, .str x.name]
theorem AX (g : Nat → Nat) (l : List S_refinementlaw02_Binding) : bE g (l.map cZ) = l.map cZ := zY (fun g x => by simp only [cZ, bR, ren, dO, aQ, bf, bT, aD, aM, aK, aN]) g l
theorem Dm : au Tryz.prog 78 = true := by kernel_rfl
theorem aep : au Tryz.prog 153 = true := by kernel_rfl
attribute [simp] AX
end Abs
end Go.Proofs.YtiiaccpcoclklaaGreat

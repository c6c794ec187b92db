/-
  More structures of the program (printed by gen.py). Conditions: none.
-/
import Derived.Test.YtiiaccpcoclklaaGreatCTDx025997
import Derived.Test.YtiiaccpcoclklaaGreatCDgx25c9a8
set_option linter.unusedSimpArgs false
set_option linter.unusedVariables false
namespace Go.Proofs.YtiiaccpcoclklaaGreat
namespace Abs
open Go Go.Proofs
def dx (x : S_refinementlaw02_Binding) : List AV := [.slice (List.map aL x.env.carriers) .shared, .slice (List.map aO x.env.names) .shared, .int .i64 x.body.op, .str x.body.name, .int .i64 x.body.n, .int .i64 x.body.ty.kind, .str x.body.ty.name, .slice (List.map aK x.body.ty.kids) .shared, .slice (List.map aS x.body.kids) .shared, .int .i64 x.domain.op, .str x.domain.name, .int .i64 x.domain.n, .int .i64 x.domain.ty.kind, .str x.domain.ty.name, .slice (List.map aK x.domain.ty.kids) .shared, .slice (List.map aS x.domain.kids) .shared, .str x.name]
theorem DN (g : Nat → Nat) (l : List S_refinementlaw02_Binding) : bK g (l.map dx) = l.map dx := CQ (fun g x => by simp only [dx, bW, ren, dJ, aQ, aZ, bS, aB, aN, aA, aG]) g l
theorem Iq : aF Tryz.prog 23 = true := by kernel_rfl
theorem Fv : aF Tryz.prog 75 = true := by kernel_rfl
theorem alU : aF Tryz.prog 76 = true := by kernel_rfl
theorem Fg : aF Tryz.prog 78 = true := by kernel_rfl
theorem Az : aF Tryz.prog 144 = true := by kernel_rfl
theorem aoV : aF Tryz.prog 145 = true := by kernel_rfl
theorem aos : aF Tryz.prog 146 = true := by kernel_rfl
theorem apG : aF Tryz.prog 147 = true := by kernel_rfl
theorem apf : aF Tryz.prog 148 = true := by kernel_rfl
theorem qR : aF Tryz.prog 149 = true := by kernel_rfl
theorem LD : aF Tryz.prog 150 = true := by kernel_rfl
theorem ahI : aF Tryz.prog 153 = true := by kernel_rfl
theorem KW : aF Tryz.prog 237 = true := by kernel_rfl
attribute [simp] DN
end Abs
end Go.Proofs.YtiiaccpcoclklaaGreat

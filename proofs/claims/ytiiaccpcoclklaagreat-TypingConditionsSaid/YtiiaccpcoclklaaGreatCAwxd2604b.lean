/-
  The contract of 'awake': it returns true. Conditions: none.
-/
import Derived.Test.YtiiaccpcoclklaaGreatCAbs38xf5d4b8
import Derived.Test.YtiiaccpcoclklaaGreatCAw2x6a1560
set_option linter.unusedSimpArgs false
set_option linter.unusedVariables false
namespace Go.Proofs.YtiiaccpcoclklaaGreat
namespace Abs
open Go Go.Proofs
theorem Qk : runK [o7, nJ] 17 [] [] = some (.bool true, []) := by kernel_rfl
theorem MK : ak Tryz.prog 17 [] [] (.bool true) [] := IG (m := [o7, nJ]) (fun e h => by
 rcases List.mem_cons.1 h with rfl | h
 ·exact QX
 ·rcases List.mem_cons.1 h with rfl | h
  ·exact Pb
  ·cases h) Qk
theorem Ko : aM Tryz.prog 17 = true := by kernel_rfl
theorem zy (n : Nat) (r : Bool) (h : xW n = some r) : ak Tryz.prog 17 [] [] (.bool r) [] := by
 have e := Option.some.inj h
 subst e
 exact MK
end Abs
end Go.Proofs.YtiiaccpcoclklaaGreat

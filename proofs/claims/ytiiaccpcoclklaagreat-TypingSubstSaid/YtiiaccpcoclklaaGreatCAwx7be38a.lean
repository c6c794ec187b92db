/-
  The contract of 'awake': it returns true. Conditions: none.
-/
import Derived.Test.YtiiaccpcoclklaaGreatCAbs38x04b7ad
import Derived.Test.YtiiaccpcoclklaaGreatCAw2x8c77be
set_option linter.unusedSimpArgs false
set_option linter.unusedVariables false
namespace Go.Proofs.YtiiaccpcoclklaaGreat
namespace Abs
open Go Go.Proofs
theorem agQ : runK [wh, sw] 17 [] [] = some (.bool true, []) := by kernel_rfl
theorem ade : aA Tryz.prog 17 [] [] (.bool true) [] := WY (m := [wh, sw]) (fun e h => by
 rcases List.mem_cons.1 h with rfl | h
 ·exact ahX
 ·rcases List.mem_cons.1 h with rfl | h
  ·exact afh
  ·cases h) agQ
theorem qg : au Tryz.prog 17 = true := by kernel_rfl
theorem gX (n : Nat) (r : Bool) (h : gu n = some r) : aA Tryz.prog 17 [] [] (.bool r) [] := by
 have e := Option.some.inj h
 subst e
 exact ade
end Abs
end Go.Proofs.YtiiaccpcoclklaaGreat

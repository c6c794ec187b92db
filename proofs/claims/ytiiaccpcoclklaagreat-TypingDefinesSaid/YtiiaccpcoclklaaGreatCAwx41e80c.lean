/-
  The contract of 'awake': it returns true. Conditions: none.
-/
import Derived.Test.YtiiaccpcoclklaaGreatCAw2x2630fa
set_option linter.unusedSimpArgs false
set_option linter.unusedVariables false
namespace Go.Proofs.YtiiaccpcoclklaaGreat
namespace Abs
open Go Go.Proofs
theorem aku : runK [yN, uI] 17 [] [] = some (.bool true, []) := by kernel_rfl
theorem agE : ak Tryz.prog 17 [] [] (.bool true) [] := abg (m := [yN, uI]) (fun e h => by
 rcases List.mem_cons.1 h with rfl | h
 ·exact akf
 ·rcases List.mem_cons.1 h with rfl | h
  ·exact ajI
  ·cases h) aku
theorem gJ : aF Tryz.prog 17 = true := by kernel_rfl
theorem cZ (n : Nat) (r : Bool) (h : dh n = some r) : ak Tryz.prog 17 [] [] (.bool r) [] := by
 have e := Option.some.inj h
 subst e
 exact agE
end Abs
end Go.Proofs.YtiiaccpcoclklaaGreat

/-
  The contract of 'awake': it returns true. Conditions: none.
-/
import Derived.Test.YtiiaccpcoclklaaGreatCAw2oxe01bf8
set_option linter.unusedSimpArgs false
set_option linter.unusedVariables false
namespace Go.Proofs.YtiiaccpcoclklaaGreat
namespace Abs
open Go Go.Proofs
theorem anW : runK [Ba, xQ] 17 [] [] = some (.bool true, []) := by kernel_rfl
theorem akb : aB Tryz.prog 17 [] [] (.bool true) [] := adC (m := [Ba, xQ]) (fun e h => by
 rcases List.mem_cons.1 h with rfl | h
 ·exact an3
 ·rcases List.mem_cons.1 h with rfl | h
  ·exact alM
  ·cases h) anW
theorem cZ (n : Nat) (r : Bool) (h : dh n = some r) : aB Tryz.prog 17 [] [] (.bool r) [] := by
 have e := Option.some.inj h
 subst e
 exact akb
end Abs
end Go.Proofs.YtiiaccpcoclklaaGreat

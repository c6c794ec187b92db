/-
  The contract of 'awake': it returns true. Conditions: none.
-/
import Derived.Test.YtiiaccpcoclklaaGreatCData2x72b33f
import Derived.Test.YtiiaccpcoclklaaGreatCAw2x69006a
set_option linter.unusedSimpArgs false
set_option linter.unusedVariables false
namespace Go.Proofs.YtiiaccpcoclklaaGreat
namespace Abs
open Go Go.Proofs
theorem awake_run : runK [kParse, kTypeOf] 17 [] [] = some (.bool true, []) := by kernel_rfl
theorem awake_calls : ACalls Tryz.prog 17 [] [] (.bool true) [] := runK_ok (m := [kParse, kTypeOf]) (fun e h => by
 rcases List.mem_cons.1 h with rfl | h
 ·exact kParse_ok
 ·rcases List.mem_cons.1 h with rfl | h
  ·exact kTypeOf_ok
  ·cases h) awake_run
theorem okF_17 : okFn Tryz.prog 17 = true := by kernel_rfl
theorem L2_awake_ok (n : Nat) (r : Bool) (h : L2_awake n = some r) : ACalls Tryz.prog 17 [] [] (.bool r) [] := by
 have e := Option.some.inj h
 subst e
 exact awake_calls
end Abs
end Go.Proofs.YtiiaccpcoclklaaGreat

/-
  The contract of awake: it returns true. Conditions: none.
-/
import Derived.Test.YtkopaeklihhdlaaGreatCAw1oxa2d6cd
import Derived.Test.YtkopaeklihhdlaaGreatCAw2ox711809
import Derived.Test.YtkopaeklihhdlaaGreatCAw5oxfd2869
import Derived.Test.YtkopaeklihhdlaaGreatCAw6oxb0316c
set_option linter.unusedSimpArgs false
set_option linter.unusedVariables false
namespace Go.Proofs.YtkopaeklihhdlaaGreat
namespace Abs
open Go Go.Proofs
theorem SY : runK [k1, k2, k5, k6] 10 [] [] = some (.bool true, []) := by kernel_rfl
theorem PU : aj Tryz.prog 10 [] [] (.bool true) [] := uD (m := [k1, k2, k5, k6]) (fun e h => by
 rcases List.mem_cons.1 h with rfl | h
 ·exact ZY
 ·rcases List.mem_cons.1 h with rfl | h
  ·exact aaw
  ·rcases List.mem_cons.1 h with rfl | h
   ·exact aaq
   ·rcases List.mem_cons.1 h with rfl | h
    ·exact aaW
    ·cases h) SY
theorem Te : aY Tryz.prog 10 = true := by kernel_rfl
theorem Fe (n : Nat) (r : Bool) (h : Bp n = some r) : aj Tryz.prog 10 [] [] (.bool r) [] := by
 have e := Option.some.inj h
 subst e
 exact PU
end Abs
end Go.Proofs.YtkopaeklihhdlaaGreat

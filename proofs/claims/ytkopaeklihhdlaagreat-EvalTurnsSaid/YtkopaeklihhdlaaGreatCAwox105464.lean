/-
  The contract of awake: it returns true. Conditions: none.
-/
import Derived.Test.YtkopaeklihhdlaaGreatCAw1ox7b1c93
import Derived.Test.YtkopaeklihhdlaaGreatCAw2ox985ca4
import Derived.Test.YtkopaeklihhdlaaGreatCAw5ox773ccd
import Derived.Test.YtkopaeklihhdlaaGreatCAw6oxf5692a
set_option linter.unusedSimpArgs false
set_option linter.unusedVariables false
namespace Go.Proofs.YtkopaeklihhdlaaGreat
namespace Abs
open Go Go.Proofs
theorem abt : runK [k1, k2, k5, k6] 10 [] [] = some (.bool true, []) := by kernel_rfl
theorem Xx : aA Tryz.prog 10 [] [] (.bool true) [] := yR (m := [k1, k2, k5, k6]) (fun e h => by
 rcases List.mem_cons.1 h with rfl | h
 ·exact aib
 ·rcases List.mem_cons.1 h with rfl | h
  ·exact aiI
  ·rcases List.mem_cons.1 h with rfl | h
   ·exact aiJ
   ·rcases List.mem_cons.1 h with rfl | h
    ·exact ah7
    ·cases h) abt
theorem uF : aY Tryz.prog 10 = true := by kernel_rfl
theorem jl (n : Nat) (r : Bool) (h : kH n = some r) : aA Tryz.prog 10 [] [] (.bool r) [] := by
 have e := Option.some.inj h
 subst e
 exact Xx
end Abs
end Go.Proofs.YtkopaeklihhdlaaGreat

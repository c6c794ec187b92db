/-
  The contract of awake: it returns true. Conditions: none.
-/
import Derived.Test.YtkopaeklihhdlaaGreatCAw1ox99ed99
import Derived.Test.YtkopaeklihhdlaaGreatCAw2ox3735c1
import Derived.Test.YtkopaeklihhdlaaGreatCAw5ox9f59a6
import Derived.Test.YtkopaeklihhdlaaGreatCAw6ox4fdfc5
set_option linter.unusedSimpArgs false
set_option linter.unusedVariables false
namespace Go.Proofs.YtkopaeklihhdlaaGreat
namespace Abs
open Go Go.Proofs
theorem Zk : runK [k1, k2, k5, k6] 10 [] [] = some (.bool true, []) := by kernel_rfl
theorem Wn : au Tryz.prog 10 [] [] (.bool true) [] := xA (m := [k1, k2, k5, k6]) (fun e h => by
 rcases List.mem_cons.1 h with rfl | h
 ·exact ags
 ·rcases List.mem_cons.1 h with rfl | h
  ·exact agy
  ·rcases List.mem_cons.1 h with rfl | h
   ·exact af8
   ·rcases List.mem_cons.1 h with rfl | h
    ·exact ag3
    ·cases h) Zk
theorem yH : aU Tryz.prog 10 = true := by kernel_rfl
theorem mY (n : Nat) (r : Bool) (h : nI n = some r) : au Tryz.prog 10 [] [] (.bool r) [] := by
 have e := Option.some.inj h
 subst e
 exact Wn
end Abs
end Go.Proofs.YtkopaeklihhdlaaGreat

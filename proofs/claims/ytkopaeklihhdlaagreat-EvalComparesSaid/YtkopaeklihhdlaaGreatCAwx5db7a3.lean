/-
  The contract of awake: it returns true. Conditions: none.
-/
import Derived.Test.YtkopaeklihhdlaaGreatCAw1xf5ad33
import Derived.Test.YtkopaeklihhdlaaGreatCAw2x547048
import Derived.Test.YtkopaeklihhdlaaGreatCAw5x88ddcf
import Derived.Test.YtkopaeklihhdlaaGreatCAw6x3ab5b1
set_option linter.unusedSimpArgs false
set_option linter.unusedVariables false
namespace Go.Proofs.YtkopaeklihhdlaaGreat
namespace Abs
open Go Go.Proofs
theorem Xq : runK [k1, k2, k5, k6] 10 [] [] = some (.bool true, []) := by kernel_rfl
theorem Sw : ak Tryz.prog 10 [] [] (.bool true) [] := vJ (m := [k1, k2, k5, k6]) (fun e h => by
 rcases List.mem_cons.1 h with rfl | h
 ·exact adI
 ·rcases List.mem_cons.1 h with rfl | h
  ·exact ad4
  ·rcases List.mem_cons.1 h with rfl | h
   ·exact adR
   ·rcases List.mem_cons.1 h with rfl | h
    ·exact adJ
    ·cases h) Xq
theorem FB : aX Tryz.prog 10 = true := by kernel_rfl
theorem sF (n : Nat) (r : Bool) (h : qC n = some r) : ak Tryz.prog 10 [] [] (.bool r) [] := by
 have e := Option.some.inj h
 subst e
 exact Sw
end Abs
end Go.Proofs.YtkopaeklihhdlaaGreat

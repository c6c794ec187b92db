/-
  The contract of awake: it returns true. Conditions: none.
-/
import Derived.Test.YtkopaeklihhdlaaGreatCAw1ox0aa8a0
import Derived.Test.YtkopaeklihhdlaaGreatCAw2oxc340c0
import Derived.Test.YtkopaeklihhdlaaGreatCAw5ox8b3046
import Derived.Test.YtkopaeklihhdlaaGreatCAw6oxcc8d85
set_option linter.all false
namespace Go.Proofs.YtkopaeklihhdlaaGreat
namespace Abs
open Go Go.Proofs
theorem ajD:runK [k1,k2,k5,k6] 10 [] []=some (.bool true,[]):=by kernel_rfl
theorem afm:ak Tryz.prog 10 [] [] (.bool true) []:=DF (m:=[k1,k2,k5,k6]) (fun e h=>by
 rcases qAs.1 h with rfl|h
 ·exact asq
 ·rcases qAs.1 h with rfl|h
  ·exact ar8
  ·rcases qAs.1 h with rfl|h
   ·exact ar1
   ·rcases qAs.1 h with rfl|h
    ·exact asb
    ·cases h) ajD
theorem Kl:aZ Tryz.prog 10=true:=by kernel_rfl
theorem xY(n:Nat)(r:Bool)(h:lX n=some r):ak Tryz.prog 10 [] [] (.bool r) []:=by
 have e:=Option.some.inj h;subst e;exact afm
end Abs
end Go.Proofs.YtkopaeklihhdlaaGreat

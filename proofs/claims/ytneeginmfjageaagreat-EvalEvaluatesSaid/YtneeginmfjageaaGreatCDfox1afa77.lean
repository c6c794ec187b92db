/-
  The plain functions. Conditions: none.
-/
import Derived.Test.YtneeginmfjageaaGreatCFnox41a45e
set_option linter.all false


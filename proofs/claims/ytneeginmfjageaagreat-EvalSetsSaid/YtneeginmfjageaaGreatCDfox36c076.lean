/-
  The plain functions. Conditions: none.
-/
import Derived.Test.YtneeginmfjageaaGreatCFnox040c3a
set_option linter.unusedSimpArgs false
set_option linter.unusedVariables false


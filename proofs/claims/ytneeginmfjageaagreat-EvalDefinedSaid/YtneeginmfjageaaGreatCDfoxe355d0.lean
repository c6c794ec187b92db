/-
  The plain functions. Conditions: none.
-/
import Derived.Test.YtneeginmfjageaaGreatCFnox8b1b05
set_option linter.all false


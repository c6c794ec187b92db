/-
  The plain functions. Conditions: none.
-/
import Derived.Test.YtneeginmfjageaaGreatCFnox273d0e
set_option linter.all false


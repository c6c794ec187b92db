/-
  The plain functions. Conditions: none.
-/
import Derived.Test.YtneeginmfjageaaGreatCFnoxd03f6c
set_option linter.all false


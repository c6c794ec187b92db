/-
  The plain functions. Conditions: none.
-/
import Derived.Test.YtfmdmcenjfkbhaaGreatDoorCFnox42f2cd
set_option linter.all false


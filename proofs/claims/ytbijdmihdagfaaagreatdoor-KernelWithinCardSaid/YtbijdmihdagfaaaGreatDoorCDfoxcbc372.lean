/-
  The plain functions. Conditions: none.
-/
import Derived.Test.YtbijdmihdagfaaaGreatDoorCFnox9e2681
set_option linter.all false


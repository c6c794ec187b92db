/-
  The plain functions. Conditions: none.
-/
import Derived.Test.YtbijdmihdagfaaaGreatDoorCFnoxa75ca8
set_option linter.all false


/-
  Plain functions of slices.Clone and slices.Clip at carriers, declarations, types, strings and ints. Conditions: none.
-/
import Derived.Test.YtkopaeklihhdlaaGreatCExtHoxc264b0
set_option linter.unusedSimpArgs false
set_option linter.unusedVariables false
namespace Go.Proofs.YtkopaeklihhdlaaGreat
namespace Abs
open Go
def rF (_ : Nat) (p0 : List Carrier) : Option (List Carrier) := app 40 ([] : List Carrier) p0
def sM (_ : Nat) (p0 : List Carrier) : Option (List Carrier) := some p0
def uY (_ : Nat) (p0 : List Decl) : Option (List Decl) := app 64 ([] : List Decl) p0
def wB (_ : Nat) (p0 : List Decl) : Option (List Decl) := some p0
def vv (_ : Nat) (p0 : List Ty) : Option (List Ty) := app 48 ([] : List Ty) p0
def wu (_ : Nat) (p0 : List Ty) : Option (List Ty) := some p0
def p9 (_ : Nat) (p0 : List Int) : Option (List Int) := bif Nat.ble p0.length 140737488355328 then some p0 else none
def kL (_ : Nat) (p0 : List Str) : Option (List Str) := bif Nat.ble p0.length 140737488355328 then some p0 else none
end Abs
end Go.Proofs.YtkopaeklihhdlaaGreat

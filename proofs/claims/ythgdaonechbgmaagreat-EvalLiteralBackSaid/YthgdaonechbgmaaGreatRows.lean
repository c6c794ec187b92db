/-
  NARROWER THAN 'FOR EVERY INPUT', by the rows' own cells (each row's printed sentence says how): EvalRelations: loops · EvalSymmetry: loops · EvalLiteralBack: loops.
  DERIVED. THE GIVEN ROWS OF THIS SEAT. 3 by the template 'for every input the law returns true; each argument reads behind the call as it read before'; 0 by the template 'total and deterministic' (their statements: YthgdaonechbgmaaGreatTotals.lean).
  GIVEN WITH THE SEED: the statements are not yours to turn. If you find one false, say at which input.
  Laid BY PROGRAM, IN A SANDBOX (cutbox-rows.mjs): the forced cells as the released guide's own fill.sh prints them over the translation a730ee4a2cec5855… (all of the seat's roots in one cut). By AI agents, Wed Nov 11 2026. No macro, syntax, notation, axiom, sorry.
-/
import Derived.Test.YthgdaonechbgmaaGreatChecked
import GoSem.Claim
import GoSem.ClaimJoined
import GoSem.ClaimMapViews
import Derived.JoinedTies
import Derived.KernelRfl
namespace Go.Proofs.YthgdaonechbgmaaGreat
/- THE CELL 'sum', in the pinned program and in every row, IS THE sha256 OF THE DUMP (.gsa) THAT YthgdaonechbgmaaGreatProg.lean LOADS. Nothing in Lean hashes anything: it is a label: what it is worth is what the hold of that sum in a sandbox is worth. -/
noncomputable def Tryz.pinned : Pinned := { name := "ythgdaonechbgmaagreat", sum := "a730ee4a2cec5855eb55fb6ed4908f70eb44e6d6207c1c17067c8f00582b5bda", checked := Tryz.checked }
namespace Rows
def none {H : Type} : Left H := { results := [], args := [] }

/-- 'refinementlaw03.EvalRelations': WHATEVER THE INPUT: true; the input reads as it did. -/
def evalRelationsSpec : ChangeSpec := { name := "evalRelations", fn := fun _ => fun
  | [d1, d2, d3] => { results := [.lit (.bool true)], args := [d1, d2, d3] }
  | _ => none }
def evalRelationsRow : OpenClaim := { program := "ythgdaonechbgmaagreat", sum := "a730ee4a2cec5855eb55fb6ed4908f70eb44e6d6207c1c17067c8f00582b5bda", func := "refinement/refinementlaw03.EvalRelations", spec := "evalRelations", inPlace := ["internal/bytealg.abigen_runtime_cmpstring"], unfollowed := true, recurses := true, loops := true, apart := false }
def EvalRelationsSaid : Prop := evalRelationsRow.holds Tryz.pinned (OpenSpec.ofChange evalRelationsSpec)

/-- ITS FALSE NEIGHBOUR: 'it returns false'. Refute it at one input. -/
def evalRelationsWrong : ChangeSpec := { name := "evalRelations", fn := fun _ => fun
  | [d1, d2, d3] => { results := [.lit (.bool false)], args := [d1, d2, d3] }
  | _ => none }
def EvalRelationsWrongFalsely : Prop := evalRelationsRow.holds Tryz.pinned (OpenSpec.ofChange evalRelationsWrong)

/-- 'refinementlaw03.EvalSymmetry': WHATEVER THE INPUT: true; the input reads as it did. -/
def evalSymmetrySpec : ChangeSpec := { name := "evalSymmetry", fn := fun _ => fun
  | [d1, d2, d3] => { results := [.lit (.bool true)], args := [d1, d2, d3] }
  | _ => none }
def evalSymmetryRow : OpenClaim := { program := "ythgdaonechbgmaagreat", sum := "a730ee4a2cec5855eb55fb6ed4908f70eb44e6d6207c1c17067c8f00582b5bda", func := "refinement/refinementlaw03.EvalSymmetry", spec := "evalSymmetry", inPlace := ["internal/bytealg.abigen_runtime_cmpstring"], unfollowed := true, recurses := true, loops := true, apart := false }
def EvalSymmetrySaid : Prop := evalSymmetryRow.holds Tryz.pinned (OpenSpec.ofChange evalSymmetrySpec)

/-- ITS FALSE NEIGHBOUR: 'it returns false'. Refute it at one input. -/
def evalSymmetryWrong : ChangeSpec := { name := "evalSymmetry", fn := fun _ => fun
  | [d1, d2, d3] => { results := [.lit (.bool false)], args := [d1, d2, d3] }
  | _ => none }
def EvalSymmetryWrongFalsely : Prop := evalSymmetryRow.holds Tryz.pinned (OpenSpec.ofChange evalSymmetryWrong)

/-- 'refinementlaw03.EvalLiteralBack': WHATEVER THE INPUT: true; the input reads as it did. -/
def evalLiteralBackSpec : ChangeSpec := { name := "evalLiteralBack", fn := fun _ => fun
  | [d1, d2, d3] => { results := [.lit (.bool true)], args := [d1, d2, d3] }
  | _ => none }
def evalLiteralBackRow : OpenClaim := { program := "ythgdaonechbgmaagreat", sum := "a730ee4a2cec5855eb55fb6ed4908f70eb44e6d6207c1c17067c8f00582b5bda", func := "refinement/refinementlaw03.EvalLiteralBack", spec := "evalLiteralBack", inPlace := ["internal/bytealg.abigen_runtime_cmpstring"], unfollowed := true, recurses := true, loops := true, apart := false }
def EvalLiteralBackSaid : Prop := evalLiteralBackRow.holds Tryz.pinned (OpenSpec.ofChange evalLiteralBackSpec)

/-- ITS FALSE NEIGHBOUR: 'it returns false'. Refute it at one input. -/
def evalLiteralBackWrong : ChangeSpec := { name := "evalLiteralBack", fn := fun _ => fun
  | [d1, d2, d3] => { results := [.lit (.bool false)], args := [d1, d2, d3] }
  | _ => none }
def EvalLiteralBackWrongFalsely : Prop := evalLiteralBackRow.holds Tryz.pinned (OpenSpec.ofChange evalLiteralBackWrong)

/- THE SECOND FORM. 'bulk': how many values and letters a reading holds, each counted each time it is reached (what is shared counts as often as it is met; a slice's spare places count too). A statement '..UptoSaid' is the law's where the arguments, and the package variables that the reading takes, are together of bulk at most 1048576: NARROWER than '..Said'. Prove '..Said' where nothing that the law and all that it calls make is longer than what came in: it says more and counts as full. Else prove '..UptoSaid'. A law counts once. -/
mutual
def uptoBulk {H : Type} : DataW H → Nat
  | .lit (.string bytes) => bytes.length + 1
  | .lit _ => 1
  | .nil => 1
  | .ptr d => uptoBulk d + 1
  | .slice elems spare => uptoBulkAll elems + uptoBulkAll spare + 1
  | .agg parts => uptoBulkAll parts + 1
  | .iface _ d => uptoBulk d + 1
  | .map entries => uptoBulkEntries entries + 1
  | .held _ => 1
def uptoBulkAll {H : Type} : List (DataW H) → Nat
  | [] => 0
  | d :: r => uptoBulk d + uptoBulkAll r
def uptoBulkEntries {H : Type} : List (Lit × DataW H) → Nat
  | [] => 0
  | x :: r => uptoBulkEntry x + uptoBulkEntries r
def uptoBulkEntry {H : Type} : Lit × DataW H → Nat
  | (.string bytes, d) => bytes.length + uptoBulk d + 1
  | (_, d) => uptoBulk d + 1
 end
def uptoSmall : (H : Type) → List (DataW H) → Bool := fun _ ds => decide (uptoBulkAll ds ≤ 1048576)
def OpenSpec.upto (s : _root_.Go.ChangeSpec) : _root_.Go.OpenSpec := { _root_.Go.OpenSpec.ofChange s with cond := some uptoSmall }

/-- 'refinementlaw03.EvalRelations', WHERE WHAT IT READS IS OF BULK AT MOST 1048576: true; the input reads as it did. -/
def evalRelationsUptoRow : OpenClaim := { program := "ythgdaonechbgmaagreat", sum := "a730ee4a2cec5855eb55fb6ed4908f70eb44e6d6207c1c17067c8f00582b5bda", func := "refinement/refinementlaw03.EvalRelations", spec := "evalRelations", inPlace := ["internal/bytealg.abigen_runtime_cmpstring"], unfollowed := true, recurses := true, loops := true, apart := false, narrowed := true }
def EvalRelationsUptoSaid : Prop := evalRelationsUptoRow.holds Tryz.pinned (OpenSpec.upto evalRelationsSpec)

/-- 'refinementlaw03.EvalSymmetry', WHERE WHAT IT READS IS OF BULK AT MOST 1048576: true; the input reads as it did. -/
def evalSymmetryUptoRow : OpenClaim := { program := "ythgdaonechbgmaagreat", sum := "a730ee4a2cec5855eb55fb6ed4908f70eb44e6d6207c1c17067c8f00582b5bda", func := "refinement/refinementlaw03.EvalSymmetry", spec := "evalSymmetry", inPlace := ["internal/bytealg.abigen_runtime_cmpstring"], unfollowed := true, recurses := true, loops := true, apart := false, narrowed := true }
def EvalSymmetryUptoSaid : Prop := evalSymmetryUptoRow.holds Tryz.pinned (OpenSpec.upto evalSymmetrySpec)

/-- 'refinementlaw03.EvalLiteralBack', WHERE WHAT IT READS IS OF BULK AT MOST 1048576: true; the input reads as it did. -/
def evalLiteralBackUptoRow : OpenClaim := { program := "ythgdaonechbgmaagreat", sum := "a730ee4a2cec5855eb55fb6ed4908f70eb44e6d6207c1c17067c8f00582b5bda", func := "refinement/refinementlaw03.EvalLiteralBack", spec := "evalLiteralBack", inPlace := ["internal/bytealg.abigen_runtime_cmpstring"], unfollowed := true, recurses := true, loops := true, apart := false, narrowed := true }
def EvalLiteralBackUptoSaid : Prop := evalLiteralBackUptoRow.holds Tryz.pinned (OpenSpec.upto evalLiteralBackSpec)

end Rows
end Go.Proofs.YthgdaonechbgmaaGreat

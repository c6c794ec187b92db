/-
  NARROWER THAN 'FOR EVERY INPUT', by the rows' own cells (each row's printed sentence says how): EvalEvaluates: loops · EvalDefined: loops · EvalDecided: loops · EvalQuantifiers: loops · EvalTyped: loops · EvalSets: loops.
  DERIVED. THE GIVEN ROWS OF THIS SEAT. 6 by the template 'for every input the law returns true; each argument reads behind the call as it read before'; 0 by the template 'total and deterministic' (their statements: YtneeginmfjageaaGreatTotals.lean).
  GIVEN WITH THE SEED: the statements are not yours to turn. If you find one false, say at which input.
  Laid BY PROGRAM, IN A SANDBOX (cutbox-rows.mjs): the forced cells as the released guide's own fill.sh prints them over the translation 70a647ab27fc2b82… (all of the seat's roots in one cut). By AI agents, Wed Nov 11 2026. No macro, syntax, notation, axiom, sorry.
-/
import Derived.Test.YtneeginmfjageaaGreatChecked
import GoSem.Claim
import GoSem.ClaimJoined
import GoSem.ClaimMapViews
import Derived.JoinedTies
import Derived.KernelRfl
namespace Go.Proofs.YtneeginmfjageaaGreat
/- THE CELL 'sum', in the pinned program and in every row, IS THE sha256 OF THE DUMP (.gsa) THAT YtneeginmfjageaaGreatProg.lean LOADS. Nothing in Lean hashes anything: it is a label: what it is worth is what the hold of that sum in a sandbox is worth. -/
noncomputable def Tryz.pinned : Pinned := { name := "ytneeginmfjageaagreat", sum := "70a647ab27fc2b82d15e0678cb6bab84f12ff7161e55c899ad1a7bdfbece5def", checked := Tryz.checked }
namespace Rows
def none {H : Type} : Left H := { results := [], args := [] }

/-- 'refinementlaw03.EvalEvaluates': WHATEVER THE INPUT: true; the input reads as it did. -/
def evalEvaluatesSpec : ChangeSpec := { name := "evalEvaluates", fn := fun _ => fun
  | [d1, d2] => { results := [.lit (.bool true)], args := [d1, d2] }
  | _ => none }
def evalEvaluatesRow : OpenClaim := { program := "ytneeginmfjageaagreat", sum := "70a647ab27fc2b82d15e0678cb6bab84f12ff7161e55c899ad1a7bdfbece5def", func := "refinement/refinementlaw03.EvalEvaluates", spec := "evalEvaluates", inPlace := ["internal/bytealg.abigen_runtime_cmpstring"], unfollowed := true, recurses := true, loops := true, apart := false }
def EvalEvaluatesSaid : Prop := evalEvaluatesRow.holds Tryz.pinned (OpenSpec.ofChange evalEvaluatesSpec)

/-- ITS FALSE NEIGHBOUR: 'it returns false'. Refute it at one input. -/
def evalEvaluatesWrong : ChangeSpec := { name := "evalEvaluates", fn := fun _ => fun
  | [d1, d2] => { results := [.lit (.bool false)], args := [d1, d2] }
  | _ => none }
def EvalEvaluatesWrongFalsely : Prop := evalEvaluatesRow.holds Tryz.pinned (OpenSpec.ofChange evalEvaluatesWrong)

/-- 'refinementlaw03.EvalDefined': WHATEVER THE INPUT: true; the input reads as it did. -/
def evalDefinedSpec : ChangeSpec := { name := "evalDefined", fn := fun _ => fun
  | [d1, d2] => { results := [.lit (.bool true)], args := [d1, d2] }
  | _ => none }
def evalDefinedRow : OpenClaim := { program := "ytneeginmfjageaagreat", sum := "70a647ab27fc2b82d15e0678cb6bab84f12ff7161e55c899ad1a7bdfbece5def", func := "refinement/refinementlaw03.EvalDefined", spec := "evalDefined", inPlace := ["internal/bytealg.abigen_runtime_cmpstring"], unfollowed := true, recurses := true, loops := true, apart := false }
def EvalDefinedSaid : Prop := evalDefinedRow.holds Tryz.pinned (OpenSpec.ofChange evalDefinedSpec)

/-- ITS FALSE NEIGHBOUR: 'it returns false'. Refute it at one input. -/
def evalDefinedWrong : ChangeSpec := { name := "evalDefined", fn := fun _ => fun
  | [d1, d2] => { results := [.lit (.bool false)], args := [d1, d2] }
  | _ => none }
def EvalDefinedWrongFalsely : Prop := evalDefinedRow.holds Tryz.pinned (OpenSpec.ofChange evalDefinedWrong)

/-- 'refinementlaw03.EvalDecided': WHATEVER THE INPUT: true; the input reads as it did. -/
def evalDecidedSpec : ChangeSpec := { name := "evalDecided", fn := fun _ => fun
  | [d1, d2, d3] => { results := [.lit (.bool true)], args := [d1, d2, d3] }
  | _ => none }
def evalDecidedRow : OpenClaim := { program := "ytneeginmfjageaagreat", sum := "70a647ab27fc2b82d15e0678cb6bab84f12ff7161e55c899ad1a7bdfbece5def", func := "refinement/refinementlaw03.EvalDecided", spec := "evalDecided", inPlace := ["internal/bytealg.abigen_runtime_cmpstring"], unfollowed := true, recurses := true, loops := true, apart := false }
def EvalDecidedSaid : Prop := evalDecidedRow.holds Tryz.pinned (OpenSpec.ofChange evalDecidedSpec)

/-- ITS FALSE NEIGHBOUR: 'it returns false'. Refute it at one input. -/
def evalDecidedWrong : ChangeSpec := { name := "evalDecided", fn := fun _ => fun
  | [d1, d2, d3] => { results := [.lit (.bool false)], args := [d1, d2, d3] }
  | _ => none }
def EvalDecidedWrongFalsely : Prop := evalDecidedRow.holds Tryz.pinned (OpenSpec.ofChange evalDecidedWrong)

/-- 'refinementlaw03.EvalQuantifiers': WHATEVER THE INPUT: true; the input reads as it did. -/
def evalQuantifiersSpec : ChangeSpec := { name := "evalQuantifiers", fn := fun _ => fun
  | [d1, d2, d3] => { results := [.lit (.bool true)], args := [d1, d2, d3] }
  | _ => none }
def evalQuantifiersRow : OpenClaim := { program := "ytneeginmfjageaagreat", sum := "70a647ab27fc2b82d15e0678cb6bab84f12ff7161e55c899ad1a7bdfbece5def", func := "refinement/refinementlaw03.EvalQuantifiers", spec := "evalQuantifiers", inPlace := ["internal/bytealg.abigen_runtime_cmpstring"], unfollowed := true, recurses := true, loops := true, apart := false }
def EvalQuantifiersSaid : Prop := evalQuantifiersRow.holds Tryz.pinned (OpenSpec.ofChange evalQuantifiersSpec)

/-- ITS FALSE NEIGHBOUR: 'it returns false'. Refute it at one input. -/
def evalQuantifiersWrong : ChangeSpec := { name := "evalQuantifiers", fn := fun _ => fun
  | [d1, d2, d3] => { results := [.lit (.bool false)], args := [d1, d2, d3] }
  | _ => none }
def EvalQuantifiersWrongFalsely : Prop := evalQuantifiersRow.holds Tryz.pinned (OpenSpec.ofChange evalQuantifiersWrong)

/-- 'refinementlaw03.EvalTyped': WHATEVER THE INPUT: true; the input reads as it did. -/
def evalTypedSpec : ChangeSpec := { name := "evalTyped", fn := fun _ => fun
  | [d1, d2] => { results := [.lit (.bool true)], args := [d1, d2] }
  | _ => none }
def evalTypedRow : OpenClaim := { program := "ytneeginmfjageaagreat", sum := "70a647ab27fc2b82d15e0678cb6bab84f12ff7161e55c899ad1a7bdfbece5def", func := "refinement/refinementlaw03.EvalTyped", spec := "evalTyped", inPlace := ["internal/bytealg.abigen_runtime_cmpstring"], unfollowed := true, recurses := true, loops := true, apart := false }
def EvalTypedSaid : Prop := evalTypedRow.holds Tryz.pinned (OpenSpec.ofChange evalTypedSpec)

/-- ITS FALSE NEIGHBOUR: 'it returns false'. Refute it at one input. -/
def evalTypedWrong : ChangeSpec := { name := "evalTyped", fn := fun _ => fun
  | [d1, d2] => { results := [.lit (.bool false)], args := [d1, d2] }
  | _ => none }
def EvalTypedWrongFalsely : Prop := evalTypedRow.holds Tryz.pinned (OpenSpec.ofChange evalTypedWrong)

/-- 'refinementlaw03.EvalSets': WHATEVER THE INPUT: true; the input reads as it did. -/
def evalSetsSpec : ChangeSpec := { name := "evalSets", fn := fun _ => fun
  | [d1, d2, d3] => { results := [.lit (.bool true)], args := [d1, d2, d3] }
  | _ => none }
def evalSetsRow : OpenClaim := { program := "ytneeginmfjageaagreat", sum := "70a647ab27fc2b82d15e0678cb6bab84f12ff7161e55c899ad1a7bdfbece5def", func := "refinement/refinementlaw03.EvalSets", spec := "evalSets", inPlace := ["internal/bytealg.abigen_runtime_cmpstring"], unfollowed := true, recurses := true, loops := true, apart := false }
def EvalSetsSaid : Prop := evalSetsRow.holds Tryz.pinned (OpenSpec.ofChange evalSetsSpec)

/-- ITS FALSE NEIGHBOUR: 'it returns false'. Refute it at one input. -/
def evalSetsWrong : ChangeSpec := { name := "evalSets", fn := fun _ => fun
  | [d1, d2, d3] => { results := [.lit (.bool false)], args := [d1, d2, d3] }
  | _ => none }
def EvalSetsWrongFalsely : Prop := evalSetsRow.holds Tryz.pinned (OpenSpec.ofChange evalSetsWrong)

/- THE SECOND FORM. 'bulk': how many values and letters a reading holds, each counted each time it is reached (what is shared counts as often as it is met; a slice's spare places count too). A statement '..UptoSaid' is the law's where the arguments, and the package variables that the reading takes, are together of bulk at most 1048576: NARROWER than '..Said'. Prove '..Said' where nothing that the law and all that it calls make is longer than what came in: it says more and counts as full. Else prove '..UptoSaid'. A law counts once. -/
mutual
def uptoBulk {H : Type} : DataW H → Nat
  | .lit (.string bytes) => bytes.length + 1
  | .lit _ => 1
  | .nil => 1
  | .ptr d => uptoBulk d + 1
  | .slice elems spare => uptoBulkAll elems + uptoBulkAll spare + 1
  | .agg parts => uptoBulkAll parts + 1
  | .iface _ d => uptoBulk d + 1
  | .map entries => uptoBulkEntries entries + 1
  | .held _ => 1
def uptoBulkAll {H : Type} : List (DataW H) → Nat
  | [] => 0
  | d :: r => uptoBulk d + uptoBulkAll r
def uptoBulkEntries {H : Type} : List (Lit × DataW H) → Nat
  | [] => 0
  | x :: r => uptoBulkEntry x + uptoBulkEntries r
def uptoBulkEntry {H : Type} : Lit × DataW H → Nat
  | (.string bytes, d) => bytes.length + uptoBulk d + 1
  | (_, d) => uptoBulk d + 1
 end
def uptoSmall : (H : Type) → List (DataW H) → Bool := fun _ ds => decide (uptoBulkAll ds ≤ 1048576)
def OpenSpec.upto (s : _root_.Go.ChangeSpec) : _root_.Go.OpenSpec := { _root_.Go.OpenSpec.ofChange s with cond := some uptoSmall }

/-- 'refinementlaw03.EvalEvaluates', WHERE WHAT IT READS IS OF BULK AT MOST 1048576: true; the input reads as it did. -/
def evalEvaluatesUptoRow : OpenClaim := { program := "ytneeginmfjageaagreat", sum := "70a647ab27fc2b82d15e0678cb6bab84f12ff7161e55c899ad1a7bdfbece5def", func := "refinement/refinementlaw03.EvalEvaluates", spec := "evalEvaluates", inPlace := ["internal/bytealg.abigen_runtime_cmpstring"], unfollowed := true, recurses := true, loops := true, apart := false, narrowed := true }
def EvalEvaluatesUptoSaid : Prop := evalEvaluatesUptoRow.holds Tryz.pinned (OpenSpec.upto evalEvaluatesSpec)

/-- 'refinementlaw03.EvalDefined', WHERE WHAT IT READS IS OF BULK AT MOST 1048576: true; the input reads as it did. -/
def evalDefinedUptoRow : OpenClaim := { program := "ytneeginmfjageaagreat", sum := "70a647ab27fc2b82d15e0678cb6bab84f12ff7161e55c899ad1a7bdfbece5def", func := "refinement/refinementlaw03.EvalDefined", spec := "evalDefined", inPlace := ["internal/bytealg.abigen_runtime_cmpstring"], unfollowed := true, recurses := true, loops := true, apart := false, narrowed := true }
def EvalDefinedUptoSaid : Prop := evalDefinedUptoRow.holds Tryz.pinned (OpenSpec.upto evalDefinedSpec)

/-- 'refinementlaw03.EvalDecided', WHERE WHAT IT READS IS OF BULK AT MOST 1048576: true; the input reads as it did. -/
def evalDecidedUptoRow : OpenClaim := { program := "ytneeginmfjageaagreat", sum := "70a647ab27fc2b82d15e0678cb6bab84f12ff7161e55c899ad1a7bdfbece5def", func := "refinement/refinementlaw03.EvalDecided", spec := "evalDecided", inPlace := ["internal/bytealg.abigen_runtime_cmpstring"], unfollowed := true, recurses := true, loops := true, apart := false, narrowed := true }
def EvalDecidedUptoSaid : Prop := evalDecidedUptoRow.holds Tryz.pinned (OpenSpec.upto evalDecidedSpec)

/-- 'refinementlaw03.EvalQuantifiers', WHERE WHAT IT READS IS OF BULK AT MOST 1048576: true; the input reads as it did. -/
def evalQuantifiersUptoRow : OpenClaim := { program := "ytneeginmfjageaagreat", sum := "70a647ab27fc2b82d15e0678cb6bab84f12ff7161e55c899ad1a7bdfbece5def", func := "refinement/refinementlaw03.EvalQuantifiers", spec := "evalQuantifiers", inPlace := ["internal/bytealg.abigen_runtime_cmpstring"], unfollowed := true, recurses := true, loops := true, apart := false, narrowed := true }
def EvalQuantifiersUptoSaid : Prop := evalQuantifiersUptoRow.holds Tryz.pinned (OpenSpec.upto evalQuantifiersSpec)

/-- 'refinementlaw03.EvalTyped', WHERE WHAT IT READS IS OF BULK AT MOST 1048576: true; the input reads as it did. -/
def evalTypedUptoRow : OpenClaim := { program := "ytneeginmfjageaagreat", sum := "70a647ab27fc2b82d15e0678cb6bab84f12ff7161e55c899ad1a7bdfbece5def", func := "refinement/refinementlaw03.EvalTyped", spec := "evalTyped", inPlace := ["internal/bytealg.abigen_runtime_cmpstring"], unfollowed := true, recurses := true, loops := true, apart := false, narrowed := true }
def EvalTypedUptoSaid : Prop := evalTypedUptoRow.holds Tryz.pinned (OpenSpec.upto evalTypedSpec)

/-- 'refinementlaw03.EvalSets', WHERE WHAT IT READS IS OF BULK AT MOST 1048576: true; the input reads as it did. -/
def evalSetsUptoRow : OpenClaim := { program := "ytneeginmfjageaagreat", sum := "70a647ab27fc2b82d15e0678cb6bab84f12ff7161e55c899ad1a7bdfbece5def", func := "refinement/refinementlaw03.EvalSets", spec := "evalSets", inPlace := ["internal/bytealg.abigen_runtime_cmpstring"], unfollowed := true, recurses := true, loops := true, apart := false, narrowed := true }
def EvalSetsUptoSaid : Prop := evalSetsUptoRow.holds Tryz.pinned (OpenSpec.upto evalSetsSpec)

end Rows
end Go.Proofs.YtneeginmfjageaaGreat

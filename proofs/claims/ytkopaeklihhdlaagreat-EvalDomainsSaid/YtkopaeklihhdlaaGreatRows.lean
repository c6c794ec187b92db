/-
  NARROWER THAN 'FOR EVERY INPUT', by the rows' own cells (each row's printed sentence says how): EvalHas: loops · EvalNames: loops · EvalOrder: loops · EvalCompares: loops · EvalTurns: loops · EvalDomains: loops.
  DERIVED. THE GIVEN ROWS OF THIS SEAT. 6 by the template 'for every input the law returns true; each argument reads behind the call as it read before'; 0 by the template 'total and deterministic' (their statements: YtkopaeklihhdlaaGreatTotals.lean).
  GIVEN WITH THE SEED: the statements are not yours to turn. If you find one false, say at which input.
  Laid BY PROGRAM, IN A SANDBOX (cutbox-rows.mjs): the forced cells as the released guide's own fill.sh prints them over the translation 11b4f641344b04cf… (all of the seat's roots in one cut). By AI agents, Wed Nov 11 2026. No macro, syntax, notation, axiom, sorry.
-/
import Derived.Test.YtkopaeklihhdlaaGreatChecked
import GoSem.Claim
import GoSem.ClaimJoined
import GoSem.ClaimMapViews
import Derived.JoinedTies
import Derived.KernelRfl
namespace Go.Proofs.YtkopaeklihhdlaaGreat
/- THE CELL 'sum', in the pinned program and in every row, IS THE sha256 OF THE DUMP (.gsa) THAT YtkopaeklihhdlaaGreatProg.lean LOADS. Nothing in Lean hashes anything: it is a label: what it is worth is what the hold of that sum in a sandbox is worth. -/
noncomputable def Tryz.pinned : Pinned := { name := "ytkopaeklihhdlaagreat", sum := "11b4f641344b04cfe8251c91a35dd3d69f8b4d3e50763935728043ca7ec1d928", checked := Tryz.checked }
namespace Rows
def none {H : Type} : Left H := { results := [], args := [] }

/-- 'refinementlaw03.EvalHas': WHATEVER THE INPUT: true; the input reads as it did. -/
def evalHasSpec : ChangeSpec := { name := "evalHas", fn := fun _ => fun
  | [d1, d2, d3] => { results := [.lit (.bool true)], args := [d1, d2, d3] }
  | _ => none }
def evalHasRow : OpenClaim := { program := "ytkopaeklihhdlaagreat", sum := "11b4f641344b04cfe8251c91a35dd3d69f8b4d3e50763935728043ca7ec1d928", func := "refinement/refinementlaw03.EvalHas", spec := "evalHas", inPlace := ["internal/bytealg.abigen_runtime_cmpstring"], unfollowed := true, recurses := true, loops := true, apart := false }
def EvalHasSaid : Prop := evalHasRow.holds Tryz.pinned (OpenSpec.ofChange evalHasSpec)

/-- ITS FALSE NEIGHBOUR: 'it returns false'. Refute it at one input. -/
def evalHasWrong : ChangeSpec := { name := "evalHas", fn := fun _ => fun
  | [d1, d2, d3] => { results := [.lit (.bool false)], args := [d1, d2, d3] }
  | _ => none }
def EvalHasWrongFalsely : Prop := evalHasRow.holds Tryz.pinned (OpenSpec.ofChange evalHasWrong)

/-- 'refinementlaw03.EvalNames': WHATEVER THE INPUT: true; the input reads as it did. -/
def evalNamesSpec : ChangeSpec := { name := "evalNames", fn := fun _ => fun
  | [d1, d2, d3] => { results := [.lit (.bool true)], args := [d1, d2, d3] }
  | _ => none }
def evalNamesRow : OpenClaim := { program := "ytkopaeklihhdlaagreat", sum := "11b4f641344b04cfe8251c91a35dd3d69f8b4d3e50763935728043ca7ec1d928", func := "refinement/refinementlaw03.EvalNames", spec := "evalNames", inPlace := ["internal/bytealg.abigen_runtime_cmpstring"], unfollowed := true, recurses := true, loops := true, apart := false }
def EvalNamesSaid : Prop := evalNamesRow.holds Tryz.pinned (OpenSpec.ofChange evalNamesSpec)

/-- ITS FALSE NEIGHBOUR: 'it returns false'. Refute it at one input. -/
def evalNamesWrong : ChangeSpec := { name := "evalNames", fn := fun _ => fun
  | [d1, d2, d3] => { results := [.lit (.bool false)], args := [d1, d2, d3] }
  | _ => none }
def EvalNamesWrongFalsely : Prop := evalNamesRow.holds Tryz.pinned (OpenSpec.ofChange evalNamesWrong)

/-- 'refinementlaw03.EvalOrder': WHATEVER THE INPUT: true; the input reads as it did. -/
def evalOrderSpec : ChangeSpec := { name := "evalOrder", fn := fun _ => fun
  | [d1, d2, d3] => { results := [.lit (.bool true)], args := [d1, d2, d3] }
  | _ => none }
def evalOrderRow : OpenClaim := { program := "ytkopaeklihhdlaagreat", sum := "11b4f641344b04cfe8251c91a35dd3d69f8b4d3e50763935728043ca7ec1d928", func := "refinement/refinementlaw03.EvalOrder", spec := "evalOrder", inPlace := ["internal/bytealg.abigen_runtime_cmpstring"], unfollowed := true, recurses := true, loops := true, apart := false }
def EvalOrderSaid : Prop := evalOrderRow.holds Tryz.pinned (OpenSpec.ofChange evalOrderSpec)

/-- ITS FALSE NEIGHBOUR: 'it returns false'. Refute it at one input. -/
def evalOrderWrong : ChangeSpec := { name := "evalOrder", fn := fun _ => fun
  | [d1, d2, d3] => { results := [.lit (.bool false)], args := [d1, d2, d3] }
  | _ => none }
def EvalOrderWrongFalsely : Prop := evalOrderRow.holds Tryz.pinned (OpenSpec.ofChange evalOrderWrong)

/-- 'refinementlaw03.EvalCompares': WHATEVER THE INPUT: true; the input reads as it did. -/
def evalComparesSpec : ChangeSpec := { name := "evalCompares", fn := fun _ => fun
  | [d1, d2, d3] => { results := [.lit (.bool true)], args := [d1, d2, d3] }
  | _ => none }
def evalComparesRow : OpenClaim := { program := "ytkopaeklihhdlaagreat", sum := "11b4f641344b04cfe8251c91a35dd3d69f8b4d3e50763935728043ca7ec1d928", func := "refinement/refinementlaw03.EvalCompares", spec := "evalCompares", inPlace := ["internal/bytealg.abigen_runtime_cmpstring"], unfollowed := true, recurses := true, loops := true, apart := false }
def EvalComparesSaid : Prop := evalComparesRow.holds Tryz.pinned (OpenSpec.ofChange evalComparesSpec)

/-- ITS FALSE NEIGHBOUR: 'it returns false'. Refute it at one input. -/
def evalComparesWrong : ChangeSpec := { name := "evalCompares", fn := fun _ => fun
  | [d1, d2, d3] => { results := [.lit (.bool false)], args := [d1, d2, d3] }
  | _ => none }
def EvalComparesWrongFalsely : Prop := evalComparesRow.holds Tryz.pinned (OpenSpec.ofChange evalComparesWrong)

/-- 'refinementlaw03.EvalTurns': WHATEVER THE INPUT: true; the input reads as it did. -/
def evalTurnsSpec : ChangeSpec := { name := "evalTurns", fn := fun _ => fun
  | [d1, d2, d3] => { results := [.lit (.bool true)], args := [d1, d2, d3] }
  | _ => none }
def evalTurnsRow : OpenClaim := { program := "ytkopaeklihhdlaagreat", sum := "11b4f641344b04cfe8251c91a35dd3d69f8b4d3e50763935728043ca7ec1d928", func := "refinement/refinementlaw03.EvalTurns", spec := "evalTurns", inPlace := ["internal/bytealg.abigen_runtime_cmpstring"], unfollowed := true, recurses := true, loops := true, apart := false }
def EvalTurnsSaid : Prop := evalTurnsRow.holds Tryz.pinned (OpenSpec.ofChange evalTurnsSpec)

/-- ITS FALSE NEIGHBOUR: 'it returns false'. Refute it at one input. -/
def evalTurnsWrong : ChangeSpec := { name := "evalTurns", fn := fun _ => fun
  | [d1, d2, d3] => { results := [.lit (.bool false)], args := [d1, d2, d3] }
  | _ => none }
def EvalTurnsWrongFalsely : Prop := evalTurnsRow.holds Tryz.pinned (OpenSpec.ofChange evalTurnsWrong)

/-- 'refinementlaw03.EvalDomains': WHATEVER THE INPUT: true; the input reads as it did. -/
def evalDomainsSpec : ChangeSpec := { name := "evalDomains", fn := fun _ => fun
  | [d1, d2, d3] => { results := [.lit (.bool true)], args := [d1, d2, d3] }
  | _ => none }
def evalDomainsRow : OpenClaim := { program := "ytkopaeklihhdlaagreat", sum := "11b4f641344b04cfe8251c91a35dd3d69f8b4d3e50763935728043ca7ec1d928", func := "refinement/refinementlaw03.EvalDomains", spec := "evalDomains", inPlace := ["internal/bytealg.abigen_runtime_cmpstring"], unfollowed := true, recurses := true, loops := true, apart := false }
def EvalDomainsSaid : Prop := evalDomainsRow.holds Tryz.pinned (OpenSpec.ofChange evalDomainsSpec)

/-- ITS FALSE NEIGHBOUR: 'it returns false'. Refute it at one input. -/
def evalDomainsWrong : ChangeSpec := { name := "evalDomains", fn := fun _ => fun
  | [d1, d2, d3] => { results := [.lit (.bool false)], args := [d1, d2, d3] }
  | _ => none }
def EvalDomainsWrongFalsely : Prop := evalDomainsRow.holds Tryz.pinned (OpenSpec.ofChange evalDomainsWrong)

/- THE SECOND FORM. 'bulk': how many values and letters a reading holds, each counted each time it is reached (what is shared counts as often as it is met; a slice's spare places count too). A statement '..UptoSaid' is the law's where the arguments, and the package variables that the reading takes, are together of bulk at most 1048576: NARROWER than '..Said'. Prove '..Said' where nothing that the law and all that it calls make is longer than what came in: it says more and counts as full. Else prove '..UptoSaid'. A law counts once. -/
mutual
def uptoBulk {H : Type} : DataW H → Nat
  | .lit (.string bytes) => bytes.length + 1
  | .lit _ => 1
  | .nil => 1
  | .ptr d => uptoBulk d + 1
  | .slice elems spare => uptoBulkAll elems + uptoBulkAll spare + 1
  | .agg parts => uptoBulkAll parts + 1
  | .iface _ d => uptoBulk d + 1
  | .map entries => uptoBulkEntries entries + 1
  | .held _ => 1
def uptoBulkAll {H : Type} : List (DataW H) → Nat
  | [] => 0
  | d :: r => uptoBulk d + uptoBulkAll r
def uptoBulkEntries {H : Type} : List (Lit × DataW H) → Nat
  | [] => 0
  | x :: r => uptoBulkEntry x + uptoBulkEntries r
def uptoBulkEntry {H : Type} : Lit × DataW H → Nat
  | (.string bytes, d) => bytes.length + uptoBulk d + 1
  | (_, d) => uptoBulk d + 1
 end
def uptoSmall : (H : Type) → List (DataW H) → Bool := fun _ ds => decide (uptoBulkAll ds ≤ 1048576)
def OpenSpec.upto (s : _root_.Go.ChangeSpec) : _root_.Go.OpenSpec := { _root_.Go.OpenSpec.ofChange s with cond := some uptoSmall }

/-- 'refinementlaw03.EvalHas', WHERE WHAT IT READS IS OF BULK AT MOST 1048576: true; the input reads as it did. -/
def evalHasUptoRow : OpenClaim := { program := "ytkopaeklihhdlaagreat", sum := "11b4f641344b04cfe8251c91a35dd3d69f8b4d3e50763935728043ca7ec1d928", func := "refinement/refinementlaw03.EvalHas", spec := "evalHas", inPlace := ["internal/bytealg.abigen_runtime_cmpstring"], unfollowed := true, recurses := true, loops := true, apart := false, narrowed := true }
def EvalHasUptoSaid : Prop := evalHasUptoRow.holds Tryz.pinned (OpenSpec.upto evalHasSpec)

/-- 'refinementlaw03.EvalNames', WHERE WHAT IT READS IS OF BULK AT MOST 1048576: true; the input reads as it did. -/
def evalNamesUptoRow : OpenClaim := { program := "ytkopaeklihhdlaagreat", sum := "11b4f641344b04cfe8251c91a35dd3d69f8b4d3e50763935728043ca7ec1d928", func := "refinement/refinementlaw03.EvalNames", spec := "evalNames", inPlace := ["internal/bytealg.abigen_runtime_cmpstring"], unfollowed := true, recurses := true, loops := true, apart := false, narrowed := true }
def EvalNamesUptoSaid : Prop := evalNamesUptoRow.holds Tryz.pinned (OpenSpec.upto evalNamesSpec)

/-- 'refinementlaw03.EvalOrder', WHERE WHAT IT READS IS OF BULK AT MOST 1048576: true; the input reads as it did. -/
def evalOrderUptoRow : OpenClaim := { program := "ytkopaeklihhdlaagreat", sum := "11b4f641344b04cfe8251c91a35dd3d69f8b4d3e50763935728043ca7ec1d928", func := "refinement/refinementlaw03.EvalOrder", spec := "evalOrder", inPlace := ["internal/bytealg.abigen_runtime_cmpstring"], unfollowed := true, recurses := true, loops := true, apart := false, narrowed := true }
def EvalOrderUptoSaid : Prop := evalOrderUptoRow.holds Tryz.pinned (OpenSpec.upto evalOrderSpec)

/-- 'refinementlaw03.EvalCompares', WHERE WHAT IT READS IS OF BULK AT MOST 1048576: true; the input reads as it did. -/
def evalComparesUptoRow : OpenClaim := { program := "ytkopaeklihhdlaagreat", sum := "11b4f641344b04cfe8251c91a35dd3d69f8b4d3e50763935728043ca7ec1d928", func := "refinement/refinementlaw03.EvalCompares", spec := "evalCompares", inPlace := ["internal/bytealg.abigen_runtime_cmpstring"], unfollowed := true, recurses := true, loops := true, apart := false, narrowed := true }
def EvalComparesUptoSaid : Prop := evalComparesUptoRow.holds Tryz.pinned (OpenSpec.upto evalComparesSpec)

/-- 'refinementlaw03.EvalTurns', WHERE WHAT IT READS IS OF BULK AT MOST 1048576: true; the input reads as it did. -/
def evalTurnsUptoRow : OpenClaim := { program := "ytkopaeklihhdlaagreat", sum := "11b4f641344b04cfe8251c91a35dd3d69f8b4d3e50763935728043ca7ec1d928", func := "refinement/refinementlaw03.EvalTurns", spec := "evalTurns", inPlace := ["internal/bytealg.abigen_runtime_cmpstring"], unfollowed := true, recurses := true, loops := true, apart := false, narrowed := true }
def EvalTurnsUptoSaid : Prop := evalTurnsUptoRow.holds Tryz.pinned (OpenSpec.upto evalTurnsSpec)

/-- 'refinementlaw03.EvalDomains', WHERE WHAT IT READS IS OF BULK AT MOST 1048576: true; the input reads as it did. -/
def evalDomainsUptoRow : OpenClaim := { program := "ytkopaeklihhdlaagreat", sum := "11b4f641344b04cfe8251c91a35dd3d69f8b4d3e50763935728043ca7ec1d928", func := "refinement/refinementlaw03.EvalDomains", spec := "evalDomains", inPlace := ["internal/bytealg.abigen_runtime_cmpstring"], unfollowed := true, recurses := true, loops := true, apart := false, narrowed := true }
def EvalDomainsUptoSaid : Prop := evalDomainsUptoRow.holds Tryz.pinned (OpenSpec.upto evalDomainsSpec)

end Rows
end Go.Proofs.YtkopaeklihhdlaaGreat

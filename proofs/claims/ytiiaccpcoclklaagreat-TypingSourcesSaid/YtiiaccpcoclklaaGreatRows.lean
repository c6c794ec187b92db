/-
  NARROWER THAN 'FOR EVERY INPUT', by the rows' own cells (each row's printed sentence says how): TypingTypes: loops · TypingAlike: loops · TypingReplaces: loops · TypingSources: loops · TypingSubst: loops · TypingDefines: loops · TypingSorts: loops · TypingTypesOfTypes: loops · TypingConditions: loops · TypingEnvs: loops · TypingBinders: loops · TypingMore: loops · TypingUnions: loops.
  DERIVED. THE GIVEN ROWS OF THIS SEAT. 13 by the template 'for every input the law returns true; each argument reads behind the call as it read before'; 0 by the template 'total and deterministic' (their statements: YtiiaccpcoclklaaGreatTotals.lean).
  GIVEN WITH THE SEED: the statements are not yours to turn. If you find one false, say at which input.
  Laid BY PROGRAM, IN A SANDBOX (cutbox-rows.mjs): the forced cells as the released guide's own fill.sh prints them over the translation 5a9737478bda2060… (all of the seat's roots in one cut). By AI agents, Wed Nov 11 2026. No macro, syntax, notation, axiom, sorry.
-/
import Derived.Test.YtiiaccpcoclklaaGreatChecked
import GoSem.Claim
import GoSem.ClaimJoined
import GoSem.ClaimMapViews
import Derived.JoinedTies
import Derived.KernelRfl
namespace Go.Proofs.YtiiaccpcoclklaaGreat
/- THE CELL 'sum', in the pinned program and in every row, IS THE sha256 OF THE DUMP (.gsa) THAT YtiiaccpcoclklaaGreatProg.lean LOADS. Nothing in Lean hashes anything: it is a label: what it is worth is what the hold of that sum in a sandbox is worth. -/
noncomputable def Tryz.pinned : Pinned := { name := "ytiiaccpcoclklaagreat", sum := "5a9737478bda2060378143c44b3f9f7c7898add1c1d327e196baa34562135b6e", checked := Tryz.checked }
namespace Rows
def none {H : Type} : Left H := { results := [], args := [] }

/-- 'refinementlaw02.TypingTypes': WHATEVER THE INPUT: true; the input reads as it did. -/
def typingTypesSpec : ChangeSpec := { name := "typingTypes", fn := fun _ => fun
  | [d1, d2] => { results := [.lit (.bool true)], args := [d1, d2] }
  | _ => none }
def typingTypesRow : OpenClaim := { program := "ytiiaccpcoclklaagreat", sum := "5a9737478bda2060378143c44b3f9f7c7898add1c1d327e196baa34562135b6e", func := "refinement/refinementlaw02.TypingTypes", spec := "typingTypes", unfollowed := true, recurses := true, loops := true, apart := false }
def TypingTypesSaid : Prop := typingTypesRow.holds Tryz.pinned (OpenSpec.ofChange typingTypesSpec)

/-- ITS FALSE NEIGHBOUR: 'it returns false'. Refute it at one input. -/
def typingTypesWrong : ChangeSpec := { name := "typingTypes", fn := fun _ => fun
  | [d1, d2] => { results := [.lit (.bool false)], args := [d1, d2] }
  | _ => none }
def TypingTypesWrongFalsely : Prop := typingTypesRow.holds Tryz.pinned (OpenSpec.ofChange typingTypesWrong)

/-- 'refinementlaw02.TypingAlike': WHATEVER THE INPUT: true; the input reads as it did. -/
def typingAlikeSpec : ChangeSpec := { name := "typingAlike", fn := fun _ => fun
  | [d1, d2, d3] => { results := [.lit (.bool true)], args := [d1, d2, d3] }
  | _ => none }
def typingAlikeRow : OpenClaim := { program := "ytiiaccpcoclklaagreat", sum := "5a9737478bda2060378143c44b3f9f7c7898add1c1d327e196baa34562135b6e", func := "refinement/refinementlaw02.TypingAlike", spec := "typingAlike", unfollowed := true, recurses := true, loops := true, apart := false }
def TypingAlikeSaid : Prop := typingAlikeRow.holds Tryz.pinned (OpenSpec.ofChange typingAlikeSpec)

/-- ITS FALSE NEIGHBOUR: 'it returns false'. Refute it at one input. -/
def typingAlikeWrong : ChangeSpec := { name := "typingAlike", fn := fun _ => fun
  | [d1, d2, d3] => { results := [.lit (.bool false)], args := [d1, d2, d3] }
  | _ => none }
def TypingAlikeWrongFalsely : Prop := typingAlikeRow.holds Tryz.pinned (OpenSpec.ofChange typingAlikeWrong)

/-- 'refinementlaw02.TypingReplaces': WHATEVER THE INPUT: true; the input reads as it did. -/
def typingReplacesSpec : ChangeSpec := { name := "typingReplaces", fn := fun _ => fun
  | [d1, d2, d3] => { results := [.lit (.bool true)], args := [d1, d2, d3] }
  | _ => none }
def typingReplacesRow : OpenClaim := { program := "ytiiaccpcoclklaagreat", sum := "5a9737478bda2060378143c44b3f9f7c7898add1c1d327e196baa34562135b6e", func := "refinement/refinementlaw02.TypingReplaces", spec := "typingReplaces", unfollowed := true, recurses := true, loops := true, apart := false }
def TypingReplacesSaid : Prop := typingReplacesRow.holds Tryz.pinned (OpenSpec.ofChange typingReplacesSpec)

/-- ITS FALSE NEIGHBOUR: 'it returns false'. Refute it at one input. -/
def typingReplacesWrong : ChangeSpec := { name := "typingReplaces", fn := fun _ => fun
  | [d1, d2, d3] => { results := [.lit (.bool false)], args := [d1, d2, d3] }
  | _ => none }
def TypingReplacesWrongFalsely : Prop := typingReplacesRow.holds Tryz.pinned (OpenSpec.ofChange typingReplacesWrong)

/-- 'refinementlaw02.TypingSources': WHATEVER THE INPUT: true; the input reads as it did. -/
def typingSourcesSpec : ChangeSpec := { name := "typingSources", fn := fun _ => fun
  | [d1, d2] => { results := [.lit (.bool true)], args := [d1, d2] }
  | _ => none }
def typingSourcesRow : OpenClaim := { program := "ytiiaccpcoclklaagreat", sum := "5a9737478bda2060378143c44b3f9f7c7898add1c1d327e196baa34562135b6e", func := "refinement/refinementlaw02.TypingSources", spec := "typingSources", unfollowed := true, recurses := true, loops := true, apart := false }
def TypingSourcesSaid : Prop := typingSourcesRow.holds Tryz.pinned (OpenSpec.ofChange typingSourcesSpec)

/-- ITS FALSE NEIGHBOUR: 'it returns false'. Refute it at one input. -/
def typingSourcesWrong : ChangeSpec := { name := "typingSources", fn := fun _ => fun
  | [d1, d2] => { results := [.lit (.bool false)], args := [d1, d2] }
  | _ => none }
def TypingSourcesWrongFalsely : Prop := typingSourcesRow.holds Tryz.pinned (OpenSpec.ofChange typingSourcesWrong)

/-- 'refinementlaw02.TypingSubst': WHATEVER THE INPUT: true; the input reads as it did. -/
def typingSubstSpec : ChangeSpec := { name := "typingSubst", fn := fun _ => fun
  | [d1, d2, d3] => { results := [.lit (.bool true)], args := [d1, d2, d3] }
  | _ => none }
def typingSubstRow : OpenClaim := { program := "ytiiaccpcoclklaagreat", sum := "5a9737478bda2060378143c44b3f9f7c7898add1c1d327e196baa34562135b6e", func := "refinement/refinementlaw02.TypingSubst", spec := "typingSubst", unfollowed := true, recurses := true, loops := true, apart := false }
def TypingSubstSaid : Prop := typingSubstRow.holds Tryz.pinned (OpenSpec.ofChange typingSubstSpec)

/-- ITS FALSE NEIGHBOUR: 'it returns false'. Refute it at one input. -/
def typingSubstWrong : ChangeSpec := { name := "typingSubst", fn := fun _ => fun
  | [d1, d2, d3] => { results := [.lit (.bool false)], args := [d1, d2, d3] }
  | _ => none }
def TypingSubstWrongFalsely : Prop := typingSubstRow.holds Tryz.pinned (OpenSpec.ofChange typingSubstWrong)

/-- 'refinementlaw02.TypingDefines': WHATEVER THE INPUT: true; the input reads as it did. -/
def typingDefinesSpec : ChangeSpec := { name := "typingDefines", fn := fun _ => fun
  | [d1, d2] => { results := [.lit (.bool true)], args := [d1, d2] }
  | _ => none }
def typingDefinesRow : OpenClaim := { program := "ytiiaccpcoclklaagreat", sum := "5a9737478bda2060378143c44b3f9f7c7898add1c1d327e196baa34562135b6e", func := "refinement/refinementlaw02.TypingDefines", spec := "typingDefines", unfollowed := true, recurses := true, loops := true, apart := false }
def TypingDefinesSaid : Prop := typingDefinesRow.holds Tryz.pinned (OpenSpec.ofChange typingDefinesSpec)

/-- ITS FALSE NEIGHBOUR: 'it returns false'. Refute it at one input. -/
def typingDefinesWrong : ChangeSpec := { name := "typingDefines", fn := fun _ => fun
  | [d1, d2] => { results := [.lit (.bool false)], args := [d1, d2] }
  | _ => none }
def TypingDefinesWrongFalsely : Prop := typingDefinesRow.holds Tryz.pinned (OpenSpec.ofChange typingDefinesWrong)

/-- 'refinementlaw02.TypingSorts': WHATEVER THE INPUT: true; the input reads as it did. -/
def typingSortsSpec : ChangeSpec := { name := "typingSorts", fn := fun _ => fun
  | [d1, d2] => { results := [.lit (.bool true)], args := [d1, d2] }
  | _ => none }
def typingSortsRow : OpenClaim := { program := "ytiiaccpcoclklaagreat", sum := "5a9737478bda2060378143c44b3f9f7c7898add1c1d327e196baa34562135b6e", func := "refinement/refinementlaw02.TypingSorts", spec := "typingSorts", unfollowed := true, recurses := true, loops := true, apart := false }
def TypingSortsSaid : Prop := typingSortsRow.holds Tryz.pinned (OpenSpec.ofChange typingSortsSpec)

/-- ITS FALSE NEIGHBOUR: 'it returns false'. Refute it at one input. -/
def typingSortsWrong : ChangeSpec := { name := "typingSorts", fn := fun _ => fun
  | [d1, d2] => { results := [.lit (.bool false)], args := [d1, d2] }
  | _ => none }
def TypingSortsWrongFalsely : Prop := typingSortsRow.holds Tryz.pinned (OpenSpec.ofChange typingSortsWrong)

/-- 'refinementlaw02.TypingTypesOfTypes': WHATEVER THE INPUT: true; the input reads as it did. -/
def typingTypesOfTypesSpec : ChangeSpec := { name := "typingTypesOfTypes", fn := fun _ => fun
  | [d1, d2, d3] => { results := [.lit (.bool true)], args := [d1, d2, d3] }
  | _ => none }
def typingTypesOfTypesRow : OpenClaim := { program := "ytiiaccpcoclklaagreat", sum := "5a9737478bda2060378143c44b3f9f7c7898add1c1d327e196baa34562135b6e", func := "refinement/refinementlaw02.TypingTypesOfTypes", spec := "typingTypesOfTypes", unfollowed := true, recurses := true, loops := true, apart := false }
def TypingTypesOfTypesSaid : Prop := typingTypesOfTypesRow.holds Tryz.pinned (OpenSpec.ofChange typingTypesOfTypesSpec)

/-- ITS FALSE NEIGHBOUR: 'it returns false'. Refute it at one input. -/
def typingTypesOfTypesWrong : ChangeSpec := { name := "typingTypesOfTypes", fn := fun _ => fun
  | [d1, d2, d3] => { results := [.lit (.bool false)], args := [d1, d2, d3] }
  | _ => none }
def TypingTypesOfTypesWrongFalsely : Prop := typingTypesOfTypesRow.holds Tryz.pinned (OpenSpec.ofChange typingTypesOfTypesWrong)

/-- 'refinementlaw02.TypingConditions': WHATEVER THE INPUT: true; the input reads as it did. -/
def typingConditionsSpec : ChangeSpec := { name := "typingConditions", fn := fun _ => fun
  | [d1, d2] => { results := [.lit (.bool true)], args := [d1, d2] }
  | _ => none }
def typingConditionsRow : OpenClaim := { program := "ytiiaccpcoclklaagreat", sum := "5a9737478bda2060378143c44b3f9f7c7898add1c1d327e196baa34562135b6e", func := "refinement/refinementlaw02.TypingConditions", spec := "typingConditions", unfollowed := true, recurses := true, loops := true, apart := false }
def TypingConditionsSaid : Prop := typingConditionsRow.holds Tryz.pinned (OpenSpec.ofChange typingConditionsSpec)

/-- ITS FALSE NEIGHBOUR: 'it returns false'. Refute it at one input. -/
def typingConditionsWrong : ChangeSpec := { name := "typingConditions", fn := fun _ => fun
  | [d1, d2] => { results := [.lit (.bool false)], args := [d1, d2] }
  | _ => none }
def TypingConditionsWrongFalsely : Prop := typingConditionsRow.holds Tryz.pinned (OpenSpec.ofChange typingConditionsWrong)

/-- 'refinementlaw02.TypingEnvs': WHATEVER THE INPUT: true; the input reads as it did. -/
def typingEnvsSpec : ChangeSpec := { name := "typingEnvs", fn := fun _ => fun
  | [d1, d2, d3] => { results := [.lit (.bool true)], args := [d1, d2, d3] }
  | _ => none }
def typingEnvsRow : OpenClaim := { program := "ytiiaccpcoclklaagreat", sum := "5a9737478bda2060378143c44b3f9f7c7898add1c1d327e196baa34562135b6e", func := "refinement/refinementlaw02.TypingEnvs", spec := "typingEnvs", unfollowed := true, recurses := true, loops := true, apart := false }
def TypingEnvsSaid : Prop := typingEnvsRow.holds Tryz.pinned (OpenSpec.ofChange typingEnvsSpec)

/-- ITS FALSE NEIGHBOUR: 'it returns false'. Refute it at one input. -/
def typingEnvsWrong : ChangeSpec := { name := "typingEnvs", fn := fun _ => fun
  | [d1, d2, d3] => { results := [.lit (.bool false)], args := [d1, d2, d3] }
  | _ => none }
def TypingEnvsWrongFalsely : Prop := typingEnvsRow.holds Tryz.pinned (OpenSpec.ofChange typingEnvsWrong)

/-- 'refinementlaw02.TypingBinders': WHATEVER THE INPUT: true; the input reads as it did. -/
def typingBindersSpec : ChangeSpec := { name := "typingBinders", fn := fun _ => fun
  | [d] => { results := [.lit (.bool true)], args := [d] }
  | _ => none }
def typingBindersRow : OpenClaim := { program := "ytiiaccpcoclklaagreat", sum := "5a9737478bda2060378143c44b3f9f7c7898add1c1d327e196baa34562135b6e", func := "refinement/refinementlaw02.TypingBinders", spec := "typingBinders", unfollowed := true, recurses := true, loops := true, apart := false }
def TypingBindersSaid : Prop := typingBindersRow.holds Tryz.pinned (OpenSpec.ofChange typingBindersSpec)

/-- ITS FALSE NEIGHBOUR: 'it returns false'. Refute it at one input. -/
def typingBindersWrong : ChangeSpec := { name := "typingBinders", fn := fun _ => fun
  | [d] => { results := [.lit (.bool false)], args := [d] }
  | _ => none }
def TypingBindersWrongFalsely : Prop := typingBindersRow.holds Tryz.pinned (OpenSpec.ofChange typingBindersWrong)

/-- 'refinementlaw02.TypingMore': WHATEVER THE INPUT: true; the input reads as it did. -/
def typingMoreSpec : ChangeSpec := { name := "typingMore", fn := fun _ => fun
  | [d1, d2, d3] => { results := [.lit (.bool true)], args := [d1, d2, d3] }
  | _ => none }
def typingMoreRow : OpenClaim := { program := "ytiiaccpcoclklaagreat", sum := "5a9737478bda2060378143c44b3f9f7c7898add1c1d327e196baa34562135b6e", func := "refinement/refinementlaw02.TypingMore", spec := "typingMore", unfollowed := true, recurses := true, loops := true, apart := false }
def TypingMoreSaid : Prop := typingMoreRow.holds Tryz.pinned (OpenSpec.ofChange typingMoreSpec)

/-- ITS FALSE NEIGHBOUR: 'it returns false'. Refute it at one input. -/
def typingMoreWrong : ChangeSpec := { name := "typingMore", fn := fun _ => fun
  | [d1, d2, d3] => { results := [.lit (.bool false)], args := [d1, d2, d3] }
  | _ => none }
def TypingMoreWrongFalsely : Prop := typingMoreRow.holds Tryz.pinned (OpenSpec.ofChange typingMoreWrong)

/-- 'refinementlaw02.TypingUnions': WHATEVER THE INPUT: true; the input reads as it did. -/
def typingUnionsSpec : ChangeSpec := { name := "typingUnions", fn := fun _ => fun
  | [d1, d2] => { results := [.lit (.bool true)], args := [d1, d2] }
  | _ => none }
def typingUnionsRow : OpenClaim := { program := "ytiiaccpcoclklaagreat", sum := "5a9737478bda2060378143c44b3f9f7c7898add1c1d327e196baa34562135b6e", func := "refinement/refinementlaw02.TypingUnions", spec := "typingUnions", unfollowed := true, recurses := true, loops := true, apart := false }
def TypingUnionsSaid : Prop := typingUnionsRow.holds Tryz.pinned (OpenSpec.ofChange typingUnionsSpec)

/-- ITS FALSE NEIGHBOUR: 'it returns false'. Refute it at one input. -/
def typingUnionsWrong : ChangeSpec := { name := "typingUnions", fn := fun _ => fun
  | [d1, d2] => { results := [.lit (.bool false)], args := [d1, d2] }
  | _ => none }
def TypingUnionsWrongFalsely : Prop := typingUnionsRow.holds Tryz.pinned (OpenSpec.ofChange typingUnionsWrong)

/- THE SECOND FORM. 'bulk': how many values and letters a reading holds, each counted each time it is reached (what is shared counts as often as it is met; a slice's spare places count too). A statement '..UptoSaid' is the law's where the arguments, and the package variables that the reading takes, are together of bulk at most 1048576: NARROWER than '..Said'. Prove '..Said' where nothing that the law and all that it calls make is longer than what came in: it says more and counts as full. Else prove '..UptoSaid'. A law counts once. -/
mutual
def uptoBulk {H : Type} : DataW H → Nat
  | .lit (.string bytes) => bytes.length + 1
  | .lit _ => 1
  | .nil => 1
  | .ptr d => uptoBulk d + 1
  | .slice elems spare => uptoBulkAll elems + uptoBulkAll spare + 1
  | .agg parts => uptoBulkAll parts + 1
  | .iface _ d => uptoBulk d + 1
  | .map entries => uptoBulkEntries entries + 1
  | .held _ => 1
def uptoBulkAll {H : Type} : List (DataW H) → Nat
  | [] => 0
  | d :: r => uptoBulk d + uptoBulkAll r
def uptoBulkEntries {H : Type} : List (Lit × DataW H) → Nat
  | [] => 0
  | x :: r => uptoBulkEntry x + uptoBulkEntries r
def uptoBulkEntry {H : Type} : Lit × DataW H → Nat
  | (.string bytes, d) => bytes.length + uptoBulk d + 1
  | (_, d) => uptoBulk d + 1
 end
def uptoSmall : (H : Type) → List (DataW H) → Bool := fun _ ds => decide (uptoBulkAll ds ≤ 1048576)
def OpenSpec.upto (s : _root_.Go.ChangeSpec) : _root_.Go.OpenSpec := { _root_.Go.OpenSpec.ofChange s with cond := some uptoSmall }

/-- 'refinementlaw02.TypingTypes', WHERE WHAT IT READS IS OF BULK AT MOST 1048576: true; the input reads as it did. -/
def typingTypesUptoRow : OpenClaim := { program := "ytiiaccpcoclklaagreat", sum := "5a9737478bda2060378143c44b3f9f7c7898add1c1d327e196baa34562135b6e", func := "refinement/refinementlaw02.TypingTypes", spec := "typingTypes", unfollowed := true, recurses := true, loops := true, apart := false, narrowed := true }
def TypingTypesUptoSaid : Prop := typingTypesUptoRow.holds Tryz.pinned (OpenSpec.upto typingTypesSpec)

/-- 'refinementlaw02.TypingAlike', WHERE WHAT IT READS IS OF BULK AT MOST 1048576: true; the input reads as it did. -/
def typingAlikeUptoRow : OpenClaim := { program := "ytiiaccpcoclklaagreat", sum := "5a9737478bda2060378143c44b3f9f7c7898add1c1d327e196baa34562135b6e", func := "refinement/refinementlaw02.TypingAlike", spec := "typingAlike", unfollowed := true, recurses := true, loops := true, apart := false, narrowed := true }
def TypingAlikeUptoSaid : Prop := typingAlikeUptoRow.holds Tryz.pinned (OpenSpec.upto typingAlikeSpec)

/-- 'refinementlaw02.TypingReplaces', WHERE WHAT IT READS IS OF BULK AT MOST 1048576: true; the input reads as it did. -/
def typingReplacesUptoRow : OpenClaim := { program := "ytiiaccpcoclklaagreat", sum := "5a9737478bda2060378143c44b3f9f7c7898add1c1d327e196baa34562135b6e", func := "refinement/refinementlaw02.TypingReplaces", spec := "typingReplaces", unfollowed := true, recurses := true, loops := true, apart := false, narrowed := true }
def TypingReplacesUptoSaid : Prop := typingReplacesUptoRow.holds Tryz.pinned (OpenSpec.upto typingReplacesSpec)

/-- 'refinementlaw02.TypingSources', WHERE WHAT IT READS IS OF BULK AT MOST 1048576: true; the input reads as it did. -/
def typingSourcesUptoRow : OpenClaim := { program := "ytiiaccpcoclklaagreat", sum := "5a9737478bda2060378143c44b3f9f7c7898add1c1d327e196baa34562135b6e", func := "refinement/refinementlaw02.TypingSources", spec := "typingSources", unfollowed := true, recurses := true, loops := true, apart := false, narrowed := true }
def TypingSourcesUptoSaid : Prop := typingSourcesUptoRow.holds Tryz.pinned (OpenSpec.upto typingSourcesSpec)

/-- 'refinementlaw02.TypingSubst', WHERE WHAT IT READS IS OF BULK AT MOST 1048576: true; the input reads as it did. -/
def typingSubstUptoRow : OpenClaim := { program := "ytiiaccpcoclklaagreat", sum := "5a9737478bda2060378143c44b3f9f7c7898add1c1d327e196baa34562135b6e", func := "refinement/refinementlaw02.TypingSubst", spec := "typingSubst", unfollowed := true, recurses := true, loops := true, apart := false, narrowed := true }
def TypingSubstUptoSaid : Prop := typingSubstUptoRow.holds Tryz.pinned (OpenSpec.upto typingSubstSpec)

/-- 'refinementlaw02.TypingDefines', WHERE WHAT IT READS IS OF BULK AT MOST 1048576: true; the input reads as it did. -/
def typingDefinesUptoRow : OpenClaim := { program := "ytiiaccpcoclklaagreat", sum := "5a9737478bda2060378143c44b3f9f7c7898add1c1d327e196baa34562135b6e", func := "refinement/refinementlaw02.TypingDefines", spec := "typingDefines", unfollowed := true, recurses := true, loops := true, apart := false, narrowed := true }
def TypingDefinesUptoSaid : Prop := typingDefinesUptoRow.holds Tryz.pinned (OpenSpec.upto typingDefinesSpec)

/-- 'refinementlaw02.TypingSorts', WHERE WHAT IT READS IS OF BULK AT MOST 1048576: true; the input reads as it did. -/
def typingSortsUptoRow : OpenClaim := { program := "ytiiaccpcoclklaagreat", sum := "5a9737478bda2060378143c44b3f9f7c7898add1c1d327e196baa34562135b6e", func := "refinement/refinementlaw02.TypingSorts", spec := "typingSorts", unfollowed := true, recurses := true, loops := true, apart := false, narrowed := true }
def TypingSortsUptoSaid : Prop := typingSortsUptoRow.holds Tryz.pinned (OpenSpec.upto typingSortsSpec)

/-- 'refinementlaw02.TypingTypesOfTypes', WHERE WHAT IT READS IS OF BULK AT MOST 1048576: true; the input reads as it did. -/
def typingTypesOfTypesUptoRow : OpenClaim := { program := "ytiiaccpcoclklaagreat", sum := "5a9737478bda2060378143c44b3f9f7c7898add1c1d327e196baa34562135b6e", func := "refinement/refinementlaw02.TypingTypesOfTypes", spec := "typingTypesOfTypes", unfollowed := true, recurses := true, loops := true, apart := false, narrowed := true }
def TypingTypesOfTypesUptoSaid : Prop := typingTypesOfTypesUptoRow.holds Tryz.pinned (OpenSpec.upto typingTypesOfTypesSpec)

/-- 'refinementlaw02.TypingConditions', WHERE WHAT IT READS IS OF BULK AT MOST 1048576: true; the input reads as it did. -/
def typingConditionsUptoRow : OpenClaim := { program := "ytiiaccpcoclklaagreat", sum := "5a9737478bda2060378143c44b3f9f7c7898add1c1d327e196baa34562135b6e", func := "refinement/refinementlaw02.TypingConditions", spec := "typingConditions", unfollowed := true, recurses := true, loops := true, apart := false, narrowed := true }
def TypingConditionsUptoSaid : Prop := typingConditionsUptoRow.holds Tryz.pinned (OpenSpec.upto typingConditionsSpec)

/-- 'refinementlaw02.TypingEnvs', WHERE WHAT IT READS IS OF BULK AT MOST 1048576: true; the input reads as it did. -/
def typingEnvsUptoRow : OpenClaim := { program := "ytiiaccpcoclklaagreat", sum := "5a9737478bda2060378143c44b3f9f7c7898add1c1d327e196baa34562135b6e", func := "refinement/refinementlaw02.TypingEnvs", spec := "typingEnvs", unfollowed := true, recurses := true, loops := true, apart := false, narrowed := true }
def TypingEnvsUptoSaid : Prop := typingEnvsUptoRow.holds Tryz.pinned (OpenSpec.upto typingEnvsSpec)

/-- 'refinementlaw02.TypingBinders', WHERE WHAT IT READS IS OF BULK AT MOST 1048576: true; the input reads as it did. -/
def typingBindersUptoRow : OpenClaim := { program := "ytiiaccpcoclklaagreat", sum := "5a9737478bda2060378143c44b3f9f7c7898add1c1d327e196baa34562135b6e", func := "refinement/refinementlaw02.TypingBinders", spec := "typingBinders", unfollowed := true, recurses := true, loops := true, apart := false, narrowed := true }
def TypingBindersUptoSaid : Prop := typingBindersUptoRow.holds Tryz.pinned (OpenSpec.upto typingBindersSpec)

/-- 'refinementlaw02.TypingMore', WHERE WHAT IT READS IS OF BULK AT MOST 1048576: true; the input reads as it did. -/
def typingMoreUptoRow : OpenClaim := { program := "ytiiaccpcoclklaagreat", sum := "5a9737478bda2060378143c44b3f9f7c7898add1c1d327e196baa34562135b6e", func := "refinement/refinementlaw02.TypingMore", spec := "typingMore", unfollowed := true, recurses := true, loops := true, apart := false, narrowed := true }
def TypingMoreUptoSaid : Prop := typingMoreUptoRow.holds Tryz.pinned (OpenSpec.upto typingMoreSpec)

/-- 'refinementlaw02.TypingUnions', WHERE WHAT IT READS IS OF BULK AT MOST 1048576: true; the input reads as it did. -/
def typingUnionsUptoRow : OpenClaim := { program := "ytiiaccpcoclklaagreat", sum := "5a9737478bda2060378143c44b3f9f7c7898add1c1d327e196baa34562135b6e", func := "refinement/refinementlaw02.TypingUnions", spec := "typingUnions", unfollowed := true, recurses := true, loops := true, apart := false, narrowed := true }
def TypingUnionsUptoSaid : Prop := typingUnionsUptoRow.holds Tryz.pinned (OpenSpec.upto typingUnionsSpec)

end Rows
end Go.Proofs.YtiiaccpcoclklaaGreat

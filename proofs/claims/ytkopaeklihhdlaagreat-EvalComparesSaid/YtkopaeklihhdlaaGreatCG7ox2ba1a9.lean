/-
  Values, worlds, scopes and values with types that can be read stand for plain data. Conditions: none.
-/
import Derived.SizedLaws
import Derived.Test.YtkopaeklihhdlaaGreatCG1x880a47
import Derived.Test.YtkopaeklihhdlaaGreatCEDox047739
import Derived.Test.YtkopaeklihhdlaaGreatCP61ox35f27f
set_option linter.unusedSimpArgs false
set_option linter.unusedVariables false
namespace Go.Proofs.YtkopaeklihhdlaaGreat
namespace Abs
open Go Go.Proofs Go.Deep Go.WideShapes
section
variable {H : Type} {enc : TypeId × Value → H} {w : World} {base : Nat} {spare : Nat → Bool} {held : Bool} {κ : aY} {pv : bG}
end
theorem G8 {ts : List Val} {w : World} {κ : aY} {pv : bG} {v : Value} (h : Rel w κ pv (.slice (ts.map ah) .shared) v) : ts.length ≤ 9223372036854775807 ∧ ∀ t ∈ ts, eY t := Jy (fun t _ f hf => DC t f hf) h
end Abs
end Go.Proofs.YtkopaeklihhdlaaGreat
namespace Go.Proofs.YtkopaeklihhdlaaGreat
namespace Abs
open Go Go.Proofs Go.Deep Go.WideShapes
section
variable {H : Type} {enc : TypeId × Value → H} {P : Program} {w : World} {base : Nat} {spare : Nat → Bool} {held : Bool} {κ : aY} {pv : bG}
end
section
variable {H : Type} {enc : TypeId × Value → H} {w : World} {base : Nat} {spare : Nat → Bool} {held : Bool} {κ : aY} {pv : bG}
set_option maxRecDepth 100000 in
theorem Qu (hpv : ∀ b o, ¬ pv b o) (fuel : Nat) : Ez enc Tryz.prog w base spare held κ pv 27 (fun l : List Val => [.slice (l.map ah) .shared]) (fun l => l.length * Tryz.prog.bytesOf 31 ≤ reachBytes ∧ ∀ a ∈ l, fQ a) fuel :=
 D9 (f := ah) Tryz.underlying27 Ip (by decide) qQ hpv (fun m _ => rF hpv m)
set_option maxRecDepth 100000 in
theorem TN {r : Reach} {b0 : Nat} {v : Value} {d : DataW H} {p : List MemPlace} (hv : Value.okWide Tryz.prog w r b0 27 v) (h : DataW.Trod enc Tryz.prog w base spare held 27 v d p) (hw : vE Tryz.prog 27 d) (hpv : ∀ b o, ¬ pv b o) : ∃ l : List Val, Rel w κ pv (.slice (l.map ah) .shared) v ∧ ∀ a ∈ l, fQ a := by
 obtain ⟨a, len, cap, rfl⟩ := okWide_slice Tryz.underlying27 hv
 obtain ⟨fuel, hf⟩ := h
 obtain ⟨l, ⟨h1, h2⟩, _, hg⟩ := Qu (κ := κ) hpv _ _ _ hf hw
 exact ⟨l, h2 0 (by simp), hg⟩
end
end Abs
end Go.Proofs.YtkopaeklihhdlaaGreat

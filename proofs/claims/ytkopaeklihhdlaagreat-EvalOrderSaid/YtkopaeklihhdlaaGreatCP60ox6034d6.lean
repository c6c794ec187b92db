/-
  The order of values is one: laws of cmpV. Conditions: none; lemmas without a program.
-/
import Derived.Test.YtkopaeklihhdlaaGreatCP60xdc6092
set_option linter.unusedSimpArgs false
set_option linter.unusedVariables false
namespace Go.Proofs.YtkopaeklihhdlaaGreat
namespace Abs
open Go
theorem Kn (a b : Int) : iA a b = -1 ∨ iA a b = 0 ∨ iA a b = 1 := by
 unfold iA
 cases decide (a < b) <;> cases decide (b < a) <;> simp
theorem QJ : ∀ (s t : List UInt8), Lib.compareBytes s t = -1 ∨ Lib.compareBytes s t = 0 ∨ Lib.compareBytes s t = 1
 | [], [] => by simp [Lib.compareBytes]
 | [], _ :: _ => by simp [Lib.compareBytes]
 | _ :: _, [] => by simp [Lib.compareBytes]
 | a :: s, b :: t => by
  have ih := QJ s t
  unfold Lib.compareBytes
  by_cases h1 : a < b
  ·simp [h1]
  ·by_cases h2 : b < a
   ·simp [h1, h2]
   ·simpa [h1, h2] using ih
theorem zI {x y : Int} (hx : x = -1 ∨ x = 0 ∨ x = 1) (hy : y = -1 ∨ y = 0 ∨ y = 1) : lex x y = -1 ∨ lex x y = 0 ∨ lex x y = 1 := by
 unfold lex
 cases (x != 0) <;> simpa
mutual
theorem J2 : ∀ (a b : Val), bR a b = -1 ∨ bR a b = 0 ∨ bR a b = 1
 | .mk k n s ks, .mk k' n' s' ks' => by
  rw [yh]
  exact zI (Kn _ _) (zI (Kn _ _) (zI (QJ _ _) (Gx ks ks')))
theorem Gx : ∀ (asx bs : List Val), dD asx bs = -1 ∨ dD asx bs = 0 ∨ dD asx bs = 1
 | [], [] => by simp [dD]
 | [], _ :: _ => by simp [dD]
 | _ :: _, [] => by simp [dD]
 | a :: asx, b :: bs => by
  rw [rE]
  exact zI (J2 a b) (Gx asx bs)
end
end Abs
end Go.Proofs.YtkopaeklihhdlaaGreat

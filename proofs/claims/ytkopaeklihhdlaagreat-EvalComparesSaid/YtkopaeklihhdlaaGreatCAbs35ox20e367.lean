/-
  The weakening of abstract states: what a state stands for, a weaker one stands for, too. Values may be forgotten, objects renumbered, dropped, boxes frozen. Conditions: none; lemmas over any program.
-/
import Derived.Test.YtkopaeklihhdlaaGreatCAbs32x403b8c
set_option linter.unusedSimpArgs false
set_option linter.unusedVariables false
namespace Go.Proofs.YtkopaeklihhdlaaGreat
namespace Abs
open Go
section
variable {C : Ctx} {κ : aY} {t : List AV} {h : List AObj} {a : Act} {w : World} {m : Nat} {L : List (Option Nat)} {t' : List AV} {h' : List AObj}
end
theorem VW.tL {h : List AObj} {L : List (Option Nat)} {es : List (List AV)} {j l z : Nat} (hr : aV (lT L h.length) es = es) (hj : lT L h.length j = l) : VW h L (.slice es (.tip j z)) (.slice es (.tip l z)) := .same (by simp only [ren, cK, hr, hj])
end Abs
end Go.Proofs.YtkopaeklihhdlaaGreat
namespace Go.Proofs.YtkopaeklihhdlaaGreat
namespace Abs
open Go
def eX {α : Type} (s : List α) (lo hi : Int) : Option (List α) := if 0 ≤ lo ∧ lo ≤ hi ∧ hi ≤ s.length then some ((s.drop lo.toNat).take (hi.toNat - lo.toNat)) else none
theorem Jp {α : Type} {l x : List α} {f : α → List AV} {sz : Nat} {lo hi : Option AV} {a b : Int} {B : List (List AV) → Prop} (hx : eX l a b = some x) (ha : Bd lo a 0) (hb : Bd hi b l.length) (hf : ∀ x, bQ sz (f x) = true) (hk : B (x.map f)) :
  ∃ r, (∃ i h, dz hi (l.map f).length (l.map f).length = some h ∧ dz lo 0 h = some i ∧ (i < (l.map f).length → ((l.map f).getD i []).length = sz) ∧ r = ((l.map f).drop i).take (h - i)) ∧ B r := by
 unfold eX at hx
 split at hx
 ·rename_i h0
  obtain ⟨h1, h2, h3⟩ := h0
  cases hx
  refine ⟨_, ⟨a.toNat, b.toNat, ?_, ?_, ?_, ?_⟩, hk⟩
  ·cases hb with
   | none => simp [dz]
   | int k n => simp [dz]; omega
  ·cases ha with
   | none => simp [dz]
   | int k n => simp [dz]; omega
  ·intro hi
   rw [List.length_map] at hi
   have := hf l[a.toNat]
   simp only [bQ, Bool.and_eq_true, beq_iff_eq] at this
   simp only [List.getD, List.getElem?_map, List.getElem?_eq_getElem hi, Option.map_some, Option.getD_some]
   exact this.1
  ·rw [List.map_take, List.map_drop]
 ·cases hx
section
variable {h : List AObj} {L : List (Option Nat)} {xs ys : List AV}
end
end Abs
end Go.Proofs.YtkopaeklihhdlaaGreat

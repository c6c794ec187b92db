/-
  The judgement of the walk ('AW': the code from an abstract state comes to an exit at which Q holds), what a state's values are known to be, and the weakening of states: forgetting, renumbering, freezing. Conditions: none; lemmas over any program.
-/
import Derived.Test.YtiiaccpcoclklaaGreatCAbs35x3c9c9d
set_option linter.unusedSimpArgs false
set_option linter.unusedVariables false
namespace Go.Proofs.YtiiaccpcoclklaaGreat
namespace Abs
open Go
theorem AW.GD {P : Program} {m : Nat} {c : Code} {Q : QT} {t : List AV} {h : List AObj} (l j : Nat) (hw : VF (((match obj? h l with | .box cs => cs | _ => []) : List AV).getD j .unk) → AW P m c Q t h) (hn : ∃ n o, t.getD n .unk = .ptr l o) : AW P m c Q t h := by
 intro C κ a w hk hs
 refine hw ?_ C κ a w hk hs
 obtain ⟨n, o, hn⟩ := hn
 have hr := hs.ev (.tmp n)
 simp only [fV] at hr
 have e : (ASt.mk t h).tmps.getD n .unk = .ptr l o := hn
 rw [e] at hr
 obtain ⟨b, _, hb⟩ := hr.yR
 split
 ·rename_i cs ho
  obtain ⟨c, el, g1, g2, g3, g4⟩ := hs.box hb ho
  by_cases hj : j < cs.length
  ·exact (g4 j hj).vf
  ·rw [List.getD, List.getElem?_eq_none (Nat.le_of_not_lt hj)]; trivial
 ·rw [List.getD]; trivial
theorem ai9 {α : Type} {l x : List α} {f : α → List AV} {sz : Nat} {lo hi : Option AV} {a b : Int} {B : List (List AV) → Prop} (hx : mZ l a b = some x) (ha : Bd lo a 0) (hb : Bd hi b l.length) (hf : ∀ x, eu sz (f x) = true) (hk : B (x.map f)) :
  ∃ r, (∃ i h, fU hi (l.map f).length (l.map f).length = some h ∧ fU lo 0 h = some i ∧ (i < (l.map f).length → ((l.map f).getD i []).length = sz) ∧ r = ((l.map f).drop i).take (h - i)) ∧ B r := by
 unfold mZ at hx
 split at hx
 ·rename_i h0
  obtain ⟨h1, h2, h3⟩ := h0
  cases hx
  refine ⟨_, ⟨a.toNat, b.toNat, ?_, ?_, ?_, ?_⟩, hk⟩
  ·cases hb with
   | none => simp [fU]
   | int k n => simp [fU]; omega
  ·cases ha with
   | none => simp [fU]
   | int k n => simp [fU]; omega
  ·intro hi
   rw [List.length_map] at hi
   have := hf l[a.toNat]
   simp only [eu, Bool.and_eq_true, beq_iff_eq] at this
   simp only [List.getD, List.getElem?_map, List.getElem?_eq_getElem hi, Option.map_some, Option.getD_some]
   exact this.1
  ·rw [List.map_take, List.map_drop]
 ·cases hx
section
variable {h : List AObj} {L : List (Option Nat)} {xs ys : List AV}
end
end Abs
end Go.Proofs.YtiiaccpcoclklaaGreat
namespace Go.Proofs.YtiiaccpcoclklaaGreat
namespace Abs
open Go
theorem Ap (n : Decl) : eu 4 (aO n) = true := rfl
end Abs
end Go.Proofs.YtiiaccpcoclklaaGreat

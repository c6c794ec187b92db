/-
  The laws EvalCompares and EvalOrder, plainly. Conditions: the arguments' sizes.
-/
import Derived.Test.YtkopaeklihhdlaaGreatCP61x31e673
import Derived.Test.YtkopaeklihhdlaaGreatCDnoxf07cdd
set_option linter.unusedSimpArgs false
set_option linter.unusedVariables false
namespace Go.Proofs.YtkopaeklihhdlaaGreat
namespace Abs
open Go
theorem Nc {l : List Val} (h : l.length ≤ 5) : Py l = (.mk 5 0 [] (sortV l), 0) := by
 unfold Py
 have := qw l
 rw [decide_eq_false (by omega)]
 rfl
theorem Ow (a b c : Val) (ha : fQ a) (hb : fQ b) (hc : fQ c) : Ev (fun n => uL n a b c) true := by
 unfold uL
 refine Ev.bind (pF a b) (Ev.bind (pF b c) (Ev.bind (pF a c) (Ev.bind (a := false) ?_ ?_)))
 ·refine Ev.bind (pF b a) ?_
  have hr := J2 a b
  have e1 : (bR b a != IntKind.wrap .i64 (0 - bR a b)) = false := by
   rw [wrap64 (by omega) (by omega), jZ a b]
   simp
  rw [e1]
  simp only [cond_false]
  refine Ev.bind (yD a b) ?_
  have e2 : (!((bR a b == 0) == (bR a b == 0))) = false := by simp
  rw [e2]
  have e3 : decide (bR a b < -1) = false := decide_eq_false (by omega)
  have e4 : decide (1 < bR a b) = false := decide_eq_false (by omega)
  rw [e3, e4]
  simp only [cond_false]
  by_cases h1 : bR a b ≤ 0
  ·rw [decide_eq_true h1]
   by_cases h2 : bR b c ≤ 0
   ·have h3 := M7 a b c (decide_eq_true h1) (decide_eq_true h2)
    simp only [zW, decide_eq_true_eq] at h3
    rw [decide_eq_true h2, decide_eq_false (show ¬ 0 < bR a c by omega)]
    exact Ev.ret _
   ·rw [decide_eq_false h2]
    exact Ev.ret _
  ·rw [decide_eq_false h1]
   exact Ev.ret _
 ·simp only [cond_false]
  have f1 : ∀ v ∈ [a, b, c], fQ v := fun v hv => by
   simp only [List.mem_cons, List.not_mem_nil, or_false] at hv
   rcases hv with rfl | rfl | rfl <;> assumption
  have f2 : ∀ v ∈ [c, a, b, a, c], fQ v := fun v hv => by
   simp only [List.mem_cons, List.not_mem_nil, or_false] at hv
   rcases hv with rfl | rfl | rfl | rfl | rfl <;> assumption
  refine Ev.bind (BN [a, b, c] f1 (by simp)) (Ev.bind (BN [c, a, b, a, c] f2 (by simp)) (Ev.bind (a := true) ?_ (Ev.ret _)))
  have es : sortV [c, a, b, a, c] = sortV [a, b, c] := by
   refine uO (oG _) fun x => ?_
   rw [nA]
   simp only [List.mem_cons, List.not_mem_nil, or_false]
   constructor
   ·rintro (h | h | h | h | h)
    ·exact .inr (.inr h)
    ·exact .inl h
    ·exact .inr (.inl h)
    ·exact .inl h
    ·exact .inr (.inr h)
   ·rintro (h | h | h)
    ·exact .inr (.inl h)
    ·exact .inr (.inr (.inl h))
    ·exact .inl h
  rw [Nc (by simp), Nc (by simp), es]
  simp only [beq_self_eq_true, cond_true, Val.kids]
  refine Ev.bind (BJ _) ?_
  have l1 : 1 ≤ (sortV [a, b, c]).length := by
   have : a ∈ sortV [a, b, c] := (nA _ a).2 (by simp)
   exact List.length_pos_of_mem this
  have l2 := qw [a, b, c]
  simp only [List.length_cons, List.length_nil] at l2
  have d1 : (1 : Int) ≤ ((sortV [a, b, c]).length : Int) := by omega
  have d2 : ((sortV [a, b, c]).length : Int) ≤ 3 := by omega
  simp only [cond_true, d1, d2, decide_true]
  exact Im
end Abs
end Go.Proofs.YtkopaeklihhdlaaGreat

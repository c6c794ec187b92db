/-
  Compare of both sides is one plain order of values. Conditions: none; lemmas without a program.
-/
import Derived.Test.YtkopaeklihhdlaaGreatCP1x6ee8e9
import Derived.Test.YtkopaeklihhdlaaGreatCDmoxc84b38
set_option linter.unusedSimpArgs false
set_option linter.unusedVariables false
namespace Go.Proofs.YtkopaeklihhdlaaGreat
namespace Abs
open Go
theorem Np : ∀ a b : Str, Lib.compareBytes a b = -1 ∨ Lib.compareBytes a b = 0 ∨ Lib.compareBytes a b = 1
 | [], [] => by simp [Lib.compareBytes]
 | [], _ :: _ => by simp [Lib.compareBytes]
 | _ :: _, [] => by simp [Lib.compareBytes]
 | a :: x, b :: y => by
  have := Np x y
  simp only [Lib.compareBytes]
  split
  ·simp
  ·split
   ·simp
   ·exact this
theorem wY : ∀ a b : Str, Op.bytesLess a b = (Lib.compareBytes a b == -1) ∧ (a == b) = (Lib.compareBytes a b == 0)
 | [], [] => by simp [Op.bytesLess, Lib.compareBytes]
 | [], _ :: _ => by simp [Op.bytesLess, Lib.compareBytes]
 | _ :: _, [] => by simp [Op.bytesLess, Lib.compareBytes]
 | a :: x, b :: y => by
  have ih := wY x y
  simp only [Op.bytesLess, Lib.compareBytes]
  by_cases h1 : a < b
  ·have : (a == b) = false := by
    apply beq_false_of_ne
    rintro rfl
    exact absurd h1 (by simp)
   simp [h1, this]
  ·by_cases h2 : b < a
   ·have : (a == b) = false := by
     apply beq_false_of_ne
     rintro rfl
     exact absurd h2 (by simp)
    simp [h1, h2, this]
   ·have : a = b := by
     have h1' := UInt8.not_lt.1 h1
     have h2' := UInt8.not_lt.1 h2
     exact UInt8.le_antisymm h2' h1'
    subst this
    simp [ih.1, ← ih.2]
theorem sign_eq (n : Nat) (a b : Int) : um n a b = some (iA a b) := by
 unfold um iA
 cases decide (a < b) <;> cases decide (b < a) <;> rfl
theorem Ml : ∀ (asx : List Val), (∀ a ∈ asx, ∀ b, Ev (fun n => fE n a b) (bR a b)) → ∀ (bs pa pb : List Val) (k1 n1 k2 n2 : Int) (s1 s2 : Str), pa.length = pb.length → (pa ++ asx).length ≤ 9223372036854775807 → ∃ N, ∀ n, N ≤ n → ∀ k, asx.length + 1 ≤ k → (jX n (fun p0 p1 => fE n p0 p1) (.mk k1 n1 s1 (pa ++ asx)) (.mk k2 n2 s2 (pb ++ bs)) k (pa.length : Int)).bind (LR.el (fun (_ : Unit) => ((um n ((pa ++ asx).length : Int) ((pb ++ bs).length : Int)).bind fun (x3 : Int) => some x3)) (fun r => some r)) = some (dD asx bs)
 | [], _, bs, pa, pb, k1, n1, k2, n2, s1, s2, hp, hl => by
  refine ⟨0, fun n _ k hk => ?_⟩
  obtain ⟨j, rfl⟩ : ∃ j, k = j + 1 := ⟨k - 1, by simp at hk; omega⟩
  unfold jX
  rw [decide_eq_false (by simp [Val.kids])]
  simp only [cond_false, Option.bind_some, LR.el, sign_eq, Option.some.injEq]
  cases bs with
  | nil => simp [iA, dD, hp]
  | cons b bs =>
   simp only [dD, iA]
   rw [decide_eq_true (by simp; omega)]
   rfl
 | a :: asx, H, [], pa, pb, k1, n1, k2, n2, s1, s2, hp, hl => by
  refine ⟨0, fun n _ k hk => ?_⟩
  obtain ⟨j, rfl⟩ : ∃ j, k = j + 1 := ⟨k - 1, by simp at hk; omega⟩
  unfold jX
  rw [decide_eq_true (by simp [Val.kids]; omega)]
  simp only [cond_true, Option.bind_some]
  rw [decide_eq_false (by simp [Val.kids]; omega)]
  simp only [cond_false, Option.bind_some, LR.el, sign_eq, Option.some.injEq, dD, iA]
  rw [decide_eq_false (by simp; omega), decide_eq_true (by simp; omega)]
  rfl
 | a :: asx, H, b :: bs, pa, pb, k1, n1, k2, n2, s1, s2, hp, hl => by
  obtain ⟨N1, h1⟩ := H a (by simp) b
  obtain ⟨N2, h2⟩ := Ml asx (fun x hx => H x (by simp [hx])) bs (pa ++ [a]) (pb ++ [b]) k1 n1 k2 n2 s1 s2 (by simp [hp]) (by simpa using hl)
  refine ⟨N1 + N2, fun n hn k hk => ?_⟩
  obtain ⟨j, rfl⟩ : ∃ j, k = j + 1 := ⟨k - 1, by simp at hk; omega⟩
  have h1 : fE n a b = _ := h1 n (by omega)
  have h2 := h2 n (by omega) j (by simp at hk; omega)
  unfold jX
  rw [decide_eq_true (by simp [Val.kids]; omega)]
  simp only [cond_true, Option.bind_some]
  rw [decide_eq_true (by simp [Val.kids]; omega)]
  simp only [cond_true, Option.bind_some, Val.kids]
  rw [gY, show (pa.length : Int) = (pb.length : Int) by rw [hp], gY]
  simp only [Option.bind_some]
  rw [h1]
  simp only [Option.bind_some, dD]
  cases hc : (bR a b != 0) with
  | true => rfl
  | false =>
   simp only [cond_false]
   have ew : IntKind.wrap .i64 ((pb.length : Int) + 1) = ((pa ++ [a]).length : Int) := by
    rw [wrap64 (by omega) (by simp at hl; omega)]
    simp [hp]
   rw [ew]
   simpa using h2
theorem AB (a b : Val) (ha : eY a) : Ev (fun n => fE n a b) (bR a b) := by
 revert b
 induction a using Val.ind with
 | h k n s ks ih =>
  intro b
  obtain ⟨k', n', s', ks'⟩ := b
  obtain ⟨hl, hk⟩ := ha.kids
  simp only [Val.kids] at hl hk
  obtain ⟨N, h⟩ := Ml ks (fun a h b => ih a h (hk a h) b) ks' [] [] k n k' n' s s' rfl (by simpa using hl)
  refine Ev.succ ?_
  show Ev (fun m => ng m _ (.mk k n s ks) (.mk k' n' s' ks')) _
  unfold ng
  simp only [sign_eq, Option.bind_some, Val.kind, Val.n, Val.name, bR]
  have e1 : (k != k') = (iA k k' != 0) := by
   unfold iA
   by_cases h1 : k < k'
   ·rw [decide_eq_true h1]; simp; omega
   ·by_cases h2 : k' < k
    ·rw [decide_eq_false h1, decide_eq_true h2]; simp; omega
    ·rw [decide_eq_false h1, decide_eq_false h2]; simp; omega
  have e2 : (n != n') = (iA n n' != 0) := by
   unfold iA
   by_cases h1 : n < n'
   ·rw [decide_eq_true h1]; simp; omega
   ·by_cases h2 : n' < n
    ·rw [decide_eq_false h1, decide_eq_true h2]; simp; omega
    ·rw [decide_eq_false h1, decide_eq_false h2]; simp; omega
  rw [e1, e2, (wY s s').1, (wY s s').2]
  cases h1 : (iA k k' != 0) with
  | true => exact Ev.ret _
  | false =>
   simp only [cond_false]
   cases h2 : (iA n n' != 0) with
   | true => exact Ev.ret _
   | false =>
    simp only [cond_false]
    have hb := Np s s'
    rcases hb with hb | hb | hb <;> rw [hb]
    ·exact Ev.ret _
    ·refine ⟨N + ks.length + 1, fun m hm => ?_⟩
     have := h m (by omega) m (by omega)
     simp only [List.nil_append, List.length_nil, sign_eq, Option.bind_some] at this
     exact this
    ·exact Ev.ret _
end Abs
end Go.Proofs.YtkopaeklihhdlaaGreat

/-
  Copies, sets and equality of values on both sides. Conditions: none; lemmas without a program.
-/
import Derived.Test.YtkopaeklihhdlaaGreatCDnx4dbce8
set_option linter.unusedSimpArgs false
set_option linter.unusedVariables false
namespace Go.Proofs.YtkopaeklihhdlaaGreat
namespace Abs
open Go
mutual
def fQ : Val → Prop
 | .mk _ _ _ ks => ks.length * 56 ≤ 140737488355328 ∧ Bv ks
def Bv : List Val → Prop
 | [] => True
 | v :: vs => fQ v ∧ Bv vs
end
theorem Jt : ∀ {vs : List Val}, Bv vs → ∀ v ∈ vs, fQ v
 | [], _, _, h => by cases h
 | v :: vs, h, u, hu => by
  simp only [Bv] at h
  rcases List.mem_cons.1 hu with rfl | hu
  ·exact h.1
  ·exact Jt h.2 u hu
theorem fQ.kids {v : Val} (h : fQ v) : v.kids.length * 56 ≤ 140737488355328 ∧ ∀ u ∈ v.kids, fQ u := by
 cases v
 simp only [fQ] at h
 exact ⟨h.1, Jt h.2⟩
theorem zS {l ys : List Val} (h : (l.length + ys.length) * 56 ≤ 140737488355328) : app 56 l ys = some (l ++ ys) := by
 unfold app
 rw [if_pos ⟨h, by omega⟩]
theorem XK {α : Type} : ∀ (pre : List α) (x : α) (suf : List α), (pre ++ x :: suf).set pre.length x = pre ++ x :: suf
 | [], _, _ => rfl
 | p :: pre, x, suf => by simp
theorem Gj (v : Val) : ∀ (asx pre : List Val), v.kids = pre ++ asx → (∀ a ∈ asx, Ev (fun n => jB n a) a) → ∃ N, ∀ n, N ≤ n → ∀ k, asx.length + 1 ≤ k → kG n (fun p0 => jB n p0) v k (pre ++ asx, (pre.length : Int)) = some (.nx (pre ++ asx))
 | [], pre, hp, _ => by
  refine ⟨0, fun n _ k hk => ?_⟩
  obtain ⟨j, rfl⟩ : ∃ j, k = j + 1 := ⟨k - 1, by simp at hk; omega⟩
  unfold kG
  rw [decide_eq_false (by rw [hp]; simp)]
  rfl
 | a :: asx, pre, hp, H => by
  obtain ⟨N1, h1⟩ := H a (by simp)
  obtain ⟨N2, h2⟩ := Gj v asx (pre ++ [a]) (by simp [hp]) (fun x hx => H x (by simp [hx]))
  refine ⟨N1 + N2, fun n hn k hk => ?_⟩
  obtain ⟨j, rfl⟩ : ∃ j, k = j + 1 := ⟨k - 1, by simp at hk; omega⟩
  have h1 : jB n a = _ := h1 n (by omega)
  have h2 := h2 n (by omega) j (by simp at hk; omega)
  unfold kG
  rw [decide_eq_true (by rw [hp]; simp; omega)]
  simp only [cond_true, gY, Option.bind_some]
  rw [h1]
  simp only [Option.bind_some]
  have e : upd (pre ++ a :: asx) (pre.length : Int) a = pre ++ a :: asx := by
   unfold upd
   rw [Int.toNat_natCast, XK]
  rw [e, show (pre.length : Int) + 1 = ((pre ++ [a]).length : Int) by simp]
  simpa using h2
theorem Wv (v : Val) (hv : fQ v) : Ev (fun n => jB n v) v := by
 induction v using Val.ind with
 | h k n s ks ih =>
  obtain ⟨h1, h2⟩ := hv.kids
  simp only [Val.kids] at h1 h2
  obtain ⟨N, h⟩ := Gj (.mk k n s ks) ks [] rfl (fun a ha => ih a ha (h2 a ha))
  refine Ev.succ ⟨N + ks.length + 1, fun m hm => ?_⟩
  have := h m (by omega) m (by omega)
  show mI m _ (.mk k n s ks) = _
  unfold mI qx rX
  simp only [Val.kids]
  rw [zS (by simpa using h1)]
  simp only [Option.bind_some, List.nil_append, List.length_nil] at this ⊢
  rw [show ((0 : Nat) : Int) = 0 from rfl] at this
  rw [this]
  rfl
def Py (l : List Val) : Val × Int := cond (decide (256 < ((sortV l).length : Int))) (.mk 0 0 [] [], 11) (.mk 5 0 [] (sortV l), 0)
theorem BN (l : List Val) (hv : ∀ v ∈ l, fQ v) (hl : l.length * 56 ≤ 140737488355328) : Ev (fun n => mU n l) (Py l) := by
 unfold mU
 refine Ev.bind (a := sortV l) (Ev.of fun n => ?_) ?_
 ·unfold wD
  rw [zS (by simpa using hl)]
  rfl
 ·unfold Py
  cases decide (256 < ((sortV l).length : Int)) with
  | true => exact Ev.ret _
  | false =>
   refine Ev.bind (Wv _ ?_) (Ev.ret _)
   simp only [fQ]
   refine ⟨?_, ?_⟩
   ·have := qw l; omega
   ·have hm : ∀ v ∈ sortV l, fQ v := fun v h => hv v ((nA l v).1 h)
    generalize sortV l = m at hm
    clear hv hl
    induction m with
    | nil => trivial
    | cons a m ih => exact ⟨hm a (by simp), ih fun v h => hm v (by simp [h])⟩
theorem FT (x y : Int) : (lex x y == 0) = ((x == 0) && (y == 0)) := by
 rw [Bool.eq_iff_iff]
 simp [yP]
theorem MJ : ∀ (asx : List Val), (∀ a ∈ asx, ∀ b, Ev (fun n => dU n a b) (bR a b == 0)) → ∀ (bs pa pb : List Val), pa.length = pb.length → asx.length = bs.length → ∃ N, ∀ n, N ≤ n → ∀ k, asx.length + 1 ≤ k → je n (fun p0 p1 => dU n p0 p1) (fun p0 p1 => iW n p0 p1) (pa ++ asx) (pb ++ bs) k (pa.length : Int) = some (cond (dD asx bs == 0) (.nx ()) (.rt false))
 | [], _, bs, pa, pb, hp, hl => by
  have : bs = [] := List.length_eq_zero_iff.1 (by simpa using hl.symm)
  subst this
  refine ⟨0, fun n _ k hk => ?_⟩
  obtain ⟨j, rfl⟩ : ∃ j, k = j + 1 := ⟨k - 1, by simp at hk; omega⟩
  unfold je
  rw [decide_eq_false (by simp)]
  rfl
 | a :: asx, H, [], pa, pb, hp, hl => by simp at hl
 | a :: asx, H, b :: bs, pa, pb, hp, hl => by
  obtain ⟨N1, h1⟩ := H a (by simp) b
  obtain ⟨N2, h2⟩ := MJ asx (fun x hx => H x (by simp [hx])) bs (pa ++ [a]) (pb ++ [b]) (by simp [hp]) (by simpa using hl)
  refine ⟨N1 + N2, fun n hn k hk => ?_⟩
  obtain ⟨j, rfl⟩ : ∃ j, k = j + 1 := ⟨k - 1, by simp at hk; omega⟩
  have h1 : dU n a b = _ := h1 n (by omega)
  have h2 := h2 n (by omega) j (by simp at hk; omega)
  unfold je
  rw [decide_eq_true (by simp <;> omega), gY]
  simp only [cond_true, Option.bind_some]
  rw [show (pa.length : Int) = (pb.length : Int) by rw [hp], gY]
  simp only [Option.bind_some]
  rw [h1]
  simp only [Option.bind_some, rE, FT]
  cases bR a b == 0 with
  | false => rfl
  | true =>
   simp only [Bool.not_true, cond_false, Bool.true_and]
   rw [show (pb.length : Int) + 1 = ((pa ++ [a]).length : Int) by simp [hp]]
   simpa using h2
theorem BF (l m : List Val) (H : ∀ a ∈ l, ∀ b, Ev (fun n => dU n a b) (bR a b == 0)) : Ev (fun n => iW n l m) (dD l m == 0) := by
 refine Ev.succ ?_
 show Ev (fun n => lC n _ _ l m) _
 unfold lC
 by_cases hl : l.length = m.length
 ·obtain ⟨N, h⟩ := MJ l H m [] [] rfl hl
  refine ⟨N + l.length + 1, fun n hn => ?_⟩
  have := h n (by omega) n (by omega)
  have e : ((l.length : Int) != (m.length : Int)) = false := by simp [hl]
  rw [e]
  simp only [cond_false, List.nil_append, List.length_nil] at this ⊢
  rw [show ((0 : Nat) : Int) = 0 from rfl] at this
  rw [this]
  cases dD l m == 0 <;> rfl
 ·have e : ((l.length : Int) != (m.length : Int)) = true := by simp <;> omega
  have e2 : (dD l m == 0) = false := by
   cases h : dD l m == 0 with
   | false => rfl
   | true => exact absurd (congrArg List.length ((Cb l m).1 (by simpa using h))) hl
  rw [e, e2]
  exact Ev.ret _
theorem yD (a b : Val) : Ev (fun n => dU n a b) (bR a b == 0) := by
 revert b
 induction a using Val.ind with
 | h k n s ks ih =>
  intro b
  obtain ⟨k', n', s', ks'⟩ := b
  refine Ev.succ ?_
  show Ev (fun m => lW m _ _ (.mk k n s ks) (.mk k' n' s' ks')) _
  unfold lW
  simp only [Val.kind, Val.n, Val.name, Val.kids]
  have e1 : (iA k k' == 0) = (k == k') := by rw [Bool.eq_iff_iff]; simp [uj]
  have e2 : (iA n n' == 0) = (n == n') := by rw [Bool.eq_iff_iff]; simp [uj]
  have e3 : (Lib.compareBytes s s' == 0) = (s == s') := by rw [Bool.eq_iff_iff]; simp [FQ]
  rw [yh, FT, FT, FT, e1, e2, e3]
  cases k == k' with
  | false => exact Ev.bind (Ev.ret _) (Ev.ret _)
  | true =>
   cases n == n' with
   | false => exact Ev.bind (Ev.ret _) (Ev.ret _)
   | true =>
    cases s == s' with
    | false => exact Ev.bind (Ev.ret _) (Ev.ret _)
    | true => exact Ev.bind (Ev.bind (BF ks ks' ih) (Ev.ret _)) (Ev.ret _)
theorem BJ (a : Val) : Ev (fun n => dU n a a) true := by
 have := yD a a
 rwa [(j4 a a).2 rfl] at this
theorem Im : Ev (fun n => (qC n).bind fun x => some x) true := Ev.bind (a := true) (Ev.ret _) (Ev.ret _)
end Abs
end Go.Proofs.YtkopaeklihhdlaaGreat

/-
  Copies, sets and equality of values on both sides. Conditions: none; lemmas without a program.
-/
import Derived.Test.YtkopaeklihhdlaaGreatCP61x31e673
import Derived.Test.YtkopaeklihhdlaaGreatCDnox97d44d
set_option linter.unusedSimpArgs false
set_option linter.unusedVariables false
namespace Go.Proofs.YtkopaeklihhdlaaGreat
namespace Abs
open Go
theorem Bc {α : Type} (x : α) (l : List α) : eX (x :: l) 1 ((x :: l).length : Int) = some l := by
 unfold eX
 rw [if_pos ⟨by omega, by simp <;> omega, Int.le_refl _⟩]
 simp
theorem Bj {α : Type} (x : α) (l : List α) : idx (x :: l) 0 = some x := by simp [idx]
theorem Gt : ∀ (asx : List Val), (∀ a ∈ asx, Ev (fun n => nY n a) a) → ∀ (pre : List Val), (pre.length + asx.length) * 56 ≤ 140737488355328 → ∃ N, ∀ n, N ≤ n → ∀ k, asx.length + 1 ≤ k → mO n (fun p0 => mo n p0) (fun p0 => nY n p0) (pre ++ asx) k (pre, (pre.length : Int)) = some (.nx (pre ++ asx))
 | [], _, pre, _ => by
  refine ⟨0, fun n _ k hk => ?_⟩
  obtain ⟨j, rfl⟩ : ∃ j, k = j + 1 := ⟨k - 1, by simp at hk; omega⟩
  unfold mO
  rw [decide_eq_false (by simp)]
  simp
 | a :: asx, H, pre, hb => by
  obtain ⟨N1, h1⟩ := H a (by simp)
  obtain ⟨N2, h2⟩ := Gt asx (fun x hx => H x (by simp [hx])) (pre ++ [a]) (by simp at hb ⊢; omega)
  refine ⟨N1 + N2, fun n hn k hk => ?_⟩
  obtain ⟨j, rfl⟩ : ∃ j, k = j + 1 := ⟨k - 1, by simp at hk; omega⟩
  have h1 : nY n a = _ := h1 n (by omega)
  have h2 := h2 n (by omega) j (by simp at hk; omega)
  unfold mO
  rw [decide_eq_true (by simp <;> omega), gY]
  simp only [cond_true, Option.bind_some]
  rw [h1]
  simp only [Option.bind_some]
  rw [zS (by simp at hb ⊢; omega)]
  simp only [Option.bind_some]
  rw [show (pre.length : Int) + 1 = ((pre ++ [a]).length : Int) by simp]
  simpa using h2
theorem Jd (l : List Val) (H : ∀ a ∈ l, Ev (fun n => nY n a) a) (hl : l.length * 56 ≤ 140737488355328) : Ev (fun n => mo n l) l := by
 obtain ⟨N, h⟩ := Gt l H [] (by simpa using hl)
 refine Ev.succ ⟨N + l.length + 1, fun n hn => ?_⟩
 have := h n (by omega) n (by omega)
 show oN n _ _ l = _
 unfold oN
 simp only [List.nil_append, List.length_nil] at this
 rw [show ((0 : Nat) : Int) = 0 from rfl] at this
 rw [this]
 rfl
theorem aan (v : Val) (hv : fQ v) : Ev (fun n => nY n v) v := by
 induction v using Val.ind with
 | h k n s ks ih =>
  obtain ⟨h1, h2⟩ := hv.kids
  simp only [Val.kids] at h1 h2
  refine Ev.succ ?_
  show Ev (fun m => qH m _ _ (.mk k n s ks)) _
  unfold qH
  exact Ev.bind (Jd ks (fun a ha => ih a ha (h2 a ha)) h1) (Ev.ret _)
theorem Xf (l : List Val) (hv : ∀ v ∈ l, fQ v) (hl : l.length * 56 ≤ 140737488355328) : Ev (fun n => mo n l) l := Jd l (fun a ha => aan a (hv a ha)) hl
theorem qY : ∀ (m : Nat) (xs ys acc : List Val), xs.length + ys.length ≤ m → xs.Pairwise wJ → ys.Pairwise wJ → (∀ x ∈ xs, eY x) → (acc.length + xs.length + ys.length) * 56 ≤ 140737488355328 →
  ∃ zs, zs.Pairwise wJ ∧ (∀ x, x ∈ zs ↔ x ∈ xs ∨ x ∈ ys) ∧ ∃ N, ∀ n, N ≤ n → ∀ k, m + 1 ≤ k → gG n k (xs, ys, acc) = some (.nx (acc ++ zs))
 | m, [], [], acc, _, _, _, _, _ => by
  refine ⟨[], .nil, by simp, 0, fun n _ k hk => ?_⟩
  obtain ⟨j, rfl⟩ : ∃ j, k = j + 1 := ⟨k - 1, by omega⟩
  unfold gG
  simp
 | 0, [], y :: ys, acc, h, _, _, _, _ => by simp at h
 | 0, x :: xs, ys, acc, h, _, _, _, _ => by simp at h
 | m + 1, [], y :: ys, acc, h, h1, h2, hS, hb => by
  have p2 := List.pairwise_cons.1 h2
  obtain ⟨zs, z1, z2, N, hN⟩ := qY m [] ys (acc ++ [y]) (by simp at h ⊢; omega) .nil p2.2 (by simp) (by simp at hb ⊢; omega)
  refine ⟨y :: zs, List.pairwise_cons.2 ⟨fun z hz => p2.1 z (by simpa using (z2 z).1 hz), z1⟩, fun x => by simp [z2 x], N, fun n hn k hk => ?_⟩
  obtain ⟨j, rfl⟩ : ∃ j, k = j + 1 := ⟨k - 1, by omega⟩
  have := hN n hn j (by omega)
  unfold gG
  rw [decide_eq_false (by simp), decide_eq_true (by simp <;> omega)]
  simp only [cond_false, cond_true, Option.bind_some, show ((([] : List Val).length : Int) == 0) = true from rfl, show decide ((1 : Int) ≤ 0) = false from rfl, show decide ((0 : Int) < 1) = true from rfl, show decide ((0 : Int) ≤ 1) = true from rfl, Bj, Bc]
  rw [zS (by simp at hb ⊢; omega)]
  simp only [Option.bind_some]
  rw [this]; simp
 | m + 1, x :: xs, [], acc, h, h1, h2, hS, hb => by
  have p1 := List.pairwise_cons.1 h1
  obtain ⟨zs, z1, z2, N, hN⟩ := qY m xs [] (acc ++ [x]) (by simp at h ⊢; omega) p1.2 .nil (fun v hv => hS v (by simp [hv])) (by simp at hb ⊢; omega)
  refine ⟨x :: zs, List.pairwise_cons.2 ⟨fun z hz => p1.1 z (by simpa using (z2 z).1 hz), z1⟩, fun x => by simp [z2 x], N, fun n hn k hk => ?_⟩
  obtain ⟨j, rfl⟩ : ∃ j, k = j + 1 := ⟨k - 1, by omega⟩
  have := hN n hn j (by omega)
  unfold gG
  have e0 : (((x :: xs).length : Int) == 0) = false := by simp <;> omega
  rw [decide_eq_true (by simp <;> omega)]
  simp only [cond_true, Option.bind_some, e0, cond_false, show decide ((0 : Int) < (([] : List Val).length : Int)) = false from rfl, show decide ((-1 : Int) ≤ 0) = true from rfl, show decide ((0 : Int) < -1) = false from rfl, show decide ((0 : Int) ≤ -1) = false from rfl, Bj, Bc]
  rw [zS (by simp at hb ⊢; omega)]
  simp only [Option.bind_some]
  rw [this]; simp
 | m + 1, x :: xs, y :: ys, acc, h, h1, h2, hS, hb => by
  have p1 := List.pairwise_cons.1 h1
  have p2 := List.pairwise_cons.1 h2
  obtain ⟨N0, hc⟩ := AB x y (hS x (by simp))
  have e0 : (((x :: xs).length : Int) == 0) = false := by simp <;> omega
  have e1 : decide ((0 : Int) < ((x :: xs).length : Int)) = true := decide_eq_true (by simp <;> omega)
  have e2 : decide ((0 : Int) < ((y :: ys).length : Int)) = true := decide_eq_true (by simp <;> omega)
  rcases Int.lt_trichotomy (bR x y) 0 with hlt | heq | hgt
  ·obtain ⟨zs, z1, z2, N, hN⟩ := qY m xs (y :: ys) (acc ++ [x]) (by simp at h ⊢; omega) p1.2 h2 (fun v hv => hS v (by simp [hv])) (by simp at hb ⊢; omega)
   refine ⟨x :: zs, List.pairwise_cons.2 ⟨fun z hz => ?_, z1⟩, fun u => by simp only [List.mem_cons, z2 u, or_assoc], N + N0, fun n hn k hk => ?_⟩
   ·rcases (z2 z).1 hz with hz | hz
    ·exact p1.1 z hz
    ·rcases List.mem_cons.1 hz with rfl | hz
     ·exact hlt
     ·exact vX x y z hlt (p2.1 z hz)
   ·obtain ⟨j, rfl⟩ : ∃ j, k = j + 1 := ⟨k - 1, by omega⟩
    have := hN n (by omega) j (by omega)
    have hc : fE n x y = _ := hc n (by omega)
    unfold gG
    simp only [cond_true, cond_false, Option.bind_some, e0, e1, e2, Bj, hc]
    rw [decide_eq_true (Int.le_of_lt hlt), decide_eq_false (by omega), decide_eq_false (by omega)]
    simp only [cond_true, cond_false, Option.bind_some, Bc]
    rw [zS (by simp at hb ⊢; omega)]
    simp only [Option.bind_some]
    rw [this]; simp
  ·have exy := (j4 x y).1 heq
   subst exy
   obtain ⟨zs, z1, z2, N, hN⟩ := qY m xs ys (acc ++ [x]) (by simp at h ⊢; omega) p1.2 p2.2 (fun v hv => hS v (by simp [hv])) (by simp at hb ⊢; omega)
   refine ⟨x :: zs, List.pairwise_cons.2 ⟨fun z hz => ?_, z1⟩, fun u => ?_, N + N0, fun n hn k hk => ?_⟩
   ·rcases (z2 z).1 hz with hz | hz
    ·exact p1.1 z hz
    ·exact p2.1 z hz
   ·simp only [List.mem_cons, z2 u]
    constructor
    ·rintro (h | h | h)
     ·exact .inl (.inl h)
     ·exact .inl (.inr h)
     ·exact .inr (.inr h)
    ·rintro ((h | h) | (h | h))
     ·exact .inl h
     ·exact .inr (.inl h)
     ·exact .inl h
     ·exact .inr (.inr h)
   ·obtain ⟨j, rfl⟩ : ∃ j, k = j + 1 := ⟨k - 1, by omega⟩
    have := hN n (by omega) j (by omega)
    have hc : fE n x x = _ := hc n (by omega)
    unfold gG
    simp only [cond_true, cond_false, Option.bind_some, e0, e1, e2, Bj, hc, heq, show decide ((0 : Int) ≤ 0) = true from rfl, show decide ((0 : Int) < 0) = false from rfl, Bc]
    rw [zS (by simp at hb ⊢; omega)]
    simp only [Option.bind_some]
    rw [this]; simp
  ·obtain ⟨zs, z1, z2, N, hN⟩ := qY m (x :: xs) ys (acc ++ [y]) (by simp at h ⊢; omega) h1 p2.2 hS (by simp at hb ⊢; omega)
   have hyx : bR y x < 0 := by rw [jZ x y]; omega
   refine ⟨y :: zs, List.pairwise_cons.2 ⟨fun z hz => ?_, z1⟩, fun u => ?_, N + N0, fun n hn k hk => ?_⟩
   ·rcases (z2 z).1 hz with hz | hz
    ·rcases List.mem_cons.1 hz with rfl | hz
     ·exact hyx
     ·exact vX y x z hyx (p1.1 z hz)
    ·exact p2.1 z hz
   ·simp only [List.mem_cons, z2 u]
    constructor
    ·rintro (h | h | h)
     ·exact .inr (.inl h)
     ·exact .inl h
     ·exact .inr (.inr h)
    ·rintro (h | (h | h))
     ·exact .inr (.inl h)
     ·exact .inl h
     ·exact .inr (.inr h)
   ·obtain ⟨j, rfl⟩ : ∃ j, k = j + 1 := ⟨k - 1, by omega⟩
    have := hN n (by omega) j (by omega)
    have hc : fE n x y = _ := hc n (by omega)
    unfold gG
    simp only [cond_true, cond_false, Option.bind_some, e0, e1, e2, Bj, hc]
    rw [decide_eq_false (by omega), decide_eq_true hgt, decide_eq_true (Int.le_of_lt hgt)]
    simp only [cond_true, cond_false, Option.bind_some, Bc, Bj]
    rw [zS (by simp at hb ⊢; omega)]
    simp only [Option.bind_some]
    rw [this]; simp
theorem Xo (xs ys : List Val) (h1 : xs.Pairwise wJ) (h2 : ys.Pairwise wJ) (hS : ∀ x ∈ xs, eY x) (hb : (xs.length + ys.length) * 56 ≤ 140737488355328) :
  ∃ zs, zs.Pairwise wJ ∧ (∀ x, x ∈ zs ↔ x ∈ xs ∨ x ∈ ys) ∧ Ev (fun n => Ck n xs ys) zs := by
 obtain ⟨zs, z1, z2, N, hN⟩ := qY (xs.length + ys.length) xs ys [] (Nat.le_refl _) h1 h2 hS (by simpa using hb)
 refine ⟨zs, z1, z2, N + xs.length + ys.length + 1, fun n hn => ?_⟩
 show ((gG n n (xs, ys, ([] : List Val))).bind _) = _
 rw [hN n (by omega) n (by omega)]
 rfl
theorem CG : ∀ (m : Nat) (l : List Val), l.length ≤ m → (∀ x ∈ l, eY x) → l.length * 56 ≤ 140737488355328 → Ev (fun n => oV n l) (sortV l)
 | m, [], _, _, _ => by
  refine Ev.succ ?_
  show Ev (fun n => iq n _ []) _
  unfold iq
  exact Ev.ret _
 | m, [a], _, _, _ => by
  refine Ev.succ ?_
  show Ev (fun n => iq n _ [a]) _
  unfold iq
  exact Ev.ret _
 | 0, a :: b :: l, h, _, _ => by simp at h
 | m + 1, a :: b :: l, h, hS, hb => by
  generalize hL : a :: b :: l = L at h hS hb ⊢
  have hlen : 2 ≤ L.length := by rw [← hL]; simp
  refine Ev.succ ?_
  show Ev (fun n => iq n (fun p0 => oV n p0) L) _
  unfold iq
  rw [decide_eq_false (by omega)]
  have ew : IntKind.wrap .i64 (Int.tdiv (L.length : Int) 2) = ((L.length / 2 : Nat) : Int) := by
   have : Int.tdiv (L.length : Int) 2 = ((L.length / 2 : Nat) : Int) := rfl
   rw [this, wrap64 (by omega) (by omega)]
  have c1 : eX L 0 ((L.length / 2 : Nat) : Int) = some (L.take (L.length / 2)) := by
   unfold eX
   rw [if_pos ⟨Int.le_refl _, by omega, by omega⟩]
   simp only [Int.toNat_zero, List.drop_zero, Int.toNat_natCast, Nat.sub_zero]
  have c2 : eX L ((L.length / 2 : Nat) : Int) (L.length : Int) = some (L.drop (L.length / 2)) := by
   unfold eX
   rw [if_pos ⟨by omega, by omega, Int.le_refl _⟩]
   simp only [Int.toNat_natCast]
   rw [List.take_of_length_le (by simp)]
  rw [ew, c1, c2]
  simp only [cond_false, Option.bind_some]
  have s1 : ∀ x ∈ L.take (L.length / 2), eY x := fun x hx => hS x (List.mem_of_mem_take hx)
  have s2 : ∀ x ∈ L.drop (L.length / 2), eY x := fun x hx => hS x (List.mem_of_mem_drop hx)
  refine Ev.bind (CG m _ (by simp <;> omega) s1 (by simp <;> omega)) ?_
  refine Ev.bind (CG m _ (by simp <;> omega) s2 (by simp <;> omega)) ?_
  have l1 := qw (L.take (L.length / 2))
  have l2 := qw (L.drop (L.length / 2))
  simp only [List.length_take, List.length_drop] at l1 l2
  obtain ⟨zs, z1, z2, hz⟩ := Xo _ _ (oG (L.take (L.length / 2))) (oG (L.drop (L.length / 2))) (fun x hx => s1 x ((nA _ x).1 hx)) (by omega)
  have e : zs = sortV L := by
   refine uO z1 fun x => ?_
   rw [z2 x, nA, nA]
   conv => rhs; rw [← List.take_append_drop (L.length / 2) L]
   rw [List.mem_append]
  rw [e] at hz
  exact Ev.bind hz (Ev.ret _)
theorem aat (l : List Val) (hS : ∀ x ∈ l, eY x) (hl : l.length * 56 ≤ 140737488355328) : Ev (fun n => Ef n l) (.mk 5 0 [] (sortV l)) := by
 unfold Ef
 exact Ev.bind (CG _ l (Nat.le_refl _) hS hl) (Ev.ret _)
theorem Tj (l : List Val) (hS : ∀ x ∈ l, eY x) (hv : ∀ v ∈ l, fQ v) (hl : l.length * 56 ≤ 140737488355328) : Ev (fun n => uT n l) (Py l) := by
 unfold uT
 refine Ev.bind (Xf l hv hl) (Ev.bind (aat l hS hl) ?_)
 show Ev (fun _ => cond (decide (256 < ((sortV l).length : Int))) (some (Val.mk 0 0 [] [], (11 : Int))) (some (Val.mk 5 0 [] (sortV l), (0 : Int)))) (Py l)
 unfold Py
 cases decide (256 < ((sortV l).length : Int)) <;> exact Ev.ret _
theorem Iq (a b : Val) (l : List Val) (ha : eY a) (hS : ∀ v ∈ l, eY v) (hF : ∀ v ∈ l, fQ v) : Ev (fun n => ql n a b l) true := by
 unfold ql
 by_cases h : (2000 : Int) < (l.length : Int)
 ·rw [decide_eq_true h]; exact Im
 ·rw [decide_eq_false h]
  have hl : l.length * 56 ≤ 140737488355328 := by omega
  refine Ev.bind (BN l hF hl) (Ev.bind (Tj l hS hF hl) (Ev.bind (a := true) ?_ (Ev.ret _)))
  refine Ev.bind (pF a b) (Ev.bind (AB a b ha) ?_)
  simp only [beq_self_eq_true, cond_true]
  exact Ev.bind (BJ _) Im
end Abs
end Go.Proofs.YtkopaeklihhdlaaGreat

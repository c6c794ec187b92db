/-
  Copies, sets and equality of values on both sides. Conditions: none; lemmas without a program.
-/
import Derived.Test.YtkopaeklihhdlaaGreatCDoox208ebf
set_option linter.unusedSimpArgs false
set_option linter.unusedVariables false
namespace Go.Proofs.YtkopaeklihhdlaaGreat
namespace Abs
open Go
mutual
def dS : Val → Prop
 | .mk _ _ _ ks => ks.length * 56 ≤ 140737488355328 ∧ vP ks
def vP : List Val → Prop
 | [] => True
 | v :: vs => dS v ∧ vP vs
end
theorem MV : ∀ {vs : List Val}, vP vs → ∀ v ∈ vs, dS v
 | [], _, _, h => by cases h
 | v :: vs, h, u, hu => by
  simp only [vP] at h
  rcases List.mem_cons.1 hu with rfl | hu
  ·exact h.1
  ·exact MV h.2 u hu
theorem dS.kids {v : Val} (h : dS v) : v.kids.length * 56 ≤ 140737488355328 ∧ ∀ u ∈ v.kids, dS u := by
 cases v
 simp only [dS] at h
 exact ⟨h.1, MV h.2⟩
theorem xH {l ys : List Val} (h : (l.length + ys.length) * 56 ≤ 140737488355328) : app 56 l ys = some (l ++ ys) := by
 unfold app
 rw [if_pos ⟨h, by omega⟩]
theorem DJ {α : Type} (x : α) (l : List α) : fO (x :: l) 1 ((x :: l).length : Int) = some l := by
 unfold fO
 rw [if_pos ⟨by omega, by simp <;> omega, Int.le_refl _⟩]
 simp
theorem Et {α : Type} (x : α) (l : List α) : idx (x :: l) 0 = some x := by simp [idx]
theorem KF : ∀ (asx : List Val), (∀ a ∈ asx, Ev (fun n => kM n a) a) → ∀ (pre : List Val), (pre.length + asx.length) * 56 ≤ 140737488355328 → ∃ N, ∀ n, N ≤ n → ∀ k, asx.length + 1 ≤ k → oz n (fun p0 => nK n p0) (fun p0 => kM n p0) (pre ++ asx) k (pre, (pre.length : Int)) = some (.nx (pre ++ asx))
 | [], _, pre, _ => by
  refine ⟨0, fun n _ k hk => ?_⟩
  obtain ⟨j, rfl⟩ : ∃ j, k = j + 1 := ⟨k - 1, by simp at hk; omega⟩
  unfold oz
  rw [decide_eq_false (by simp)]
  simp
 | a :: asx, H, pre, hb => by
  obtain ⟨N1, h1⟩ := H a (by simp)
  obtain ⟨N2, h2⟩ := KF asx (fun x hx => H x (by simp [hx])) (pre ++ [a]) (by simp at hb ⊢; omega)
  refine ⟨N1 + N2, fun n hn k hk => ?_⟩
  obtain ⟨j, rfl⟩ : ∃ j, k = j + 1 := ⟨k - 1, by simp at hk; omega⟩
  have h1 : kM n a = _ := h1 n (by omega)
  have h2 := h2 n (by omega) j (by simp at hk; omega)
  unfold oz
  rw [decide_eq_true (by simp <;> omega), gM]
  simp only [cond_true, Option.bind_some]
  rw [h1]
  simp only [Option.bind_some]
  rw [xH (by simp at hb ⊢; omega)]
  simp only [Option.bind_some]
  rw [show (pre.length : Int) + 1 = ((pre ++ [a]).length : Int) by simp]
  simpa using h2
theorem M8 (l : List Val) (H : ∀ a ∈ l, Ev (fun n => kM n a) a) (hl : l.length * 56 ≤ 140737488355328) : Ev (fun n => nK n l) l := by
 obtain ⟨N, h⟩ := KF l H [] (by simpa using hl)
 refine Ev.succ ⟨N + l.length + 1, fun n hn => ?_⟩
 have := h n (by omega) n (by omega)
 show qV n _ _ l = _
 unfold qV
 simp only [List.nil_append, List.length_nil] at this
 rw [show ((0 : Nat) : Int) = 0 from rfl] at this
 rw [this]
 rfl
theorem Jw (v : Val) (hv : dS v) : Ev (fun n => kM n v) v := by
 induction v using Val.ind with
 | h k n s ks ih =>
  obtain ⟨h1, h2⟩ := hv.kids
  simp only [Val.kids] at h1 h2
  refine Ev.succ ?_
  show Ev (fun m => tF m _ _ (.mk k n s ks)) _
  unfold tF
  exact Ev.bind (M8 ks (fun a ha => ih a ha (h2 a ha)) h1) (Ev.ret _)
theorem QO {α : Type} : ∀ (pre : List α) (x : α) (suf : List α), (pre ++ x :: suf).set pre.length x = pre ++ x :: suf
 | [], _, _ => rfl
 | p :: pre, x, suf => by simp
theorem KJ (v : Val) : ∀ (asx pre : List Val), v.kids = pre ++ asx → (∀ a ∈ asx, Ev (fun n => gG n a) a) → ∃ N, ∀ n, N ≤ n → ∀ k, asx.length + 1 ≤ k → lN n (fun p0 => gG n p0) v k (pre ++ asx, (pre.length : Int)) = some (.nx (pre ++ asx))
 | [], pre, hp, _ => by
  refine ⟨0, fun n _ k hk => ?_⟩
  obtain ⟨j, rfl⟩ : ∃ j, k = j + 1 := ⟨k - 1, by simp at hk; omega⟩
  unfold lN
  rw [decide_eq_false (by rw [hp]; simp)]
  rfl
 | a :: asx, pre, hp, H => by
  obtain ⟨N1, h1⟩ := H a (by simp)
  obtain ⟨N2, h2⟩ := KJ v asx (pre ++ [a]) (by simp [hp]) (fun x hx => H x (by simp [hx]))
  refine ⟨N1 + N2, fun n hn k hk => ?_⟩
  obtain ⟨j, rfl⟩ : ∃ j, k = j + 1 := ⟨k - 1, by simp at hk; omega⟩
  have h1 : gG n a = _ := h1 n (by omega)
  have h2 := h2 n (by omega) j (by simp at hk; omega)
  unfold lN
  rw [decide_eq_true (by rw [hp]; simp; omega)]
  simp only [cond_true, gM, Option.bind_some]
  rw [h1]
  simp only [Option.bind_some]
  have e : upd (pre ++ a :: asx) (pre.length : Int) a = pre ++ a :: asx := by
   unfold upd
   rw [Int.toNat_natCast, QO]
  rw [e, show (pre.length : Int) + 1 = ((pre ++ [a]).length : Int) by simp]
  simpa using h2
theorem Cy (v : Val) (hv : dS v) : Ev (fun n => gG n v) v := by
 induction v using Val.ind with
 | h k n s ks ih =>
  obtain ⟨h1, h2⟩ := hv.kids
  simp only [Val.kids] at h1 h2
  obtain ⟨N, h⟩ := KJ (.mk k n s ks) ks [] rfl (fun a ha => ih a ha (h2 a ha))
  refine Ev.succ ⟨N + ks.length + 1, fun m hm => ?_⟩
  have := h m (by omega) m (by omega)
  show oh m _ (.mk k n s ks) = _
  unfold oh tK mV
  simp only [Val.kids]
  rw [xH (by simpa using h1)]
  simp only [Option.bind_some, List.nil_append, List.length_nil] at this ⊢
  rw [show ((0 : Nat) : Int) = 0 from rfl] at this
  rw [this]
  rfl
theorem uS : ∀ (m : Nat) (xs ys acc : List Val), xs.length + ys.length ≤ m → xs.Pairwise zU → ys.Pairwise zU → (∀ x ∈ xs, dw x) → (acc.length + xs.length + ys.length) * 56 ≤ 140737488355328 →
  ∃ zs, zs.Pairwise zU ∧ (∀ x, x ∈ zs ↔ x ∈ xs ∨ x ∈ ys) ∧ ∃ N, ∀ n, N ≤ n → ∀ k, m + 1 ≤ k → iq n k (xs, ys, acc) = some (.nx (acc ++ zs))
 | m, [], [], acc, _, _, _, _, _ => by
  refine ⟨[], .nil, by simp, 0, fun n _ k hk => ?_⟩
  obtain ⟨j, rfl⟩ : ∃ j, k = j + 1 := ⟨k - 1, by omega⟩
  unfold iq
  simp
 | 0, [], y :: ys, acc, h, _, _, _, _ => by simp at h
 | 0, x :: xs, ys, acc, h, _, _, _, _ => by simp at h
 | m + 1, [], y :: ys, acc, h, h1, h2, hS, hb => by
  have p2 := List.pairwise_cons.1 h2
  obtain ⟨zs, z1, z2, N, hN⟩ := uS m [] ys (acc ++ [y]) (by simp at h ⊢; omega) .nil p2.2 (by simp) (by simp at hb ⊢; omega)
  refine ⟨y :: zs, List.pairwise_cons.2 ⟨fun z hz => p2.1 z (by simpa using (z2 z).1 hz), z1⟩, fun x => by simp [z2 x], N, fun n hn k hk => ?_⟩
  obtain ⟨j, rfl⟩ : ∃ j, k = j + 1 := ⟨k - 1, by omega⟩
  have := hN n hn j (by omega)
  unfold iq
  rw [decide_eq_false (by simp), decide_eq_true (by simp <;> omega)]
  simp only [cond_false, cond_true, Option.bind_some, show ((([] : List Val).length : Int) == 0) = true from rfl, show decide ((1 : Int) ≤ 0) = false from rfl, show decide ((0 : Int) < 1) = true from rfl, show decide ((0 : Int) ≤ 1) = true from rfl, Et, DJ]
  rw [xH (by simp at hb ⊢; omega)]
  simp only [Option.bind_some]
  rw [this]; simp
 | m + 1, x :: xs, [], acc, h, h1, h2, hS, hb => by
  have p1 := List.pairwise_cons.1 h1
  obtain ⟨zs, z1, z2, N, hN⟩ := uS m xs [] (acc ++ [x]) (by simp at h ⊢; omega) p1.2 .nil (fun v hv => hS v (by simp [hv])) (by simp at hb ⊢; omega)
  refine ⟨x :: zs, List.pairwise_cons.2 ⟨fun z hz => p1.1 z (by simpa using (z2 z).1 hz), z1⟩, fun x => by simp [z2 x], N, fun n hn k hk => ?_⟩
  obtain ⟨j, rfl⟩ : ∃ j, k = j + 1 := ⟨k - 1, by omega⟩
  have := hN n hn j (by omega)
  unfold iq
  have e0 : (((x :: xs).length : Int) == 0) = false := by simp <;> omega
  rw [decide_eq_true (by simp <;> omega)]
  simp only [cond_true, Option.bind_some, e0, cond_false, show decide ((0 : Int) < (([] : List Val).length : Int)) = false from rfl, show decide ((-1 : Int) ≤ 0) = true from rfl, show decide ((0 : Int) < -1) = false from rfl, show decide ((0 : Int) ≤ -1) = false from rfl, Et, DJ]
  rw [xH (by simp at hb ⊢; omega)]
  simp only [Option.bind_some]
  rw [this]; simp
 | m + 1, x :: xs, y :: ys, acc, h, h1, h2, hS, hb => by
  have p1 := List.pairwise_cons.1 h1
  have p2 := List.pairwise_cons.1 h2
  obtain ⟨N0, hc⟩ := Dq x y (hS x (by simp))
  have e0 : (((x :: xs).length : Int) == 0) = false := by simp <;> omega
  have e1 : decide ((0 : Int) < ((x :: xs).length : Int)) = true := decide_eq_true (by simp <;> omega)
  have e2 : decide ((0 : Int) < ((y :: ys).length : Int)) = true := decide_eq_true (by simp <;> omega)
  rcases Int.lt_trichotomy (bW x y) 0 with hlt | heq | hgt
  ·obtain ⟨zs, z1, z2, N, hN⟩ := uS m xs (y :: ys) (acc ++ [x]) (by simp at h ⊢; omega) p1.2 h2 (fun v hv => hS v (by simp [hv])) (by simp at hb ⊢; omega)
   refine ⟨x :: zs, List.pairwise_cons.2 ⟨fun z hz => ?_, z1⟩, fun u => by simp only [List.mem_cons, z2 u, or_assoc], N + N0, fun n hn k hk => ?_⟩
   ·rcases (z2 z).1 hz with hz | hz
    ·exact p1.1 z hz
    ·rcases List.mem_cons.1 hz with rfl | hz
     ·exact hlt
     ·exact yQ x y z hlt (p2.1 z hz)
   ·obtain ⟨j, rfl⟩ : ∃ j, k = j + 1 := ⟨k - 1, by omega⟩
    have := hN n (by omega) j (by omega)
    have hc : fU n x y = _ := hc n (by omega)
    unfold iq
    simp only [cond_true, cond_false, Option.bind_some, e0, e1, e2, Et, hc]
    rw [decide_eq_true (Int.le_of_lt hlt), decide_eq_false (by omega), decide_eq_false (by omega)]
    simp only [cond_true, cond_false, Option.bind_some, DJ]
    rw [xH (by simp at hb ⊢; omega)]
    simp only [Option.bind_some]
    rw [this]; simp
  ·have exy := (kT x y).1 heq
   subst exy
   obtain ⟨zs, z1, z2, N, hN⟩ := uS m xs ys (acc ++ [x]) (by simp at h ⊢; omega) p1.2 p2.2 (fun v hv => hS v (by simp [hv])) (by simp at hb ⊢; omega)
   refine ⟨x :: zs, List.pairwise_cons.2 ⟨fun z hz => ?_, z1⟩, fun u => ?_, N + N0, fun n hn k hk => ?_⟩
   ·rcases (z2 z).1 hz with hz | hz
    ·exact p1.1 z hz
    ·exact p2.1 z hz
   ·simp only [List.mem_cons, z2 u]
    constructor
    ·rintro (h | h | h)
     ·exact .inl (.inl h)
     ·exact .inl (.inr h)
     ·exact .inr (.inr h)
    ·rintro ((h | h) | (h | h))
     ·exact .inl h
     ·exact .inr (.inl h)
     ·exact .inl h
     ·exact .inr (.inr h)
   ·obtain ⟨j, rfl⟩ : ∃ j, k = j + 1 := ⟨k - 1, by omega⟩
    have := hN n (by omega) j (by omega)
    have hc : fU n x x = _ := hc n (by omega)
    unfold iq
    simp only [cond_true, cond_false, Option.bind_some, e0, e1, e2, Et, hc, heq, show decide ((0 : Int) ≤ 0) = true from rfl, show decide ((0 : Int) < 0) = false from rfl, DJ]
    rw [xH (by simp at hb ⊢; omega)]
    simp only [Option.bind_some]
    rw [this]; simp
  ·obtain ⟨zs, z1, z2, N, hN⟩ := uS m (x :: xs) ys (acc ++ [y]) (by simp at h ⊢; omega) h1 p2.2 hS (by simp at hb ⊢; omega)
   have hyx : bW y x < 0 := by rw [kS x y]; omega
   refine ⟨y :: zs, List.pairwise_cons.2 ⟨fun z hz => ?_, z1⟩, fun u => ?_, N + N0, fun n hn k hk => ?_⟩
   ·rcases (z2 z).1 hz with hz | hz
    ·rcases List.mem_cons.1 hz with rfl | hz
     ·exact hyx
     ·exact yQ y x z hyx (p1.1 z hz)
    ·exact p2.1 z hz
   ·simp only [List.mem_cons, z2 u]
    constructor
    ·rintro (h | h | h)
     ·exact .inr (.inl h)
     ·exact .inl h
     ·exact .inr (.inr h)
    ·rintro (h | (h | h))
     ·exact .inr (.inl h)
     ·exact .inl h
     ·exact .inr (.inr h)
   ·obtain ⟨j, rfl⟩ : ∃ j, k = j + 1 := ⟨k - 1, by omega⟩
    have := hN n (by omega) j (by omega)
    have hc : fU n x y = _ := hc n (by omega)
    unfold iq
    simp only [cond_true, cond_false, Option.bind_some, e0, e1, e2, Et, hc]
    rw [decide_eq_false (by omega), decide_eq_true hgt, decide_eq_true (Int.le_of_lt hgt)]
    simp only [cond_true, cond_false, Option.bind_some, DJ, Et]
    rw [xH (by simp at hb ⊢; omega)]
    simp only [Option.bind_some]
    rw [this]; simp
theorem abj (xs ys : List Val) (h1 : xs.Pairwise zU) (h2 : ys.Pairwise zU) (hS : ∀ x ∈ xs, dw x) (hb : (xs.length + ys.length) * 56 ≤ 140737488355328) :
  ∃ zs, zs.Pairwise zU ∧ (∀ x, x ∈ zs ↔ x ∈ xs ∨ x ∈ ys) ∧ Ev (fun n => Fb n xs ys) zs := by
 obtain ⟨zs, z1, z2, N, hN⟩ := uS (xs.length + ys.length) xs ys [] (Nat.le_refl _) h1 h2 hS (by simpa using hb)
 refine ⟨zs, z1, z2, N + xs.length + ys.length + 1, fun n hn => ?_⟩
 show ((iq n n (xs, ys, ([] : List Val))).bind _) = _
 rw [hN n (by omega) n (by omega)]
 rfl
theorem AJ : ∀ (m : Nat) (l : List Val), l.length ≤ m → (∀ x ∈ l, dw x) → l.length * 56 ≤ 140737488355328 → Ev (fun n => nM n l) (sortV l)
 | m, [], _, _, _ => by
  refine Ev.succ ?_
  show Ev (fun n => iP n _ []) _
  unfold iP
  exact Ev.ret _
 | m, [a], _, _, _ => by
  refine Ev.succ ?_
  show Ev (fun n => iP n _ [a]) _
  unfold iP
  exact Ev.ret _
 | 0, a :: b :: l, h, _, _ => by simp at h
 | m + 1, a :: b :: l, h, hS, hb => by
  generalize hL : a :: b :: l = L at h hS hb ⊢
  have hlen : 2 ≤ L.length := by rw [← hL]; simp
  refine Ev.succ ?_
  show Ev (fun n => iP n (fun p0 => nM n p0) L) _
  unfold iP
  rw [decide_eq_false (by omega)]
  have ew : IntKind.wrap .i64 (Int.tdiv (L.length : Int) 2) = ((L.length / 2 : Nat) : Int) := by
   have : Int.tdiv (L.length : Int) 2 = ((L.length / 2 : Nat) : Int) := rfl
   rw [this, wrap64 (by omega) (by omega)]
  have c1 : fO L 0 ((L.length / 2 : Nat) : Int) = some (L.take (L.length / 2)) := by
   unfold fO
   rw [if_pos ⟨Int.le_refl _, by omega, by omega⟩]
   simp only [Int.toNat_zero, List.drop_zero, Int.toNat_natCast, Nat.sub_zero]
  have c2 : fO L ((L.length / 2 : Nat) : Int) (L.length : Int) = some (L.drop (L.length / 2)) := by
   unfold fO
   rw [if_pos ⟨by omega, by omega, Int.le_refl _⟩]
   simp only [Int.toNat_natCast]
   rw [List.take_of_length_le (by simp)]
  rw [ew, c1, c2]
  simp only [cond_false, Option.bind_some]
  have s1 : ∀ x ∈ L.take (L.length / 2), dw x := fun x hx => hS x (List.mem_of_mem_take hx)
  have s2 : ∀ x ∈ L.drop (L.length / 2), dw x := fun x hx => hS x (List.mem_of_mem_drop hx)
  refine Ev.bind (AJ m _ (by simp <;> omega) s1 (by simp <;> omega)) ?_
  refine Ev.bind (AJ m _ (by simp <;> omega) s2 (by simp <;> omega)) ?_
  have l1 := nW (L.take (L.length / 2))
  have l2 := nW (L.drop (L.length / 2))
  simp only [List.length_take, List.length_drop] at l1 l2
  obtain ⟨zs, z1, z2, hz⟩ := abj _ _ (qp (L.take (L.length / 2))) (qp (L.drop (L.length / 2))) (fun x hx => s1 x ((nN _ x).1 hx)) (by omega)
  have e : zs = sortV L := by
   refine yh z1 fun x => ?_
   rw [z2 x, nN, nN]
   conv => rhs; rw [← List.take_append_drop (L.length / 2) L]
   rw [List.mem_append]
  rw [e] at hz
  exact Ev.bind hz (Ev.ret _)
theorem JH (x y : Int) : (lex x y == 0) = ((x == 0) && (y == 0)) := by
 rw [Bool.eq_iff_iff]
 simp [Bo]
theorem QI : ∀ (asx : List Val), (∀ a ∈ asx, ∀ b, Ev (fun n => dn n a b) (bW a b == 0)) → ∀ (bs pa pb : List Val), pa.length = pb.length → asx.length = bs.length → ∃ N, ∀ n, N ≤ n → ∀ k, asx.length + 1 ≤ k → jC n (fun p0 p1 => dn n p0 p1) (fun p0 p1 => iN n p0 p1) (pa ++ asx) (pb ++ bs) k (pa.length : Int) = some (cond (dK asx bs == 0) (.nx ()) (.rt false))
 | [], _, bs, pa, pb, hp, hl => by
  have : bs = [] := List.length_eq_zero_iff.1 (by simpa using hl.symm)
  subst this
  refine ⟨0, fun n _ k hk => ?_⟩
  obtain ⟨j, rfl⟩ : ∃ j, k = j + 1 := ⟨k - 1, by simp at hk; omega⟩
  unfold jC
  rw [decide_eq_false (by simp)]
  rfl
 | a :: asx, H, [], pa, pb, hp, hl => by simp at hl
 | a :: asx, H, b :: bs, pa, pb, hp, hl => by
  obtain ⟨N1, h1⟩ := H a (by simp) b
  obtain ⟨N2, h2⟩ := QI asx (fun x hx => H x (by simp [hx])) bs (pa ++ [a]) (pb ++ [b]) (by simp [hp]) (by simpa using hl)
  refine ⟨N1 + N2, fun n hn k hk => ?_⟩
  obtain ⟨j, rfl⟩ : ∃ j, k = j + 1 := ⟨k - 1, by simp at hk; omega⟩
  have h1 : dn n a b = _ := h1 n (by omega)
  have h2 := h2 n (by omega) j (by simp at hk; omega)
  unfold jC
  rw [decide_eq_true (by simp <;> omega), gM]
  simp only [cond_true, Option.bind_some]
  rw [show (pa.length : Int) = (pb.length : Int) by rw [hp], gM]
  simp only [Option.bind_some]
  rw [h1]
  simp only [Option.bind_some, uI, JH]
  cases bW a b == 0 with
  | false => rfl
  | true =>
   simp only [Bool.not_true, cond_false, Bool.true_and]
   rw [show (pb.length : Int) + 1 = ((pa ++ [a]).length : Int) by simp [hp]]
   simpa using h2
theorem zf (l m : List Val) (H : ∀ a ∈ l, ∀ b, Ev (fun n => dn n a b) (bW a b == 0)) : Ev (fun n => iN n l m) (dK l m == 0) := by
 refine Ev.succ ?_
 show Ev (fun n => l9 n _ _ l m) _
 unfold l9
 by_cases hl : l.length = m.length
 ·obtain ⟨N, h⟩ := QI l H m [] [] rfl hl
  refine ⟨N + l.length + 1, fun n hn => ?_⟩
  have := h n (by omega) n (by omega)
  have e : ((l.length : Int) != (m.length : Int)) = false := by simp [hl]
  rw [e]
  simp only [cond_false, List.nil_append, List.length_nil] at this ⊢
  rw [show ((0 : Nat) : Int) = 0 from rfl] at this
  rw [this]
  cases dK l m == 0 <;> rfl
 ·have e : ((l.length : Int) != (m.length : Int)) = true := by simp <;> omega
  have e2 : (dK l m == 0) = false := by
   cases h : dK l m == 0 with
   | false => rfl
   | true => exact absurd (congrArg List.length ((AL l m).1 (by simpa using h))) hl
  rw [e, e2]
  exact Ev.ret _
theorem xg (a b : Val) : Ev (fun n => dn n a b) (bW a b == 0) := by
 revert b
 induction a using Val.ind with
 | h k n s ks ih =>
  intro b
  obtain ⟨k', n', s', ks'⟩ := b
  refine Ev.succ ?_
  show Ev (fun m => ni m _ _ (.mk k n s ks) (.mk k' n' s' ks')) _
  unfold ni
  simp only [Val.kind, Val.n, Val.name, Val.kids]
  have e1 : (iT k k' == 0) = (k == k') := by rw [Bool.eq_iff_iff]; simp [wT]
  have e2 : (iT n n' == 0) = (n == n') := by rw [Bool.eq_iff_iff]; simp [wT]
  have e3 : (Lib.compareBytes s s' == 0) = (s == s') := by rw [Bool.eq_iff_iff]; simp [JD]
  rw [AZ, JH, JH, JH, e1, e2, e3]
  cases k == k' with
  | false => exact Ev.bind (Ev.ret _) (Ev.ret _)
  | true =>
   cases n == n' with
   | false => exact Ev.bind (Ev.ret _) (Ev.ret _)
   | true =>
    cases s == s' with
    | false => exact Ev.bind (Ev.ret _) (Ev.ret _)
    | true => exact Ev.bind (Ev.bind (zf ks ks' ih) (Ev.ret _)) (Ev.ret _)
def Qm (c : Carrier) (s : Int) : Bool := cond (decide (s < 1)) true (cond (decide (8 < s)) true (cond (decide (0 < (c.elems.length : Int))) (s != (c.elems.length : Int)) false))
def xM : List Carrier → List Int → Bool
 | c :: cs, s :: ss => !(Qm c s) && xM cs ss
 | _, _ => true
def jy (env : Env) (sz : List Int) : Bool := !((sz.length : Int) != (env.carriers.length : Int)) && xM env.carriers sz
theorem pF {env : Env} {sz : List Int} (h : jy env sz = true) : sz.length = env.carriers.length := by
 unfold jy at h
 simp only [Bool.and_eq_true, Bool.not_eq_true', bne_eq_false_iff_eq] at h
 omega
theorem Ww (c : Carrier) (l : List Int) (i : Int) (s : Int) (h : idx l i = some s) : (((idx l i).bind fun (x2 : Int) => (cond (decide (x2 < 1)) (some true) ((idx l i).bind fun (x3 : Int) => (cond (decide (8 < x3)) (some true) (cond (decide (0 < (c.elems.length : Int))) ((idx l i).bind fun (x4 : Int) => some (x4 != (c.elems.length : Int))) (some false)))))) : Option Bool) = some (Qm c s) := by
 rw [h]
 simp only [Option.bind_some, Qm]
 cases decide (s < 1) <;> cases decide (8 < s) <;> cases decide (0 < (c.elems.length : Int)) <;> rfl
theorem Vr (n : Nat) (nm : List Decl) : ∀ (cs : List Carrier) (ss : List Int) (pc : List Carrier) (ps : List Int), pc.length = ps.length → cs.length = ss.length → ∀ k, cs.length + 1 ≤ k → jG n ⟨pc ++ cs, nm⟩ (ps ++ ss) k (pc.length : Int) = some (cond (xM cs ss) (.nx ()) (.rt false))
 | [], ss, pc, ps, hp, hl, k, hk => by
  obtain ⟨j, rfl⟩ : ∃ j, k = j + 1 := ⟨k - 1, by simp at hk; omega⟩
  unfold jG
  rw [decide_eq_false (by simp)]
  rfl
 | c :: cs, [], pc, ps, hp, hl, k, hk => by simp at hl
 | c :: cs, s :: ss, pc, ps, hp, hl, k, hk => by
  obtain ⟨j, rfl⟩ : ∃ j, k = j + 1 := ⟨k - 1, by simp at hk; omega⟩
  have hi : idx (ps ++ s :: ss) (pc.length : Int) = some s := by rw [hp]; exact gM _ _ _
  have ih := Vr n nm cs ss (pc ++ [c]) (ps ++ [s]) (by simp [hp]) (by simpa using hl) j (by simp at hk; omega)
  unfold jG
  rw [decide_eq_true (by simp; omega)]
  simp only [cond_true]
  rw [gM]
  simp only [Option.bind_some]
  rw [Ww c _ _ s hi]
  simp only [Option.bind_some, xM]
  cases hb : Qm c s with
  | true => rfl
  | false =>
   simp only [cond_false, Bool.not_false, Bool.true_and]
   rw [show (pc.length : Int) + 1 = ((pc ++ [c]).length : Int) by simp]
   simpa using ih
theorem QY (n : Nat) (nm : List Decl) : ∀ (cs : List Carrier) (ss : List Int) (pc : List Carrier) (ps : List Int), pc.length = ps.length → cs.length = ss.length → ∀ k, cs.length + 1 ≤ k → rC n ⟨pc ++ cs, nm⟩ (ps ++ ss) k (pc.length : Int) = some (cond (xM cs ss) (.nx ()) (.rt false))
 | [], ss, pc, ps, hp, hl, k, hk => by
  obtain ⟨j, rfl⟩ : ∃ j, k = j + 1 := ⟨k - 1, by simp at hk; omega⟩
  have : ss = [] := List.length_eq_zero_iff.1 (by simpa using hl.symm)
  subst this
  unfold rC
  rw [decide_eq_false (by simp [hp])]
  rfl
 | c :: cs, [], pc, ps, hp, hl, k, hk => by simp at hl
 | c :: cs, s :: ss, pc, ps, hp, hl, k, hk => by
  obtain ⟨j, rfl⟩ : ∃ j, k = j + 1 := ⟨k - 1, by simp at hk; omega⟩
  have hi : idx (ps ++ s :: ss) (pc.length : Int) = some s := by rw [hp]; exact gM _ _ _
  have ih := QY n nm cs ss (pc ++ [c]) (ps ++ [s]) (by simp [hp]) (by simpa using hl) j (by simp at hk; omega)
  unfold rC
  rw [decide_eq_true (by simp; omega)]
  simp only [cond_true]
  rw [gM]
  simp only [Option.bind_some]
  rw [Ww c _ _ s hi]
  simp only [Option.bind_some, xM]
  cases hb : Qm c s with
  | true => rfl
  | false =>
   simp only [cond_false, Bool.not_false, Bool.true_and]
   rw [show (pc.length : Int) + 1 = ((pc ++ [c]).length : Int) by simp]
   simpa using ih
theorem Dr (env : Env) (sz : List Int) : Ev (fun n => mR n env sz) (jy env sz) := by
 unfold mR jy
 cases h : ((sz.length : Int) != (env.carriers.length : Int)) with
 | true => exact Ev.ret _
 | false =>
  simp only [bne_eq_false_iff_eq] at h
  simp only [cond_false, Bool.not_false, Bool.true_and]
  refine Ev.bind (a := cond (xM env.carriers sz) (.nx ()) (.rt false)) ⟨env.carriers.length + 1, fun n hn => ?_⟩ ?_
  ·have := Vr n env.names env.carriers sz [] [] rfl (by omega) n hn
   simpa using this
  ·cases xM env.carriers sz <;> exact Ev.ret _
theorem Pv (env : Env) (sz : List Int) : Ev (fun n => za n env sz) (jy env sz) := by
 unfold za jy
 cases h : ((sz.length : Int) != (env.carriers.length : Int)) with
 | true => exact Ev.ret _
 | false =>
  simp only [bne_eq_false_iff_eq] at h
  simp only [cond_false, Bool.not_false, Bool.true_and]
  refine Ev.bind (a := cond (xM env.carriers sz) (.nx ()) (.rt false)) ⟨env.carriers.length + 1, fun n hn => ?_⟩ ?_
  ·have := QY n env.names env.carriers sz [] [] rfl (by omega) n hn
   simpa using this
  ·cases xM env.carriers sz <;> exact Ev.ret _
inductive Shp : Ty → Prop where
 | int : Shp (.mk 1 [] [])
 | bool : Shp (.mk 2 [] [])
 | car (nm : Str) : Shp (.mk 3 nm [])
 | pair {a b : Ty} (h : Shp a) (k : Shp b) : Shp (.mk 4 [] [a, b])
 | set {a : Ty} (h : Shp a) : Shp (.mk 5 [] [a])
mutual
theorem abW : ∀ (t : Ty) (d c : Int), (pf t d c).1 = true → Shp t
 | .mk k nm ks, d, c, h => by
  simp only [pf] at h
  cases hb : ((decide (c + 1 ≤ 16) && decide (d ≤ 6)) && iO k nm ks.length d) with
  | false => rw [hb] at h; cases h
  | true =>
   rw [hb] at h
   simp only [cond_true] at h
   have hs := ZO ks (d + 1) (c + 1) h
   simp only [iO, Bool.and_eq_true, Bool.or_eq_true, beq_iff_eq] at hb
   obtain ⟨_, _, hk, hn⟩ := hb
   rcases hk with ⟨hk, hl⟩ | ⟨rfl, hl⟩ | ⟨rfl, hl⟩
   ·have : ks = [] := List.length_eq_zero_iff.1 hl
    subst this
    rcases hk with rfl | rfl | rfl
    ·have : nm = [] := by simpa using hn
     subst this; exact .int
    ·have : nm = [] := by simpa using hn
     subst this; exact .bool
    ·exact .car nm
   ·have : nm = [] := by simpa using hn
    subst this
    match ks, hl with
    | [a, b], _ => exact .pair (hs a (by simp)) (hs b (by simp))
   ·have : nm = [] := by simpa using hn
    subst this
    match ks, hl with
    | [a], _ => exact .set (hs a (by simp))
theorem ZO : ∀ (ks : List Ty) (d c : Int), (lT ks d c).1 = true → ∀ t ∈ ks, Shp t
 | [], _, _, _, _, ht => by cases ht
 | k :: ks, d, c, h, t, ht => by
  simp only [lT] at h
  cases h1 : (pf k d c).1 with
  | false => rw [h1] at h; cases h
  | true =>
   rw [h1] at h
   simp only [cond_true] at h
   rcases List.mem_cons.1 ht with h2 | ht
   ·have h3 := abW k d c h1
    rw [h2]; exact h3
   ·exact ZO ks d _ h t ht
end
theorem nJ {t : Ty} (h : eO t = true) : Shp t := abW t 1 0 h
def zZ : List Val → Bool
 | a :: b :: r => !(decide (0 ≤ bW a b)) && zZ (b :: r)
 | _ => true
def Li (v : Val) : Bool := v.kind == 1 && (v.name == [] && ((v.kids.length : Int) == 0 && (decide ((-1000000000) ≤ v.n) && decide (v.n ≤ 1000000000))))
def Mg (v : Val) : Bool := v.kind == 2 && (v.name == [] && ((v.kids.length : Int) == 0 && (v.n == 0 || v.n == 1)))
def aai (env : Env) (sz : List Int) (nm : Str) : Int := (idx sz (gH (fun c => c.name == nm) 0 env.carriers)).getD 0
def KU (env : Env) (sz : List Int) (nm : Str) (v : Val) : Bool := v.kind == 3 && (v.name == nm && ((v.kids.length : Int) == 0 && (decide (0 ≤ v.n) && decide (v.n < aai env sz nm))))
mutual
def hasB (env : Env) (sz : List Int) : Ty → Val → Bool
 | .mk k nm ks, v => cond (k == 1) (Li v) (cond (k == 2) (Mg v) (cond (k == 3) (KU env sz nm v) (cond (k == 4) (v.kind == 4 && (v.n == 0 && (v.name == [] && ((v.kids.length : Int) == 2 && FC env sz ks v.kids))))
   ((v.kind == 5 && (v.n == 0 && (v.name == [] && !(decide (256 < (v.kids.length : Int)))))) && (Wo env sz ks v.kids && zZ v.kids)))))
def FC (env : Env) (sz : List Int) : List Ty → List Val → Bool
 | [], _ => true
 | t :: ts, vs => match vs with
  | [] => true
  | v :: vs => hasB env sz t v && FC env sz ts vs
def Wo (env : Env) (sz : List Int) : List Ty → List Val → Bool
 | [], _ => true
 | t :: _, vs => vs.all fun v => hasB env sz t v
end
theorem KP (env : Env) (s : Str) : Ev (fun n => rJ n env s) (gH (fun c => c.name == s) 0 env.carriers) := by
 unfold rJ iX
 refine Ev.bind (nX env.carriers (fun n k i => fH n env.carriers s k i) (fun _ x => some (x.name == s)) (fun c => c.name == s) (fun n k i => rfl) (fun x _ => Ev.ret _)) (Ev.ret _)
theorem Zx {env : Env} {sz : List Int} {nm : Str} (hl : sz.length = env.carriers.length) (h : bU env nm = true) : 0 ≤ gH (fun c => c.name == nm) 0 env.carriers ∧ idx sz (gH (fun c => c.name == nm) 0 env.carriers) = some (aai env sz nm) := by
 have hg := rD (fun c : Carrier => c.name == nm) env.carriers 0 (Int.le_refl _)
 have hany : env.carriers.any (fun c => c.name == nm) = true := h
 rw [hany] at hg
 have h0 : 0 ≤ gH (fun c : Carrier => c.name == nm) 0 env.carriers := by simpa using hg
 refine ⟨h0, ?_⟩
 rcases l7 (fun c : Carrier => c.name == nm) env.carriers [] with ⟨x, _, _, g1, g2⟩ | ⟨_, g⟩
 ·simp only [List.length_nil, List.nil_append] at g1 g2
  unfold aai
  unfold idx at g2 ⊢
  rw [show (((0 : Nat) : Int)) = 0 from rfl] at g2
  rw [if_pos h0] at g2 ⊢
  have hlt := (List.getElem?_eq_some_iff.1 g2).1
  rw [List.getElem?_eq_getElem (by omega)]
  rfl
 ·simp only [List.length_nil] at g
  rw [show (((0 : Nat) : Int)) = 0 from rfl] at g
  omega
theorem Wt (p2 : Val) : ∀ (suf pre : List Val) (x : Val), p2.kids = pre ++ [x] ++ suf → p2.kids.length ≤ 256 → ∃ N, ∀ n, N ≤ n → ∀ k, suf.length + 1 ≤ k → ∀ r1 r2, lU n r1 r2 p2 k ((pre ++ [x]).length : Int) = some (cond (zZ (x :: suf)) (.nx ()) (.rt false))
 | [], pre, x, e, hl => by
  refine ⟨0, fun n _ k hk r1 r2 => ?_⟩
  obtain ⟨j, rfl⟩ : ∃ j, k = j + 1 := ⟨k - 1, by simp at hk; omega⟩
  unfold lU
  rw [decide_eq_false (by rw [e]; simp)]
  rfl
 | y :: suf, pre, x, e, hl => by
  obtain ⟨N1, h1⟩ := rP x y
  obtain ⟨N2, h2⟩ := Wt p2 suf (pre ++ [x]) y (by rw [e]; simp) hl
  refine ⟨N1 + N2, fun n hn k hk r1 r2 => ?_⟩
  obtain ⟨j, rfl⟩ : ∃ j, k = j + 1 := ⟨k - 1, by simp at hk; omega⟩
  have h1 : dL n x y = _ := h1 n (by omega)
  have h2 := h2 n (by omega) j (by simp at hk; omega) r1 r2
  have hlen : pre.length + 1 ≤ 256 := by rw [e] at hl; simp at hl; omega
  have ew : IntKind.wrap .i64 (((pre ++ [x]).length : Int) - 1) = (pre.length : Int) := by
   rw [List.length_append, List.length_singleton, wrap64 (by omega) (by omega)]; omega
  have i1 : idx p2.kids (pre.length : Int) = some x := by rw [e, List.append_assoc, List.singleton_append]; exact gM _ _ _
  have i2 : idx p2.kids ((pre ++ [x]).length : Int) = some y := by rw [e]; exact gM _ _ _
  unfold lU
  rw [decide_eq_true (by rw [e]; simp; omega), ew, i1, i2]
  simp only [cond_true, Option.bind_some]
  rw [h1]
  simp only [Option.bind_some, zZ]
  cases decide (0 ≤ bW x y) with
  | true => rfl
  | false =>
   simp only [cond_false, Bool.not_false, Bool.true_and]
   rw [show ((pre ++ [x]).length : Int) + 1 = ((pre ++ [x] ++ [y]).length : Int) by simp only [List.length_append, List.length_singleton]; omega]
   exact h2
theorem QS (env : Env) (sz : List Int) (t : Ty) (H : ∀ v, Ev (fun n => fB n env sz v t) (hasB env sz t v)) : ∀ (suf pre : List Val), ∃ N, ∀ n, N ≤ n → ∀ k, suf.length + 1 ≤ k → jr n (fun p0 p1 p2 p3 => fB n p0 p1 p2 p3) (fun p0 p1 p2 p3 p4 p5 p6 p7 => ko n p0 p1 p2 p3 p4 p5 p6 p7) [t] (pre ++ suf) env.carriers env.names sz k (pre.length : Int) = some (cond (suf.all fun v => hasB env sz t v) (.nx ()) (.rt false))
 | [], pre => by
  refine ⟨0, fun n _ k hk => ?_⟩
  obtain ⟨j, rfl⟩ : ∃ j, k = j + 1 := ⟨k - 1, by simp at hk; omega⟩
  unfold jr
  rw [decide_eq_false (by simp)]
  rfl
 | v :: suf, pre => by
  obtain ⟨N1, h1⟩ := H v
  obtain ⟨N2, h2⟩ := QS env sz t H suf (pre ++ [v])
  refine ⟨N1 + N2, fun n hn k hk => ?_⟩
  obtain ⟨j, rfl⟩ : ∃ j, k = j + 1 := ⟨k - 1, by simp at hk; omega⟩
  have h1 : fB n env sz v t = _ := h1 n (by omega)
  have h2 := h2 n (by omega) j (by simp at hk; omega)
  have i2 : idx [t] (if (([t].length : Int) - 1) < (pre.length : Int) then (([t].length : Int) - 1) else (pre.length : Int)) = some t := by
   simp only [List.length_singleton]
   have : (if (((1 : Nat) : Int) - 1) < (pre.length : Int) then (((1 : Nat) : Int) - 1) else (pre.length : Int)) = 0 := by split <;> omega
   rw [this]
   rfl
  unfold jr
  rw [decide_eq_true (by simp; omega), gM, i2]
  simp only [cond_true, Option.bind_some]
  rw [show fB n (Env.mk env.carriers env.names) sz v t = fB n env sz v t from rfl, h1]
  simp only [Option.bind_some, List.all_cons]
  cases hasB env sz t v with
  | false => rfl
  | true =>
   simp only [Bool.not_true, cond_false, Bool.true_and]
   rw [show (pre.length : Int) + 1 = ((pre ++ [v]).length : Int) by simp]
   simpa using h2
theorem aeZ (env : Env) (sz : List Int) (t u : Ty) (a b : Val) (k n : Int) (s : Str) (H1 : Ev (fun n => fB n env sz a t) (hasB env sz t a)) (H2 : Ev (fun n => fB n env sz b u) (hasB env sz u b)) : Ev (fun m => ko m [t, u] k n s [a, b] env.carriers env.names sz) (FC env sz [t, u] [a, b]) := by
 refine Ev.succ ?_
 obtain ⟨N1, h1⟩ := H1
 obtain ⟨N2, h2⟩ := H2
 refine ⟨N1 + N2 + 3, fun m hm => ?_⟩
 have h1 : fB m (Env.mk env.carriers env.names) sz a t = _ := h1 m (by omega)
 have h2 : fB m (Env.mk env.carriers env.names) sz b u = _ := h2 m (by omega)
 show j4 m _ _ [t, u] k n s [a, b] env.carriers env.names sz = _
 unfold j4
 obtain ⟨j, hj⟩ : ∃ j, m = j + 3 := ⟨m - 3, by omega⟩
 have e1 : jr m (fun p0 p1 p2 p3 => fB m p0 p1 p2 p3) (fun p0 p1 p2 p3 p4 p5 p6 p7 => ko m p0 p1 p2 p3 p4 p5 p6 p7) [t, u] [a, b] env.carriers env.names sz (j + 3) 0 = some (cond (FC env sz [t, u] [a, b]) (.nx ()) (.rt false)) := by
  have i0 : idx [t, u] (if (((([t, u] : List Ty)).length : Int) - 1) < 0 then ((([t, u] : List Ty).length : Int) - 1) else 0) = some t := rfl
  have i1 : idx [t, u] (if (((([t, u] : List Ty)).length : Int) - 1) < 0 + 1 then ((([t, u] : List Ty).length : Int) - 1) else 0 + 1) = some u := rfl
  simp only [jr, i0, i1, show idx [a, b] 0 = some a from rfl, show idx [a, b] (0 + 1) = some b from rfl, Option.bind_some, show decide ((0 : Int) < (([a, b] : List Val).length : Int)) = true from rfl, show decide ((0 + 1 : Int) < (([a, b] : List Val).length : Int)) = true from rfl, show decide ((0 + 1 + 1 : Int) < (([a, b] : List Val).length : Int)) = false from rfl, cond_true, cond_false, h1, h2, FC]
  cases hasB env sz t a <;> cases hasB env sz u b <;> rfl
 rw [← hj] at e1
 rw [e1]
 cases FC env sz [t, u] [a, b] <;> rfl
theorem WT (env : Env) (sz : List Int) (hl : sz.length = env.carriers.length) : ∀ {t : Ty}, Shp t → (bZ t).all (bU env) = true → ∀ v, Ev (fun n => fB n env sz v t) (hasB env sz t v) := by
 intro t h
 induction h with
 | int =>
  intro _ v
  refine Ev.succ ?_
  show Ev (fun n => fE n _ _ env sz v (.mk 1 [] [])) _
  unfold fE
  refine Ev.pos rfl ?_
  refine Ev.bind (a := Li v) ?_ (Ev.ret _)
  unfold Li
  cases v.kind == 1 <;> cases decide ((-1000000000) ≤ v.n) <;> cases decide (v.n ≤ 1000000000) <;> cases v.name == [] <;> cases (v.kids.length : Int) == 0 <;> exact Ev.ret _
 | bool =>
  intro _ v
  refine Ev.succ ?_
  show Ev (fun n => fE n _ _ env sz v (.mk 2 [] [])) _
  unfold fE
  refine Ev.neg rfl ?_
  refine Ev.pos rfl ?_
  refine Ev.bind (a := Mg v) ?_ (Ev.ret _)
  unfold Mg
  cases v.kind == 2 <;> cases v.n == 0 <;> cases v.n == 1 <;> cases v.name == [] <;> cases (v.kids.length : Int) == 0 <;> exact Ev.ret _
 | car nm =>
  intro hc v
  have hc : bU env nm = true := by simpa [bZ] using hc
  obtain ⟨g1, g2⟩ := Zx hl hc
  refine Ev.succ ?_
  show Ev (fun n => fE n _ _ env sz v (.mk 3 nm [])) _
  unfold fE
  refine Ev.neg rfl ?_
  refine Ev.neg rfl ?_
  refine Ev.pos rfl ?_
  refine Ev.bind (KP env nm) ?_
  refine Ev.bind (a := KU env sz nm v) ?_ (Ev.ret _)
  simp only [decide_eq_true g1, cond_true, g2, Option.bind_some, Ty.name]
  unfold KU
  cases v.kind == 3 <;> cases v.name == nm <;> cases decide (0 ≤ v.n) <;> cases decide (v.n < aai env sz nm) <;> cases (v.kids.length : Int) == 0 <;> exact Ev.ret _
 | @pair a b ha hb iha ihb =>
  intro hc v
  simp only [bZ, iL, List.append_nil, show ((4 : Int) == 3) = false from rfl, cond_false, List.all_append, Bool.and_eq_true] at hc
  refine Ev.succ ?_
  show Ev (fun n => fE n _ _ env sz v (.mk 4 [] [a, b])) _
  unfold fE
  refine Ev.neg rfl ?_
  refine Ev.neg rfl ?_
  refine Ev.neg rfl ?_
  refine Ev.pos rfl ?_
  refine Ev.bind (a := hasB env sz (.mk 4 [] [a, b]) v) ?_ (Ev.ret _)
  simp only [hasB, show ((4 : Int) == 1) = false from rfl, show ((4 : Int) == 2) = false from rfl, show ((4 : Int) == 3) = false from rfl, show ((4 : Int) == 4) = true from rfl, cond_false, cond_true, Ty.kids]
  cases v.kind == 4 with
  | false => exact Ev.ret _
  | true =>
   cases v.n == 0 with
   | false => exact Ev.ret _
   | true =>
    cases v.name == [] with
    | false => exact Ev.ret _
    | true =>
     cases h2 : (v.kids.length : Int) == 2 with
     | false => exact Ev.ret _
     | true =>
      simp only [cond_true, Bool.true_and]
      obtain ⟨k, n, s, ks⟩ := v
      simp only [Val.kids, beq_iff_eq] at h2
      match ks, h2 with
      | [x, y], _ => exact Ev.bind (aeZ env sz a b x y k n s (iha hc.1 x) (ihb hc.2 y)) (Ev.ret _)
 | @set a ha iha =>
  intro hc v
  simp only [bZ, iL, List.append_nil, show ((5 : Int) == 3) = false from rfl, cond_false] at hc
  have H := iha hc
  refine Ev.succ ?_
  show Ev (fun n => fE n _ _ env sz v (.mk 5 [] [a])) _
  unfold fE
  refine Ev.neg rfl ?_
  refine Ev.neg rfl ?_
  refine Ev.neg rfl ?_
  refine Ev.neg rfl ?_
  refine Ev.pos rfl ?_
  simp only [hasB, show ((5 : Int) == 1) = false from rfl, show ((5 : Int) == 2) = false from rfl, show ((5 : Int) == 3) = false from rfl, show ((5 : Int) == 4) = false from rfl, cond_false, Ty.kids]
  have e1 : (v.kind != 5) = !(v.kind == 5) := rfl
  have e2 : (v.n != 0) = !(v.n == 0) := rfl
  rw [e1, e2]
  cases v.kind == 5 with
  | false => refine Ev.bind (a := true) (Ev.ret _) ?_; exact Ev.ret _
  | true =>
   cases v.n == 0 with
   | false => refine Ev.bind (a := true) (Ev.ret _) ?_; exact Ev.ret _
   | true =>
    cases v.name == [] with
    | false => refine Ev.bind (a := true) (Ev.ret _) ?_; exact Ev.ret _
    | true =>
     cases h256 : decide (256 < (v.kids.length : Int)) with
     | true => refine Ev.bind (a := true) (Ev.ret _) ?_; exact Ev.ret _
     | false =>
      have hlen : v.kids.length ≤ 256 := by simp at h256; omega
      have hk : Ev (fun n => ko n [a] v.kind v.n v.name v.kids env.carriers env.names sz) (v.kids.all fun v => hasB env sz a v) := by
       obtain ⟨N, h⟩ := QS env sz a H v.kids []
       refine Ev.succ ?_
       refine ⟨N + v.kids.length + 1, fun n hn => ?_⟩
       have := h n (by omega) n (by omega)
       simp only [List.nil_append, List.length_nil] at this
       show j4 n _ _ [a] v.kind v.n v.name v.kids env.carriers env.names sz = _
       unfold j4
       rw [show ((0 : Nat) : Int) = 0 from rfl] at this
       rw [this]
       cases (v.kids.all fun v => hasB env sz a v) <;> rfl
      simp only [Bool.not_true, cond_false, Bool.not_false, Bool.true_and, Wo]
      refine Ev.bind (Ev.bind hk (Ev.ret _)) ?_
      cases (v.kids.all fun v => hasB env sz a v) with
      | false => exact Ev.ret _
      | true =>
       simp only [Bool.not_true, cond_false, Bool.true_and]
       refine Ev.bind (a := cond (zZ v.kids) (.nx ()) (.rt false)) ?_ (by cases zZ v.kids <;> exact Ev.ret _)
       cases hks : v.kids with
       | nil =>
        refine ⟨1, fun n hn => ?_⟩
        obtain ⟨j, rfl⟩ : ∃ j, n = j + 1 := ⟨n - 1, by omega⟩
        show lU (j + 1) _ _ v (j + 1) 1 = _
        unfold lU
        rw [decide_eq_false (by rw [hks]; simp)]
        rfl
       | cons x xs =>
        obtain ⟨N, h⟩ := Wt v xs [] x (by rw [hks]; rfl) hlen
        refine ⟨N + xs.length + 1, fun n hn => ?_⟩
        have := h n (by omega) n (by omega) (fun p0 p1 p2 p3 => fB n p0 p1 p2 p3) (fun p0 p1 p2 p3 p4 p5 p6 p7 => ko n p0 p1 p2 p3 p4 p5 p6 p7)
        exact this
theorem cB {env : Env} (h : bn env = true) : env.carriers.length ≤ 8 ∧ env.names.length ≤ 64 ∧ env.carriers.all yY = true ∧ env.names.all (uK env) = true ∧ (names2 env).Nodup := by
 simp only [bn, Bool.and_eq_true, Bool.not_eq_true', Bool.or_eq_false_iff, decide_eq_false_iff_not, Md] at h
 obtain ⟨⟨h1, h2⟩, h3, h4, h5⟩ := h
 exact ⟨by omega, by omega, h3, h4, h5⟩
theorem Av {env : Env} (h : bn env = true) {d : Decl} (hd : d ∈ env.names) : named d.name = true ∧ eO d.ty = true ∧ nD 2 d.ty = false ∧ (bZ d.ty).all (bU env) = true := by
 have := List.all_eq_true.1 (cB h).2.2.2.1 d hd
 simp only [uK, Bool.and_eq_true, Bool.not_eq_true'] at this
 exact ⟨this.1, this.2.1.1, this.2.1.2, this.2.2⟩
theorem uw {env : Env} (h : bn env = true) {c : Carrier} (hc : c ∈ env.carriers) : ident c.name = true ∧ c.elems.length ≤ 8 ∧ c.elems.all ident = true := by
 have := List.all_eq_true.1 (cB h).2.2.1 c hc
 simp only [yY, Bool.and_eq_true, Bool.not_eq_true', decide_eq_false_iff_not] at this
 exact ⟨this.1, by omega, this.2.2⟩
def yF (s : Str) : Ty := .mk 3 s []
def EZ (t : Ty) : Ty := .mk 5 [] [t]
def Ni (env : Env) : List (Str × Ty) := (env.names.map fun d => (d.name, d.ty)) ++ ((env.carriers.map fun c => (c.name, EZ (yF c.name))) ++ env.carriers.flatMap fun c => c.elems.map fun e => (e, yF c.name))
def look (env : Env) (s : Str) : Option Ty := dR (Ni env) s
theorem Ao {env : Env} (h : bn env = true) : Ev (fun n => nI n env) (env.carriers, env.names) := by
 obtain ⟨hc8, hn64, _, _, _⟩ := cB h
 unfold nI
 have h1 := gQ (ρ := (List Carrier) × (List Decl)) env.carriers (fun n k i s => rY n env k (i, s)) (fun n x s => (app 16 ([] : List Str) x.elems).bind fun x5 => app 40 s [Carrier.mk x.name x5]) (fun x s => s ++ [x]) (fun s => s) (fun suf s => s.length + suf.length ≤ 8)
  (fun n k i s => by
   show cond _ _ _ = _
   congr 1
   show (idx env.carriers i).bind _ = _
   congr 1
   funext x
   simp only [Option.bind_assoc])
  (fun x suf s hx hs => by
   simp only [List.length_cons] at hs
   have hx8 := (uw h hx).2.1
   refine ⟨?_, ?_⟩
   ·rw [fu (by simp only [List.length_nil]; omega) (by omega), Option.bind_some, fu (by simp only [List.length_singleton]; omega) (by omega)]
    exact Ev.ret _
   ·simp only [List.length_append, List.length_singleton]; omega) (s0 := ([] : List Carrier)) (by simp only [List.length_nil]; omega)
 rw [nG, List.nil_append] at h1
 have h2 := gQ (ρ := (List Carrier) × (List Decl)) env.names (fun n k i s => rX n env k (i, s)) (fun n x s => (eD n x.ty).bind fun x2 => app 64 s [Decl.mk x.name x2]) (fun x s => s ++ [x]) (fun s => s) (fun suf s => s.length + suf.length ≤ 64)
  (fun n k i s => by
   show cond _ _ _ = _
   congr 1
   show (idx env.names i).bind _ = _
   congr 1
   funext x
   simp only [Option.bind_assoc])
  (fun x suf s hx hs => by
   simp only [List.length_cons] at hs
   refine ⟨?_, ?_⟩
   ·refine Ev.bind (zu x.ty (tY (Av h hx).2.1).1) ?_
    rw [fu (by simp only [List.length_singleton]; omega) (by omega)]
    exact Ev.ret _
   ·simp only [List.length_append, List.length_singleton]; omega) (s0 := ([] : List Decl)) (by simp only [List.length_nil]; omega)
 rw [nG, List.nil_append] at h2
 exact Ev.bind h1 (Ev.bind h2 (Ev.ret _))
theorem afG (l : List Str) : Ev (fun n => wR n l l) true := by
 unfold wR
 simp only [oZ, cond_false]
 have h := iE l (fun n k i => uR n l l k i) (fun _ _ => some false) (fun _ => false) false
  (fun n k i => by
   show cond _ _ _ = _
   congr 1
   cases hx : idx l i with
   | none => rfl
   | some x => simp only [Option.bind_some, beq_self_eq_true, Bool.not_true])
  (fun x _ => Ev.ret _)
 rw [Ey] at h
 exact Ev.bind h (Ev.ret _)
theorem Fp (e : Env) : Ev (fun n => rH n e e) true := by
 unfold rH
 simp only [oZ, cond_false, Option.bind_some]
 have h1 := iE e.carriers (fun n k i => sD n e e k i) (fun n x => (jL n x x).bind fun b => some (!b)) (fun _ => false) false
  (fun n k i => by
   show cond _ _ _ = _
   congr 1
   cases hx : idx e.carriers i with
   | none => rfl
   | some x => simp only [Option.bind_some, Option.bind_assoc])
  (fun x _ => by
   refine Ev.bind (a := true) ?_ (Ev.ret _)
   unfold jL
   simp only [beq_self_eq_true, cond_true]
   exact Ev.bind (Ev.bind (afG _) (Ev.ret _)) (Ev.ret _))
 rw [Ey] at h1
 have h2 := iE e.names (fun n k i => sw n e e k i) (fun n x => (bg n x.ty x.ty).bind fun b => some (!b)) (fun _ => false) false
  (fun n k i => by
   show cond _ _ _ = _
   congr 1
   cases hx : idx e.names i with
   | none => rfl
   | some x => simp only [Option.bind_some, Option.bind_assoc, beq_self_eq_true, Bool.not_true, cond_false])
  (fun x _ => Ev.bind (zn x.ty) (Ev.ret _))
 rw [Ey] at h2
 exact Ev.bind h1 (Ev.bind h2 (Ev.ret _))
theorem Zv {α β γ : Type} (l : List α) (l' : List β) (i : Int) (F : α → β → Option γ) : ((idx l i).bind fun x => (idx l' i).bind fun y => F x y) = (idx (l.zip l') i).bind fun p => F p.1 p.2 := by
 unfold idx
 by_cases h : 0 ≤ i
 ·simp only [if_pos h, List.zip, List.getElem?_zipWith]
  cases l[i.toNat]? <;> cases l'[i.toNat]? <;> rfl
 ·simp only [if_neg h]; rfl
theorem zM {α β ρ : Type} (l : List α) (l' : List β) (hlen : l.length = l'.length) (L : Nat → Nat → Int → Option (LR Unit ρ)) (step : Nat → α → β → Option Bool) (p : α → β → Bool) (r : ρ)
  (hL : ∀ n k i, L n (k + 1) i = cond (decide (i < (l.length : Int))) ((idx l i).bind fun x => (idx l' i).bind fun y => (step n x y).bind fun b => cond b (some (.rt r)) (L n k (i + 1))) (some (.nx ())))
  (hp : ∀ x ∈ l, ∀ y, Ev (fun n => step n x y) (p x y)) : Ev (fun n => L n n 0) (cond ((l.zip l').any fun q => p q.1 q.2) (.rt r) (.nx ())) := by
 refine iE (l.zip l') L (fun n q => step n q.1 q.2) (fun q => p q.1 q.2) r (fun n k i => ?_) (fun q hq => hp q.1 (List.of_mem_zip hq).1 q.2)
 rw [hL, ← Zv l l' i fun x y => (step n x y).bind fun b => cond b (some (.rt r)) (L n k (i + 1))]
 have : ((l.zip l').length : Int) = (l.length : Int) := by rw [List.length_zip, ← hlen, Nat.min_self]
 rw [this]
structure Joined (a b : Env) (cs : List Carrier) (ds : List Decl) : Prop where
 c1 : ∀ c ∈ a.carriers, c ∈ cs
 c2 : ∀ c ∈ b.carriers, c ∈ cs
 c3 : ∀ c ∈ cs, c ∈ a.carriers ∨ c ∈ b.carriers
 d1 : ∀ d ∈ a.names, d ∈ ds
 d2 : ∀ d ∈ b.names, d ∈ ds
 d3 : ∀ d ∈ ds, d ∈ a.names ∨ d ∈ b.names
 cl : cs.length ≤ a.carriers.length + b.carriers.length
 dl : ds.length ≤ a.names.length + b.names.length
def UQ (f : Val → Bool) : Val → List Val → Bool
 | _, [] => true
 | x, y :: s => f y && (!(decide (0 ≤ bW x y)) && UQ f y s)
theorem YV (f : Val → Bool) : ∀ (s : List Val) (x : Val), UQ f x s = (s.all f && zZ (x :: s))
 | [], _ => rfl
 | y :: s, x => by
  simp only [UQ, List.all_cons, zZ]
  rw [YV f s y]
  cases f y <;> cases decide (0 ≤ bW x y) <;> cases s.all f <;> cases zZ (y :: s) <;> rfl
theorem adC (env : Env) (sz : List Int) (ty t : Ty) (v : Val) (pre : List Val) (x y : Val) (suf : List Val) (hk : v.kids = pre ++ [x] ++ y :: suf) (ht : ty.kids = [t]) (hx : dw x) (H : Ev (fun n => lu n env sz y t) (hasB env sz t y)) : Ev (fun n => (((idx v.kids ((pre ++ [x]).length : Int)).bind fun (x9 : Val) => ((idx ty.kids 0).bind fun (x10 : Ty) => ((lu n env sz x9 x10).bind fun (x11 : Bool) => (cond (!x11) (some true) (cond (decide (0 < ((pre ++ [x]).length : Int))) ((idx v.kids (((pre ++ [x]).length : Int) - 1)).bind fun (x12 : Val) => ((idx v.kids ((pre ++ [x]).length : Int)).bind fun (x13 : Val) => ((fU n x12 x13).bind fun (x14 : Int) => some (decide (0 ≤ x14))))) (some false)))))) : Option Bool)) (!(hasB env sz t y && !(decide (0 ≤ bW x y)))) := by
 have ew : (((pre ++ [x]).length : Int) - 1) = (pre.length : Int) := by rw [List.length_append, List.length_singleton]; omega
 have i1 : idx v.kids (pre.length : Int) = some x := by rw [hk, List.append_assoc, List.singleton_append]; exact gM _ _ _
 have i2 : idx v.kids ((pre ++ [x]).length : Int) = some y := by rw [hk]; exact gM _ _ _
 rw [ew, i1, i2, ht, decide_eq_true (show 0 < (((pre ++ [x]).length : Nat) : Int) by rw [List.length_append, List.length_singleton]; omega)]
 simp only [Option.bind_some, cond_true, show idx [t] 0 = some t from rfl]
 refine Ev.bind H ?_
 cases hasB env sz t y with
 | false => exact Ev.ret _
 | true =>
  simp only [Bool.not_true, cond_false, Bool.true_and, Bool.not_not]
  exact Ev.bind (Dq x y hx) (Ev.ret _)
theorem QH (env : Env) (sz : List Int) (ty t : Ty) (v : Val) (ht : ty.kids = [t]) (H : ∀ u, dw u → Ev (fun n => lu n env sz u t) (hasB env sz t u)) (hv : ∀ u ∈ v.kids, dw u) : ∀ (suf pre : List Val) (x : Val), v.kids = pre ++ [x] ++ suf → ∃ N, ∀ n, N ≤ n → ∀ k, suf.length + 1 ≤ k → kU n (fun p0 p1 p2 p3 => lu n p0 p1 p2 p3) env sz v ty k ((pre ++ [x]).length : Int) = some (cond (UQ (hasB env sz t) x suf) (.nx ()) (.rt false))
 | [], pre, x, e => by
  refine ⟨0, fun n _ k hk => ?_⟩
  obtain ⟨j, rfl⟩ : ∃ j, k = j + 1 := ⟨k - 1, by simp at hk; omega⟩
  unfold kU
  rw [decide_eq_false (by rw [e]; simp)]
  rfl
 | y :: suf, pre, x, e => by
  obtain ⟨N1, h1⟩ := adC env sz ty t v pre x y suf e ht (hv x (by rw [e]; simp)) (H y (hv y (by rw [e]; simp)))
  obtain ⟨N2, h2⟩ := QH env sz ty t v ht H hv suf (pre ++ [x]) y (by rw [e]; simp)
  refine ⟨N1 + N2, fun n hn k hk => ?_⟩
  obtain ⟨j, rfl⟩ : ∃ j, k = j + 1 := ⟨k - 1, by simp at hk; omega⟩
  have h1 := h1 n (by omega)
  have h2 := h2 n (by omega) j (by simp at hk; omega)
  unfold kU
  rw [decide_eq_true (by rw [e]; simp; omega)]
  simp only [cond_true]
  simp only at h1
  rw [h1]
  simp only [Option.bind_some, UQ]
  cases hasB env sz t y with
  | false => rfl
  | true =>
   cases decide (0 ≤ bW x y) with
   | true => rfl
   | false =>
    simp only [cond_false, Bool.not_false, Bool.true_and, Bool.not_true]
    rw [show ((pre ++ [x]).length : Int) + 1 = ((pre ++ [x] ++ [y]).length : Int) by simp only [List.length_append, List.length_singleton]; omega]
    exact h2
theorem afK (env : Env) (sz : List Int) (ty t : Ty) (v : Val) (ht : ty.kids = [t]) (H : ∀ u, dw u → Ev (fun n => lu n env sz u t) (hasB env sz t u)) (hv : ∀ u ∈ v.kids, dw u) : Ev (fun n => kU n (fun p0 p1 p2 p3 => lu n p0 p1 p2 p3) env sz v ty n 0) (cond ((v.kids.all fun u => hasB env sz t u) && zZ v.kids) (.nx ()) (.rt false)) := by
 cases hks : v.kids with
 | nil =>
  refine ⟨1, fun n hn => ?_⟩
  obtain ⟨j, rfl⟩ : ∃ j, n = j + 1 := ⟨n - 1, by omega⟩
  show kU (j + 1) _ env sz v ty (j + 1) 0 = _
  unfold kU
  rw [decide_eq_false (by rw [hks]; simp)]
  rfl
 | cons x xs =>
  obtain ⟨N1, h1⟩ := H x (hv x (by rw [hks]; simp))
  obtain ⟨N2, h2⟩ := QH env sz ty t v ht H hv xs [] x (by rw [hks]; rfl)
  refine ⟨N1 + N2 + xs.length + 3, fun n hn => ?_⟩
  obtain ⟨j, rfl⟩ : ∃ j, n = j + 1 := ⟨n - 1, by omega⟩
  have h1 : lu (j + 1) env sz x t = _ := h1 (j + 1) (by omega)
  have h2 := h2 (j + 1) (by omega) j (by omega)
  show kU (j + 1) _ env sz v ty (j + 1) 0 = _
  unfold kU
  rw [decide_eq_true (by rw [hks, List.length_cons]; omega), ht, hks]
  simp only [cond_true, show idx (x :: xs) 0 = some x from rfl, show idx [t] 0 = some t from rfl, Option.bind_some, show decide ((0 : Int) < 0) = false from rfl, cond_false]
  rw [h1]
  simp only [Option.bind_some, List.all_cons]
  have er := YV (hasB env sz t) xs x
  cases hasB env sz t x with
  | false => rfl
  | true =>
   simp only [Bool.not_true, cond_false, Option.bind_some, Bool.true_and]
   rw [← er]
   exact h2
theorem Qf (env : Env) (sz : List Int) (hl : sz.length = env.carriers.length) : ∀ {t : Ty}, Shp t → (bZ t).all (bU env) = true → ∀ v, dw v → Ev (fun n => lu n env sz v t) (hasB env sz t v) := by
 intro t h
 induction h with
 | int =>
  intro _ v _
  refine Ev.succ ?_
  show Ev (fun n => ig n _ env sz v (.mk 1 [] [])) _
  unfold ig
  refine Ev.pos rfl ?_
  refine Ev.bind (a := Li v) ?_ (Ev.ret _)
  unfold Li
  cases v.kind == 1 <;> cases decide ((-1000000000) ≤ v.n) <;> cases decide (v.n ≤ 1000000000) <;> cases v.name == [] <;> cases (v.kids.length : Int) == 0 <;> exact Ev.ret _
 | bool =>
  intro _ v _
  refine Ev.succ ?_
  show Ev (fun n => ig n _ env sz v (.mk 2 [] [])) _
  unfold ig
  refine Ev.neg rfl ?_
  refine Ev.pos rfl ?_
  refine Ev.bind (a := Mg v) ?_ (Ev.ret _)
  unfold Mg
  cases v.kind == 2 <;> cases v.n == 0 <;> cases v.n == 1 <;> cases v.name == [] <;> cases (v.kids.length : Int) == 0 <;> exact Ev.ret _
 | car nm =>
  intro hc v _
  have hc : bU env nm = true := by simpa [bZ] using hc
  obtain ⟨g1, g2⟩ := Zx hl hc
  refine Ev.succ ?_
  show Ev (fun n => ig n _ env sz v (.mk 3 nm [])) _
  unfold ig
  refine Ev.neg rfl ?_
  refine Ev.neg rfl ?_
  refine Ev.pos rfl ?_
  refine Ev.bind (a := KU env sz nm v) ?_ (Ev.ret _)
  simp only [Ty.name]
  unfold KU
  cases v.kind == 3 with
  | false => exact Ev.ret _
  | true =>
   cases v.name == nm with
   | false => exact Ev.ret _
   | true =>
    cases (v.kids.length : Int) == 0 with
    | false => exact Ev.ret _
    | true =>
     cases decide (0 ≤ v.n) with
     | false => exact Ev.ret _
     | true =>
      simp only [cond_true, Bool.true_and]
      refine Ev.bind (qR env nm) ?_
      rw [g2]
      exact Ev.ret _
 | @pair a b ha hb iha ihb =>
  intro hc v hv
  simp only [bZ, iL, List.append_nil, show ((4 : Int) == 3) = false from rfl, cond_false, List.all_append, Bool.and_eq_true] at hc
  refine Ev.succ ?_
  show Ev (fun n => ig n _ env sz v (.mk 4 [] [a, b])) _
  unfold ig
  refine Ev.neg rfl ?_
  refine Ev.neg rfl ?_
  refine Ev.neg rfl ?_
  refine Ev.pos rfl ?_
  refine Ev.bind (a := hasB env sz (.mk 4 [] [a, b]) v) ?_ (Ev.ret _)
  simp only [hasB, show ((4 : Int) == 1) = false from rfl, show ((4 : Int) == 2) = false from rfl, show ((4 : Int) == 3) = false from rfl, show ((4 : Int) == 4) = true from rfl, cond_false, cond_true, Ty.kids]
  cases v.kind == 4 with
  | false => exact Ev.ret _
  | true =>
   cases v.n == 0 with
   | false => exact Ev.ret _
   | true =>
    cases v.name == [] with
    | false => exact Ev.ret _
    | true =>
     cases h2 : (v.kids.length : Int) == 2 with
     | false => exact Ev.ret _
     | true =>
      simp only [cond_true, Bool.true_and]
      have hv := hv.kids.2
      obtain ⟨k, n, s, ks⟩ := v
      simp only [Val.kids, beq_iff_eq] at h2 hv
      match ks, h2, hv with
      | [x, y], _, hv =>
       simp only [Val.kids, show idx [x, y] 0 = some x from rfl, show idx [x, y] 1 = some y from rfl, show idx [a, b] 0 = some a from rfl, show idx [a, b] 1 = some b from rfl, Option.bind_some, FC]
       refine Ev.bind (iha hc.1 x (hv x (by simp))) ?_
       cases hasB env sz a x with
       | false => exact Ev.ret _
       | true =>
        simp only [cond_true, Bool.true_and, Bool.and_true]
        exact Ev.bind (ihb hc.2 y (hv y (by simp))) (Ev.ret _)
 | @set a ha iha =>
  intro hc v hv
  simp only [bZ, iL, List.append_nil, show ((5 : Int) == 3) = false from rfl, cond_false] at hc
  have H := iha hc
  refine Ev.succ ?_
  show Ev (fun n => ig n _ env sz v (.mk 5 [] [a])) _
  unfold ig
  refine Ev.neg rfl ?_
  refine Ev.neg rfl ?_
  refine Ev.neg rfl ?_
  refine Ev.neg rfl ?_
  simp only [hasB, show ((5 : Int) == 1) = false from rfl, show ((5 : Int) == 2) = false from rfl, show ((5 : Int) == 3) = false from rfl, show ((5 : Int) == 4) = false from rfl, cond_false]
  have e1 : (v.kind != 5) = !(v.kind == 5) := rfl
  have e2 : (v.n != 0) = !(v.n == 0) := rfl
  rw [e1, e2]
  cases v.kind == 5 with
  | false => refine Ev.bind (a := true) (Ev.ret _) ?_; exact Ev.ret _
  | true =>
   cases v.n == 0 with
   | false => refine Ev.bind (a := true) (Ev.ret _) ?_; exact Ev.ret _
   | true =>
    cases v.name == [] with
    | false => refine Ev.bind (a := true) (Ev.ret _) ?_; exact Ev.ret _
    | true =>
     cases decide (256 < (v.kids.length : Int)) with
     | true => refine Ev.bind (a := true) (Ev.ret _) ?_; exact Ev.ret _
     | false =>
      refine Ev.bind (a := false) (Ev.ret _) ?_
      simp only [Bool.not_false, cond_false, Bool.true_and, Wo]
      refine Ev.bind (afK env sz (.mk 5 [] [a]) a v rfl H hv.kids.2) ?_
      cases ((v.kids.all fun u => hasB env sz a u) && zZ v.kids) <;> exact Ev.ret _
theorem vN {env : Env} (h : bn env = true) : ∀ d ∈ env.names, eO d.ty = true ∧ (bZ d.ty).all (bU env) = true := by
 intro d hd
 simp only [bn, Bool.and_eq_true] at h
 have := List.all_eq_true.1 h.2.2.1 d hd
 simp only [uK, Bool.and_eq_true] at this
 exact ⟨this.2.1.1, this.2.2⟩
def lZ (w : S_api_World) : Bool := (bn w.env && (jy w.env w.sizes && !((w.values.length : Int) != (w.env.names.length : Int)))) && !((w.env.names.zip w.values).any fun q => !(hasB w.env w.sizes q.1.ty q.2))
theorem Y9 {α β : Type} (f : α → β → Bool) : ∀ (l : List α) (m : List β), (l.zip m).any (fun q => f q.1 q.2) = (m.zip l).any fun q => f q.2 q.1
 | [], m => by cases m <;> rfl
 | a :: l, [] => rfl
 | a :: l, b :: m => by
  simp only [List.zip_cons_cons, List.any_cons, Y9 f l m]
theorem vY (w : S_api_World) (hs : ∀ d ∈ w.env.names, d.name.length ≤ 9223372036854775807) : Ev (fun n => je n w) (lZ w) := by
 unfold je lZ
 refine Ev.bind (a := !(bn w.env && (jy w.env w.sizes && !((w.values.length : Int) != (w.env.names.length : Int))))) ?_ ?_
 ·refine Ev.bind (fI w.env hs) ?_
  cases bn w.env with
  | false => exact Ev.ret _
  | true =>
   refine Ev.bind (Dr w.env w.sizes) ?_
   cases jy w.env w.sizes with
   | false => exact Ev.ret _
   | true =>
    simp only [Bool.not_true, cond_false, Bool.true_and, Bool.not_not]
    exact Ev.ret _
 ·cases hb : (bn w.env && (jy w.env w.sizes && !((w.values.length : Int) != (w.env.names.length : Int)))) with
  | false => exact Ev.ret _
  | true =>
   simp only [Bool.and_eq_true, Bool.not_eq_true', bne_eq_false_iff_eq] at hb
   obtain ⟨h1, h2, h3⟩ := hb
   simp only [Bool.not_true, cond_false, Bool.true_and]
   have hd := vN h1
   refine Ev.bind (zM w.env.names w.values (by omega) (fun n k i => l8 n w k i) (fun n d v => (fB n w.env w.sizes v d.ty).bind fun b => some (!b)) (fun d v => !(hasB w.env w.sizes d.ty v)) false (fun n k i => by
    show cond _ _ _ = _
    simp only [Option.bind_assoc, Option.bind_some]) (fun d hm v => Ev.bind (WT w.env w.sizes (pF h2) (nJ (hd d hm).1) (hd d hm).2 v) (Ev.ret _))) ?_
   cases ((w.env.names.zip w.values).any fun q => !(hasB w.env w.sizes q.1.ty q.2)) <;> exact Ev.ret _
theorem qx (w : S_api_World) (hv : ∀ v ∈ w.values, dw v) : Ev (fun n => fV n w) (lZ w) := by
 unfold fV lZ
 refine Ev.bind (a := !(bn w.env && (jy w.env w.sizes && !((w.values.length : Int) != (w.env.names.length : Int))))) ?_ ?_
 ·refine Ev.bind (jM w.env) ?_
  cases bn w.env with
  | false => exact Ev.ret _
  | true =>
   refine Ev.bind (Pv w.env w.sizes) ?_
   cases jy w.env w.sizes with
   | false => exact Ev.ret _
   | true =>
    simp only [Bool.not_true, cond_false, Bool.true_and, Bool.not_not]
    exact Ev.ret _
 ·cases hb : (bn w.env && (jy w.env w.sizes && !((w.values.length : Int) != (w.env.names.length : Int)))) with
  | false => exact Ev.ret _
  | true =>
   simp only [Bool.and_eq_true, Bool.not_eq_true', bne_eq_false_iff_eq] at hb
   obtain ⟨h1, h2, h3⟩ := hb
   simp only [Bool.not_true, cond_false, Bool.true_and]
   have hd := vN h1
   have hloop := iE (w.values.zip w.env.names) (fun n k i => lJ n w k i) (fun n q => (lu n w.env w.sizes q.1 q.2.ty).bind fun b => some (!b)) (fun q => !(hasB w.env w.sizes q.2.ty q.1)) false (fun n k i => by
    show cond _ _ _ = _
    rw [← Zv w.values w.env.names i fun x y => ((lu n w.env w.sizes x y.ty).bind fun b => some (!b)).bind fun b => cond b (some (.rt false)) (lJ n w k (i + 1))]
    rw [List.length_zip, show min w.values.length w.env.names.length = w.values.length by omega]
    simp only [Option.bind_assoc, Option.bind_some]) (fun q hq => Ev.bind (Qf w.env w.sizes (pF h2) (nJ (hd q.2 (List.of_mem_zip hq).2).1) (hd q.2 (List.of_mem_zip hq).2).2 q.1 (hv q.1 (List.of_mem_zip hq).1)) (Ev.ret _))
   rw [Y9 (fun (d : Decl) v => !(hasB w.env w.sizes d.ty v))]
   refine Ev.bind hloop ?_
   cases ((w.values.zip w.env.names).any fun q => !(hasB w.env w.sizes q.2.ty q.1)) <;> exact Ev.ret _
theorem nU (a : Val) : Ev (fun n => dn n a a) true := by
 have := xg a a
 rwa [(kT a a).2 rfl] at this
theorem q9 : Ev (fun n => (kH n).bind fun x => some x) true := Ev.bind (a := true) (Ev.ret _) (Ev.ret _)
theorem PE {α ρ : Type} (l : List α) (L : Nat → Nat → List α × Int → Option (LR (List α) ρ)) (step : Nat → α → Option α)
  (hL : ∀ n k s i, L n (k + 1) (s, i) = cond (decide (i < (l.length : Int))) ((idx s i).bind fun x => (step n x).bind fun y => L n k (upd s i y, i + 1)) (some (.nx s)))
  (hs : ∀ x ∈ l, Ev (fun n => step n x) x) : Ev (fun n => L n n (l, 0)) (.nx l) := by
 have key : ∀ (suf pre : List α), l = pre ++ suf → ∃ N, ∀ n, N ≤ n → ∀ k, suf.length + 1 ≤ k → L n k (pre ++ suf, (pre.length : Int)) = some (.nx (pre ++ suf)) := by
  intro suf
  induction suf with
  | nil =>
   intro pre hp
   refine ⟨0, fun n _ k hk => ?_⟩
   obtain ⟨j, rfl⟩ : ∃ j, k = j + 1 := ⟨k - 1, by simp at hk; omega⟩
   rw [hL, decide_eq_false (by rw [hp]; simp)]
   rfl
  | cons a suf ih =>
   intro pre hp
   obtain ⟨N1, h1⟩ := hs a (by rw [hp]; simp)
   obtain ⟨N2, h2⟩ := ih (pre ++ [a]) (by rw [hp]; simp)
   refine ⟨N1 + N2, fun n hn k hk => ?_⟩
   obtain ⟨j, rfl⟩ : ∃ j, k = j + 1 := ⟨k - 1, by simp at hk; omega⟩
   have h1 : step n a = _ := h1 n (by omega)
   have h2 := h2 n (by omega) j (by simp at hk; omega)
   rw [hL, decide_eq_true (by rw [hp]; simp; omega)]
   simp only [cond_true, gM, Option.bind_some, h1]
   have e : upd (pre ++ a :: suf) (pre.length : Int) a = pre ++ a :: suf := by
    unfold upd
    rw [Int.toNat_natCast, QO]
   rw [e, show (pre.length : Int) + 1 = ((pre ++ [a]).length : Int) by simp]
   simpa using h2
 obtain ⟨N, h⟩ := key l [] rfl
 exact ⟨N + l.length + 1, fun n hn => h n (by omega) n (by omega)⟩
theorem Vv : ∀ t : Ty, Aj t = true → Ev (fun n => gV n t) t := Ty.ind fun k nm ks ih hok => by
 refine Ev.succ ?_
 show Ev (fun n => mg n (fun p0 => gV n p0) (.mk k nm ks)) _
 unfold mg vv wu
 simp only [Aj, Bool.and_eq_true, decide_eq_true_eq] at hok
 simp only [Ty.kind, Ty.name, Ty.kids]
 rw [fu (by simp only [List.length_nil]; omega) (by omega)]
 refine Ev.bind (Ev.ret _) (Ev.bind (Ev.ret _) ?_)
 have h := PE ks (fun n k' s => oF n (fun p0 => gV n p0) (.mk k nm ks) k' s) (fun n x => gV n x)
  (fun n k' s i => by
   show cond _ _ _ = _
   congr 1
   show (idx s i).bind _ = _
   cases idx s i with
   | none => rfl
   | some x => simp only [Option.bind_some])
  (fun x hx => ih x hx (yK hok.2 x hx))
 exact Ev.bind h (Ev.ret _)
theorem XD {env : Env} (h : bn env = true) : Ev (fun n => uj n env) env := by
 obtain ⟨hc8, hn64, _, _, _⟩ := cB h
 unfold uj rF sM uY wB
 rw [fu (by simp only [List.length_nil]; omega) (by omega), fu (by simp only [List.length_nil]; omega) (by omega)]
 refine Ev.bind (Ev.ret _) (Ev.bind (Ev.ret _) (Ev.bind (Ev.ret _) (Ev.bind (Ev.ret _) ?_)))
 have h1 := PE env.carriers (fun n k s => oQ n env k s) (fun n x => (slices_Clone_string n x.elems).bind fun x9 => (kL n x9).bind fun x10 => some (Carrier.mk x.name x10))
  (fun n k s i => by
   show cond _ _ _ = _
   congr 1
   show (idx s i).bind _ = _
   cases idx s i with
   | none => rfl
   | some x => simp only [Option.bind_some, Option.bind_assoc])
  (fun x hx => by
   have hx8 := (uw h hx).2.1
   unfold slices_Clone_string kL
   rw [fu (by simp only [List.length_nil]; omega) (by omega)]
   refine Ev.bind (Ev.ret _) ?_
   simp only [List.nil_append]
   rw [Nat.ble_eq_true_of_le (by omega)]
   exact Ev.ret _)
 have h2 := PE env.names (fun n k s => pG n env k s) (fun n x => (gV n x.ty).bind fun x6 => some (Decl.mk x.name x6))
  (fun n k s i => by
   show cond _ _ _ = _
   congr 1
   show (idx s i).bind _ = _
   cases idx s i with
   | none => rfl
   | some x => simp only [Option.bind_some, Option.bind_assoc])
  (fun x hx => Ev.bind (Vv x.ty (tY (Av h hx).2.1).1) (Ev.ret _))
 exact Ev.bind h1 (Ev.bind h2 (Ev.ret _))
theorem EP {v : Val} (h : v.kids.length = 0) : dS v := by
 obtain ⟨k, n, s, ks⟩ := v
 have : ks = [] := List.length_eq_zero_iff.1 h
 subst this
 simp [dS, vP]
theorem Nl : ∀ {vs : List Val}, (∀ v ∈ vs, dS v) → vP vs
 | [], _ => trivial
 | v :: vs, h => by
  simp only [vP]
  exact ⟨h v (by simp), Nl fun u hu => h u (by simp [hu])⟩
theorem Gz {env : Env} {sz : List Int} {t : Ty} (h : Shp t) : ∀ v, hasB env sz t v = true → dS v := by
 induction h with
 | int =>
  intro v hv
  have hv : Li v = true := hv
  simp only [Li, Bool.and_eq_true, beq_iff_eq] at hv
  exact EP (by omega)
 | bool =>
  intro v hv
  have hv : Mg v = true := hv
  simp only [Mg, Bool.and_eq_true, beq_iff_eq] at hv
  exact EP (by omega)
 | car nm =>
  intro v hv
  have hv : KU env sz nm v = true := hv
  simp only [KU, Bool.and_eq_true, beq_iff_eq] at hv
  exact EP (by omega)
 | @pair a b _ _ iha ihb =>
  intro v hv
  have hv : (v.kind == 4 && (v.n == 0 && (v.name == [] && ((v.kids.length : Int) == 2 && FC env sz [a, b] v.kids)))) = true := by rw [hasB] at hv; exact hv
  simp only [Bool.and_eq_true, beq_iff_eq] at hv
  obtain ⟨_, _, _, hl, hz⟩ := hv
  obtain ⟨k, n, s, ks⟩ := v
  simp only [Val.kids] at hl hz
  match ks, hl with
  | [x, y], _ =>
   simp only [FC, Bool.and_eq_true] at hz
   simp only [dS, vP]
   exact ⟨by simp, iha x hz.1, ihb y hz.2.1, trivial⟩
 | @set a _ iha =>
  intro v hv
  have hv : ((v.kind == 5 && (v.n == 0 && (v.name == [] && !(decide (256 < (v.kids.length : Int)))))) && (Wo env sz [a] v.kids && zZ v.kids)) = true := by rw [hasB] at hv; exact hv
  simp only [Bool.and_eq_true, beq_iff_eq, Bool.not_eq_true', decide_eq_false_iff_not, Wo, List.all_eq_true] at hv
  obtain ⟨⟨_, _, _, hl⟩, hz, _⟩ := hv
  obtain ⟨k, n, s, ks⟩ := v
  simp only [Val.kids] at hl hz
  simp only [dS]
  exact ⟨by omega, Nl fun u hu => iha u (hz u hu)⟩
theorem pR (w : S_api_World) : lZ w = true ↔ bn w.env = true ∧ jy w.env w.sizes = true ∧ w.values.length = w.env.names.length ∧ ∀ (j : Nat) (d : Decl) (v : Val), w.env.names[j]? = some d → w.values[j]? = some v → hasB w.env w.sizes d.ty v = true := by
 unfold lZ
 simp only [Bool.and_eq_true, Bool.not_eq_true', bne_eq_false_iff_eq, List.any_eq_false, Bool.not_eq_false']
 constructor
 ·rintro ⟨⟨h1, h2, h3⟩, h4⟩
  refine ⟨h1, h2, by omega, fun j d v hd hv => ?_⟩
  have := h4 (d, v) (List.mem_iff_getElem?.2 ⟨j, List.getElem?_zip_eq_some.2 ⟨hd, hv⟩⟩)
  simpa using this
 ·rintro ⟨h1, h2, h3, h4⟩
  refine ⟨⟨h1, h2, by omega⟩, fun q hq => ?_⟩
  obtain ⟨j, hj⟩ := List.mem_iff_getElem?.1 hq
  have hj := List.getElem?_zip_eq_some.1 hj
  have := h4 j q.1 q.2 hj.1 hj.2
  simpa using this
theorem wJ {w : S_api_World} (h : lZ w = true) : ∀ v ∈ w.values, dS v := by
 obtain ⟨h1, h2, h3, h4⟩ := (pR w).1 h
 intro v hv
 obtain ⟨j, hj⟩ := List.mem_iff_getElem?.1 hv
 have hlt : j < w.env.names.length := by
  have := (List.getElem?_eq_some_iff.1 hj).1
  omega
 have hd : w.env.names[j]? = some w.env.names[j] := List.getElem?_eq_getElem hlt
 exact Gz (nJ (vN h1 _ (List.getElem_mem hlt)).1) v (h4 j _ v hd hj)
theorem GJ {w : S_api_World} (h : lZ w = true) : Ev (fun n => lQ n w) (w.env.carriers, w.env.names, w.sizes, w.values) := by
 have hf := wJ h
 obtain ⟨h1, h2, h3, h4⟩ := (pR w).1 h
 obtain ⟨hc8, hn64, _, _, _⟩ := cB h1
 have hsz := pF h2
 unfold lQ slices_Clone_int p9 mV
 refine Ev.bind (XD h1) ?_
 rw [fu (by simp only [List.length_nil]; omega) (by omega)]
 refine Ev.bind (Ev.ret _) ?_
 simp only [List.nil_append]
 rw [Nat.ble_eq_true_of_le (by omega)]
 refine Ev.bind (Ev.ret _) ?_
 have hl := gQ (ρ := (List Carrier) × (List Decl) × (List Int) × (List Val)) w.values (fun n k i s => lg n w k (i, s)) (fun n x s => (gG n x).bind fun x6 => app 56 s [x6]) (fun x s => s ++ [x]) (fun s => s) (fun suf s => s.length + suf.length ≤ 64)
  (fun n k i s => by
   show cond _ _ _ = _
   congr 1
   show (idx w.values i).bind _ = _
   congr 1
   funext x
   simp only [Option.bind_assoc])
  (fun x suf s hx hs => by
   simp only [List.length_cons] at hs
   refine ⟨Ev.bind (Cy x (hf x hx)) ?_, ?_⟩
   ·rw [fu (by simp only [List.length_singleton]; omega) (by omega)]; exact Ev.ret _
   ·simp only [List.length_append, List.length_singleton]; omega) (s0 := ([] : List Val)) (by simp only [List.length_nil]; omega)
 rw [nG, List.nil_append] at hl
 exact Ev.bind hl (Ev.bind (Ev.ret _) (Ev.ret _))
theorem FV {w : S_api_World} (h : lZ w = true) : Ev (fun n => nS n w) (w.env.carriers, w.env.names, w.sizes, w.values) := by
 have hf := wJ h
 obtain ⟨h1, h2, h3, h4⟩ := (pR w).1 h
 obtain ⟨hc8, hn64, _, _, _⟩ := cB h1
 have hsz := pF h2
 unfold nS zi
 refine Ev.bind (Ao h1) ?_
 rw [fu (by simp only [List.length_nil]; omega) (by omega)]
 refine Ev.bind (Ev.ret _) ?_
 have hl := gQ (ρ := List Val) w.values (fun n k i s => qG n w.values k (s, i)) (fun n x s => (kM n x).bind fun x6 => app 56 s [x6]) (fun x s => s ++ [x]) (fun s => s) (fun suf s => s.length + suf.length ≤ 64)
  (fun n k i s => by
   show cond _ _ _ = _
   congr 1
   show (idx w.values i).bind _ = _
   congr 1
   funext x
   simp only [Option.bind_assoc])
  (fun x suf s hx hs => by
   simp only [List.length_cons] at hs
   refine ⟨Ev.bind (Jw x (hf x hx)) ?_, ?_⟩
   ·rw [fu (by simp only [List.length_singleton]; omega) (by omega)]; exact Ev.ret _
   ·simp only [List.length_append, List.length_singleton]; omega) (s0 := ([] : List Val)) (by simp only [List.length_nil]; omega)
 rw [nG, List.nil_append] at hl
 exact Ev.bind (Ev.bind hl (Ev.ret _)) (Ev.ret _)
theorem EY {α : Type} {l : List α} {i : Int} {x : α} (h : idx l i = some x) : 0 ≤ i ∧ l[i.toNat]? = some x := by
 unfold idx at h
 split at h
 ·exact ⟨by assumption, h⟩
 ·cases h
def Lr : S_api_World := .mk (Env.mk [] []) [] []
theorem YF (l : List Int) : Ev (fun n => vQ n l l) true := by
 unfold vQ
 simp only [oZ, cond_false]
 have h1 := iE l (fun n k i => qw n l l k i) (fun _ _ => some false) (fun _ => false) false
  (fun n k i => by
   show cond _ _ _ = _
   congr 1
   cases hx : idx l i with
   | none => rfl
   | some x => simp only [Option.bind_some, oZ, cond_false])
  (fun x _ => Ev.ret _)
 rw [Ey] at h1
 exact Ev.bind h1 (Ev.ret _)
theorem BA (w : S_api_World) : Ev (fun n => oD n w w) true := by
 unfold oD
 refine Ev.bind (a := true) ?_ (Ev.ret _)
 refine Ev.bind (Fp w.env) ?_
 refine Ev.bind (YF w.sizes) ?_
 have h := zf w.values w.values fun a _ b => xg a b
 rw [(AL w.values w.values).2 rfl] at h
 exact Ev.bind h (Ev.ret _)
end Abs
end Go.Proofs.YtkopaeklihhdlaaGreat

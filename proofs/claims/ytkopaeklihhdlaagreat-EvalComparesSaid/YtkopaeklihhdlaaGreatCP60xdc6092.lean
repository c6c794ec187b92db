/-
  The order of values is one: laws of cmpV. Conditions: none; lemmas without a program.
-/
import Derived.Test.YtkopaeklihhdlaaGreatCP1x6ee8e9
set_option linter.unusedSimpArgs false
set_option linter.unusedVariables false
namespace Go.Proofs.YtkopaeklihhdlaaGreat
namespace Abs
open Go
theorem UA (a b : Int) : iA a b < 0 ↔ a < b := by
 unfold iA
 by_cases h : a < b
 ·simp [h]
 ·by_cases h2 : b < a <;> simp [h, h2]
theorem uj (a b : Int) : iA a b = 0 ↔ a = b := by
 unfold iA
 by_cases h : a < b
 ·simp [h]; omega
 ·by_cases h2 : b < a
  ·simp [h, h2]; omega
  ·simp [h, h2]; omega
theorem M8 (a b : Int) : iA b a = - iA a b := by
 unfold iA
 by_cases h : a < b
 ·have : ¬ b < a := by omega
  simp [h, this]
 ·by_cases h2 : b < a <;> simp [h, h2]
theorem FQ : ∀ (s t : List UInt8), Lib.compareBytes s t = 0 ↔ s = t
 | [], [] => by simp [Lib.compareBytes]
 | [], _ :: _ => by simp [Lib.compareBytes]
 | _ :: _, [] => by simp [Lib.compareBytes]
 | a :: s, b :: t => by
  have ih := FQ s t
  unfold Lib.compareBytes
  by_cases h1 : a < b
  ·simp only [h1, if_true]
   constructor
   ·intro h; cases h
   ·intro h; cases h; exact absurd h1 (by simp)
  ·by_cases h2 : b < a
   ·simp only [h1, h2, if_false, if_true]
    constructor
    ·intro h; cases h
    ·intro h; cases h; exact absurd h2 (by simp)
   ·simp only [h1, h2, if_false]
    have : a = b := UInt8.le_antisymm (by simpa using h2) (by simpa using h1)
    subst this
    rw [ih]; simp
theorem Uy : ∀ (s t : List UInt8), Lib.compareBytes t s = - Lib.compareBytes s t
 | [], [] => by simp [Lib.compareBytes]
 | [], _ :: _ => by simp [Lib.compareBytes]
 | _ :: _, [] => by simp [Lib.compareBytes]
 | a :: s, b :: t => by
  have ih := Uy s t
  unfold Lib.compareBytes
  by_cases h1 : a < b
  ·have : ¬ b < a := fun h => absurd (UInt8.lt_trans h1 h) (by simp)
   simp [h1, this]
  ·by_cases h2 : b < a
   ·simp [h1, h2]
   ·simp [h1, h2, ih]
theorem Zg : ∀ (s t u : List UInt8), Lib.compareBytes s t < 0 → Lib.compareBytes t u < 0 → Lib.compareBytes s u < 0
 | [], [], _, h, _ => by simp [Lib.compareBytes] at h
 | _ :: _, [], _, h, _ => by simp [Lib.compareBytes] at h
 | [], _ :: _, [], _, h => by simp [Lib.compareBytes] at h
 | [], _ :: _, _ :: _, _, _ => by simp [Lib.compareBytes]
 | _ :: _, _ :: _, [], _, h => by simp [Lib.compareBytes] at h
 | a :: s, b :: t, c :: u, h1, h2 => by
  have ih := Zg s t u
  unfold Lib.compareBytes at h1 h2 ⊢
  by_cases ab : a < b
  ·by_cases bc : b < c
   ·simp [UInt8.lt_trans ab bc]
   ·by_cases cb : c < b
    ·simp [bc, cb] at h2
    ·have : b = c := UInt8.le_antisymm (by simpa using cb) (by simpa using bc)
     subst this; simp [ab]
  ·by_cases ba : b < a
   ·simp [ab, ba] at h1
   ·have : a = b := UInt8.le_antisymm (by simpa using ba) (by simpa using ab)
    subst this
    simp only [ab, if_false] at h1
    by_cases ac : a < c
    ·simp [ac]
    ·by_cases ca : c < a
     ·simp [ac, ca] at h2
     ·simp only [ac, ca, if_false] at h2 ⊢
      exact ih h1 h2
def lex (x y : Int) : Int := cond (x != 0) x y
theorem FH (x y : Int) : lex x y < 0 ↔ x < 0 ∨ x = 0 ∧ y < 0 := by
 unfold lex
 by_cases h : x = 0
 ·subst h; simp
 ·have : (x != 0) = true := by simp [h]
  rw [this]; simp [h]
theorem yP (x y : Int) : lex x y = 0 ↔ x = 0 ∧ y = 0 := by
 unfold lex
 by_cases h : x = 0
 ·subst h; simp
 ·have : (x != 0) = true := by simp [h]
  rw [this]; simp [h]
theorem Ca (x y : Int) : lex (-x) (-y) = - lex x y := by
 unfold lex
 by_cases h : x = 0
 ·subst h; simp
 ·have h1 : (x != 0) = true := by simp [h]
  have h2 : (-x != 0) = true := by simp; omega
  rw [h1, h2]; simp
theorem yh (k n : Int) (s : Str) (ks : List Val) (k' n' : Int) (s' : Str) (ks' : List Val) : bR (.mk k n s ks) (.mk k' n' s' ks') = lex (iA k k') (lex (iA n n') (lex (Lib.compareBytes s s') (dD ks ks'))) := by
 unfold bR lex; rfl
theorem rE (a b : Val) (asx bs : List Val) : dD (a :: asx) (b :: bs) = lex (bR a b) (dD asx bs) := by
 simp only [dD, lex]
mutual
theorem j4 : ∀ (a b : Val), bR a b = 0 ↔ a = b
 | .mk k n s ks, .mk k' n' s' ks' => by
  rw [yh, yP, yP, yP, uj, uj, FQ, Cb ks ks']
  simp
theorem Cb : ∀ (asx bs : List Val), dD asx bs = 0 ↔ asx = bs
 | [], [] => by simp [dD]
 | [], _ :: _ => by simp [dD]
 | _ :: _, [] => by simp [dD]
 | a :: asx, b :: bs => by
  rw [rE, yP, j4 a b, Cb asx bs]
  simp
end
mutual
theorem jZ : ∀ (a b : Val), bR b a = - bR a b
 | .mk k n s ks, .mk k' n' s' ks' => by
  rw [yh, yh, M8 k k', M8 n n', Uy s s', Jl ks ks', Ca, Ca, Ca]
theorem Jl : ∀ (asx bs : List Val), dD bs asx = - dD asx bs
 | [], [] => by simp [dD]
 | [], _ :: _ => by simp [dD]
 | _ :: _, [] => by simp [dD]
 | a :: asx, b :: bs => by
  rw [rE, rE, jZ a b, Jl asx bs, Ca]
end
mutual
theorem vX : ∀ (a b c : Val), bR a b < 0 → bR b c < 0 → bR a c < 0
 | .mk k n s ks, .mk k' n' s' ks', .mk k'' n'' s'' ks'', h1, h2 => by
  rw [yh, FH, FH, FH, UA, uj, UA, uj, FQ] at h1 h2 ⊢
  rcases h1 with h1 | ⟨rfl, h1⟩
  ·rcases h2 with h2 | ⟨rfl, h2⟩
   ·left; omega
   ·left; exact h1
  ·rcases h2 with h2 | ⟨rfl, h2⟩
   ·left; exact h2
   ·right
    refine ⟨rfl, ?_⟩
    rcases h1 with h1 | ⟨rfl, h1⟩
    ·rcases h2 with h2 | ⟨rfl, h2⟩
     ·left; omega
     ·left; exact h1
    ·rcases h2 with h2 | ⟨rfl, h2⟩
     ·left; exact h2
     ·right
      refine ⟨rfl, ?_⟩
      rcases h1 with h1 | ⟨rfl, h1⟩
      ·rcases h2 with h2 | ⟨rfl, h2⟩
       ·left; exact Zg _ _ _ h1 h2
       ·left; exact h1
      ·rcases h2 with h2 | ⟨rfl, h2⟩
       ·left; exact h2
       ·right; exact ⟨rfl, Ru ks ks' ks'' h1 h2⟩
theorem Ru : ∀ (asx bs cs : List Val), dD asx bs < 0 → dD bs cs < 0 → dD asx cs < 0
 | [], [], _, h, _ => by simp [dD] at h
 | _ :: _, [], _, h, _ => by simp [dD] at h
 | [], _ :: _, [], _, h => by simp [dD] at h
 | [], _ :: _, _ :: _, _, _ => by simp [dD]
 | _ :: _, _ :: _, [], _, h => by simp [dD] at h
 | a :: asx, b :: bs, c :: cs, h1, h2 => by
  rw [rE, FH, j4] at h1 h2 ⊢
  rcases h1 with h1 | ⟨rfl, h1⟩
  ·rcases h2 with h2 | ⟨rfl, h2⟩
   ·left; exact vX a b c h1 h2
   ·left; exact h1
  ·rcases h2 with h2 | ⟨rfl, h2⟩
   ·left; exact h2
   ·right; exact ⟨rfl, Ru asx bs cs h1 h2⟩
end
def zW (a b : Val) : Bool := decide (bR a b ≤ 0)
theorem M7 (a b c : Val) (h1 : zW a b = true) (h2 : zW b c = true) : zW a c = true := by
 simp only [zW, decide_eq_true_eq] at *
 rcases Int.lt_or_eq_of_le h1 with h1 | h1
 ·rcases Int.lt_or_eq_of_le h2 with h2 | h2
  ·exact Int.le_of_lt (vX a b c h1 h2)
  ·rw [(j4 b c).1 h2] at h1; exact Int.le_of_lt h1
 ·rw [(j4 a b).1 h1]; exact h2
def wJ (a b : Val) : Prop := bR a b < 0
theorem Kt (a : Val) : ¬ wJ a a := by
 have := (j4 a a).2 rfl
 unfold wJ; omega
theorem Wt {a b : Val} (h : wJ a b) : ¬ wJ b a := by
 unfold wJ at *
 rw [jZ a b]; omega
def yU (a : Val) : List Val → List Val
 | [] => [a]
 | b :: l => cond (decide (bR a b < 0)) (a :: b :: l) (cond (bR a b == 0) (b :: l) (b :: yU a l))
def sortV : List Val → List Val
 | [] => []
 | a :: l => yU a (sortV l)
theorem II (a : Val) : ∀ (l : List Val) (x : Val), x ∈ yU a l ↔ x = a ∨ x ∈ l
 | [], x => by simp [yU]
 | b :: l, x => by
  unfold yU
  by_cases h : bR a b < 0
  ·simp [h]
  ·by_cases h2 : bR a b = 0
   ·have := (j4 a b).1 h2
    subst this
    simp [h2]
   ·have e : (bR a b == 0) = false := by simp [h2]
    simp only [h, decide_false, cond_false, e, List.mem_cons, II a l x]
    constructor
    ·rintro (h | h | h)
     ·exact .inr (.inl h)
     ·exact .inl h
     ·exact .inr (.inr h)
    ·rintro (h | h | h)
     ·exact .inr (.inl h)
     ·exact .inl h
     ·exact .inr (.inr h)
theorem He (a : Val) : ∀ (l : List Val), l.Pairwise wJ → (yU a l).Pairwise wJ
 | [], _ => by simp [yU]
 | b :: l, h => by
  have h1 := List.pairwise_cons.1 h
  unfold yU
  by_cases hc : bR a b < 0
  ·simp only [hc, decide_true, cond_true]
   refine List.pairwise_cons.2 ⟨fun x hx => ?_, h⟩
   rcases List.mem_cons.1 hx with rfl | hx
   ·exact hc
   ·exact vX a b x hc (h1.1 x hx)
  ·by_cases h2 : bR a b = 0
   ·simp [h2]; exact List.pairwise_cons.1 h
   ·have e : (bR a b == 0) = false := by simp [h2]
    simp only [hc, decide_false, cond_false, e]
    refine List.pairwise_cons.2 ⟨fun x hx => ?_, He a l h1.2⟩
    rcases (II a l x).1 hx with rfl | hx
    ·show bR b x < 0
     rw [jZ x b]; omega
    ·exact h1.1 x hx
theorem nA : ∀ (l : List Val) (x : Val), x ∈ sortV l ↔ x ∈ l
 | [], x => by simp [sortV]
 | a :: l, x => by rw [sortV, II, nA l x]; simp
theorem oG : ∀ (l : List Val), (sortV l).Pairwise wJ
 | [] => by simp [sortV]
 | a :: l => He a _ (oG l)
theorem Db : ∀ (l m : List Val), l.Pairwise wJ → m.Pairwise wJ → (∀ x, x ∈ l ↔ x ∈ m) → l = m
 | [], [], _, _, _ => rfl
 | [], b :: m, _, _, h => by have := (h b).2 (by simp); cases this
 | a :: l, [], _, _, h => by have := (h a).1 (by simp); cases this
 | a :: l, b :: m, hl, hm, h => by
  have h1 := List.pairwise_cons.1 hl
  have h2 := List.pairwise_cons.1 hm
  have e : a = b := by
   rcases List.mem_cons.1 ((h a).1 (by simp)) with e | ha
   ·exact e
   ·rcases List.mem_cons.1 ((h b).2 (by simp)) with e | hb
    ·exact e.symm
    ·exact absurd (h1.1 b hb) (Wt (h2.1 a ha))
  subst e
  rw [Db l m h1.2 h2.2 fun x => ?_]
  constructor
  ·intro hx
   rcases List.mem_cons.1 ((h x).1 (by simp [hx])) with e | hx'
   ·exact absurd (e ▸ h1.1 x hx) (Kt a)
   ·exact hx'
  ·intro hx
   rcases List.mem_cons.1 ((h x).2 (by simp [hx])) with e | hx'
   ·exact absurd (e ▸ h2.1 x hx) (Kt a)
   ·exact hx'
theorem uO {l m : List Val} (hm : m.Pairwise wJ) (h : ∀ x, x ∈ m ↔ x ∈ l) : m = sortV l :=
 Db _ _ hm (oG l) fun x => by rw [h x, nA]
theorem qw (l : List Val) : (sortV l).length ≤ l.length := by
 have key : ∀ (a : Val) (l : List Val), (yU a l).length ≤ l.length + 1 := fun a l => by
  induction l with
  | nil => simp [yU]
  | cons b l ih =>
   unfold yU
   cases decide (bR a b < 0) <;> cases (bR a b == 0) <;> simp <;> omega
 induction l with
 | nil => simp [sortV]
 | cons a l ih => rw [sortV]; have := key a (sortV l); simp; omega
end Abs
end Go.Proofs.YtkopaeklihhdlaaGreat

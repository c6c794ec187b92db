/-
  The order of values is one: laws of cmpV. Conditions: none; lemmas without a program.
-/
import Derived.Test.YtkopaeklihhdlaaGreatCP1ox4118dd
set_option linter.unusedSimpArgs false
set_option linter.unusedVariables false
namespace Go.Proofs.YtkopaeklihhdlaaGreat
namespace Abs
open Go
theorem XG (a b : Int) : iL a b < 0 ↔ a < b := by
 unfold iL
 by_cases h : a < b
 ·simp [h]
 ·by_cases h2 : b < a <;> simp [h, h2]
theorem vE (a b : Int) : iL a b = 0 ↔ a = b := by
 unfold iL
 by_cases h : a < b
 ·simp [h]; omega
 ·by_cases h2 : b < a
  ·simp [h, h2]; omega
  ·simp [h, h2]; omega
theorem O8 (a b : Int) : iL b a = - iL a b := by
 unfold iL
 by_cases h : a < b
 ·have : ¬ b < a := by omega
  simp [h, this]
 ·by_cases h2 : b < a <;> simp [h, h2]
theorem Iz : ∀ (s t : List UInt8), Lib.compareBytes s t = 0 ↔ s = t
 | [], [] => by simp [Lib.compareBytes]
 | [], _ :: _ => by simp [Lib.compareBytes]
 | _ :: _, [] => by simp [Lib.compareBytes]
 | a :: s, b :: t => by
  have ih := Iz s t
  unfold Lib.compareBytes
  by_cases h1 : a < b
  ·simp only [h1, if_true]
   constructor
   ·intro h; cases h
   ·intro h; cases h; exact absurd h1 (by simp)
  ·by_cases h2 : b < a
   ·simp only [h1, h2, if_false, if_true]
    constructor
    ·intro h; cases h
    ·intro h; cases h; exact absurd h2 (by simp)
   ·simp only [h1, h2, if_false]
    have : a = b := UInt8.le_antisymm (by simpa using h2) (by simpa using h1)
    subst this
    rw [ih]; simp
theorem Xj : ∀ (s t : List UInt8), Lib.compareBytes t s = - Lib.compareBytes s t
 | [], [] => by simp [Lib.compareBytes]
 | [], _ :: _ => by simp [Lib.compareBytes]
 | _ :: _, [] => by simp [Lib.compareBytes]
 | a :: s, b :: t => by
  have ih := Xj s t
  unfold Lib.compareBytes
  by_cases h1 : a < b
  ·have : ¬ b < a := fun h => absurd (UInt8.lt_trans h1 h) (by simp)
   simp [h1, this]
  ·by_cases h2 : b < a
   ·simp [h1, h2]
   ·simp [h1, h2, ih]
theorem ab4 : ∀ (s t u : List UInt8), Lib.compareBytes s t < 0 → Lib.compareBytes t u < 0 → Lib.compareBytes s u < 0
 | [], [], _, h, _ => by simp [Lib.compareBytes] at h
 | _ :: _, [], _, h, _ => by simp [Lib.compareBytes] at h
 | [], _ :: _, [], _, h => by simp [Lib.compareBytes] at h
 | [], _ :: _, _ :: _, _, _ => by simp [Lib.compareBytes]
 | _ :: _, _ :: _, [], _, h => by simp [Lib.compareBytes] at h
 | a :: s, b :: t, c :: u, h1, h2 => by
  have ih := ab4 s t u
  unfold Lib.compareBytes at h1 h2 ⊢
  by_cases ab : a < b
  ·by_cases bc : b < c
   ·simp [UInt8.lt_trans ab bc]
   ·by_cases cb : c < b
    ·simp [bc, cb] at h2
    ·have : b = c := UInt8.le_antisymm (by simpa using cb) (by simpa using bc)
     subst this; simp [ab]
  ·by_cases ba : b < a
   ·simp [ab, ba] at h1
   ·have : a = b := UInt8.le_antisymm (by simpa using ba) (by simpa using ab)
    subst this
    simp only [ab, if_false] at h1
    by_cases ac : a < c
    ·simp [ac]
    ·by_cases ca : c < a
     ·simp [ac, ca] at h2
     ·simp only [ac, ca, if_false] at h2 ⊢
      exact ih h1 h2
def lex (x y : Int) : Int := cond (x != 0) x y
theorem Ir (x y : Int) : lex x y < 0 ↔ x < 0 ∨ x = 0 ∧ y < 0 := by
 unfold lex
 by_cases h : x = 0
 ·subst h; simp
 ·have : (x != 0) = true := by simp [h]
  rw [this]; simp [h]
theorem AO (x y : Int) : lex x y = 0 ↔ x = 0 ∧ y = 0 := by
 unfold lex
 by_cases h : x = 0
 ·subst h; simp
 ·have : (x != 0) = true := by simp [h]
  rw [this]; simp [h]
theorem Ej (x y : Int) : lex (-x) (-y) = - lex x y := by
 unfold lex
 by_cases h : x = 0
 ·subst h; simp
 ·have h1 : (x != 0) = true := by simp [h]
  have h2 : (-x != 0) = true := by simp; omega
  rw [h1, h2]; simp
theorem zN (k n : Int) (s : Str) (ks : List Val) (k' n' : Int) (s' : Str) (ks' : List Val) : bW (.mk k n s ks) (.mk k' n' s' ks') = lex (iL k k') (lex (iL n n') (lex (Lib.compareBytes s s') (dH ks ks'))) := by
 unfold bW lex; rfl
theorem tV (a b : Val) (asx bs : List Val) : dH (a :: asx) (b :: bs) = lex (bW a b) (dH asx bs) := by
 simp only [dH, lex]
mutual
theorem kF : ∀ (a b : Val), bW a b = 0 ↔ a = b
 | .mk k n s ks, .mk k' n' s' ks' => by
  rw [zN, AO, AO, AO, vE, vE, Iz, zC ks ks']
  simp
theorem zC : ∀ (asx bs : List Val), dH asx bs = 0 ↔ asx = bs
 | [], [] => by simp [dH]
 | [], _ :: _ => by simp [dH]
 | _ :: _, [] => by simp [dH]
 | a :: asx, b :: bs => by
  rw [tV, AO, kF a b, zC asx bs]
  simp
end
mutual
theorem kH : ∀ (a b : Val), bW b a = - bW a b
 | .mk k n s ks, .mk k' n' s' ks' => by
  rw [zN, zN, O8 k k', O8 n n', Xj s s', Mx ks ks', Ej, Ej, Ej]
theorem Mx : ∀ (asx bs : List Val), dH bs asx = - dH asx bs
 | [], [] => by simp [dH]
 | [], _ :: _ => by simp [dH]
 | _ :: _, [] => by simp [dH]
 | a :: asx, b :: bs => by
  rw [tV, tV, kH a b, Mx asx bs, Ej]
end
mutual
theorem xS : ∀ (a b c : Val), bW a b < 0 → bW b c < 0 → bW a c < 0
 | .mk k n s ks, .mk k' n' s' ks', .mk k'' n'' s'' ks'', h1, h2 => by
  rw [zN, Ir, Ir, Ir, XG, vE, XG, vE, Iz] at h1 h2 ⊢
  rcases h1 with h1 | ⟨rfl, h1⟩
  ·rcases h2 with h2 | ⟨rfl, h2⟩
   ·left; omega
   ·left; exact h1
  ·rcases h2 with h2 | ⟨rfl, h2⟩
   ·left; exact h2
   ·right
    refine ⟨rfl, ?_⟩
    rcases h1 with h1 | ⟨rfl, h1⟩
    ·rcases h2 with h2 | ⟨rfl, h2⟩
     ·left; omega
     ·left; exact h1
    ·rcases h2 with h2 | ⟨rfl, h2⟩
     ·left; exact h2
     ·right
      refine ⟨rfl, ?_⟩
      rcases h1 with h1 | ⟨rfl, h1⟩
      ·rcases h2 with h2 | ⟨rfl, h2⟩
       ·left; exact ab4 _ _ _ h1 h2
       ·left; exact h1
      ·rcases h2 with h2 | ⟨rfl, h2⟩
       ·left; exact h2
       ·right; exact ⟨rfl, TB ks ks' ks'' h1 h2⟩
theorem TB : ∀ (asx bs cs : List Val), dH asx bs < 0 → dH bs cs < 0 → dH asx cs < 0
 | [], [], _, h, _ => by simp [dH] at h
 | _ :: _, [], _, h, _ => by simp [dH] at h
 | [], _ :: _, [], _, h => by simp [dH] at h
 | [], _ :: _, _ :: _, _, _ => by simp [dH]
 | _ :: _, _ :: _, [], _, h => by simp [dH] at h
 | a :: asx, b :: bs, c :: cs, h1, h2 => by
  rw [tV, Ir, kF] at h1 h2 ⊢
  rcases h1 with h1 | ⟨rfl, h1⟩
  ·rcases h2 with h2 | ⟨rfl, h2⟩
   ·left; exact xS a b c h1 h2
   ·left; exact h1
  ·rcases h2 with h2 | ⟨rfl, h2⟩
   ·left; exact h2
   ·right; exact ⟨rfl, TB asx bs cs h1 h2⟩
end
def Bw (a b : Val) : Bool := decide (bW a b ≤ 0)
theorem P9 (a b c : Val) (h1 : Bw a b = true) (h2 : Bw b c = true) : Bw a c = true := by
 simp only [Bw, decide_eq_true_eq] at *
 rcases Int.lt_or_eq_of_le h1 with h1 | h1
 ·rcases Int.lt_or_eq_of_le h2 with h2 | h2
  ·exact Int.le_of_lt (xS a b c h1 h2)
  ·rw [(kF b c).1 h2] at h1; exact Int.le_of_lt h1
 ·rw [(kF a b).1 h1]; exact h2
def yL (a b : Val) : Prop := bW a b < 0
theorem Mh (a : Val) : ¬ yL a a := by
 have := (kF a a).2 rfl
 unfold yL; omega
theorem aat {a b : Val} (h : yL a b) : ¬ yL b a := by
 unfold yL at *
 rw [kH a b]; omega
def Ac (a : Val) : List Val → List Val
 | [] => [a]
 | b :: l => cond (decide (bW a b < 0)) (a :: b :: l) (cond (bW a b == 0) (b :: l) (b :: Ac a l))
def sortV : List Val → List Val
 | [] => []
 | a :: l => Ac a (sortV l)
theorem KU (a : Val) : ∀ (l : List Val) (x : Val), x ∈ Ac a l ↔ x = a ∨ x ∈ l
 | [], x => by simp [Ac]
 | b :: l, x => by
  unfold Ac
  by_cases h : bW a b < 0
  ·simp [h]
  ·by_cases h2 : bW a b = 0
   ·have := (kF a b).1 h2
    subst this
    simp [h2]
   ·have e : (bW a b == 0) = false := by simp [h2]
    simp only [h, decide_false, cond_false, e, List.mem_cons, KU a l x]
    constructor
    ·rintro (h | h | h)
     ·exact .inr (.inl h)
     ·exact .inl h
     ·exact .inr (.inr h)
    ·rintro (h | h | h)
     ·exact .inr (.inl h)
     ·exact .inl h
     ·exact .inr (.inr h)
theorem Ju (a : Val) : ∀ (l : List Val), l.Pairwise yL → (Ac a l).Pairwise yL
 | [], _ => by simp [Ac]
 | b :: l, h => by
  have h1 := List.pairwise_cons.1 h
  unfold Ac
  by_cases hc : bW a b < 0
  ·simp only [hc, decide_true, cond_true]
   refine List.pairwise_cons.2 ⟨fun x hx => ?_, h⟩
   rcases List.mem_cons.1 hx with rfl | hx
   ·exact hc
   ·exact xS a b x hc (h1.1 x hx)
  ·by_cases h2 : bW a b = 0
   ·simp [h2]; exact List.pairwise_cons.1 h
   ·have e : (bW a b == 0) = false := by simp [h2]
    simp only [hc, decide_false, cond_false, e]
    refine List.pairwise_cons.2 ⟨fun x hx => ?_, Ju a l h1.2⟩
    rcases (KU a l x).1 hx with rfl | hx
    ·show bW b x < 0
     rw [kH x b]; omega
    ·exact h1.1 x hx
theorem ow : ∀ (l : List Val) (x : Val), x ∈ sortV l ↔ x ∈ l
 | [], x => by simp [sortV]
 | a :: l, x => by rw [sortV, KU, ow l x]; simp
theorem pJ : ∀ (l : List Val), (sortV l).Pairwise yL
 | [] => by simp [sortV]
 | a :: l => Ju a _ (pJ l)
theorem ES : ∀ (l m : List Val), l.Pairwise yL → m.Pairwise yL → (∀ x, x ∈ l ↔ x ∈ m) → l = m
 | [], [], _, _, _ => rfl
 | [], b :: m, _, _, h => by have := (h b).2 (by simp); cases this
 | a :: l, [], _, _, h => by have := (h a).1 (by simp); cases this
 | a :: l, b :: m, hl, hm, h => by
  have h1 := List.pairwise_cons.1 hl
  have h2 := List.pairwise_cons.1 hm
  have e : a = b := by
   rcases List.mem_cons.1 ((h a).1 (by simp)) with e | ha
   ·exact e
   ·rcases List.mem_cons.1 ((h b).2 (by simp)) with e | hb
    ·exact e.symm
    ·exact absurd (h1.1 b hb) (aat (h2.1 a ha))
  subst e
  rw [ES l m h1.2 h2.2 fun x => ?_]
  constructor
  ·intro hx
   rcases List.mem_cons.1 ((h x).1 (by simp [hx])) with e | hx'
   ·exact absurd (e ▸ h1.1 x hx) (Mh a)
   ·exact hx'
  ·intro hx
   rcases List.mem_cons.1 ((h x).2 (by simp [hx])) with e | hx'
   ·exact absurd (e ▸ h2.1 x hx) (Mh a)
   ·exact hx'
theorem wP {l m : List Val} (hm : m.Pairwise yL) (h : ∀ x, x ∈ m ↔ x ∈ l) : m = sortV l :=
 ES _ _ hm (pJ l) fun x => by rw [h x, ow]
end Abs
end Go.Proofs.YtkopaeklihhdlaaGreat

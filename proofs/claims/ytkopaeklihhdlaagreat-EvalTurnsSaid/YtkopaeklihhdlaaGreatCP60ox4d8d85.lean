/-
  The order of values is one: laws of cmpV. Conditions: none; lemmas without a program.
-/
import Derived.Test.YtkopaeklihhdlaaGreatCP1oxa7a435
set_option linter.unusedSimpArgs false
set_option linter.unusedVariables false
namespace Go.Proofs.YtkopaeklihhdlaaGreat
namespace Abs
open Go
theorem YW (a b : Int) : iT a b < 0 ↔ a < b := by
 unfold iT
 by_cases h : a < b
 ·simp [h]
 ·by_cases h2 : b < a <;> simp [h, h2]
theorem wT (a b : Int) : iT a b = 0 ↔ a = b := by
 unfold iT
 by_cases h : a < b
 ·simp [h]; omega
 ·by_cases h2 : b < a
  ·simp [h, h2]; omega
  ·simp [h, h2]; omega
theorem Qp (a b : Int) : iT b a = - iT a b := by
 unfold iT
 by_cases h : a < b
 ·have : ¬ b < a := by omega
  simp [h, this]
 ·by_cases h2 : b < a <;> simp [h, h2]
theorem JD : ∀ (s t : List UInt8), Lib.compareBytes s t = 0 ↔ s = t
 | [], [] => by simp [Lib.compareBytes]
 | [], _ :: _ => by simp [Lib.compareBytes]
 | _ :: _, [] => by simp [Lib.compareBytes]
 | a :: s, b :: t => by
  have ih := JD s t
  unfold Lib.compareBytes
  by_cases h1 : a < b
  ·simp only [h1, if_true]
   constructor
   ·intro h; cases h
   ·intro h; cases h; exact absurd h1 (by simp)
  ·by_cases h2 : b < a
   ·simp only [h1, h2, if_false, if_true]
    constructor
    ·intro h; cases h
    ·intro h; cases h; exact absurd h2 (by simp)
   ·simp only [h1, h2, if_false]
    have : a = b := UInt8.le_antisymm (by simpa using h2) (by simpa using h1)
    subst this
    rw [ih]; simp
theorem Zh : ∀ (s t : List UInt8), Lib.compareBytes t s = - Lib.compareBytes s t
 | [], [] => by simp [Lib.compareBytes]
 | [], _ :: _ => by simp [Lib.compareBytes]
 | _ :: _, [] => by simp [Lib.compareBytes]
 | a :: s, b :: t => by
  have ih := Zh s t
  unfold Lib.compareBytes
  by_cases h1 : a < b
  ·have : ¬ b < a := fun h => absurd (UInt8.lt_trans h1 h) (by simp)
   simp [h1, this]
  ·by_cases h2 : b < a
   ·simp [h1, h2]
   ·simp [h1, h2, ih]
theorem ad7 : ∀ (s t u : List UInt8), Lib.compareBytes s t < 0 → Lib.compareBytes t u < 0 → Lib.compareBytes s u < 0
 | [], [], _, h, _ => by simp [Lib.compareBytes] at h
 | _ :: _, [], _, h, _ => by simp [Lib.compareBytes] at h
 | [], _ :: _, [], _, h => by simp [Lib.compareBytes] at h
 | [], _ :: _, _ :: _, _, _ => by simp [Lib.compareBytes]
 | _ :: _, _ :: _, [], _, h => by simp [Lib.compareBytes] at h
 | a :: s, b :: t, c :: u, h1, h2 => by
  have ih := ad7 s t u
  unfold Lib.compareBytes at h1 h2 ⊢
  by_cases ab : a < b
  ·by_cases bc : b < c
   ·simp [UInt8.lt_trans ab bc]
   ·by_cases cb : c < b
    ·simp [bc, cb] at h2
    ·have : b = c := UInt8.le_antisymm (by simpa using cb) (by simpa using bc)
     subst this; simp [ab]
  ·by_cases ba : b < a
   ·simp [ab, ba] at h1
   ·have : a = b := UInt8.le_antisymm (by simpa using ba) (by simpa using ab)
    subst this
    simp only [ab, if_false] at h1
    by_cases ac : a < c
    ·simp [ac]
    ·by_cases ca : c < a
     ·simp [ac, ca] at h2
     ·simp only [ac, ca, if_false] at h2 ⊢
      exact ih h1 h2
def lex (x y : Int) : Int := cond (x != 0) x y
theorem Jy (x y : Int) : lex x y < 0 ↔ x < 0 ∨ x = 0 ∧ y < 0 := by
 unfold lex
 by_cases h : x = 0
 ·subst h; simp
 ·have : (x != 0) = true := by simp [h]
  rw [this]; simp [h]
theorem Bo (x y : Int) : lex x y = 0 ↔ x = 0 ∧ y = 0 := by
 unfold lex
 by_cases h : x = 0
 ·subst h; simp
 ·have : (x != 0) = true := by simp [h]
  rw [this]; simp [h]
theorem Fx (x y : Int) : lex (-x) (-y) = - lex x y := by
 unfold lex
 by_cases h : x = 0
 ·subst h; simp
 ·have h1 : (x != 0) = true := by simp [h]
  have h2 : (-x != 0) = true := by simp; omega
  rw [h1, h2]; simp
theorem AZ (k n : Int) (s : Str) (ks : List Val) (k' n' : Int) (s' : Str) (ks' : List Val) : bW (.mk k n s ks) (.mk k' n' s' ks') = lex (iT k k') (lex (iT n n') (lex (Lib.compareBytes s s') (dK ks ks'))) := by
 unfold bW lex; rfl
theorem uI (a b : Val) (asx bs : List Val) : dK (a :: asx) (b :: bs) = lex (bW a b) (dK asx bs) := by
 simp only [dK, lex]
mutual
theorem kT : ∀ (a b : Val), bW a b = 0 ↔ a = b
 | .mk k n s ks, .mk k' n' s' ks' => by
  rw [AZ, Bo, Bo, Bo, wT, wT, JD, AL ks ks']
  simp
theorem AL : ∀ (asx bs : List Val), dK asx bs = 0 ↔ asx = bs
 | [], [] => by simp [dK]
 | [], _ :: _ => by simp [dK]
 | _ :: _, [] => by simp [dK]
 | a :: asx, b :: bs => by
  rw [uI, Bo, kT a b, AL asx bs]
  simp
end
mutual
theorem kS : ∀ (a b : Val), bW b a = - bW a b
 | .mk k n s ks, .mk k' n' s' ks' => by
  rw [AZ, AZ, Qp k k', Qp n n', Zh s s', Ou ks ks', Fx, Fx, Fx]
theorem Ou : ∀ (asx bs : List Val), dK bs asx = - dK asx bs
 | [], [] => by simp [dK]
 | [], _ :: _ => by simp [dK]
 | _ :: _, [] => by simp [dK]
 | a :: asx, b :: bs => by
  rw [uI, uI, kS a b, Ou asx bs, Fx]
end
mutual
theorem yQ : ∀ (a b c : Val), bW a b < 0 → bW b c < 0 → bW a c < 0
 | .mk k n s ks, .mk k' n' s' ks', .mk k'' n'' s'' ks'', h1, h2 => by
  rw [AZ, Jy, Jy, Jy, YW, wT, YW, wT, JD] at h1 h2 ⊢
  rcases h1 with h1 | ⟨rfl, h1⟩
  ·rcases h2 with h2 | ⟨rfl, h2⟩
   ·left; omega
   ·left; exact h1
  ·rcases h2 with h2 | ⟨rfl, h2⟩
   ·left; exact h2
   ·right
    refine ⟨rfl, ?_⟩
    rcases h1 with h1 | ⟨rfl, h1⟩
    ·rcases h2 with h2 | ⟨rfl, h2⟩
     ·left; omega
     ·left; exact h1
    ·rcases h2 with h2 | ⟨rfl, h2⟩
     ·left; exact h2
     ·right
      refine ⟨rfl, ?_⟩
      rcases h1 with h1 | ⟨rfl, h1⟩
      ·rcases h2 with h2 | ⟨rfl, h2⟩
       ·left; exact ad7 _ _ _ h1 h2
       ·left; exact h1
      ·rcases h2 with h2 | ⟨rfl, h2⟩
       ·left; exact h2
       ·right; exact ⟨rfl, Wq ks ks' ks'' h1 h2⟩
theorem Wq : ∀ (asx bs cs : List Val), dK asx bs < 0 → dK bs cs < 0 → dK asx cs < 0
 | [], [], _, h, _ => by simp [dK] at h
 | _ :: _, [], _, h, _ => by simp [dK] at h
 | [], _ :: _, [], _, h => by simp [dK] at h
 | [], _ :: _, _ :: _, _, _ => by simp [dK]
 | _ :: _, _ :: _, [], _, h => by simp [dK] at h
 | a :: asx, b :: bs, c :: cs, h1, h2 => by
  rw [uI, Jy, kT] at h1 h2 ⊢
  rcases h1 with h1 | ⟨rfl, h1⟩
  ·rcases h2 with h2 | ⟨rfl, h2⟩
   ·left; exact yQ a b c h1 h2
   ·left; exact h1
  ·rcases h2 with h2 | ⟨rfl, h2⟩
   ·left; exact h2
   ·right; exact ⟨rfl, Wq asx bs cs h1 h2⟩
end
def Ct (a b : Val) : Bool := decide (bW a b ≤ 0)
theorem Qz (a b c : Val) (h1 : Ct a b = true) (h2 : Ct b c = true) : Ct a c = true := by
 simp only [Ct, decide_eq_true_eq] at *
 rcases Int.lt_or_eq_of_le h1 with h1 | h1
 ·rcases Int.lt_or_eq_of_le h2 with h2 | h2
  ·exact Int.le_of_lt (yQ a b c h1 h2)
  ·rw [(kT b c).1 h2] at h1; exact Int.le_of_lt h1
 ·rw [(kT a b).1 h1]; exact h2
def zU (a b : Val) : Prop := bW a b < 0
theorem Oc (a : Val) : ¬ zU a a := by
 have := (kT a a).2 rfl
 unfold zU; omega
theorem acn {a b : Val} (h : zU a b) : ¬ zU b a := by
 unfold zU at *
 rw [kS a b]; omega
def BH (a : Val) : List Val → List Val
 | [] => [a]
 | b :: l => cond (decide (bW a b < 0)) (a :: b :: l) (cond (bW a b == 0) (b :: l) (b :: BH a l))
def sortV : List Val → List Val
 | [] => []
 | a :: l => BH a (sortV l)
theorem Lm (a : Val) : ∀ (l : List Val) (x : Val), x ∈ BH a l ↔ x = a ∨ x ∈ l
 | [], x => by simp [BH]
 | b :: l, x => by
  unfold BH
  by_cases h : bW a b < 0
  ·simp [h]
  ·by_cases h2 : bW a b = 0
   ·have := (kT a b).1 h2
    subst this
    simp [h2]
   ·have e : (bW a b == 0) = false := by simp [h2]
    simp only [h, decide_false, cond_false, e, List.mem_cons, Lm a l x]
    constructor
    ·rintro (h | h | h)
     ·exact .inr (.inl h)
     ·exact .inl h
     ·exact .inr (.inr h)
    ·rintro (h | h | h)
     ·exact .inr (.inl h)
     ·exact .inl h
     ·exact .inr (.inr h)
theorem J4 (a : Val) : ∀ (l : List Val), l.Pairwise zU → (BH a l).Pairwise zU
 | [], _ => by simp [BH]
 | b :: l, h => by
  have h1 := List.pairwise_cons.1 h
  unfold BH
  by_cases hc : bW a b < 0
  ·simp only [hc, decide_true, cond_true]
   refine List.pairwise_cons.2 ⟨fun x hx => ?_, h⟩
   rcases List.mem_cons.1 hx with rfl | hx
   ·exact hc
   ·exact yQ a b x hc (h1.1 x hx)
  ·by_cases h2 : bW a b = 0
   ·simp [h2]; exact List.pairwise_cons.1 h
   ·have e : (bW a b == 0) = false := by simp [h2]
    simp only [hc, decide_false, cond_false, e]
    refine List.pairwise_cons.2 ⟨fun x hx => ?_, J4 a l h1.2⟩
    rcases (Lm a l x).1 hx with rfl | hx
    ·show bW b x < 0
     rw [kS x b]; omega
    ·exact h1.1 x hx
theorem nN : ∀ (l : List Val) (x : Val), x ∈ sortV l ↔ x ∈ l
 | [], x => by simp [sortV]
 | a :: l, x => by rw [sortV, Lm, nN l x]; simp
theorem qp : ∀ (l : List Val), (sortV l).Pairwise zU
 | [] => by simp [sortV]
 | a :: l => J4 a _ (qp l)
theorem F7 : ∀ (l m : List Val), l.Pairwise zU → m.Pairwise zU → (∀ x, x ∈ l ↔ x ∈ m) → l = m
 | [], [], _, _, _ => rfl
 | [], b :: m, _, _, h => by have := (h b).2 (by simp); cases this
 | a :: l, [], _, _, h => by have := (h a).1 (by simp); cases this
 | a :: l, b :: m, hl, hm, h => by
  have h1 := List.pairwise_cons.1 hl
  have h2 := List.pairwise_cons.1 hm
  have e : a = b := by
   rcases List.mem_cons.1 ((h a).1 (by simp)) with e | ha
   ·exact e
   ·rcases List.mem_cons.1 ((h b).2 (by simp)) with e | hb
    ·exact e.symm
    ·exact absurd (h1.1 b hb) (acn (h2.1 a ha))
  subst e
  rw [F7 l m h1.2 h2.2 fun x => ?_]
  constructor
  ·intro hx
   rcases List.mem_cons.1 ((h x).1 (by simp [hx])) with e | hx'
   ·exact absurd (e ▸ h1.1 x hx) (Oc a)
   ·exact hx'
  ·intro hx
   rcases List.mem_cons.1 ((h x).2 (by simp [hx])) with e | hx'
   ·exact absurd (e ▸ h2.1 x hx) (Oc a)
   ·exact hx'
theorem yh {l m : List Val} (hm : m.Pairwise zU) (h : ∀ x, x ∈ m ↔ x ∈ l) : m = sortV l :=
 F7 _ _ hm (qp l) fun x => by rw [h x, nN]
theorem nW (l : List Val) : (sortV l).length ≤ l.length := by
 have key : ∀ (a : Val) (l : List Val), (BH a l).length ≤ l.length + 1 := fun a l => by
  induction l with
  | nil => simp [BH]
  | cons b l ih =>
   unfold BH
   cases decide (bW a b < 0) <;> cases (bW a b == 0) <;> simp <;> omega
 induction l with
 | nil => simp [sortV]
 | cons a l ih => rw [sortV]; have := key a (sortV l); simp; omega
end Abs
end Go.Proofs.YtkopaeklihhdlaaGreat

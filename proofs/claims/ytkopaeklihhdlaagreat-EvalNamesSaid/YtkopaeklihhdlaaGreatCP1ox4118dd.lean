/-
  Plain functions with fuel: what they come to ('Ev'); loops over a list. Conditions: none; lemmas without a program.
-/
import Derived.Test.YtkopaeklihhdlaaGreatCDfox8ce24f
set_option linter.unusedSimpArgs false
set_option linter.unusedVariables false
namespace Go.Proofs.YtkopaeklihhdlaaGreat
namespace Abs
open Go
def Ev {α : Type} (f : Nat → Option α) (v : α) : Prop := ∃ N, ∀ n, N ≤ n → f n = some v
theorem Ev.ret {α : Type} (v : α) : Ev (fun _ => some v) v := ⟨0, fun _ _ => rfl⟩
theorem Ev.of {α : Type} {f : Nat → Option α} {v : α} (h : ∀ n, f n = some v) : Ev f v := ⟨0, fun n _ => h n⟩
theorem Ev.bind {α β : Type} {f : Nat → Option α} {g : α → Nat → Option β} {a : α} {b : β} (h1 : Ev f a) (h2 : Ev (g a) b) : Ev (fun n => (f n).bind fun x => g x n) b := by
 obtain ⟨N, hN⟩ := h1
 obtain ⟨M, hM⟩ := h2
 refine ⟨max N M, fun n hn => ?_⟩
 show (f n).bind (fun x => g x n) = some b
 rw [hN n (by omega)]
 exact hM n (by omega)
theorem Ev.succ {α : Type} {f : Nat → Option α} {v : α} (h : Ev (fun n => f (n + 1)) v) : Ev f v := by
 obtain ⟨N, hN⟩ := h
 refine ⟨N + 1, fun n hn => ?_⟩
 cases n with
 | zero => omega
 | succ n => exact hN n (by omega)
theorem Ev.pos {α : Type} {b : Bool} {f g : Nat → Option α} {v : α} (hb : b = true) (h1 : Ev f v) : Ev (fun n => cond b (f n) (g n)) v := by subst hb; exact h1
theorem Ev.neg {α : Type} {b : Bool} {f g : Nat → Option α} {v : α} (hb : b = false) (h1 : Ev g v) : Ev (fun n => cond b (f n) (g n)) v := by subst hb; exact h1
def iq {α σ τ ρ : Type} (st : α → σ → LR σ ρ) (fin : σ → τ) : List α → σ → LR τ ρ
 | [], s => .nx (fin s)
 | x :: xs, s => match st x s with
  | .nx s' => iq st fin xs s'
  | .rt r => .rt r
theorem iy {α : Type} (pre : List α) (x : α) (suf : List α) : idx (pre ++ x :: suf) (pre.length : Int) = some x := by
 unfold idx
 rw [if_pos (by omega)]
 simp
theorem Tv {α σ τ ρ : Type} (l : List α) (L : Nat → Nat → Int → σ → Option (LR τ ρ)) (step : Nat → α → σ → Option (LR σ ρ)) (st : α → σ → LR σ ρ) (fin : σ → τ) (I : List α → σ → Prop)
  (hL : ∀ n k i s, L n (k + 1) i s = cond (decide (i < (l.length : Int))) ((idx l i).bind fun x => (step n x s).bind (LR.el (fun s' => L n k (i + 1) s') (fun r => some (.rt r)))) (some (.nx (fin s))))
  (hI : ∀ x suf s, x ∈ l → I (x :: suf) s → Ev (fun n => step n x s) (st x s) ∧ ∀ s', st x s = .nx s' → I suf s') (pre suf : List α) (hl : l = pre ++ suf) {s0 : σ} (h0 : I suf s0) : Ev (fun n => L n n (pre.length : Int) s0) (iq st fin suf s0) := by
 have key : ∀ (suf pre : List α) (s : σ), l = pre ++ suf → I suf s → ∃ N, ∀ n, N ≤ n → ∀ k, suf.length + 1 ≤ k → L n k (pre.length : Int) s = some (iq st fin suf s) := by
  intro suf
  induction suf with
  | nil =>
   intro pre s hl _
   refine ⟨0, fun n _ k hk => ?_⟩
   cases k with
   | zero => simp at hk
   | succ k =>
    rw [hL, decide_eq_false (by rw [hl]; simp)]
    rfl
  | cons x suf ih =>
   intro pre s hl hIs
   obtain ⟨⟨N1, h1⟩, h2⟩ := hI x suf s (by rw [hl]; simp) hIs
   replace h1 : ∀ n, N1 ≤ n → step n x s = some (st x s) := h1
   have hi : decide ((pre.length : Int) < (l.length : Int)) = true := decide_eq_true (by rw [hl]; simp; omega)
   have hx : idx l (pre.length : Int) = some x := by rw [hl]; exact iy pre x suf
   cases hs : st x s with
   | rt r =>
    refine ⟨N1, fun n hn k hk => ?_⟩
    cases k with
    | zero => simp at hk
    | succ k =>
     rw [hL, hi, hx]
     simp only [cond_true, Option.bind_some]
     rw [h1 n hn, hs]
     simp [iq, hs]
   | nx s' =>
    obtain ⟨N2, h3⟩ := ih (pre ++ [x]) s' (by rw [hl]; simp) (h2 s' hs)
    refine ⟨max N1 N2, fun n hn k hk => ?_⟩
    cases k with
    | zero => simp at hk
    | succ k =>
     rw [hL, hi, hx]
     simp only [cond_true, Option.bind_some]
     rw [h1 n (by omega), hs]
     simp only [Option.bind_some, LR.el]
     have := h3 n (by omega) k (by simp at hk; omega)
     simp only [List.length_append, List.length_singleton, Int.natCast_add, Int.natCast_one] at this
     rw [this]
     simp [iq, hs]
 obtain ⟨N, hN⟩ := key suf pre s0 hl h0
 exact ⟨max N (suf.length + 1), fun n hn => hN n (by omega) n (by omega)⟩
theorem vW {α σ τ ρ : Type} (l : List α) (L : Nat → Nat → Int → σ → Option (LR τ ρ)) (step : Nat → α → σ → Option (LR σ ρ)) (st : α → σ → LR σ ρ) (fin : σ → τ) (I : List α → σ → Prop)
  (hL : ∀ n k i s, L n (k + 1) i s = cond (decide (i < (l.length : Int))) ((idx l i).bind fun x => (step n x s).bind (LR.el (fun s' => L n k (i + 1) s') (fun r => some (.rt r)))) (some (.nx (fin s))))
  (hI : ∀ x suf s, x ∈ l → I (x :: suf) s → Ev (fun n => step n x s) (st x s) ∧ ∀ s', st x s = .nx s' → I suf s') {s0 : σ} (h0 : I l s0) : Ev (fun n => L n n 0 s0) (iq st fin l s0) :=
 Tv l L step st fin I hL hI [] l rfl h0
theorem Gd {α ρ : Type} (p : α → Bool) (r : ρ) : ∀ (l : List α) (u : Unit), iq (τ := Unit) (fun x _ => cond (p x) (.rt r) (.nx ())) (fun _ => ()) l u = cond (l.any p) (.rt r) (.nx ())
 | [], _ => rfl
 | x :: xs, u => by
  simp only [iq, List.any_cons]
  cases p x
  ·exact Gd p r xs ()
  ·rfl
theorem Ma {α ρ : Type} (l : List α) (L : Nat → Nat → Int → Option (LR Unit ρ)) (step : Nat → α → Option Bool) (p : α → Bool) (r : ρ)
  (hL : ∀ n k i, L n (k + 1) i = cond (decide (i < (l.length : Int))) ((idx l i).bind fun x => (step n x).bind fun b => cond b (some (.rt r)) (L n k (i + 1))) (some (.nx ())))
  (hp : ∀ x ∈ l, Ev (fun n => step n x) (p x)) (pre suf : List α) (hl : l = pre ++ suf) : Ev (fun n => L n n (pre.length : Int)) (cond (suf.any p) (.rt r) (.nx ())) := by
 have := Tv l (fun n k i (_ : Unit) => L n k i) (fun n x _ => (step n x).bind fun b => cond b (some (.rt r)) (some (.nx ()))) (fun x _ => cond (p x) (.rt r) (.nx ())) (fun _ => ()) (fun _ _ => True)
  (fun n k i s => by
   rw [hL]
   congr 1
   congr 1
   funext x
   cases step n x with
   | none => rfl
   | some b => cases b <;> rfl)
  (fun x suf s hx _ => ⟨by
   refine Ev.bind (hp x hx) ?_
   cases p x
   ·exact Ev.ret _
   ·exact Ev.ret _, fun _ _ => trivial⟩) pre suf hl (s0 := ()) trivial
 rw [Gd] at this
 exact this
theorem iH {α ρ : Type} (l : List α) (L : Nat → Nat → Int → Option (LR Unit ρ)) (step : Nat → α → Option Bool) (p : α → Bool) (r : ρ)
  (hL : ∀ n k i, L n (k + 1) i = cond (decide (i < (l.length : Int))) ((idx l i).bind fun x => (step n x).bind fun b => cond b (some (.rt r)) (L n k (i + 1))) (some (.nx ())))
  (hp : ∀ x ∈ l, Ev (fun n => step n x) (p x)) : Ev (fun n => L n n 0) (cond (l.any p) (.rt r) (.nx ())) := Ma l L step p r hL hp [] l rfl
def qc {α σ τ ρ : Type} (st : Int → α → σ → LR σ ρ) (fin : σ → τ) : Int → List α → σ → LR τ ρ
 | _, [], s => .nx (fin s)
 | i, x :: xs, s => match st i x s with
  | .nx s' => qc st fin (i + 1) xs s'
  | .rt r => .rt r
theorem zM {α σ τ ρ : Type} (l : List α) (L : Nat → Nat → Int → σ → Option (LR τ ρ)) (step : Nat → Int → α → σ → Option (LR σ ρ)) (st : Int → α → σ → LR σ ρ) (fin : σ → τ) (I : Int → List α → σ → Prop)
  (hL : ∀ n k i s, L n (k + 1) i s = cond (decide (i < (l.length : Int))) ((idx l i).bind fun x => (step n i x s).bind (LR.el (fun s' => L n k (i + 1) s') (fun r => some (.rt r)))) (some (.nx (fin s))))
  (hI : ∀ i x suf s, x ∈ l → I i (x :: suf) s → Ev (fun n => step n i x s) (st i x s) ∧ ∀ s', st i x s = .nx s' → I (i + 1) suf s') {s0 : σ} (h0 : I 0 l s0) : Ev (fun n => L n n 0 s0) (qc st fin 0 l s0) := by
 have key : ∀ (suf pre : List α) (s : σ), l = pre ++ suf → I (pre.length : Int) suf s → ∃ N, ∀ n, N ≤ n → ∀ k, suf.length + 1 ≤ k → L n k (pre.length : Int) s = some (qc st fin (pre.length : Int) suf s) := by
  intro suf
  induction suf with
  | nil =>
   intro pre s hl _
   refine ⟨0, fun n _ k hk => ?_⟩
   cases k with
   | zero => simp at hk
   | succ k =>
    rw [hL, decide_eq_false (by rw [hl]; simp)]
    rfl
  | cons x suf ih =>
   intro pre s hl hIs
   obtain ⟨⟨N1, h1⟩, h2⟩ := hI _ x suf s (by rw [hl]; simp) hIs
   replace h1 : ∀ n, N1 ≤ n → step n (pre.length : Int) x s = some (st (pre.length : Int) x s) := h1
   have hi : decide ((pre.length : Int) < (l.length : Int)) = true := decide_eq_true (by rw [hl]; simp; omega)
   have hx : idx l (pre.length : Int) = some x := by rw [hl]; exact iy pre x suf
   cases hs : st (pre.length : Int) x s with
   | rt r =>
    refine ⟨N1, fun n hn k hk => ?_⟩
    cases k with
    | zero => simp at hk
    | succ k =>
     rw [hL, hi, hx]
     simp only [cond_true, Option.bind_some]
     rw [h1 n hn, hs]
     simp [qc, hs]
   | nx s' =>
    have h3 := h2 s' hs
    have e : ((pre ++ [x]).length : Int) = (pre.length : Int) + 1 := by simp
    obtain ⟨N2, h4⟩ := ih (pre ++ [x]) s' (by rw [hl]; simp) (by rw [e]; exact h3)
    refine ⟨max N1 N2, fun n hn k hk => ?_⟩
    cases k with
    | zero => simp at hk
    | succ k =>
     rw [hL, hi, hx]
     simp only [cond_true, Option.bind_some]
     rw [h1 n (by omega), hs]
     simp only [Option.bind_some, LR.el]
     have := h4 n (by omega) k (by simp at hk; omega)
     rw [e] at this
     rw [this]
     simp [qc, hs]
 obtain ⟨N, hN⟩ := key l [] s0 rfl h0
 exact ⟨max N (l.length + 1), fun n hn => hN n (by omega) n (by omega)⟩
def gM {α : Type} (p : α → Bool) : Int → List α → Int
 | _, [] => -1
 | i, x :: xs => cond (p x) i (gM p (i + 1) xs)
theorem PO {α : Type} (p : α → Bool) : ∀ (l : List α) (i : Int), (match qc (τ := Unit) (fun i x _ => cond (p x) (.rt i) (.nx ())) (fun _ => ()) i l () with | .nx _ => (-1 : Int) | .rt r => r) = gM p i l
 | [], _ => rfl
 | x :: xs, i => by
  simp only [qc, gM]
  cases p x
  ·exact PO p xs (i + 1)
  ·rfl
theorem nS {α : Type} (l : List α) (L : Nat → Nat → Int → Option (LR Unit Int)) (step : Nat → α → Option Bool) (p : α → Bool)
  (hL : ∀ n k i, L n (k + 1) i = cond (decide (i < (l.length : Int))) ((idx l i).bind fun x => (step n x).bind fun b => cond b (some (.rt i)) (L n k (i + 1))) (some (.nx ())))
  (hp : ∀ x ∈ l, Ev (fun n => step n x) (p x)) : Ev (fun n => (L n n 0).bind (LR.el (fun _ => some (-1)) (fun r => some r))) (gM p 0 l) := by
 have := zM l (fun n k i (_ : Unit) => L n k i) (fun n i x _ => (step n x).bind fun b => cond b (some (.rt i)) (some (.nx ()))) (fun i x _ => cond (p x) (.rt i) (.nx ())) (fun _ => ()) (fun _ _ _ => True)
  (fun n k i s => by
   rw [hL]
   congr 1
   congr 1
   funext x
   cases step n x with
   | none => rfl
   | some b => cases b <;> rfl)
  (fun i x suf s hx _ => ⟨by
   refine Ev.bind (hp x hx) ?_
   cases p x
   ·exact Ev.ret _
   ·exact Ev.ret _, fun _ _ => trivial⟩) (s0 := ()) trivial
 refine Ev.bind this ?_
 rw [← PO]
 generalize qc (τ := Unit) (fun i x _ => cond (p x) (.rt i) (.nx ())) (fun _ => ()) 0 l () = R
 cases R
 ·exact Ev.ret _
 ·exact Ev.ret _
theorem qK {α : Type} (p : α → Bool) : ∀ (l : List α) (i : Int), 0 ≤ i → decide (0 ≤ gM p i l) = l.any p
 | [], _, _ => rfl
 | x :: xs, i, h => by
  have ih := qK p xs (i + 1) (by omega)
  by_cases hx : p x = true
  ·simp [gM, hx, h]
  ·simp only [Bool.not_eq_true] at hx
   simpa [gM, hx] using ih
theorem mZ {α : Type} (p : α → Bool) : ∀ (l pre : List α), (∃ x, l.find? p = some x ∧ p x = true ∧ 0 ≤ gM p (pre.length : Int) l ∧ idx (pre ++ l) (gM p (pre.length : Int) l) = some x) ∨ (l.find? p = none ∧ gM p (pre.length : Int) l = -1)
 | [], _ => .inr ⟨rfl, rfl⟩
 | x :: xs, pre => by
  simp only [gM, List.find?_cons]
  cases h : p x with
  | true => exact .inl ⟨x, rfl, h, by simp, iy pre x xs⟩
  | false =>
   have := mZ p xs (pre ++ [x])
   simp only [List.length_append, List.length_singleton, Int.natCast_add, Int.natCast_one, List.append_assoc, List.singleton_append] at this
   exact this
theorem z8 (s : List UInt8) (i : Int) : iJ s i = (idx s i).map fun c => (c.toNat : Int) := by
 unfold iJ idx
 by_cases h : 0 ≤ i
 ·rw [if_pos h]
  by_cases h2 : i < s.length
  ·rw [if_pos ⟨h, h2⟩]
   have : i.toNat < s.length := by omega
   simp [List.getD, List.getElem?_eq_getElem this]
  ·rw [if_neg (fun hh => h2 hh.2), List.getElem?_eq_none (by omega)]; rfl
 ·rw [if_neg (fun hh => h hh.1), if_neg h]; rfl
theorem wrap64 {n : Int} (h1 : -9223372036854775808 ≤ n) (h2 : n ≤ 9223372036854775807) : IntKind.wrap .i64 n = n := (bD h1 h2).symm
def Ad (c : Int) : Bool := (decide (97 ≤ c) && decide (c ≤ 122)) || (decide (65 ≤ c) && decide (c ≤ 90))
def GI (c : Int) : Bool := decide (48 ≤ c) && decide (c ≤ 57)
def rA (c : Int) : Bool := Ad c || (GI c || c == 95)
theorem Dt (n : Nat) (c : Int) : q9 n c = some (Ad c) := by
 unfold q9 Ad
 cases decide (97 ≤ c) <;> cases decide (c ≤ 122) <;> cases decide (65 ≤ c) <;> rfl
theorem FU (n : Nat) (c : Int) : ni n c = some (Ad c) := by
 unfold ni Ad
 cases decide (97 ≤ c) <;> cases decide (c ≤ 122) <;> cases decide (65 ≤ c) <;> rfl
theorem RN (n : Nat) (c : Int) : wN n c = some (GI c) := by
 unfold wN GI
 cases decide (48 ≤ c) <;> rfl
theorem Vt (n : Nat) (c : Int) : oN n c = some (GI c) := by
 unfold oN GI
 cases decide (48 ≤ c) <;> rfl
theorem Oi (n : Nat) (c : Int) : uS n c = some (rA c) := by
 unfold uS rA
 rw [Dt, RN]
 cases Ad c <;> cases GI c <;> rfl
theorem DU (p0 : Str) (l : List Str) : Ev (fun n => kM n p0 l) (l.any fun x => x == p0) := by
 unfold kM
 have h := iH l (fun n k i => Ak n p0 l k i) (fun _ x => some (x == p0)) (fun x => x == p0) true (fun n k i => rfl) (fun x _ => Ev.ret _)
 refine Ev.bind h ?_
 cases l.any fun x => x == p0
 ·exact Ev.ret _
 ·exact Ev.ret _
def kws : List Str := [[116, 114, 117, 101], [102, 97, 108, 115, 101], [110, 111, 116], [111, 114], [102, 111, 114, 97, 108, 108], [101, 120, 105, 115, 116, 115], [105, 110], [110, 111, 116, 105, 110], [115, 117, 98], [109, 111, 100], [102, 117, 110], [99, 97, 114, 100], [109, 105, 110], [109, 97, 120], [100, 111, 109], [114, 97, 110], [80, 79, 87], [105, 110, 116], [98, 111, 111, 108], [115, 101, 116], [112, 97, 105, 114]]
def SY (s : Str) : Bool := kws.any fun x => x == s
theorem RI (s : Str) : Ev (fun n => tJ n s) (SY s) := by
 unfold tJ
 exact Ev.bind (DU s _) (Ev.ret _)
theorem chainB (a b : Bool) : cond a (some a) (some b) = some (a || b) := by cases a <;> rfl
theorem Lv (n : Nat) (s : Str) : rR n s = some (SY s) := by
 unfold rR
 simp only [chainB, Option.bind_some]
 have h : ∀ b : Bool, cond b (some true) (some false) = some b := fun b => by cases b <;> rfl
 rw [h]
 simp only [SY, kws, List.any_cons, List.any_nil, Bool.or_false]
 simp only [BEq.comm (a := s)]
def ident (s : Str) : Bool := match s with
 | [] => false
 | c :: cs => decide (cs.length < 16) && (Ad (c.toNat : Int) && (!(SY (c :: cs)) && cs.all fun c => rA (c.toNat : Int)))
theorem qg {α : Type} (p : α → Bool) (l : List α) : l.any (fun x => !(p x)) = !(l.all p) := by
 induction l with
 | nil => rfl
 | cons x l ih => simp [ih]
theorem oh (s : Str) : Ev (fun n => dP n s) (ident s) := by
 unfold dP
 cases s with
 | nil => exact Ev.of fun n => rfl
 | cons c cs =>
  have hloop : Ev (fun n => jC n (c :: cs) n 0) (cond ((c :: cs).any fun c => !(rA (c.toNat : Int))) (.rt false) (.nx ())) := by
   refine iH (c :: cs) (fun n k i => jC n (c :: cs) k i) (fun _ x => some (!(rA (x.toNat : Int)))) (fun x => !(rA (x.toNat : Int))) false (fun n k i => ?_) (fun x _ => Ev.ret _)
   show cond _ _ _ = _
   congr 1
   rw [z8]
   cases idx (c :: cs) i with
   | none => rfl
   | some x =>
    simp only [Option.map_some, Option.bind_some, Oi]
  have hs0 : iJ (c :: cs) 0 = some (c.toNat : Int) := by rw [z8]; rfl
  have hne : ((c :: cs) == ([] : Str)) = false := by simp
  simp only [hne, cond_false, hs0, Option.bind_some, Dt, Lv]
  by_cases hl : cs.length < 16
  ·have h1 : decide (16 < ((c :: cs).length : Int)) = false := decide_eq_false (by simp; omega)
   simp only [h1, cond_false, ident, decide_eq_true hl, Bool.true_and]
   cases hlet : Ad (c.toNat : Int) with
   | false => exact Ev.ret _
   | true =>
    cases hk : SY (c :: cs) with
    | true => exact Ev.ret _
    | false =>
     simp only [Bool.not_true, cond_false, Option.bind_some, Bool.true_and, Bool.not_false]
     refine Ev.bind hloop ?_
     rw [qg]
     simp only [List.all_cons, rA, hlet, Bool.true_or, Bool.true_and]
     cases cs.all fun c => Ad (c.toNat : Int) || (GI (c.toNat : Int) || (c.toNat : Int) == 95)
     ·exact Ev.ret _
     ·exact Ev.ret _
  ·have h1 : decide (16 < ((c :: cs).length : Int)) = true := decide_eq_true (by simp; omega)
   simp only [h1, cond_true, Option.bind_some, ident, decide_eq_false hl, Bool.false_and]
   exact Ev.ret _
theorem nC (s : Str) : Ev (fun n => dU n s) (ident s) := by
 unfold dU
 cases s with
 | nil => exact Ev.of fun n => rfl
 | cons c cs =>
  have hloop : Ev (fun n => lu n (c :: cs) n 1) (cond (cs.any fun c => !(rA (c.toNat : Int))) (.rt false) (.nx ())) := by
   refine Ma (c :: cs) (fun n k i => lu n (c :: cs) k i) (fun _ x => some (!(rA (x.toNat : Int)))) (fun x => !(rA (x.toNat : Int))) false (fun n k i => ?_) (fun x _ => Ev.ret _) [c] cs rfl
   show cond _ _ _ = _
   congr 1
   rw [z8]
   cases idx (c :: cs) i with
   | none => rfl
   | some x =>
    simp only [Option.map_some, Option.bind_some, FU, Vt, rA]
    cases Ad (x.toNat : Int) <;> cases GI (x.toNat : Int) <;> rfl
  have hs0 : iJ (c :: cs) 0 = some (c.toNat : Int) := by rw [z8]; rfl
  have hne : decide (((c :: cs).length : Int) < 1) = false := decide_eq_false (by simp; omega)
  simp only [hne, cond_false, hs0, Option.bind_some, FU]
  by_cases hl : cs.length < 16
  ·have h1 : decide (16 < ((c :: cs).length : Int)) = false := decide_eq_false (by simp; omega)
   simp only [h1, cond_false, ident, decide_eq_true hl, Bool.true_and]
   cases hlet : Ad (c.toNat : Int) with
   | false => exact Ev.ret _
   | true =>
    simp only [Bool.not_true, cond_false, Bool.true_and]
    refine Ev.bind (a := SY (c :: cs)) (Ev.bind (RI _) (Ev.ret _)) ?_
    cases hk : SY (c :: cs) with
    | true => exact Ev.ret _
    | false =>
     simp only [cond_false, Bool.true_and, Bool.not_false]
     refine Ev.bind hloop ?_
     rw [qg]
     cases cs.all fun c => rA (c.toNat : Int)
     ·exact Ev.ret _
     ·exact Ev.ret _
  ·have h1 : decide (16 < ((c :: cs).length : Int)) = true := decide_eq_true (by simp; omega)
   simp only [h1, cond_true, Option.bind_some, ident, decide_eq_false hl, Bool.false_and]
   exact Ev.ret _
def Ib (s : Str) : Str := if s.getLast? = some 39 then s.dropLast else s
theorem DW {α : Type} (s : List α) (k : Nat) (h : k ≤ s.length) : fH s 0 (k : Int) = some (s.take k) := by
 unfold fH
 rw [if_pos (by omega)]
 simp
theorem Ra (n : Nat) (s : Str) (hs : s.length ≤ 9223372036854775807) : strings_TrimSuffix n s [39] = some (Ib s) := by
 unfold strings_TrimSuffix gN iw
 rcases List.eq_nil_or_concat s with rfl | ⟨t, c, rfl⟩
 ·rfl
 ·have hl : ((t ++ [c]).length : Int) - (([39] : Str).length : Int) = (t.length : Int) := by simp
  have hd : decide ((([39] : Str).length : Int) ≤ ((t ++ [c]).length : Int)) = true := decide_eq_true (by simp; omega)
  simp only [List.concat_eq_append] at hs ⊢
  rw [hl, hd, wrap64 (by omega) (by simp at hs; omega)]
  have h1 : fH (t ++ [c]) (t.length : Int) ((t ++ [c]).length : Int) = some [c] := by
   unfold fH
   rw [if_pos (by simp; omega)]
   simp
  have h2 : fH (t ++ [c]) 0 (t.length : Int) = some t := by rw [DW _ _ (by simp)]; simp
  simp only [cond_true, h1, h2, Option.bind_some]
  unfold Ib
  rw [List.getLast?_concat, List.dropLast_concat]
  by_cases hc : c = 39
  ·subst hc; simp
  ·have : (([c] : Str) == [39]) = false := by simp [hc]
   rw [this, if_neg (by simpa using hc)]; rfl
def named (s : Str) : Bool := ident (Ib s)
theorem Jp (s : Str) (hs : s.length ≤ 9223372036854775807) : Ev (fun n => jR n s) (named s) := by
 unfold jR
 simp only [Ra _ s hs, Option.bind_some]
 exact Ev.bind (oh _) (Ev.ret _)
theorem YN {s : Str} (h : ident s = true) : ∀ c ∈ s, rA (c.toNat : Int) = true := by
 cases s with
 | nil => cases h
 | cons c cs =>
  simp only [ident, Bool.and_eq_true, decide_eq_true_eq, List.all_eq_true] at h
  intro x hx
  rcases List.mem_cons.1 hx with rfl | hx
  ·simp [rA, h.2.1]
  ·exact h.2.2.2 x hx
theorem JC (s : Str) : Ev (fun n => qI n s) (named s) := by
 unfold qI
 have hp : Ev (fun n => oo n s) (decide (s.getLast? = some 39) && ident s.dropLast) := by
  unfold oo
  rcases List.eq_nil_or_concat s with rfl | ⟨t, c, rfl⟩
  ·exact Ev.ret _
  ·simp only [List.concat_eq_append, List.getLast?_concat, List.dropLast_concat]
   cases t with
   | nil =>
    have h1 : decide (1 < (([] ++ [c] : Str).length : Int)) = false := rfl
    simp only [h1, cond_false, Option.bind_some]
    have : ident ([] : Str) = false := rfl
    rw [this, Bool.and_false]; exact Ev.ret _
   | cons d t =>
    have h1 : decide (1 < ((d :: t ++ [c] : Str).length : Int)) = true := decide_eq_true (by simp; omega)
    have hlen : (((d :: t ++ [c] : Str).length : Int) - 1) = ((d :: t).length : Int) := by simp
    have h2 : iJ (d :: t ++ [c]) (((d :: t ++ [c] : Str).length : Int) - 1) = some (c.toNat : Int) := by
     rw [hlen, z8, show (d :: t ++ [c] : Str) = (d :: t) ++ c :: [] from rfl, iy]; rfl
    have h3 : fH (d :: t ++ [c]) 0 (((d :: t ++ [c] : Str).length : Int) - 1) = some (d :: t) := by rw [hlen, DW _ _ (by simp)]; simp
    simp only [h1, cond_true, h2, h3, Option.bind_some]
    by_cases hc : c = 39
    ·subst hc
     simp only [show ((((39 : UInt8).toNat : Nat) : Int) == 39) = true from rfl, cond_true, decide_true, Bool.true_and]
     exact Ev.bind (Ev.bind (nC _) (Ev.ret _)) (Ev.ret _)
    ·have e : (((c.toNat : Nat) : Int) == 39) = false := by
      apply beq_false_of_ne
      intro h
      apply hc
      have : c.toNat = 39 := by omega
      exact UInt8.toNat_inj.1 this
     rw [e]
     have e2 : decide (some c = some (39 : UInt8)) = false := decide_eq_false (by simpa using hc)
     simp only [cond_false, Option.bind_some, e2, Bool.false_and]
     exact Ev.ret _
 refine Ev.bind (a := named s) ?_ (Ev.ret _)
 refine Ev.bind (nC s) ?_
 unfold named Ib
 by_cases hq : s.getLast? = some 39
 ·have hi : ident s = false := by
   cases h : ident s with
   | false => rfl
   | true =>
    have := YN h 39 (List.mem_of_getLast? hq)
    cases this
  rw [hi, if_pos hq]
  rw [decide_eq_true hq, Bool.true_and] at hp
  exact Ev.bind hp (Ev.ret _)
 ·rw [if_neg hq]
  rw [decide_eq_false hq, Bool.false_and] at hp
  cases ident s
  ·exact Ev.bind hp (Ev.ret _)
  ·exact Ev.ret _
theorem Ty.ind {P : Ty → Prop} (h : ∀ k n ks, (∀ t ∈ ks, P t) → P (.mk k n ks)) (t : Ty) : P t := by
 match t with
 | .mk k n ks => exact h k n ks fun u _ => Ty.ind h u
termination_by SizeOf.sizeOf t
decreasing_by
 rename_i hu
 have := List.sizeOf_lt_of_mem hu
 simp only [Ty.mk.sizeOf_spec]
 omega
def iK (k : Int) (nm : Str) (len : Nat) (d : Int) : Bool :=
 !(k == 2 && decide (1 < d)) && ((((k == 1 || (k == 2 || k == 3)) && len == 0) || ((k == 4 && len == 2) || (k == 5 && len == 1))) && cond (k == 3) (ident nm) (nm == []))
mutual
def pf : Ty → Int → Int → Bool × Int
 | .mk k nm ks, d, c => cond ((decide (c + 1 ≤ 16) && decide (d ≤ 6)) && iK k nm ks.length d) (lD ks (d + 1) (c + 1)) (false, c + 1)
def lD : List Ty → Int → Int → Bool × Int
 | [], _, c => (true, c)
 | t :: ts, d, c => cond (pf t d c).1 (lD ts d (pf t d c).2) (false, (pf t d c).2)
end
mutual
theorem Ig : ∀ (t : Ty) (d c : Int), (pf t d c).1 = true → c < (pf t d c).2 ∧ (pf t d c).2 ≤ 16
 | .mk k nm ks, d, c, h => by
  simp only [pf] at h ⊢
  cases hb : ((decide (c + 1 ≤ 16) && decide (d ≤ 6)) && iK k nm ks.length d) with
  | false => rw [hb] at h; cases h
  | true =>
   rw [hb] at h
   simp only [cond_true] at h ⊢
   simp only [Bool.and_eq_true, decide_eq_true_eq] at hb
   have := Sk ks (d + 1) (c + 1) h
   omega
theorem Sk : ∀ (ts : List Ty) (d c : Int), (lD ts d c).1 = true → c ≤ (lD ts d c).2 ∧ (c ≤ 16 → (lD ts d c).2 ≤ 16)
 | [], _, c, _ => by simp [lD]
 | t :: ts, d, c, h => by
  simp only [lD] at h ⊢
  cases hb : (pf t d c).1 with
  | false => rw [hb] at h; cases h
  | true =>
   rw [hb] at h
   simp only [cond_true] at h ⊢
   have h1 := Ig t d c hb
   have h2 := Sk ts d _ h
   exact ⟨by omega, fun _ => h2.2 h1.2⟩
end
theorem abP (n : Nat) (c d : Int) (h0 : 0 ≤ c) (h1 : c ≤ 16) : jF n c 16 6 d = some (decide (c + 1 ≤ 16) && decide (d ≤ 6), c + 1) := by
 unfold jF
 rw [wrap64 (by omega) (by omega)]
 cases decide (c + 1 ≤ 16) <;> rfl
def afE (t : Ty) : Prop := ∀ d c : Int, 1 ≤ d → d ≤ 7 → 0 ≤ c → c ≤ 16 → Ev (fun n => cZ n c 16 6 t d (decide (1 < d))) (pf t d c)
theorem Xt (d : Int) : ∀ (ts : List Ty) (i c : Int), 0 ≤ i → (∃ j, 0 ≤ j ∧ (lD ts d c).1 = false ∧ qc (τ := Int) (fun i x s => cond (!(pf x d s).1) (.rt (i, (pf x d s).2)) (.nx (pf x d s).2)) (fun s => s) i ts c = .rt (j, (lD ts d c).2)) ∨ ((lD ts d c).1 = true ∧ qc (ρ := Int × Int) (fun i x s => cond (!(pf x d s).1) (.rt (i, (pf x d s).2)) (.nx (pf x d s).2)) (fun s => s) i ts c = .nx (lD ts d c).2)
 | [], i, c, _ => .inr ⟨rfl, rfl⟩
 | t :: ts, i, c, hi => by
  simp only [lD, qc]
  cases hb : (pf t d c).1 with
  | false => exact .inl ⟨i, hi, rfl, rfl⟩
  | true => exact Xt d ts (i + 1) _ (by omega)
theorem ZH (ts : List Ty) (h : ∀ t ∈ ts, afE t) (d c : Int) (hd : 1 ≤ d) (hd6 : d ≤ 6) (h0 : 0 ≤ c) (h1 : c ≤ 16) : Ev (fun n => bL n ts c 16 6 d) (!(lD ts (d + 1) c).1, (lD ts (d + 1) c).2) := by
 refine Ev.succ ?_
 show Ev (fun n => fK n _ _ _ _ ts c 16 6 d) _
 unfold fK
 have hloop := zM ts (fun n k i s => iE n (fun p0 p1 p2 p3 p4 => dS n p0 p1 p2 p3 p4) (fun p0 p1 p2 p3 p4 => bL n p0 p1 p2 p3 p4) (fun p0 p1 p2 p3 p4 p5 => cZ n p0 p1 p2 p3 p4 p5) (fun p0 p1 p2 p3 p4 => bT n p0 p1 p2 p3 p4) ts 16 6 d k (i, s))
  (fun n i x s => (bT n x s 16 6 d).bind fun x2 => cond x2.1 (some (.rt (i, x2.2))) (some (.nx x2.2))) (fun i x s => cond (!(pf x (d + 1) s).1) (.rt (i, (pf x (d + 1) s).2)) (.nx (pf x (d + 1) s).2)) (fun s => s) (fun _ _ s => 0 ≤ s ∧ s ≤ 16)
  (fun n k i s => by
   show cond _ _ _ = _
   congr 1
   congr 1
   funext x
   dsimp only
   cases bT n x s 16 6 d with
   | none => rfl
   | some b => obtain ⟨b, e⟩ := b; cases b <;> rfl)
  (fun i x suf s hx hs => ⟨by
   have hfit : Ev (fun n => bT n x s 16 6 d) (!(pf x (d + 1) s).1, (pf x (d + 1) s).2) := by
    refine Ev.succ ?_
    show Ev (fun n => fV n _ _ _ _ x s 16 6 d) _
    unfold fV
    have := h x hx (d + 1) s (by omega) (by omega) hs.1 hs.2
    rw [decide_eq_true (show 1 < d + 1 by omega)] at this
    rw [wrap64 (by omega) (by omega)]
    exact Ev.bind this (Ev.ret _)
   refine Ev.bind hfit ?_
   cases (pf x (d + 1) s).1
   ·exact Ev.ret _
   ·exact Ev.ret _, fun s' he => by
    cases hb : (pf x (d + 1) s).1 with
    | false => rw [hb] at he; cases he
    | true =>
     rw [hb] at he
     simp only [Bool.not_true, cond_false, LR.nx.injEq] at he
     have := Ig x (d + 1) s hb
     omega⟩) (s0 := c) ⟨h0, h1⟩
 rcases Xt (d + 1) ts 0 c (Int.le_refl _) with ⟨j, hj, hf, hr⟩ | ⟨ht, hr⟩
 ·rw [hr] at hloop
  refine Ev.bind (a := (j, (lD ts (d + 1) c).2)) (Ev.succ ?_) ?_
  ·show Ev (fun n => dV n _ _ _ _ ts c 16 6 d) _
   unfold dV
   exact Ev.bind hloop (Ev.ret _)
  ·rw [hf]
   simp only [decide_eq_true hj]
   exact Ev.ret _
 ·rw [hr] at hloop
  refine Ev.bind (a := (-1, (lD ts (d + 1) c).2)) (Ev.succ ?_) ?_
  ·show Ev (fun n => dV n _ _ _ _ ts c 16 6 d) _
   unfold dV
   exact Ev.bind hloop (Ev.ret _)
  ·rw [ht]
   exact Ev.ret _
theorem UQ (len : Nat) (m : Nat) : (((len : Int) != (m : Int))) = !(len == m) := by
 rw [bne]
 congr 1
 by_cases h : len = m
 ·subst h; simp
 ·rw [beq_false_of_ne h, beq_false_of_ne (by omega)]
theorem fits : ∀ t : Ty, afE t := Ty.ind fun k nm ks ih d c hd hd7 h0 h1 => by
 refine Ev.succ ?_
 show Ev (fun n => gI n _ _ _ _ c 16 6 (.mk k nm ks) d (decide (1 < d))) _
 unfold gI
 simp only [abP _ c d h0 h1, Option.bind_some, pf, Ty.kind, Ty.name, Ty.kids]
 cases hb : (decide (c + 1 ≤ 16) && decide (d ≤ 6)) with
 | false => exact Ev.ret _
 | true =>
  simp only [Bool.and_eq_true, decide_eq_true_eq] at hb
  have hk := ZH ks ih d (c + 1) hd hb.2 (by omega) hb.1
  simp only [Bool.not_true, cond_false, Bool.true_and]
  -- the end: the number of kids, the name, the kids
  have hend : ∀ m : Nat, Ev (fun n => (((cond ((ks.length : Int) != (m : Int)) (some true) (cond (k != 3) (some (!(nm == ([] : Str)))) (some false))) : Option Bool).bind fun (s2 : Bool) => (cond s2 (some (false, c + 1)) ((bL n ks (c + 1) 16 6 d).bind fun (x2 : Bool × Int) => some ((!x2.1), x2.2)))))
    (cond ((ks.length == m) && cond (k == 3) true (nm == [])) (lD ks (d + 1) (c + 1)) (false, c + 1)) := fun m => by
   rw [UQ]
   cases ks.length == m with
   | false => exact Ev.ret _
   | true =>
    simp only [Bool.not_true, cond_false, Bool.true_and, bne]
    have hkids : Ev (fun n => (bL n ks (c + 1) 16 6 d).bind fun (x2 : Bool × Int) => some ((!x2.1), x2.2)) (lD ks (d + 1) (c + 1)) := by
     refine Ev.bind hk ?_
     simp only [Bool.not_not]
     exact Ev.ret _
    cases k == 3 with
    | true => exact hkids
    | false =>
     simp only [Bool.not_false, cond_true, Option.bind_some, cond_false]
     cases nm == ([] : Str) with
     | false => exact Ev.ret _
     | true => exact hkids
  by_cases e1 : k = 1
  ·subst e1
   have := hend 0
   simpa [iK] using this
  by_cases e2 : k = 2
  ·subst e2
   cases hf : decide (1 < d) with
   | true =>
    have : iK 2 nm ks.length d = false := by simp [iK, hf]
    simp only [this, cond_false]
    exact Ev.of fun n => by simp
   | false =>
    have := hend 0
    simpa [iK, hf] using this
  by_cases e3 : k = 3
  ·subst e3
   simp only [show ((3 : Int) == 1) = false from rfl, show ((3 : Int) == 2) = false from rfl, show ((3 : Int) == 3) = true from rfl, cond_false, cond_true]
   refine Ev.bind (a := cond (ident nm) (.nx 0) (.rt (false, c + 1))) (Ev.bind (oh nm) ?_) ?_
   ·cases ident nm
    ·exact Ev.ret _
    ·exact Ev.ret _
   ·cases hi : ident nm with
    | false =>
     have : iK 3 nm ks.length d = false := by simp [iK, hi]
     rw [this]
     exact Ev.ret _
    | true =>
     have := hend 0
     simpa [iK, hi] using this
  by_cases e4 : k = 4
  ·subst e4
   have := hend 2
   simpa [iK] using this
  by_cases e5 : k = 5
  ·subst e5
   have := hend 1
   simpa [iK] using this
  ·have : iK k nm ks.length d = false := by simp [iK, e1, e2, e3, e4, e5]
   rw [this]
   refine Ev.of fun n => ?_
   have b1 := beq_false_of_ne e1
   have b2 := beq_false_of_ne e2
   have b3 := beq_false_of_ne e3
   have b4 := beq_false_of_ne e4
   have b5 := beq_false_of_ne e5
   simp only [b1, b2, b3, b4, b5, cond_false, Option.bind_some, LR.el]
def eH (t : Ty) : Bool := (pf t 1 0).1
theorem oQ (t : Ty) : Ev (fun n => fT n t) (eH t) := by
 unfold fT
 have := fits t 1 0 (by omega) (by omega) (by omega) (by omega)
 rw [show decide ((1 : Int) < 1) = false from rfl] at this
 exact Ev.bind this (Ev.ret _)
def pt (t : Ty) (d c : Int) : Int := cond (pf t d c).1 (pf t d c).2 (-1)
def aem (t : Ty) : Prop := ∀ d c : Int, 1 ≤ d → d ≤ 7 → 0 ≤ c → c ≤ 16 → Ev (fun n => l8 n t d c) (pt t d c)
theorem Xd (d : Int) : ∀ (ts : List Ty) (c : Int), 0 ≤ c → iq (τ := Int) (fun x s => cond (decide (pt x d s < 0)) (.rt (-1)) (.nx (pt x d s))) (fun s => s) ts c = cond (lD ts d c).1 (.nx (lD ts d c).2) (.rt (-1))
 | [], c, _ => rfl
 | t :: ts, c, h0 => by
  simp only [lD, iq]
  by_cases hb : (pf t d c).1 = true
  ·have h1 := Ig t d c hb
   have h2 : pt t d c = (pf t d c).2 := by simp only [pt, hb, cond_true]
   have h3 : decide ((pf t d c).2 < 0) = false := decide_eq_false (by omega)
   simp only [h2, h3, hb, cond_true, cond_false]
   exact Xd d ts (pf t d c).2 (by omega)
  ·have hb' : (pf t d c).1 = false := by simpa using hb
   have h2 : pt t d c = -1 := by simp only [pt, hb', cond_false]
   have h3 : decide (pt t d c < 0) = true := decide_eq_true (by omega)
   simp only [h3, hb', cond_true, cond_false]
theorem typed : ∀ t : Ty, aem t := Ty.ind fun k nm ks ih d c hd hd7 h0 h1 => by
 refine Ev.succ ?_
 show Ev (fun n => qV n _ (.mk k nm ks) d c) _
 unfold qV
 simp only [pt, pf, Ty.kind, Ty.name, Ty.kids]
 rw [wrap64 (by omega) (by omega)]
 by_cases hd6 : d ≤ 6
 case neg =>
  rw [decide_eq_true (show 6 < d by omega), decide_eq_false hd6]
  simp only [Bool.and_false, Bool.false_and, cond_false]
  exact Ev.ret _
 by_cases hc : c + 1 ≤ 16
 case neg =>
  rw [decide_eq_false (show ¬ 6 < d by omega), decide_eq_true (show 16 < c + 1 by omega), decide_eq_false hc]
  simp only [Bool.false_and, cond_false, cond_true]
  exact Ev.ret _
 rw [decide_eq_false (show ¬ 6 < d by omega), decide_eq_false (show ¬ 16 < c + 1 by omega), decide_eq_true hd6, decide_eq_true hc]
 simp only [cond_false, Bool.true_and]
 have hloop := vW ks (fun n k' i s => oI n (fun p0 p1 p2 => l8 n p0 p1 p2) (.mk k nm ks) d k' (s, i)) (fun n x s => (l8 n x (IntKind.wrap .i64 (d + 1)) s).bind fun x2 => cond (decide (x2 < 0)) (some (.rt (-1))) (some (.nx x2)))
  (fun x s => cond (decide (pt x (d + 1) s < 0)) (.rt (-1)) (.nx (pt x (d + 1) s))) (fun s => s) (fun _ s => 0 ≤ s ∧ s ≤ 16)
  (fun n k' i s => by
   show cond _ _ _ = _
   congr 1
   show (idx ks i).bind _ = _
   congr 1
   funext x
   dsimp only
   cases l8 n x (IntKind.wrap .i64 (d + 1)) s with
   | none => rfl
   | some b => simp only [Option.bind_some]; cases decide (b < 0) <;> rfl)
  (fun x suf s hx hs => ⟨by
   rw [wrap64 (by omega) (by omega)]
   refine Ev.bind (ih x hx (d + 1) s (by omega) (by omega) hs.1 hs.2) ?_
   cases decide (pt x (d + 1) s < 0)
   ·exact Ev.ret _
   ·exact Ev.ret _, fun s' he => by
    cases hb : decide (pt x (d + 1) s < 0) with
    | true => rw [hb] at he; cases he
    | false =>
     rw [hb] at he
     simp only [cond_false, LR.nx.injEq] at he
     have hneg : ¬ pt x (d + 1) s < 0 := of_decide_eq_false hb
     subst he
     unfold pt at hneg ⊢
     cases hb2 : (pf x (d + 1) s).1 with
     | false => rw [hb2] at hneg; simp at hneg
     | true => have := Ig x (d + 1) s hb2; simp only [cond_true]; omega⟩) (s0 := c + 1) ⟨by omega, hc⟩
 rw [Xd _ _ _ (by omega)] at hloop
 have hkids : Ev (fun n => (oI n (fun p0 p1 p2 => l8 n p0 p1 p2) (.mk k nm ks) d n (c + 1, 0)).bind (LR.el (fun (s5 : Int) => some s5) (fun r => some r))) (cond (lD ks (d + 1) (c + 1)).1 (lD ks (d + 1) (c + 1)).2 (-1)) := by
  refine Ev.bind hloop ?_
  cases (lD ks (d + 1) (c + 1)).1
  ·exact Ev.ret _
  ·exact Ev.ret _
 have hend : ∀ m : Nat, Ev (fun n => (((cond ((ks.length : Int) != (m : Int)) (some true) (cond (k == 3) ((dU n nm).bind fun (x3 : Bool) => (cond (!x3) (some true) (cond (k != 3) (some (!(nm == ([] : Str)))) (some false)))) (cond (k != 3) (some (!(nm == ([] : Str)))) (some false)))) : Option Bool).bind fun (s3 : Bool) => (cond s3 (some (-1)) ((oI n (fun p0 p1 p2 => l8 n p0 p1 p2) (.mk k nm ks) d n (c + 1, 0)).bind (LR.el (fun (s5 : Int) => some s5) (fun r => some r))))))
   (cond ((ks.length == m) && cond (k == 3) (ident nm) (nm == [])) (cond (lD ks (d + 1) (c + 1)).1 (lD ks (d + 1) (c + 1)).2 (-1)) (-1)) := fun m => by
  rw [UQ]
  cases ks.length == m with
  | false => exact Ev.ret _
  | true =>
   simp only [Bool.not_true, cond_false, Bool.true_and, bne]
   cases k == 3 with
   | true =>
    simp only [cond_true, Bool.not_true, cond_false]
    refine Ev.bind (a := !(ident nm)) (Ev.bind (nC nm) ?_) ?_
    ·cases ident nm
     ·exact Ev.ret _
     ·exact Ev.ret _
    ·cases ident nm
     ·exact Ev.ret _
     ·exact hkids
   | false =>
    simp only [cond_false, Bool.not_false, cond_true, Option.bind_some]
    cases nm == ([] : Str) with
    | false => exact Ev.ret _
    | true => exact hkids
 have hpair : ∀ b : Bool, (cond (cond b (lD ks (d + 1) (c + 1)) (false, c + 1)).1 (cond b (lD ks (d + 1) (c + 1)) (false, c + 1)).2 (-1) : Int) = cond b (cond (lD ks (d + 1) (c + 1)).1 (lD ks (d + 1) (c + 1)).2 (-1)) (-1) := fun b => by cases b <;> rfl
 rw [hpair]
 by_cases e1 : k = 1
 ·subst e1
  have := hend 0
  simpa [iK] using this
 by_cases e2 : k = 2
 ·subst e2
  cases hf : decide (1 < d) with
  | true =>
   have : iK 2 nm ks.length d = false := by simp [iK, hf]
   rw [this]
   exact Ev.of fun n => by simp
  | false =>
   have := hend 0
   simpa [iK, hf] using this
 by_cases e3 : k = 3
 ·subst e3
  have := hend 0
  simpa [iK] using this
 by_cases e4 : k = 4
 ·subst e4
  have := hend 2
  simpa [iK] using this
 by_cases e5 : k = 5
 ·subst e5
  have := hend 1
  simpa [iK] using this
 ·have : iK k nm ks.length d = false := by simp [iK, e1, e2, e3, e4, e5]
  rw [this]
  refine Ev.of fun n => ?_
  have b1 := beq_false_of_ne e1
  have b2 := beq_false_of_ne e2
  have b3 := beq_false_of_ne e3
  have b4 := beq_false_of_ne e4
  have b5 := beq_false_of_ne e5
  simp only [b1, b2, b3, b4, b5, cond_false, Option.bind_some, LR.el]
theorem wh (t : Ty) : Ev (fun n => dY n t) (eH t) := by
 unfold dY
 refine Ev.bind (typed t 1 0 (by omega) (by omega) (by omega) (by omega)) ?_
 unfold pt eH
 cases hb : (pf t 1 0).1 with
 | false => exact Ev.ret _
 | true =>
  have := Ig t 1 0 hb
  simp only [cond_true]
  rw [decide_eq_true (by omega)]
  exact Ev.ret _
theorem GR {α σ τ ρ : Type} (f : α → σ → σ) (fin : σ → τ) : ∀ (l : List α) (s : σ), iq (ρ := ρ) (fun x s => .nx (f x s)) fin l s = .nx (fin (l.foldl (fun s x => f x s) s))
 | [], _ => rfl
 | x :: xs, s => GR f fin xs (f x s)
theorem iD {α σ τ ρ : Type} (l : List α) (L : Nat → Nat → Int → σ → Option (LR τ ρ)) (step : Nat → α → σ → Option σ) (f : α → σ → σ) (fin : σ → τ) (I : List α → σ → Prop)
  (hL : ∀ n k i s, L n (k + 1) i s = cond (decide (i < (l.length : Int))) ((idx l i).bind fun x => (step n x s).bind fun s' => L n k (i + 1) s') (some (.nx (fin s))))
  (hI : ∀ x suf s, x ∈ l → I (x :: suf) s → Ev (fun n => step n x s) (f x s) ∧ I suf (f x s)) {s0 : σ} (h0 : I l s0) : Ev (fun n => L n n 0 s0) (.nx (fin (l.foldl (fun s x => f x s) s0))) := by
 rw [← GR f fin]
 refine vW l L (fun n x s => (step n x s).bind fun s' => some (.nx s')) (fun x s => .nx (f x s)) fin I (fun n k i s => ?_) (fun x suf s hx hs => ?_) h0
 ·rw [hL]
  congr 1
  congr 1
  funext x
  cases step n x s <;> rfl
 ·obtain ⟨h1, h2⟩ := hI x suf s hx hs
  exact ⟨Ev.bind h1 (Ev.ret _), fun s' h => by cases h; exact h2⟩
theorem P5 {α ρ : Type} (l : List α) (L : Nat → Nat → Int → Option (LR Unit ρ)) (step : Nat → α → Option (LR Unit ρ)) (p : α → Bool) (r : ρ)
  (hL : ∀ n k i, L n (k + 1) i = cond (decide (i < (l.length : Int))) ((idx l i).bind fun x => (step n x).bind (LR.el (fun _ => L n k (i + 1)) (fun r => some (.rt r)))) (some (.nx ())))
  (hp : ∀ x ∈ l, Ev (fun n => step n x) (cond (p x) (.rt r) (.nx ()))) : Ev (fun n => L n n 0) (cond (l.any p) (.rt r) (.nx ())) := by
 have := vW l (fun n k i (_ : Unit) => L n k i) (fun n x _ => step n x) (fun x _ => cond (p x) (.rt r) (.nx ())) (fun _ => ()) (fun _ _ => True)
  (fun n k i s => by rw [hL]) (fun x suf s hx _ => ⟨hp x hx, fun _ _ => trivial⟩) (s0 := ()) trivial
 rw [Gd] at this
 exact this
theorem eX {α : Type} {b : Nat} {l ys : List α} (h : l.length + ys.length ≤ 1000000) (hb : b ≤ 1000) : app b l ys = some (l ++ ys) := by
 unfold app
 have := Nat.mul_le_mul h hb
 rw [if_pos ⟨by omega, by omega⟩]
theorem mP {α : Type} : ∀ (l s : List α), l.foldl (fun s x => s ++ [x]) s = s ++ l
 | [], s => by simp
 | x :: l, s => by simp [mP l]
theorem Gb {α : Type} (k : Str) : dO ([] : List (Str × α)) k = none := rfl
theorem j3 {α : Type} (p : Str × α) (m : List (Str × α)) (k : Str) : dO (p :: m) k = if p.1 == k then some p.2 else dO m k := by
 unfold dO
 simp only [List.find?_cons]
 cases p.1 == k <;> rfl
theorem Hw {α : Type} (m : List (Str × α)) (k : Str) (v : α) (k' : Str) : dO (jT m k v) k' = if k == k' then some v else dO m k' := by
 induction m with
 | nil => rw [jT, j3]
 | cons p m ih =>
  simp only [jT]
  by_cases h : (p.1 == k) = true
  ·have e : p.1 = k := by simpa using h
   rw [if_pos h, j3, j3, e]
   by_cases hk : (k == k') = true
   ·rw [if_pos hk, if_pos hk]
   ·rw [if_neg hk, if_neg hk, if_neg hk]
  ·rw [if_neg h, j3, ih, j3]
   by_cases hp : (p.1 == k') = true
   ·rw [if_pos hp, if_pos hp, if_neg]
    intro h2
    apply h
    have e1 : p.1 = k' := by simpa using hp
    have e2 : k = k' := by simpa using h2
    simp [e1, e2]
   ·rw [if_neg hp, if_neg hp]
theorem xC {α : Type} (m : List (Str × α)) (k : Str) (v : α) : (jT m k v).length ≤ m.length + 1 := by
 induction m with
 | nil => simp [jT]
 | cons p m ih =>
  simp only [jT]
  split
  ·simp
  ·simp only [List.length_cons]; omega
theorem Di {α : Type} {m : List (Str × α)} (h : m.length ≤ 1000000) (k : Str) (v : α) : um m k v = some (jT m k v) := by
 unfold um
 rw [if_pos (by omega)]
theorem mem_keys {α : Type} (m : List (Str × α)) (k : Str) : k ∈ m.map (·.1) ↔ ∃ v, dO m k = some v := by
 induction m with
 | nil => simp [Gb]
 | cons p m ih =>
  rw [j3]
  simp only [List.map_cons, List.mem_cons, ih]
  by_cases h : (p.1 == k) = true
  ·rw [if_pos h]
   have e : p.1 = k := by simpa using h
   exact ⟨fun _ => ⟨_, rfl⟩, fun _ => .inl e.symm⟩
  ·rw [if_neg h]
   have e : k ≠ p.1 := fun e => h (by simp [e])
   simp [e]
def eO {α : Type} (l : List (Str × α)) (m : List (Str × α)) : List (Str × α) := l.foldl (fun m p => jT m p.1 p.2) m
theorem zu {α : Type} (l m : List (Str × α)) : (eO l m).length ≤ m.length + l.length := by
 induction l generalizing m with
 | nil => simp [eO]
 | cons p l ih =>
  have h1 := ih (jT m p.1 p.2)
  have h2 := xC m p.1 p.2
  simp only [eO, List.foldl_cons, List.length_cons] at h1 ⊢
  omega
theorem EG {α : Type} (l l' m : List (Str × α)) : eO (l ++ l') m = eO l' (eO l m) := by simp [eO]
theorem Ya {α : Type} (l m : List (Str × α)) (k : Str) : k ∈ (eO l m).map (·.1) ↔ k ∈ m.map (·.1) ∨ k ∈ l.map (·.1) := by
 induction l generalizing m with
 | nil => simp [eO]
 | cons p l ih =>
  have h1 := ih (jT m p.1 p.2)
  have h2 : k ∈ (jT m p.1 p.2).map (·.1) ↔ k ∈ m.map (·.1) ∨ k = p.1 := by
   rw [mem_keys, mem_keys, Hw]
   by_cases h : (p.1 == k) = true
   ·rw [if_pos h]
    have e : p.1 = k := by simpa using h
    exact ⟨fun _ => .inr e.symm, fun _ => ⟨_, rfl⟩⟩
   ·rw [if_neg h]
    have e : k ≠ p.1 := fun e => h (by simp [e])
    simp [e]
  rw [h2] at h1
  simp only [eO, List.foldl_cons, List.map_cons, List.mem_cons] at h1 ⊢
  rw [h1, or_assoc]
mutual
def mM (q : Int) : Ty → Bool
 | .mk k _ ks => k == q || Sd q ks
def Sd (q : Int) : List Ty → Bool
 | [] => false
 | t :: ts => mM q t || Sd q ts
end
theorem Hz (q : Int) : ∀ ts, Sd q ts = ts.any (mM q)
 | [] => rfl
 | t :: ts => by simp [Sd, Hz q ts]
theorem Jy (q : Int) : ∀ t : Ty, Ev (fun n => fG n t q) (mM q t) := Ty.ind fun k nm ks ih => by
 refine Ev.succ ?_
 show Ev (fun n => jN n _ _ _ _ (.mk k nm ks) q) _
 unfold jN
 simp only [Ty.kind, Ty.kids, mM, Hz]
 have hk : Ev (fun n => cK n ks q) (ks.any (mM q)) := by
  refine Ev.succ ?_
  show Ev (fun n => eY n _ _ _ _ ks q) _
  unfold eY
  refine Ev.bind (a := gM (mM q) 0 ks) (Ev.succ ?_) ?_
  ·show Ev (fun n => fU n _ _ _ _ ks q) _
   unfold fU
   refine nS ks (fun n k i => gH n _ _ _ (fun p0 p1 => eU n p0 p1) ks q k i) (fun n x => eU n x q) (mM q) (fun n k i => rfl) (fun x hx => ?_)
   refine Ev.succ ?_
   show Ev (fun n => je n _ _ _ _ x q) _
   unfold je
   exact Ev.bind (ih x hx) (Ev.ret _)
  ·rw [qK _ _ _ (Int.le_refl _)]; exact Ev.ret _
 cases hq : (k == q)
 ·exact Ev.bind (Ev.bind hk (Ev.ret _)) (Ev.ret _)
 ·exact Ev.bind (Ev.ret _) (Ev.ret _)
theorem Fy : ∀ t : Ty, Ev (fun n => gK n t) (mM 2 t) := Ty.ind fun k nm ks ih => by
 refine Ev.succ ?_
 show Ev (fun n => mI n _ (.mk k nm ks)) _
 unfold mI
 simp only [Ty.kind, mM, Hz]
 cases hq : (k == 2)
 ·have h := iH ks (fun n k' i => nY n (fun p0 => gK n p0) (.mk k nm ks) k' i) (fun n x => gK n x) (mM 2) true (fun n k i => rfl) ih
  simp only [cond_false, Bool.false_or]
  refine Ev.bind h ?_
  cases ks.any (mM 2)
  ·exact Ev.ret _
  ·exact Ev.ret _
 ·exact Ev.ret _
mutual
def bY : Ty → List Str
 | .mk k nm ks => cond (k == 3) [nm] (iG ks)
def iG : List Ty → List Str
 | [] => []
 | t :: ts => bY t ++ iG ts
end
mutual
def zi : Ty → Bool
 | .mk k _ ks => (decide (ks.length ≤ 2) && (k != 3 || ks.length == 0)) && KV ks
def KV : List Ty → Bool
 | [] => true
 | t :: ts => zi t && KV ts
end
theorem xG : ∀ {ts : List Ty}, KV ts = true → ∀ t ∈ ts, zi t = true
 | [], _, t, h => by cases h
 | u :: ts, h, t, ht => by
  simp only [KV, Bool.and_eq_true] at h
  rcases List.mem_cons.1 ht with rfl | ht
  ·exact h.1
  ·exact xG h.2 t ht
theorem ME : ∀ {ts : List Ty} {t : Ty}, t ∈ ts → (bY t).length ≤ (iG ts).length
 | [], t, h => by cases h
 | u :: ts, t, ht => by
  simp only [iG, List.length_append]
  rcases List.mem_cons.1 ht with rfl | ht
  ·omega
  ·have := ME ht; omega
theorem acW {k : Int} {nm : Str} {len : Nat} {d : Int} (h : iK k nm len d = true) : len ≤ 2 ∧ (k = 3 → len = 0) := by
 unfold iK at h
 simp only [Bool.and_eq_true, Bool.or_eq_true, beq_iff_eq] at h
 obtain ⟨_, h, _⟩ := h
 rcases h with ⟨h1, h2⟩ | ⟨h1, h2⟩ | ⟨h1, h2⟩ <;> omega
mutual
theorem ab7 : ∀ (t : Ty) (d c : Int), (pf t d c).1 = true → zi t = true ∧ ((bY t).length : Int) ≤ (pf t d c).2 - c
 | .mk k nm ks, d, c, h => by
  simp only [pf] at h ⊢
  cases hb : ((decide (c + 1 ≤ 16) && decide (d ≤ 6)) && iK k nm ks.length d) with
  | false => rw [hb] at h; cases h
  | true =>
   rw [hb] at h
   simp only [cond_true] at h ⊢
   simp only [Bool.and_eq_true] at hb
   have hh := acW hb.2
   have h1 := aaq ks (d + 1) (c + 1) h
   have h2 := Sk ks (d + 1) (c + 1) h
   constructor
   ·simp only [zi, h1.1, Bool.and_true, Bool.and_eq_true, decide_eq_true_eq, Bool.or_eq_true, bne_iff_ne, beq_iff_eq]
    refine ⟨hh.1, ?_⟩
    by_cases e : k = 3
    ·exact .inr (hh.2 e)
    ·exact .inl e
   ·simp only [bY]
    cases k == 3 with
    | true => simp only [cond_true, List.length_singleton]; omega
    | false => simp only [cond_false]; omega
theorem aaq : ∀ (ts : List Ty) (d c : Int), (lD ts d c).1 = true → KV ts = true ∧ ((iG ts).length : Int) ≤ (lD ts d c).2 - c
 | [], _, c, _ => by simp [lD, KV, iG]
 | t :: ts, d, c, h => by
  simp only [lD] at h ⊢
  cases hb : (pf t d c).1 with
  | false => rw [hb] at h; cases h
  | true =>
   rw [hb] at h
   simp only [cond_true] at h ⊢
   have h1 := ab7 t d c hb
   have h2 := aaq ts d _ h
   simp only [KV, h1.1, h2.1, Bool.and_true, iG, List.length_append]
   refine ⟨trivial, ?_⟩
   omega
end
theorem rO {t : Ty} (h : eH t = true) : zi t = true ∧ (bY t).length ≤ 16 := by
 have h1 := ab7 t 1 0 h
 have h2 := Ig t 1 0 h
 exact ⟨h1.1, by omega⟩
theorem N7 : ∀ t : Ty, zi t = true → (bY t).length ≤ 16 → Ev (fun n => jM n t) (bY t) := Ty.ind fun k nm ks ih hok hlen => by
 refine Ev.succ ?_
 show Ev (fun n => nL n _ (.mk k nm ks)) _
 unfold nL
 simp only [Ty.kind, Ty.name, bY] at hlen ⊢
 simp only [zi, Bool.and_eq_true, decide_eq_true_eq] at hok
 cases hq : (k == 3) with
 | true => exact Ev.ret _
 | false =>
  rw [hq] at hlen
  simp only [cond_false] at hlen ⊢
  have h := iD ks (fun n k' i s => pX n (fun p0 => jM n p0) (.mk k nm ks) k' (s, i)) (fun n x s => (jM n x).bind fun x2 => app 16 s x2) (fun x s => s ++ bY x) (fun s => s) (fun suf s => s.length + (iG suf).length ≤ 16)
   (fun n k' i s => by
    show cond _ _ _ = _
    congr 1
    show (idx ks i).bind _ = _
    congr 1
    funext x
    simp only [Option.bind_assoc])
   (fun x suf s hx hs => by
    simp only [iG, List.length_append] at hs
    refine ⟨Ev.bind (ih x hx (xG hok.2 x hx) (by have := ME hx; omega)) ?_, ?_⟩
    ·rw [eX (by omega) (by omega)]; exact Ev.ret _
    ·simp only [List.length_append]; omega) (s0 := ([] : List Str)) (by simpa using hlen)
  have hf : ∀ (ts : List Ty) (s : List Str), ts.foldl (fun s x => s ++ bY x) s = s ++ iG ts := by
   intro ts
   induction ts with
   | nil => intro s; simp [iG]
   | cons t ts iht => intro s; simp [iG, iht]
  rw [hf] at h
  exact Ev.bind h (Ev.ret _)
theorem Y2 : ∀ t : Ty, zi t = true → ∀ m : List (Str × Bool), m.length + (bY t).length ≤ 1000 → Ev (fun n => gQ n t m) (eO ((bY t).map fun s => (s, true)) m) := Ty.ind fun k nm ks ih hok m hlen => by
 refine Ev.succ ?_
 show Ev (fun n => kT n _ (.mk k nm ks) m) _
 unfold kT
 simp only [Ty.kind, Ty.name, bY] at hlen ⊢
 simp only [zi, Bool.and_eq_true, decide_eq_true_eq, Bool.or_eq_true, beq_iff_eq, bne_iff_ne] at hok
 have hloop : ∀ (m : List (Str × Bool)), m.length + (iG ks).length ≤ 1000 → Ev (fun n => ku n (fun p0 p1 => gQ n p0 p1) (.mk k nm ks) n (0, m)) (.nx (eO ((iG ks).map fun s => (s, true)) m)) := fun m hm => by
  have h := iD ks (fun n k' i s => ku n (fun p0 p1 => gQ n p0 p1) (.mk k nm ks) k' (i, s)) (fun n x s => gQ n x s) (fun x s => eO ((bY x).map fun s => (s, true)) s) (fun s => s) (fun suf s => s.length + (iG suf).length ≤ 1000)
   (fun n k' i s => rfl)
   (fun x suf s hx hs => by
    simp only [iG, List.length_append] at hs
    refine ⟨ih x hx (xG hok.2 x hx) s (by omega), ?_⟩
    have := zu ((bY x).map fun s => (s, true)) s
    simp only [List.length_map] at this
    omega) (s0 := m) hm
  have hf : ∀ (ts : List Ty) (s : List (Str × Bool)), ts.foldl (fun s x => eO ((bY x).map fun s => (s, true)) s) s = eO ((iG ts).map fun s => (s, true)) s := by
   intro ts
   induction ts with
   | nil => intro s; rfl
   | cons t ts iht => intro s; simp only [List.foldl_cons, iG, List.map_append, EG, iht]
  rw [hf] at h
  exact h
 cases hq : (k == 3) with
 | true =>
  have hk : k = 3 := by simpa using hq
  have hks : ks = [] := by
   rcases hok.1.2 with h | h
   ·exact absurd hk h
   ·exact List.length_eq_zero_iff.1 h
  rw [hq] at hlen
  simp only [cond_true, List.length_singleton] at hlen ⊢
  rw [Di (by omega)]
  have hl := xC m nm true
  have := hloop (jT m nm true) (by rw [hks]; simp only [iG, List.length_nil]; omega)
  rw [hks] at this ⊢
  simp only [Option.bind_some]
  exact Ev.bind this (Ev.ret _)
 | false =>
  rw [hq] at hlen
  simp only [cond_false, Option.bind_some] at hlen ⊢
  exact Ev.bind (hloop m hlen) (Ev.ret _)
theorem yN {t : Ty} (h : eH t = true) : Ev (fun n => iU n t) (((eO ((bY t).map fun s => (s, true)) []).map (·.1)).mergeSort EO) := by
 unfold iU
 refine Ev.bind (oQ t) ?_
 rw [h]
 obtain ⟨h1, h2⟩ := rO h
 refine Ev.bind (Y2 t h1 [] (by simp; omega)) ?_
 have := zu ((bY t).map fun s => (s, true)) []
 simp only [List.length_map, List.length_nil] at this
 unfold mX
 rw [if_pos (by omega)]
 exact Ev.ret _
theorem Hy (t : Ty) (s : Str) : s ∈ ((eO ((bY t).map fun s => (s, true)) []).map (·.1)).mergeSort EO ↔ s ∈ bY t := by
 rw [List.mem_mergeSort, Ya]
 simp
theorem yB : ∀ t : Ty, zi t = true → Ev (fun n => d9 n t) t := Ty.ind fun k nm ks ih hok => by
 refine Ev.succ ?_
 show Ev (fun n => nQ n _ (.mk k nm ks)) _
 unfold nQ
 simp only [Ty.kind, Ty.name]
 simp only [zi, Bool.and_eq_true, decide_eq_true_eq] at hok
 have h := iD ks (fun n k' i s => o7 n (fun p0 => d9 n p0) (.mk k nm ks) k' (i, s)) (fun n x s => (d9 n x).bind fun x2 => app 48 s [x2]) (fun x s => s ++ [x]) (fun s => s) (fun suf s => s.length + suf.length ≤ 2)
  (fun n k' i s => by
   show cond _ _ _ = _
   congr 1
   show (idx ks i).bind _ = _
   congr 1
   funext x
   simp only [Option.bind_assoc])
  (fun x suf s hx hs => by
   simp only [List.length_cons] at hs
   refine ⟨Ev.bind (ih x hx (xG hok.2 x hx)) ?_, ?_⟩
   ·rw [eX (by simp only [List.length_singleton]; omega) (by omega)]; exact Ev.ret _
   ·simp only [List.length_append, List.length_singleton]; omega) (s0 := ([] : List Ty)) (by simpa using hok.1.1)
 rw [mP] at h
 exact Ev.bind h (Ev.ret _)
theorem qo {α : Type} [BEq α] [ReflBEq α] (a : α) : (a != a) = false := by simp [bne]
theorem CF {α : Type} (l : List α) : (l.any fun _ => false) = false := by induction l <;> simp_all
theorem xY : ∀ t : Ty, Ev (fun n => bf n t t) true := Ty.ind fun k nm ks ih => by
 refine Ev.succ ?_
 show Ev (fun n => jr n _ (.mk k nm ks) (.mk k nm ks)) _
 unfold jr
 simp only [qo, beq_self_eq_true, Bool.not_true, cond_false, Option.bind_some]
 have h := iH ks (fun n k' i => nA n (fun p0 p1 => bf n p0 p1) (.mk k nm ks) (.mk k nm ks) k' i) (fun n x => (bf n x x).bind fun b => some (!b)) (fun _ => false) false
  (fun n k' i => by
   show cond _ _ _ = _
   congr 1
   show (idx ks i).bind _ = _
   cases hx : idx ks i with
   | none => rfl
   | some x =>
    show ((idx ks i).bind _) = _
    rw [hx]
    simp only [Option.bind_some, Option.bind_assoc])
  (fun x hx => Ev.bind (ih x hx) (Ev.ret _))
 rw [CF] at h
 exact Ev.bind h (Ev.ret _)
def bR (env : Env) (s : Str) : Bool := env.carriers.any fun c => c.name == s
def xO (c : Carrier) : Bool := ident c.name && (!(decide (8 < (c.elems.length : Int))) && c.elems.all ident)
def tO (env : Env) (d : Decl) : Bool := named d.name && ((eH d.ty && !(mM 2 d.ty)) && (bY d.ty).all (bR env))
def o9 (env : Env) : List Str := (env.carriers.flatMap fun c => c.name :: c.elems) ++ env.names.map (·.name)
def names2 (env : Env) : List Str := env.carriers.map (·.name) ++ (env.carriers.flatMap (·.elems) ++ env.names.map (·.name))
def iC : List Str → List Str → Bool
 | _, [] => true
 | pre, x :: xs => !(pre.any (· == x)) && iC (pre ++ [x]) xs
theorem P6 : ∀ (l pre : List Str), iC pre l = true ↔ l.Nodup ∧ ∀ x ∈ l, x ∉ pre
 | [], pre => by simp [iC]
 | x :: l, pre => by
  simp only [iC, Bool.and_eq_true, P6 l, Bool.not_eq_true', List.nodup_cons, List.mem_cons, List.any_eq_false, beq_iff_eq, List.mem_append, List.not_mem_nil, or_false]
  constructor
  ·rintro ⟨h1, h2, h3⟩
   refine ⟨⟨fun hx => (h3 x hx) (.inr rfl), h2⟩, ?_⟩
   rintro y (rfl | hy)
   ·exact fun hp => h1 _ hp rfl
   ·exact fun hp => h3 y hy (.inl hp)
  ·rintro ⟨⟨h1, h2⟩, h3⟩
   refine ⟨fun y hy e => h3 x (.inl rfl) (e ▸ hy), h2, fun y hy hp => ?_⟩
   rcases hp with hp | rfl
   ·exact h3 y (.inr hy) hp
   ·exact h1 hy
theorem Ka (l : List Str) : iC [] l = true ↔ l.Nodup := by rw [P6]; simp
theorem aad (cs : List Carrier) : (cs.flatMap fun c => c.name :: c.elems).Perm (cs.map (·.name) ++ cs.flatMap (·.elems)) := by
 induction cs with
 | nil => simp
 | cons c cs ih =>
  simp only [List.flatMap_cons, List.map_cons, List.cons_append]
  refine List.Perm.cons _ ?_
  refine (List.Perm.append_left _ ih).trans ?_
  rw [← List.append_assoc, ← List.append_assoc]
  exact List.Perm.append_right _ List.perm_append_comm
theorem qD (env : Env) : (o9 env).Perm (names2 env) := by
 unfold o9 names2
 rw [← List.append_assoc]
 exact List.Perm.append_right _ (aad _)
theorem aah (env : Env) : iC [] (o9 env) = iC [] (names2 env) := by
 have h : (iC [] (o9 env) = true) ↔ (iC [] (names2 env) = true) := by rw [Ka, Ka]; exact (qD env).nodup_iff
 cases h1 : iC [] (o9 env) <;> cases h2 : iC [] (names2 env) <;> simp_all
def bn (env : Env) : Bool := !(decide (8 < (env.carriers.length : Int)) || decide (64 < (env.names.length : Int))) && (env.carriers.all xO && (env.names.all (tO env) && iC [] (names2 env)))
theorem Qi (env : Env) (s : Str) : Ev (fun n => mF n env s) (bR env s) := by
 unfold mF iR j4
 refine Ev.bind (a := bR env s) ?_ (Ev.ret _)
 refine Ev.bind (nS env.carriers (fun n k i => gD n env.carriers s k i) (fun _ x => some (x.name == s)) (fun c => c.name == s) (fun n k i => rfl) (fun x _ => Ev.ret _)) ?_
 rw [qK _ _ _ (Int.le_refl _)]
 exact Ev.ret _
theorem I4 (env : Env) {t : Ty} (h : eH t = true) : Ev (fun n => iY n env t) ((bY t).all (bR env)) := by
 unfold iY jf kP
 refine Ev.bind (yN h) ?_
 generalize hl : ((eO ((bY t).map fun s => (s, true)) []).map (·.1)).mergeSort EO = l
 have hm : ∀ s, s ∈ l ↔ s ∈ bY t := fun s => by rw [← hl]; exact Hy t s
 have hf := nS l (fun n k i => gG n l env.carriers env.names k i) (fun n x => mD n x env.carriers env.names) (fun s => !(bR env s)) (fun n k i => rfl) (fun x _ => by
  unfold mD
  exact Ev.bind (Qi env x) (Ev.ret _))
 refine Ev.bind (a := l.any fun s => !(bR env s)) (Ev.bind hf ?_) ?_
 ·rw [qK _ _ _ (Int.le_refl _)]
  exact Ev.ret _
 ·rw [qg, Bool.not_not]
  have : l.all (bR env) = (bY t).all (bR env) := by
   have h : (l.all (bR env) = true) ↔ ((bY t).all (bR env) = true) := by simp only [List.all_eq_true, hm]
   cases h1 : l.all (bR env) <;> cases h2 : (bY t).all (bR env) <;> simp_all
  rw [this]
  exact Ev.ret _
theorem sZ (env : Env) (s : Str) : Ev (fun n => fZ n env s) (gM (fun c => c.name == s) 0 env.carriers) := by
 unfold fZ
 exact nS env.carriers (fun n k i => mJ n env s k i) (fun _ x => some (x.name == s)) (fun c => c.name == s) (fun n k i => rfl) (fun x _ => Ev.ret _)
theorem vH (a : Int) : decide (a < 0) = !(decide (0 ≤ a)) := by
 by_cases h : a < 0
 ·rw [decide_eq_true h, decide_eq_false (by omega)]; rfl
 ·rw [decide_eq_false h, decide_eq_true (by omega)]; rfl
theorem Kj (env : Env) {t : Ty} (h : eH t = true) : Ev (fun n => oO n env t) ((bY t).all (bR env)) := by
 unfold oO
 obtain ⟨h1, h2⟩ := rO h
 refine Ev.bind (N7 t h1 h2) ?_
 have hs := iH (bY t) (fun n k i => uO n env (bY t) k i) (fun n x => (fZ n env x).bind fun x3 => some (decide (x3 < 0))) (fun s => !(bR env s)) false
  (fun n k i => by
   show cond _ _ _ = _
   congr 1
   congr 1
   funext x
   simp only [Option.bind_assoc, Option.bind_some])
  (fun x _ => by
   refine Ev.bind (sZ env x) ?_
   rw [vH, qK _ _ _ (Int.le_refl _)]
   exact Ev.ret _)
 rw [qg] at hs
 refine Ev.bind hs ?_
 cases (bY t).all (bR env)
 ·exact Ev.ret _
 ·exact Ev.ret _
theorem BQ (env : Env) (h : (o9 env).length ≤ 1000000) : Ev (fun n => jW n env) (o9 env) := by
 unfold jW
 simp only [o9, List.length_append, List.length_map] at h
 have h1 := iD env.carriers (fun n k i s => lJ n env k (s, i)) (fun n x s => (app 16 s [x.name]).bind fun x4 => app 16 x4 x.elems) (fun x s => s ++ (x.name :: x.elems)) (fun s => s) (fun suf s => s.length + (suf.flatMap fun c => c.name :: c.elems).length ≤ 1000000)
  (fun n k i s => by
   show cond _ _ _ = _
   congr 1
   show (idx env.carriers i).bind _ = _
   congr 1
   funext x
   simp only [Option.bind_assoc])
  (fun x suf s hx hs => by
   simp only [List.flatMap_cons, List.length_append, List.length_cons] at hs
   refine ⟨?_, ?_⟩
   ·rw [eX (by simp only [List.length_singleton]; omega) (by omega), Option.bind_some, eX (by simp only [List.length_append, List.length_singleton]; omega) (by omega)]
    rw [List.append_assoc]
    exact Ev.ret _
   ·simp only [List.length_append, List.length_cons]; omega) (s0 := ([] : List Str)) (by simp only [List.length_nil]; omega)
 have hf1 : ∀ (cs : List Carrier) (s : List Str), cs.foldl (fun s x => s ++ (x.name :: x.elems)) s = s ++ cs.flatMap fun c => c.name :: c.elems := by
  intro cs
  induction cs with
  | nil => intro s; simp
  | cons c cs ih => intro s; rw [List.foldl_cons, ih]; simp
 rw [hf1, List.nil_append] at h1
 have h2 := iD env.names (fun n k i s => lS n env k (s, i)) (fun n x s => app 16 s [x.name]) (fun x s => s ++ [x.name]) (fun s => s) (fun suf s => s.length + suf.length ≤ 1000000)
  (fun n k i s => rfl)
  (fun x suf s hx hs => by
   simp only [List.length_cons] at hs
   refine ⟨?_, ?_⟩
   ·rw [eX (by simp only [List.length_singleton]; omega) (by omega)]
    exact Ev.ret _
   ·simp only [List.length_append, List.length_singleton]; omega) (s0 := env.carriers.flatMap fun c => c.name :: c.elems) (by omega)
 have hf2 : ∀ (cs : List Decl) (s : List Str), cs.foldl (fun s x => s ++ [x.name]) s = s ++ cs.map (·.name) := by
  intro cs
  induction cs with
  | nil => intro s; simp
  | cons c cs ih => intro s; rw [List.foldl_cons, ih]; simp
 rw [hf2] at h2
 exact Ev.bind h1 (Ev.bind h2 (Ev.ret _))
theorem uR (env : Env) (h : (names2 env).length ≤ 1000000) : Ev (fun n => lG n env) (names2 env) := by
 unfold lG
 simp only [names2, List.length_append, List.length_map] at h
 have h0 := iD env.carriers (fun n k i s => pK n env k (s, i)) (fun n x s => app 16 s [x.name]) (fun x s => s ++ [x.name]) (fun s => s) (fun suf s => s.length + suf.length ≤ 1000000)
  (fun n k i s => rfl)
  (fun x suf s hx hs => by
   simp only [List.length_cons] at hs
   refine ⟨?_, ?_⟩
   ·rw [eX (by simp only [List.length_singleton]; omega) (by omega)]
    exact Ev.ret _
   ·simp only [List.length_append, List.length_singleton]; omega) (s0 := ([] : List Str)) (by simp only [List.length_nil]; omega)
 have hf0 : ∀ (cs : List Carrier) (s : List Str), cs.foldl (fun s x => s ++ [x.name]) s = s ++ cs.map (·.name) := by
  intro cs
  induction cs with
  | nil => intro s; simp
  | cons c cs ih => intro s; rw [List.foldl_cons, ih]; simp
 rw [hf0, List.nil_append] at h0
 have h1 := iD env.carriers (fun n k i s => pO n env k (s, i)) (fun n x s => app 16 s x.elems) (fun x s => s ++ x.elems) (fun s => s) (fun suf s => s.length + (suf.flatMap (·.elems)).length ≤ 1000000)
  (fun n k i s => rfl)
  (fun x suf s hx hs => by
   simp only [List.flatMap_cons, List.length_append] at hs
   refine ⟨?_, ?_⟩
   ·rw [eX (by omega) (by omega)]
    exact Ev.ret _
   ·simp only [List.length_append]; omega) (s0 := env.carriers.map (·.name)) (by simp only [List.length_map]; omega)
 have hf1 : ∀ (cs : List Carrier) (s : List Str), cs.foldl (fun s x => s ++ x.elems) s = s ++ cs.flatMap (·.elems) := by
  intro cs
  induction cs with
  | nil => intro s; simp
  | cons c cs ih => intro s; rw [List.foldl_cons, ih]; simp
 rw [hf1] at h1
 have h2 := iD env.names (fun n k i s => pI n env k (s, i)) (fun n x s => app 16 s [x.name]) (fun x s => s ++ [x.name]) (fun s => s) (fun suf s => s.length + suf.length ≤ 1000000)
  (fun n k i s => rfl)
  (fun x suf s hx hs => by
   simp only [List.length_cons] at hs
   refine ⟨?_, ?_⟩
   ·rw [eX (by simp only [List.length_singleton]; omega) (by omega)]
    exact Ev.ret _
   ·simp only [List.length_append, List.length_singleton]; omega) (s0 := env.carriers.map (·.name) ++ env.carriers.flatMap (·.elems)) (by simp only [List.length_append, List.length_map]; omega)
 have hf2 : ∀ (cs : List Decl) (s : List Str), cs.foldl (fun s x => s ++ [x.name]) s = s ++ cs.map (·.name) := by
  intro cs
  induction cs with
  | nil => intro s; simp
  | cons c cs ih => intro s; rw [List.foldl_cons, ih]; simp
 rw [hf2, List.append_assoc] at h2
 exact Ev.bind h0 (Ev.bind h1 (Ev.bind h2 (Ev.ret _)))
theorem Jg (l : List Str) (hl : l.length ≤ 1000000) : Ev (fun n => l6 n l) (iC [] l) := by
 unfold l6
 have h := vW l (fun n k i s => lI n l k (i, s)) (fun n x s => (OY (dO s x) (some false) (fun x3 => some x3) : Option Bool).bind fun s3 => cond s3 (some (.rt false)) ((um s x true).bind fun x2 => some (.nx x2))) (fun x s => cond ((dO s x).getD false) (.rt false) (.nx (jT s x true))) (fun _ => ())
  (fun suf s => s.length + suf.length ≤ 1000000)
  (fun n k i s => by
   show cond _ _ _ = _
   congr 1
   show (idx l i).bind _ = _
   congr 1
   funext x
   cases dO s x with
   | none => simp only [OY, Option.bind_some, cond_false, Option.bind_assoc]
   | some b => cases b <;> simp only [OY, Option.bind_some, cond_false, cond_true, Option.bind_assoc])
  (fun x suf s hx hs => by
   simp only [List.length_cons] at hs
   refine ⟨?_, fun s' he => ?_⟩
   ·rw [Di (by omega)]
    cases dO s x with
    | none => exact Ev.ret _
    | some b => cases b <;> exact Ev.ret _
   ·cases hb : (dO s x).getD false with
    | true => rw [hb] at he; cases he
    | false =>
     rw [hb] at he
     cases he
     have := xC s x true
     omega) (s0 := ([] : List (Str × Bool))) (by simpa using hl)
 have key : ∀ (suf pre : List Str) (s : List (Str × Bool)), (∀ x, dO s x = if pre.any (· == x) then some true else none) → iq (τ := Unit) (fun x s => cond ((dO s x).getD false) (.rt false) (.nx (jT s x true))) (fun _ => ()) suf s = cond (iC pre suf) (.nx ()) (.rt false) := by
  intro suf
  induction suf with
  | nil => intro pre s _; rfl
  | cons x suf ih =>
   intro pre s hs
   simp only [iq, iC]
   rw [hs x]
   cases hb : pre.any (· == x) with
   | true => rfl
   | false =>
    simp only [Bool.false_eq_true, if_false, Option.getD_none, cond_false, Bool.not_false, Bool.true_and]
    refine ih (pre ++ [x]) _ (fun y => ?_)
    rw [Hw, hs y]
    simp only [List.any_append, List.any_cons, List.any_nil, Bool.or_false]
    cases hy : (x == y) with
    | true => simp
    | false => simp
 rw [key l [] [] (fun x => rfl)] at h
 refine Ev.bind h ?_
 cases iC [] l
 ·exact Ev.ret _
 ·exact Ev.ret _
theorem Y5 (l : List Str) : Ev (fun n => ny n l n 0) (cond (iC [] l) (.nx ()) (.rt false)) := by
 have h := zM l (fun n k i (_ : Unit) => ny n l k i) (fun n i x _ => (fH l 0 i).bind fun x3 => (kM n x x3).bind fun x4 => cond x4 (some (.rt false)) (some (.nx ()))) (fun i x _ => cond ((l.take i.toNat).any (· == x)) (.rt false) (.nx ())) (fun _ => ())
  (fun i suf _ => ∃ pre, l = pre ++ suf ∧ i = (pre.length : Int))
  (fun n k i s => by
   show cond _ _ _ = _
   congr 1
   congr 1
   funext x
   cases fH l 0 i with
   | none => rfl
   | some y =>
    simp only [Option.bind_some]
    cases kM n x y with
    | none => rfl
    | some b => cases b <;> rfl)
  (fun i x suf s hx hs => by
   obtain ⟨pre, hp, rfl⟩ := hs
   refine ⟨?_, fun _ _ => ⟨pre ++ [x], by rw [hp]; simp, by simp⟩⟩
   rw [DW l pre.length (by rw [hp]; simp)]
   simp only [Option.bind_some, Int.toNat_natCast]
   refine Ev.bind (DU _ _) ?_
   cases (l.take pre.length).any (· == x)
   ·exact Ev.ret _
   ·exact Ev.ret _) (s0 := ()) ⟨[], rfl, rfl⟩
 have key : ∀ (suf pre : List Str), l = pre ++ suf → qc (τ := Unit) (fun i x _ => cond ((l.take i.toNat).any (· == x)) (.rt false) (.nx ())) (fun _ => ()) (pre.length : Int) suf () = cond (iC pre suf) (.nx ()) (.rt false) := by
  intro suf
  induction suf with
  | nil => intro pre _; rfl
  | cons x suf ih =>
   intro pre hp
   have ht : l.take pre.length = pre := by rw [hp]; simp
   simp only [qc, iC, Int.toNat_natCast, ht]
   cases pre.any (· == x) with
   | true => rfl
   | false =>
    have := ih (pre ++ [x]) (by rw [hp]; simp)
    simp only [List.length_append, List.length_singleton, Int.natCast_add, Int.natCast_one] at this
    simpa using this
 have := key l [] rfl
 simp only [List.length_nil, Int.natCast_zero] at this
 rw [this] at h
 exact h
theorem qZ {env : Env} (h1 : ¬ 8 < (env.carriers.length : Int)) (h2 : ¬ 64 < (env.names.length : Int)) (h3 : env.carriers.all xO = true) : (names2 env).length ≤ 1000 := by
 have key : ∀ cs : List Carrier, cs.all xO = true → (cs.flatMap (·.elems)).length ≤ 8 * cs.length := by
  intro cs
  induction cs with
  | nil => intro _; simp
  | cons c cs ih =>
   intro h
   simp only [List.all_cons, Bool.and_eq_true, xO, Bool.not_eq_true', decide_eq_false_iff_not] at h
   have := ih (by simpa only [List.all_eq_true, xO] using h.2)
   simp only [List.flatMap_cons, List.length_append, List.length_cons]
   omega
 have := key _ h3
 simp only [names2, List.length_append, List.length_map]
 omega
theorem fE (env : Env) (hs : ∀ d ∈ env.names, d.name.length ≤ 9223372036854775807) : Ev (fun n => dz n env) (bn env) := by
 unfold dz
 by_cases h1 : 8 < (env.carriers.length : Int)
 ·have : bn env = false := by simp only [bn, decide_eq_true h1, Bool.true_or, Bool.not_true, Bool.false_and]
  rw [this, decide_eq_true h1]
  exact Ev.ret _
 by_cases h2 : 64 < (env.names.length : Int)
 ·have : bn env = false := by simp only [bn, decide_eq_true h2, Bool.or_true, Bool.not_true, Bool.false_and]
  rw [this, decide_eq_true h2, decide_eq_false h1]
  exact Ev.ret _
 simp only [bn, decide_eq_false h1, decide_eq_false h2, Bool.or_false, Bool.not_false, Bool.true_and, cond_false, Option.bind_some]
 have hcar := P5 env.carriers (fun n k i => lU n env k i) (fun n x => ((dP n x.name).bind fun x10 => cond (!x10) (some true) (some (decide (8 < (x.elems.length : Int))))).bind fun s7 => cond s7 (some (.rt false)) ((iF n x n 0).bind (LR.el (fun _ => some (.nx ())) (fun r => some (.rt r))))) (fun c => !(xO c)) false
  (fun n k i => by
   show cond _ _ _ = _
   congr 1
   congr 1
   funext x
   cases ((dP n x.name).bind fun x10 => cond (!x10) (some true) (some (decide (8 < (x.elems.length : Int))))) with
   | none => rfl
   | some b =>
    cases b with
    | true => rfl
    | false =>
     simp only [Option.bind_some, cond_false]
     cases iF n x n 0 with
     | none => rfl
     | some r => cases r <;> rfl)
  (fun c hc => by
   refine Ev.bind (a := !(ident c.name) || decide (8 < (c.elems.length : Int))) (Ev.bind (oh c.name) ?_) ?_
   ·cases ident c.name
    ·exact Ev.ret _
    ·exact Ev.ret _
   ·unfold xO
    cases ident c.name with
    | false => exact Ev.ret _
    | true =>
     cases decide (8 < (c.elems.length : Int)) with
     | true => exact Ev.ret _
     | false =>
      simp only [Bool.not_true, Bool.false_or, cond_false, Bool.true_and, Bool.not_false]
      have h := iH c.elems (fun n k i => iF n c k i) (fun n x => (dP n x).bind fun x9 => some (!x9)) (fun s => !(ident s)) false
       (fun n k i => by
        show cond _ _ _ = _
        congr 1
        congr 1
        funext x
        simp only [Option.bind_assoc, Option.bind_some])
       (fun x _ => Ev.bind (oh x) (Ev.ret _))
      rw [qg] at h
      refine Ev.bind h ?_
      cases c.elems.all ident
      ·exact Ev.ret _
      ·exact Ev.ret _)
 rw [qg] at hcar
 refine Ev.bind hcar ?_
 cases hc : env.carriers.all xO with
 | false => exact Ev.ret _
 | true =>
  simp only [Bool.not_true, cond_false, Bool.true_and]
  have hdecl := iH env.names (fun n k i => lM n env k i) (fun n x => (jR n x.name).bind fun x4 => cond (!x4) (some true) ((gW n x.ty).bind fun x5 => cond (!x5) (some true) ((iY n env x.ty).bind fun x6 => some (!x6)))) (fun d => !(tO env d)) false
   (fun n k i => rfl)
   (fun d hd => by
    refine Ev.bind (Jp d.name (hs d hd)) ?_
    unfold tO
    cases named d.name with
    | false => exact Ev.ret _
    | true =>
     simp only [Bool.not_true, cond_false, Bool.true_and]
     refine Ev.bind (a := eH d.ty && !(mM 2 d.ty)) ?_ ?_
     ·unfold gW
      refine Ev.bind (a := eH d.ty && !(mM 2 d.ty)) (Ev.bind (oQ d.ty) ?_) (Ev.ret _)
      cases eH d.ty with
      | false => exact Ev.ret _
      | true => exact Ev.bind (Jy 2 d.ty) (Ev.ret _)
     ·cases hv : eH d.ty with
      | false => exact Ev.ret _
      | true =>
       cases mM 2 d.ty with
       | true => exact Ev.ret _
       | false => exact Ev.bind (I4 env hv) (Ev.ret _))
  rw [qg] at hdecl
  refine Ev.bind hdecl ?_
  cases hd : env.names.all (tO env) with
  | false => exact Ev.ret _
  | true =>
   simp only [Bool.not_true, cond_false, Bool.true_and]
   have hlen := qZ h1 h2 hc
   have hlen1 : (o9 env).length ≤ 1000 := by rw [(qD env).length_eq]; exact hlen
   refine Ev.bind (BQ env (by omega)) ?_
   rw [← aah]
   exact Ev.bind (Jg _ (by omega)) (Ev.ret _)
theorem jG (env : Env) : Ev (fun n => fI n env) (bn env) := by
 unfold fI
 by_cases h1 : 8 < (env.carriers.length : Int)
 ·have : bn env = false := by simp only [bn, decide_eq_true h1, Bool.true_or, Bool.not_true, Bool.false_and]
  rw [this, decide_eq_true h1]
  exact Ev.ret _
 by_cases h2 : 64 < (env.names.length : Int)
 ·have : bn env = false := by simp only [bn, decide_eq_true h2, Bool.or_true, Bool.not_true, Bool.false_and]
  rw [this, decide_eq_true h2, decide_eq_false h1]
  exact Ev.ret _
 simp only [bn, decide_eq_false h1, decide_eq_false h2, Bool.or_false, Bool.not_false, Bool.true_and, cond_false, Option.bind_some]
 have hcar := P5 env.carriers (fun n k i => qj n env k i) (fun n x => ((dU n x.name).bind fun x10 => cond (!x10) (some true) (some (decide (8 < (x.elems.length : Int))))).bind fun s7 => cond s7 (some (.rt false)) ((kY n x n 0).bind (LR.el (fun _ => some (.nx ())) (fun r => some (.rt r))))) (fun c => !(xO c)) false
  (fun n k i => by
   show cond _ _ _ = _
   congr 1
   congr 1
   funext x
   cases ((dU n x.name).bind fun x10 => cond (!x10) (some true) (some (decide (8 < (x.elems.length : Int))))) with
   | none => rfl
   | some b =>
    cases b with
    | true => rfl
    | false =>
     simp only [Option.bind_some, cond_false]
     cases kY n x n 0 with
     | none => rfl
     | some r => cases r <;> rfl)
  (fun c hc => by
   refine Ev.bind (a := !(ident c.name) || decide (8 < (c.elems.length : Int))) (Ev.bind (nC c.name) ?_) ?_
   ·cases ident c.name
    ·exact Ev.ret _
    ·exact Ev.ret _
   ·unfold xO
    cases ident c.name with
    | false => exact Ev.ret _
    | true =>
     cases decide (8 < (c.elems.length : Int)) with
     | true => exact Ev.ret _
     | false =>
      simp only [Bool.not_true, Bool.false_or, cond_false, Bool.true_and, Bool.not_false]
      have h := iH c.elems (fun n k i => kY n c k i) (fun n x => (dU n x).bind fun x9 => some (!x9)) (fun s => !(ident s)) false
       (fun n k i => by
        show cond _ _ _ = _
        congr 1
        congr 1
        funext x
        simp only [Option.bind_assoc, Option.bind_some])
       (fun x _ => Ev.bind (nC x) (Ev.ret _))
      rw [qg] at h
      refine Ev.bind h ?_
      cases c.elems.all ident
      ·exact Ev.ret _
      ·exact Ev.ret _)
 rw [qg] at hcar
 refine Ev.bind hcar ?_
 cases hc : env.carriers.all xO with
 | false => exact Ev.ret _
 | true =>
  simp only [Bool.not_true, cond_false, Bool.true_and]
  have hdecl := iH env.names (fun n k i => pq n env k i) (fun n x => (qI n x.name).bind fun x6 => cond (!x6) (some true) ((dY n x.ty).bind fun x7 => cond (!x7) (some true) ((gK n x.ty).bind fun x8 => cond x8 (some true) ((oO n env x.ty).bind fun x9 => some (!x9))))) (fun d => !(tO env d)) false
   (fun n k i => rfl)
   (fun d hd => by
    refine Ev.bind (JC d.name) ?_
    unfold tO
    cases named d.name with
    | false => exact Ev.ret _
    | true =>
     simp only [Bool.not_true, cond_false, Bool.true_and]
     refine Ev.bind (wh d.ty) ?_
     cases hv : eH d.ty with
     | false => exact Ev.ret _
     | true =>
      refine Ev.bind (Fy d.ty) ?_
      cases mM 2 d.ty with
      | true => exact Ev.ret _
      | false => exact Ev.bind (Kj env hv) (Ev.ret _))
  rw [qg] at hdecl
  refine Ev.bind hdecl ?_
  cases hd : env.names.all (tO env) with
  | false => exact Ev.ret _
  | true =>
   simp only [Bool.not_true, cond_false, Bool.true_and]
   have hlen := qZ h1 h2 hc
   refine Ev.bind (uR env (by omega)) ?_
   refine Ev.bind (Y5 _) ?_
   cases iC [] (names2 env)
   ·exact Ev.ret _
   ·exact Ev.ret _
theorem Val.ind {P : Val → Prop} (h : ∀ k n s ks, (∀ t ∈ ks, P t) → P (.mk k n s ks)) (t : Val) : P t := by
 match t with
 | .mk k n s ks => exact h k n s ks fun u _ => Val.ind h u
termination_by SizeOf.sizeOf t
decreasing_by
 rename_i hu
 have := List.sizeOf_lt_of_mem hu
 simp only [Val.mk.sizeOf_spec]
 omega
mutual
def dX : Val → Prop
 | .mk _ _ _ ks => ks.length ≤ 9223372036854775807 ∧ Ii ks
def Ii : List Val → Prop
 | [] => True
 | v :: vs => dX v ∧ Ii vs
end
theorem PI : ∀ {vs : List Val}, Ii vs → ∀ v ∈ vs, dX v
 | [], _, _, h => by cases h
 | v :: vs, h, u, hu => by
  simp only [Ii] at h
  rcases List.mem_cons.1 hu with rfl | hu
  ·exact h.1
  ·exact PI h.2 u hu
theorem dX.kids {v : Val} (h : dX v) : v.kids.length ≤ 9223372036854775807 ∧ ∀ u ∈ v.kids, dX u := by
 cases v
 simp only [dX] at h
 exact ⟨h.1, PI h.2⟩
def iL (a b : Int) : Int := cond (decide (a < b)) (-1) (cond (decide (b < a)) 1 0)
mutual
def bW : Val → Val → Int
 | .mk k n s ks, .mk k' n' s' ks' => cond (iL k k' != 0) (iL k k') (cond (iL n n' != 0) (iL n n') (cond (Lib.compareBytes s s' != 0) (Lib.compareBytes s s') (dH ks ks')))
def dH : List Val → List Val → Int
 | [], [] => 0
 | [], _ :: _ => -1
 | _ :: _, [] => 1
 | a :: asx, b :: bs => cond (bW a b != 0) (bW a b) (dH asx bs)
end
def Hq : List Val → List Val → LR Unit Int
 | [], _ => .nx ()
 | _ :: _, [] => .rt 1
 | a :: asx, b :: bs => cond (bW a b != 0) (.rt (bW a b)) (Hq asx bs)
theorem Uv : ∀ (asx bs : List Val) (x y : Nat), x + bs.length = y + asx.length → (match Hq asx bs with | .nx _ => cond (decide ((x : Int) < (y : Int))) (-1) 0 | .rt r => r) = dH asx bs
 | [], [], x, y, h => by
  simp only [Hq, dH]
  rw [decide_eq_false (by simp at h; omega)]
  rfl
 | [], b :: bs, x, y, h => by
  simp only [Hq, dH]
  rw [decide_eq_true (by simp at h; omega)]
  rfl
 | a :: asx, [], x, y, h => rfl
 | a :: asx, b :: bs, x, y, h => by
  simp only [Hq, dH]
  cases hc : (bW a b != 0) with
  | true => rfl
  | false => exact Uv asx bs x y (by simp at h; omega)
theorem NS (n : Nat) (a b : Int) : cmp_Compare_int n a b = some (iL a b) := by
 unfold cmp_Compare_int iL
 simp only [bne_self_eq_false, cond_false]
 cases decide (a < b) <;> cases decide (b < a) <;> rfl
theorem acU (a b c : Int) : Ev (fun n => zH n [a, b, c]) (cond (a != 0) a (cond (b != 0) b (cond (c != 0) c 0))) := by
 refine ⟨4, fun n hn => ?_⟩
 obtain ⟨m, rfl⟩ : ∃ m, n = m + 4 := ⟨n - 4, by omega⟩
 show (nV (m + 4) [a, b, c] (m + 4) 0).bind _ = _
 have i0 : idx [a, b, c] 0 = some a := rfl
 have i1 : idx [a, b, c] (0 + 1) = some b := rfl
 have i2 : idx [a, b, c] (0 + 1 + 1) = some c := rfl
 simp only [nV, i0, i1, i2, Option.bind_some, show decide ((0 : Int) < (([a, b, c] : List Int).length : Int)) = true from rfl, show decide ((0 + 1 : Int) < (([a, b, c] : List Int).length : Int)) = true from rfl, show decide ((0 + 1 + 1 : Int) < (([a, b, c] : List Int).length : Int)) = true from rfl, show decide ((0 + 1 + 1 + 1 : Int) < (([a, b, c] : List Int).length : Int)) = false from rfl, cond_true, cond_false]
 cases a != 0 <;> cases b != 0 <;> cases c != 0 <;> rfl
theorem TD : ∀ (asx : List Val), (∀ a ∈ asx, ∀ b, Ev (fun n => dI n a b) (bW a b)) → ∀ (bs pa pb : List Val), pa.length = pb.length → ∃ N, ∀ n, N ≤ n → ∀ k, asx.length + 1 ≤ k → dw n (fun p0 p1 => dM n p0 p1) (fun p0 p1 => dI n p0 p1) (pa ++ asx) (pb ++ bs) k (pa.length : Int) = some (Hq asx bs)
 | [], _, bs, pa, pb, hp => by
  refine ⟨0, fun n _ k hk => ?_⟩
  obtain ⟨j, rfl⟩ : ∃ j, k = j + 1 := ⟨k - 1, by simp at hk; omega⟩
  unfold dw
  rw [decide_eq_false (by simp)]
  rfl
 | a :: asx, H, [], pa, pb, hp => by
  refine ⟨0, fun n _ k hk => ?_⟩
  obtain ⟨j, rfl⟩ : ∃ j, k = j + 1 := ⟨k - 1, by simp at hk; omega⟩
  unfold dw
  rw [decide_eq_true (by simp; omega), iy]
  simp only [cond_true, Option.bind_some]
  rw [decide_eq_true (by simp; omega)]
  rfl
 | a :: asx, H, b :: bs, pa, pb, hp => by
  obtain ⟨N1, h1⟩ := H a (by simp) b
  obtain ⟨N2, h2⟩ := TD asx (fun x hx => H x (by simp [hx])) bs (pa ++ [a]) (pb ++ [b]) (by simp [hp])
  refine ⟨N1 + N2, fun n hn k hk => ?_⟩
  obtain ⟨j, rfl⟩ : ∃ j, k = j + 1 := ⟨k - 1, by simp at hk; omega⟩
  have h1 : dI n a b = _ := h1 n (by omega)
  have h2 := h2 n (by omega) j (by simp at hk; omega)
  unfold dw
  rw [decide_eq_true (by simp; omega), iy]
  simp only [cond_true, Option.bind_some]
  rw [decide_eq_false (by simp; omega), show (pa.length : Int) = (pb.length : Int) by rw [hp], iy]
  simp only [cond_false, Option.bind_some]
  rw [h1]
  simp only [Option.bind_some, Hq]
  cases hc : (bW a b != 0) with
  | true => rfl
  | false =>
   simp only [cond_false]
   rw [show (pb.length : Int) + 1 = ((pa ++ [a]).length : Int) by simp [hp]]
   simpa using h2
theorem Nj (asx bs : List Val) (H : ∀ a ∈ asx, ∀ b, Ev (fun n => dI n a b) (bW a b)) : Ev (fun n => dM n asx bs) (dH asx bs) := by
 obtain ⟨N, h⟩ := TD asx H bs [] [] rfl
 refine Ev.succ ?_
 refine ⟨N + asx.length + 1, fun n hn => ?_⟩
 have := h n (by omega) n (by omega)
 simp only [List.nil_append, List.length_nil] at this
 show fM n _ _ asx bs = _
 unfold fM
 rw [show ((0 : Nat) : Int) = 0 from rfl] at this
 rw [this]
 have he := Uv asx bs asx.length bs.length (by omega)
 rw [← he]
 cases Hq asx bs with
 | rt r => rfl
 | nx u =>
  simp only [Option.bind_some, LR.el]
  cases decide ((asx.length : Int) < (bs.length : Int)) <;> rfl
theorem qE (a b : Val) : Ev (fun n => dI n a b) (bW a b) := by
 revert b
 induction a using Val.ind with
 | h k n s ks ih =>
  intro b
  obtain ⟨k', n', s', ks'⟩ := b
  have hk := Nj ks ks' ih
  refine Ev.succ ?_
  show Ev (fun m => mK m _ _ (.mk k n s ks) (.mk k' n' s' ks')) _
  unfold mK
  simp only [NS, strings_Compare, Option.bind_some, Val.kind, Val.n, Val.name, Val.kids]
  refine Ev.bind (acU _ _ _) ?_
  simp only [bW]
  cases h1 : (iL k k' != 0) with
  | true => simp only [cond_true, h1]; exact Ev.ret _
  | false =>
   cases h2 : (iL n n' != 0) with
   | true => simp only [cond_true, cond_false, h2]; exact Ev.ret _
   | false =>
    cases h3 : (Lib.compareBytes s s' != 0) with
    | true => simp only [cond_true, cond_false, h3]; exact Ev.ret _
    | false =>
     simp only [cond_false, bne_self_eq_false]
     exact Ev.bind hk (Ev.ret _)
theorem Pv : ∀ a b : Str, Lib.compareBytes a b = -1 ∨ Lib.compareBytes a b = 0 ∨ Lib.compareBytes a b = 1
 | [], [] => by simp [Lib.compareBytes]
 | [], _ :: _ => by simp [Lib.compareBytes]
 | _ :: _, [] => by simp [Lib.compareBytes]
 | a :: x, b :: y => by
  have := Pv x y
  simp only [Lib.compareBytes]
  split
  ·simp
  ·split
   ·simp
   ·exact this
theorem za : ∀ a b : Str, Op.bytesLess a b = (Lib.compareBytes a b == -1) ∧ (a == b) = (Lib.compareBytes a b == 0)
 | [], [] => by simp [Op.bytesLess, Lib.compareBytes]
 | [], _ :: _ => by simp [Op.bytesLess, Lib.compareBytes]
 | _ :: _, [] => by simp [Op.bytesLess, Lib.compareBytes]
 | a :: x, b :: y => by
  have ih := za x y
  simp only [Op.bytesLess, Lib.compareBytes]
  by_cases h1 : a < b
  ·have : (a == b) = false := by
    apply beq_false_of_ne
    rintro rfl
    exact absurd h1 (by simp)
   simp [h1, this]
  ·by_cases h2 : b < a
   ·have : (a == b) = false := by
     apply beq_false_of_ne
     rintro rfl
     exact absurd h2 (by simp)
    simp [h1, h2, this]
   ·have : a = b := by
     have h1' := UInt8.not_lt.1 h1
     have h2' := UInt8.not_lt.1 h2
     exact UInt8.le_antisymm h2' h1'
    subst this
    simp [ih.1, ← ih.2]
theorem sign_eq (n : Nat) (a b : Int) : vL n a b = some (iL a b) := by
 unfold vL iL
 cases decide (a < b) <;> cases decide (b < a) <;> rfl
theorem O5 : ∀ (asx : List Val), (∀ a ∈ asx, ∀ b, Ev (fun n => fP n a b) (bW a b)) → ∀ (bs pa pb : List Val) (k1 n1 k2 n2 : Int) (s1 s2 : Str), pa.length = pb.length → (pa ++ asx).length ≤ 9223372036854775807 → ∃ N, ∀ n, N ≤ n → ∀ k, asx.length + 1 ≤ k → (kI n (fun p0 p1 => fP n p0 p1) (.mk k1 n1 s1 (pa ++ asx)) (.mk k2 n2 s2 (pb ++ bs)) k (pa.length : Int)).bind (LR.el (fun (_ : Unit) => ((vL n ((pa ++ asx).length : Int) ((pb ++ bs).length : Int)).bind fun (x3 : Int) => some x3)) (fun r => some r)) = some (dH asx bs)
 | [], _, bs, pa, pb, k1, n1, k2, n2, s1, s2, hp, hl => by
  refine ⟨0, fun n _ k hk => ?_⟩
  obtain ⟨j, rfl⟩ : ∃ j, k = j + 1 := ⟨k - 1, by simp at hk; omega⟩
  unfold kI
  rw [decide_eq_false (by simp [Val.kids])]
  simp only [cond_false, Option.bind_some, LR.el, sign_eq, Option.some.injEq]
  cases bs with
  | nil => simp [iL, dH, hp]
  | cons b bs =>
   simp only [dH, iL]
   rw [decide_eq_true (by simp; omega)]
   rfl
 | a :: asx, H, [], pa, pb, k1, n1, k2, n2, s1, s2, hp, hl => by
  refine ⟨0, fun n _ k hk => ?_⟩
  obtain ⟨j, rfl⟩ : ∃ j, k = j + 1 := ⟨k - 1, by simp at hk; omega⟩
  unfold kI
  rw [decide_eq_true (by simp [Val.kids]; omega)]
  simp only [cond_true, Option.bind_some]
  rw [decide_eq_false (by simp [Val.kids]; omega)]
  simp only [cond_false, Option.bind_some, LR.el, sign_eq, Option.some.injEq, dH, iL]
  rw [decide_eq_false (by simp; omega), decide_eq_true (by simp; omega)]
  rfl
 | a :: asx, H, b :: bs, pa, pb, k1, n1, k2, n2, s1, s2, hp, hl => by
  obtain ⟨N1, h1⟩ := H a (by simp) b
  obtain ⟨N2, h2⟩ := O5 asx (fun x hx => H x (by simp [hx])) bs (pa ++ [a]) (pb ++ [b]) k1 n1 k2 n2 s1 s2 (by simp [hp]) (by simpa using hl)
  refine ⟨N1 + N2, fun n hn k hk => ?_⟩
  obtain ⟨j, rfl⟩ : ∃ j, k = j + 1 := ⟨k - 1, by simp at hk; omega⟩
  have h1 : fP n a b = _ := h1 n (by omega)
  have h2 := h2 n (by omega) j (by simp at hk; omega)
  unfold kI
  rw [decide_eq_true (by simp [Val.kids]; omega)]
  simp only [cond_true, Option.bind_some]
  rw [decide_eq_true (by simp [Val.kids]; omega)]
  simp only [cond_true, Option.bind_some, Val.kids]
  rw [iy, show (pa.length : Int) = (pb.length : Int) by rw [hp], iy]
  simp only [Option.bind_some]
  rw [h1]
  simp only [Option.bind_some, dH]
  cases hc : (bW a b != 0) with
  | true => rfl
  | false =>
   simp only [cond_false]
   have ew : IntKind.wrap .i64 ((pb.length : Int) + 1) = ((pa ++ [a]).length : Int) := by
    rw [wrap64 (by omega) (by simp at hl; omega)]
    simp [hp]
   rw [ew]
   simpa using h2
theorem Cm (a b : Val) (ha : dX a) : Ev (fun n => fP n a b) (bW a b) := by
 revert b
 induction a using Val.ind with
 | h k n s ks ih =>
  intro b
  obtain ⟨k', n', s', ks'⟩ := b
  obtain ⟨hl, hk⟩ := ha.kids
  simp only [Val.kids] at hl hk
  obtain ⟨N, h⟩ := O5 ks (fun a h b => ih a h (hk a h) b) ks' [] [] k n k' n' s s' rfl (by simpa using hl)
  refine Ev.succ ?_
  show Ev (fun m => oD m _ (.mk k n s ks) (.mk k' n' s' ks')) _
  unfold oD
  simp only [sign_eq, Option.bind_some, Val.kind, Val.n, Val.name, bW]
  have e1 : (k != k') = (iL k k' != 0) := by
   unfold iL
   by_cases h1 : k < k'
   ·rw [decide_eq_true h1]; simp; omega
   ·by_cases h2 : k' < k
    ·rw [decide_eq_false h1, decide_eq_true h2]; simp; omega
    ·rw [decide_eq_false h1, decide_eq_false h2]; simp; omega
  have e2 : (n != n') = (iL n n' != 0) := by
   unfold iL
   by_cases h1 : n < n'
   ·rw [decide_eq_true h1]; simp; omega
   ·by_cases h2 : n' < n
    ·rw [decide_eq_false h1, decide_eq_true h2]; simp; omega
    ·rw [decide_eq_false h1, decide_eq_false h2]; simp; omega
  rw [e1, e2, (za s s').1, (za s s').2]
  cases h1 : (iL k k' != 0) with
  | true => exact Ev.ret _
  | false =>
   simp only [cond_false]
   cases h2 : (iL n n' != 0) with
   | true => exact Ev.ret _
   | false =>
    simp only [cond_false]
    have hb := Pv s s'
    rcases hb with hb | hb | hb <;> rw [hb]
    ·exact Ev.ret _
    ·refine ⟨N + ks.length + 1, fun m hm => ?_⟩
     have := h m (by omega) m (by omega)
     simp only [List.nil_append, List.length_nil, sign_eq, Option.bind_some] at this
     exact this
    ·exact Ev.ret _
end Abs
end Go.Proofs.YtkopaeklihhdlaaGreat

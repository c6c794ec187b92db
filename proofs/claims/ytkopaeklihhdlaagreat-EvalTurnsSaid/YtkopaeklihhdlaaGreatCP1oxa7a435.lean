/-
  Plain functions with fuel: what they come to ('Ev'); loops over a list. Conditions: none; lemmas without a program.
-/
import Derived.Test.YtkopaeklihhdlaaGreatCDfox6582a4
set_option linter.unusedSimpArgs false
set_option linter.unusedVariables false
namespace Go.Proofs.YtkopaeklihhdlaaGreat
namespace Abs
open Go
def Ev {α : Type} (f : Nat → Option α) (v : α) : Prop := ∃ N, ∀ n, N ≤ n → f n = some v
theorem Ev.ret {α : Type} (v : α) : Ev (fun _ => some v) v := ⟨0, fun _ _ => rfl⟩
theorem Ev.of {α : Type} {f : Nat → Option α} {v : α} (h : ∀ n, f n = some v) : Ev f v := ⟨0, fun n _ => h n⟩
theorem Ev.bind {α β : Type} {f : Nat → Option α} {g : α → Nat → Option β} {a : α} {b : β} (h1 : Ev f a) (h2 : Ev (g a) b) : Ev (fun n => (f n).bind fun x => g x n) b := by
 obtain ⟨N, hN⟩ := h1
 obtain ⟨M, hM⟩ := h2
 refine ⟨max N M, fun n hn => ?_⟩
 show (f n).bind (fun x => g x n) = some b
 rw [hN n (by omega)]
 exact hM n (by omega)
theorem Ev.succ {α : Type} {f : Nat → Option α} {v : α} (h : Ev (fun n => f (n + 1)) v) : Ev f v := by
 obtain ⟨N, hN⟩ := h
 refine ⟨N + 1, fun n hn => ?_⟩
 cases n with
 | zero => omega
 | succ n => exact hN n (by omega)
theorem Ev.pos {α : Type} {b : Bool} {f g : Nat → Option α} {v : α} (hb : b = true) (h1 : Ev f v) : Ev (fun n => cond b (f n) (g n)) v := by subst hb; exact h1
theorem Ev.neg {α : Type} {b : Bool} {f g : Nat → Option α} {v : α} (hb : b = false) (h1 : Ev g v) : Ev (fun n => cond b (f n) (g n)) v := by subst hb; exact h1
def gP {α σ τ ρ : Type} (st : α → σ → LR σ ρ) (fin : σ → τ) : List α → σ → LR τ ρ
 | [], s => .nx (fin s)
 | x :: xs, s => match st x s with
  | .nx s' => gP st fin xs s'
  | .rt r => .rt r
theorem gM {α : Type} (pre : List α) (x : α) (suf : List α) : idx (pre ++ x :: suf) (pre.length : Int) = some x := by
 unfold idx
 rw [if_pos (by omega)]
 simp
theorem WR {α σ τ ρ : Type} (l : List α) (L : Nat → Nat → Int → σ → Option (LR τ ρ)) (step : Nat → α → σ → Option (LR σ ρ)) (st : α → σ → LR σ ρ) (fin : σ → τ) (I : List α → σ → Prop)
  (hL : ∀ n k i s, L n (k + 1) i s = cond (decide (i < (l.length : Int))) ((idx l i).bind fun x => (step n x s).bind (LR.el (fun s' => L n k (i + 1) s') (fun r => some (.rt r)))) (some (.nx (fin s))))
  (hI : ∀ x suf s, x ∈ l → I (x :: suf) s → Ev (fun n => step n x s) (st x s) ∧ ∀ s', st x s = .nx s' → I suf s') (pre suf : List α) (hl : l = pre ++ suf) {s0 : σ} (h0 : I suf s0) : Ev (fun n => L n n (pre.length : Int) s0) (gP st fin suf s0) := by
 have key : ∀ (suf pre : List α) (s : σ), l = pre ++ suf → I suf s → ∃ N, ∀ n, N ≤ n → ∀ k, suf.length + 1 ≤ k → L n k (pre.length : Int) s = some (gP st fin suf s) := by
  intro suf
  induction suf with
  | nil =>
   intro pre s hl _
   refine ⟨0, fun n _ k hk => ?_⟩
   cases k with
   | zero => simp at hk
   | succ k =>
    rw [hL, decide_eq_false (by rw [hl]; simp)]
    rfl
  | cons x suf ih =>
   intro pre s hl hIs
   obtain ⟨⟨N1, h1⟩, h2⟩ := hI x suf s (by rw [hl]; simp) hIs
   replace h1 : ∀ n, N1 ≤ n → step n x s = some (st x s) := h1
   have hi : decide ((pre.length : Int) < (l.length : Int)) = true := decide_eq_true (by rw [hl]; simp; omega)
   have hx : idx l (pre.length : Int) = some x := by rw [hl]; exact gM pre x suf
   cases hs : st x s with
   | rt r =>
    refine ⟨N1, fun n hn k hk => ?_⟩
    cases k with
    | zero => simp at hk
    | succ k =>
     rw [hL, hi, hx]
     simp only [cond_true, Option.bind_some]
     rw [h1 n hn, hs]
     simp [gP, hs]
   | nx s' =>
    obtain ⟨N2, h3⟩ := ih (pre ++ [x]) s' (by rw [hl]; simp) (h2 s' hs)
    refine ⟨max N1 N2, fun n hn k hk => ?_⟩
    cases k with
    | zero => simp at hk
    | succ k =>
     rw [hL, hi, hx]
     simp only [cond_true, Option.bind_some]
     rw [h1 n (by omega), hs]
     simp only [Option.bind_some, LR.el]
     have := h3 n (by omega) k (by simp at hk; omega)
     simp only [List.length_append, List.length_singleton, Int.natCast_add, Int.natCast_one] at this
     rw [this]
     simp [gP, hs]
 obtain ⟨N, hN⟩ := key suf pre s0 hl h0
 exact ⟨max N (suf.length + 1), fun n hn => hN n (by omega) n (by omega)⟩
theorem tC {α σ τ ρ : Type} (l : List α) (L : Nat → Nat → Int → σ → Option (LR τ ρ)) (step : Nat → α → σ → Option (LR σ ρ)) (st : α → σ → LR σ ρ) (fin : σ → τ) (I : List α → σ → Prop)
  (hL : ∀ n k i s, L n (k + 1) i s = cond (decide (i < (l.length : Int))) ((idx l i).bind fun x => (step n x s).bind (LR.el (fun s' => L n k (i + 1) s') (fun r => some (.rt r)))) (some (.nx (fin s))))
  (hI : ∀ x suf s, x ∈ l → I (x :: suf) s → Ev (fun n => step n x s) (st x s) ∧ ∀ s', st x s = .nx s' → I suf s') {s0 : σ} (h0 : I l s0) : Ev (fun n => L n n 0 s0) (gP st fin l s0) :=
 WR l L step st fin I hL hI [] l rfl h0
theorem Jb {α ρ : Type} (p : α → Bool) (r : ρ) : ∀ (l : List α) (u : Unit), gP (τ := Unit) (fun x _ => cond (p x) (.rt r) (.nx ())) (fun _ => ()) l u = cond (l.any p) (.rt r) (.nx ())
 | [], _ => rfl
 | x :: xs, u => by
  simp only [gP, List.any_cons]
  cases p x
  ·exact Jb p r xs ()
  ·rfl
theorem MX {α ρ : Type} (l : List α) (L : Nat → Nat → Int → Option (LR Unit ρ)) (step : Nat → α → Option Bool) (p : α → Bool) (r : ρ)
  (hL : ∀ n k i, L n (k + 1) i = cond (decide (i < (l.length : Int))) ((idx l i).bind fun x => (step n x).bind fun b => cond b (some (.rt r)) (L n k (i + 1))) (some (.nx ())))
  (hp : ∀ x ∈ l, Ev (fun n => step n x) (p x)) (pre suf : List α) (hl : l = pre ++ suf) : Ev (fun n => L n n (pre.length : Int)) (cond (suf.any p) (.rt r) (.nx ())) := by
 have := WR l (fun n k i (_ : Unit) => L n k i) (fun n x _ => (step n x).bind fun b => cond b (some (.rt r)) (some (.nx ()))) (fun x _ => cond (p x) (.rt r) (.nx ())) (fun _ => ()) (fun _ _ => True)
  (fun n k i s => by
   rw [hL]
   congr 1
   congr 1
   funext x
   cases step n x with
   | none => rfl
   | some b => cases b <;> rfl)
  (fun x suf s hx _ => ⟨by
   refine Ev.bind (hp x hx) ?_
   cases p x
   ·exact Ev.ret _
   ·exact Ev.ret _, fun _ _ => trivial⟩) pre suf hl (s0 := ()) trivial
 rw [Jb] at this
 exact this
theorem iE {α ρ : Type} (l : List α) (L : Nat → Nat → Int → Option (LR Unit ρ)) (step : Nat → α → Option Bool) (p : α → Bool) (r : ρ)
  (hL : ∀ n k i, L n (k + 1) i = cond (decide (i < (l.length : Int))) ((idx l i).bind fun x => (step n x).bind fun b => cond b (some (.rt r)) (L n k (i + 1))) (some (.nx ())))
  (hp : ∀ x ∈ l, Ev (fun n => step n x) (p x)) : Ev (fun n => L n n 0) (cond (l.any p) (.rt r) (.nx ())) := MX l L step p r hL hp [] l rfl
def qK {α σ τ ρ : Type} (st : Int → α → σ → LR σ ρ) (fin : σ → τ) : Int → List α → σ → LR τ ρ
 | _, [], s => .nx (fin s)
 | i, x :: xs, s => match st i x s with
  | .nx s' => qK st fin (i + 1) xs s'
  | .rt r => .rt r
theorem AY {α σ τ ρ : Type} (l : List α) (L : Nat → Nat → Int → σ → Option (LR τ ρ)) (step : Nat → Int → α → σ → Option (LR σ ρ)) (st : Int → α → σ → LR σ ρ) (fin : σ → τ) (I : Int → List α → σ → Prop)
  (hL : ∀ n k i s, L n (k + 1) i s = cond (decide (i < (l.length : Int))) ((idx l i).bind fun x => (step n i x s).bind (LR.el (fun s' => L n k (i + 1) s') (fun r => some (.rt r)))) (some (.nx (fin s))))
  (hI : ∀ i x suf s, x ∈ l → I i (x :: suf) s → Ev (fun n => step n i x s) (st i x s) ∧ ∀ s', st i x s = .nx s' → I (i + 1) suf s') {s0 : σ} (h0 : I 0 l s0) : Ev (fun n => L n n 0 s0) (qK st fin 0 l s0) := by
 have key : ∀ (suf pre : List α) (s : σ), l = pre ++ suf → I (pre.length : Int) suf s → ∃ N, ∀ n, N ≤ n → ∀ k, suf.length + 1 ≤ k → L n k (pre.length : Int) s = some (qK st fin (pre.length : Int) suf s) := by
  intro suf
  induction suf with
  | nil =>
   intro pre s hl _
   refine ⟨0, fun n _ k hk => ?_⟩
   cases k with
   | zero => simp at hk
   | succ k =>
    rw [hL, decide_eq_false (by rw [hl]; simp)]
    rfl
  | cons x suf ih =>
   intro pre s hl hIs
   obtain ⟨⟨N1, h1⟩, h2⟩ := hI _ x suf s (by rw [hl]; simp) hIs
   replace h1 : ∀ n, N1 ≤ n → step n (pre.length : Int) x s = some (st (pre.length : Int) x s) := h1
   have hi : decide ((pre.length : Int) < (l.length : Int)) = true := decide_eq_true (by rw [hl]; simp; omega)
   have hx : idx l (pre.length : Int) = some x := by rw [hl]; exact gM pre x suf
   cases hs : st (pre.length : Int) x s with
   | rt r =>
    refine ⟨N1, fun n hn k hk => ?_⟩
    cases k with
    | zero => simp at hk
    | succ k =>
     rw [hL, hi, hx]
     simp only [cond_true, Option.bind_some]
     rw [h1 n hn, hs]
     simp [qK, hs]
   | nx s' =>
    have h3 := h2 s' hs
    have e : ((pre ++ [x]).length : Int) = (pre.length : Int) + 1 := by simp
    obtain ⟨N2, h4⟩ := ih (pre ++ [x]) s' (by rw [hl]; simp) (by rw [e]; exact h3)
    refine ⟨max N1 N2, fun n hn k hk => ?_⟩
    cases k with
    | zero => simp at hk
    | succ k =>
     rw [hL, hi, hx]
     simp only [cond_true, Option.bind_some]
     rw [h1 n (by omega), hs]
     simp only [Option.bind_some, LR.el]
     have := h4 n (by omega) k (by simp at hk; omega)
     rw [e] at this
     rw [this]
     simp [qK, hs]
 obtain ⟨N, hN⟩ := key l [] s0 rfl h0
 exact ⟨max N (l.length + 1), fun n hn => hN n (by omega) n (by omega)⟩
def gH {α : Type} (p : α → Bool) : Int → List α → Int
 | _, [] => -1
 | i, x :: xs => cond (p x) i (gH p (i + 1) xs)
theorem QF {α : Type} (p : α → Bool) : ∀ (l : List α) (i : Int), (match qK (τ := Unit) (fun i x _ => cond (p x) (.rt i) (.nx ())) (fun _ => ()) i l () with | .nx _ => (-1 : Int) | .rt r => r) = gH p i l
 | [], _ => rfl
 | x :: xs, i => by
  simp only [qK, gH]
  cases p x
  ·exact QF p xs (i + 1)
  ·rfl
theorem nX {α : Type} (l : List α) (L : Nat → Nat → Int → Option (LR Unit Int)) (step : Nat → α → Option Bool) (p : α → Bool)
  (hL : ∀ n k i, L n (k + 1) i = cond (decide (i < (l.length : Int))) ((idx l i).bind fun x => (step n x).bind fun b => cond b (some (.rt i)) (L n k (i + 1))) (some (.nx ())))
  (hp : ∀ x ∈ l, Ev (fun n => step n x) (p x)) : Ev (fun n => (L n n 0).bind (LR.el (fun _ => some (-1)) (fun r => some r))) (gH p 0 l) := by
 have := AY l (fun n k i (_ : Unit) => L n k i) (fun n i x _ => (step n x).bind fun b => cond b (some (.rt i)) (some (.nx ()))) (fun i x _ => cond (p x) (.rt i) (.nx ())) (fun _ => ()) (fun _ _ _ => True)
  (fun n k i s => by
   rw [hL]
   congr 1
   congr 1
   funext x
   cases step n x with
   | none => rfl
   | some b => cases b <;> rfl)
  (fun i x suf s hx _ => ⟨by
   refine Ev.bind (hp x hx) ?_
   cases p x
   ·exact Ev.ret _
   ·exact Ev.ret _, fun _ _ => trivial⟩) (s0 := ()) trivial
 refine Ev.bind this ?_
 rw [← QF]
 generalize qK (τ := Unit) (fun i x _ => cond (p x) (.rt i) (.nx ())) (fun _ => ()) 0 l () = R
 cases R
 ·exact Ev.ret _
 ·exact Ev.ret _
theorem rD {α : Type} (p : α → Bool) : ∀ (l : List α) (i : Int), 0 ≤ i → decide (0 ≤ gH p i l) = l.any p
 | [], _, _ => rfl
 | x :: xs, i, h => by
  have ih := rD p xs (i + 1) (by omega)
  by_cases hx : p x = true
  ·simp [gH, hx, h]
  ·simp only [Bool.not_eq_true] at hx
   simpa [gH, hx] using ih
theorem l7 {α : Type} (p : α → Bool) : ∀ (l pre : List α), (∃ x, l.find? p = some x ∧ p x = true ∧ 0 ≤ gH p (pre.length : Int) l ∧ idx (pre ++ l) (gH p (pre.length : Int) l) = some x) ∨ (l.find? p = none ∧ gH p (pre.length : Int) l = -1)
 | [], _ => .inr ⟨rfl, rfl⟩
 | x :: xs, pre => by
  simp only [gH, List.find?_cons]
  cases h : p x with
  | true => exact .inl ⟨x, rfl, h, by simp, gM pre x xs⟩
  | false =>
   have := l7 p xs (pre ++ [x])
   simp only [List.length_append, List.length_singleton, Int.natCast_add, Int.natCast_one, List.append_assoc, List.singleton_append] at this
   exact this
theorem Bl (s : List UInt8) (i : Int) : iQ s i = (idx s i).map fun c => (c.toNat : Int) := by
 unfold iQ idx
 by_cases h : 0 ≤ i
 ·rw [if_pos h]
  by_cases h2 : i < s.length
  ·rw [if_pos ⟨h, h2⟩]
   have : i.toNat < s.length := by omega
   simp [List.getD, List.getElem?_eq_getElem this]
  ·rw [if_neg (fun hh => h2 hh.2), List.getElem?_eq_none (by omega)]; rfl
 ·rw [if_neg (fun hh => h hh.1), if_neg h]; rfl
theorem wrap64 {n : Int} (h1 : -9223372036854775808 ≤ n) (h2 : n ≤ 9223372036854775807) : IntKind.wrap .i64 n = n := (bB h1 h2).symm
def Bb (c : Int) : Bool := (decide (97 ≤ c) && decide (c ≤ 122)) || (decide (65 ≤ c) && decide (c ≤ 90))
def IE (c : Int) : Bool := decide (48 ≤ c) && decide (c ≤ 57)
def sO (c : Int) : Bool := Bb c || (IE c || c == 95)
theorem Em (n : Nat) (c : Int) : sK n c = some (Bb c) := by
 unfold sK Bb
 cases decide (97 ≤ c) <;> cases decide (c ≤ 122) <;> cases decide (65 ≤ c) <;> rfl
theorem Io (n : Nat) (c : Int) : nL n c = some (Bb c) := by
 unfold nL Bb
 cases decide (97 ≤ c) <;> cases decide (c ≤ 122) <;> cases decide (65 ≤ c) <;> rfl
theorem Sc (n : Nat) (c : Int) : xI n c = some (IE c) := by
 unfold xI IE
 cases decide (48 ≤ c) <;> rfl
theorem XH (n : Nat) (c : Int) : pU n c = some (IE c) := by
 unfold pU IE
 cases decide (48 ≤ c) <;> rfl
theorem OP (n : Nat) (c : Int) : vR n c = some (sO c) := by
 unfold vR sO
 rw [Em, Sc]
 cases Bb c <;> cases IE c <;> rfl
theorem EI (p0 : Str) (l : List Str) : Ev (fun n => kZ n p0 l) (l.any fun x => x == p0) := by
 unfold kZ
 have h := iE l (fun n k i => BN n p0 l k i) (fun _ x => some (x == p0)) (fun x => x == p0) true (fun n k i => rfl) (fun x _ => Ev.ret _)
 refine Ev.bind h ?_
 cases l.any fun x => x == p0
 ·exact Ev.ret _
 ·exact Ev.ret _
def kws : List Str := [[116, 114, 117, 101], [102, 97, 108, 115, 101], [110, 111, 116], [111, 114], [102, 111, 114, 97, 108, 108], [101, 120, 105, 115, 116, 115], [105, 110], [110, 111, 116, 105, 110], [115, 117, 98], [109, 111, 100], [102, 117, 110], [99, 97, 114, 100], [109, 105, 110], [109, 97, 120], [100, 111, 109], [114, 97, 110], [80, 79, 87], [105, 110, 116], [98, 111, 111, 108], [115, 101, 116], [112, 97, 105, 114]]
def UN (s : Str) : Bool := kws.any fun x => x == s
theorem Sn (s : Str) : Ev (fun n => uJ n s) (UN s) := by
 unfold uJ
 exact Ev.bind (EI s _) (Ev.ret _)
theorem chainB (a b : Bool) : cond a (some a) (some b) = some (a || b) := by cases a <;> rfl
theorem Na (n : Nat) (s : Str) : tN n s = some (UN s) := by
 unfold tN
 simp only [chainB, Option.bind_some]
 have h : ∀ b : Bool, cond b (some true) (some false) = some b := fun b => by cases b <;> rfl
 rw [h]
 simp only [UN, kws, List.any_cons, List.any_nil, Bool.or_false]
 simp only [BEq.comm (a := s)]
def ident (s : Str) : Bool := match s with
 | [] => false
 | c :: cs => decide (cs.length < 16) && (Bb (c.toNat : Int) && (!(UN (c :: cs)) && cs.all fun c => sO (c.toNat : Int)))
theorem qh {α : Type} (p : α → Bool) (l : List α) : l.any (fun x => !(p x)) = !(l.all p) := by
 induction l with
 | nil => rfl
 | cons x l ih => simp [ih]
theorem pE (s : Str) : Ev (fun n => dV n s) (ident s) := by
 unfold dV
 cases s with
 | nil => exact Ev.of fun n => rfl
 | cons c cs =>
  have hloop : Ev (fun n => jO n (c :: cs) n 0) (cond ((c :: cs).any fun c => !(sO (c.toNat : Int))) (.rt false) (.nx ())) := by
   refine iE (c :: cs) (fun n k i => jO n (c :: cs) k i) (fun _ x => some (!(sO (x.toNat : Int)))) (fun x => !(sO (x.toNat : Int))) false (fun n k i => ?_) (fun x _ => Ev.ret _)
   show cond _ _ _ = _
   congr 1
   rw [Bl]
   cases idx (c :: cs) i with
   | none => rfl
   | some x =>
    simp only [Option.map_some, Option.bind_some, OP]
  have hs0 : iQ (c :: cs) 0 = some (c.toNat : Int) := by rw [Bl]; rfl
  have hne : ((c :: cs) == ([] : Str)) = false := by simp
  simp only [hne, cond_false, hs0, Option.bind_some, Em, Na]
  by_cases hl : cs.length < 16
  ·have h1 : decide (16 < ((c :: cs).length : Int)) = false := decide_eq_false (by simp; omega)
   simp only [h1, cond_false, ident, decide_eq_true hl, Bool.true_and]
   cases hlet : Bb (c.toNat : Int) with
   | false => exact Ev.ret _
   | true =>
    cases hk : UN (c :: cs) with
    | true => exact Ev.ret _
    | false =>
     simp only [Bool.not_true, cond_false, Option.bind_some, Bool.true_and, Bool.not_false]
     refine Ev.bind hloop ?_
     rw [qh]
     simp only [List.all_cons, sO, hlet, Bool.true_or, Bool.true_and]
     cases cs.all fun c => Bb (c.toNat : Int) || (IE (c.toNat : Int) || (c.toNat : Int) == 95)
     ·exact Ev.ret _
     ·exact Ev.ret _
  ·have h1 : decide (16 < ((c :: cs).length : Int)) = true := decide_eq_true (by simp; omega)
   simp only [h1, cond_true, Option.bind_some, ident, decide_eq_false hl, Bool.false_and]
   exact Ev.ret _
theorem om (s : Str) : Ev (fun n => dY n s) (ident s) := by
 unfold dY
 cases s with
 | nil => exact Ev.of fun n => rfl
 | cons c cs =>
  have hloop : Ev (fun n => lG n (c :: cs) n 1) (cond (cs.any fun c => !(sO (c.toNat : Int))) (.rt false) (.nx ())) := by
   refine MX (c :: cs) (fun n k i => lG n (c :: cs) k i) (fun _ x => some (!(sO (x.toNat : Int)))) (fun x => !(sO (x.toNat : Int))) false (fun n k i => ?_) (fun x _ => Ev.ret _) [c] cs rfl
   show cond _ _ _ = _
   congr 1
   rw [Bl]
   cases idx (c :: cs) i with
   | none => rfl
   | some x =>
    simp only [Option.map_some, Option.bind_some, Io, XH, sO]
    cases Bb (x.toNat : Int) <;> cases IE (x.toNat : Int) <;> rfl
  have hs0 : iQ (c :: cs) 0 = some (c.toNat : Int) := by rw [Bl]; rfl
  have hne : decide (((c :: cs).length : Int) < 1) = false := decide_eq_false (by simp; omega)
  simp only [hne, cond_false, hs0, Option.bind_some, Io]
  by_cases hl : cs.length < 16
  ·have h1 : decide (16 < ((c :: cs).length : Int)) = false := decide_eq_false (by simp; omega)
   simp only [h1, cond_false, ident, decide_eq_true hl, Bool.true_and]
   cases hlet : Bb (c.toNat : Int) with
   | false => exact Ev.ret _
   | true =>
    simp only [Bool.not_true, cond_false, Bool.true_and]
    refine Ev.bind (a := UN (c :: cs)) (Ev.bind (Sn _) (Ev.ret _)) ?_
    cases hk : UN (c :: cs) with
    | true => exact Ev.ret _
    | false =>
     simp only [cond_false, Bool.true_and, Bool.not_false]
     refine Ev.bind hloop ?_
     rw [qh]
     cases cs.all fun c => sO (c.toNat : Int)
     ·exact Ev.ret _
     ·exact Ev.ret _
  ·have h1 : decide (16 < ((c :: cs).length : Int)) = true := decide_eq_true (by simp; omega)
   simp only [h1, cond_true, Option.bind_some, ident, decide_eq_false hl, Bool.false_and]
   exact Ev.ret _
def Jq (s : Str) : Str := if s.getLast? = some 39 then s.dropLast else s
theorem EX {α : Type} (s : List α) (k : Nat) (h : k ≤ s.length) : fO s 0 (k : Int) = some (s.take k) := by
 unfold fO
 rw [if_pos (by omega)]
 simp
theorem Rx (n : Nat) (s : Str) (hs : s.length ≤ 9223372036854775807) : strings_TrimSuffix n s [39] = some (Jq s) := by
 unfold strings_TrimSuffix gZ iF
 rcases List.eq_nil_or_concat s with rfl | ⟨t, c, rfl⟩
 ·rfl
 ·have hl : ((t ++ [c]).length : Int) - (([39] : Str).length : Int) = (t.length : Int) := by simp
  have hd : decide ((([39] : Str).length : Int) ≤ ((t ++ [c]).length : Int)) = true := decide_eq_true (by simp; omega)
  simp only [List.concat_eq_append] at hs ⊢
  rw [hl, hd, wrap64 (by omega) (by simp at hs; omega)]
  have h1 : fO (t ++ [c]) (t.length : Int) ((t ++ [c]).length : Int) = some [c] := by
   unfold fO
   rw [if_pos (by simp; omega)]
   simp
  have h2 : fO (t ++ [c]) 0 (t.length : Int) = some t := by rw [EX _ _ (by simp)]; simp
  simp only [cond_true, h1, h2, Option.bind_some]
  unfold Jq
  rw [List.getLast?_concat, List.dropLast_concat]
  by_cases hc : c = 39
  ·subst hc; simp
  ·have : (([c] : Str) == [39]) = false := by simp [hc]
   rw [this, if_neg (by simpa using hc)]; rfl
def named (s : Str) : Bool := ident (Jq s)
theorem KG (s : Str) (hs : s.length ≤ 9223372036854775807) : Ev (fun n => kI n s) (named s) := by
 unfold kI
 simp only [Rx _ s hs, Option.bind_some]
 exact Ev.bind (pE _) (Ev.ret _)
theorem Z5 {s : Str} (h : ident s = true) : ∀ c ∈ s, sO (c.toNat : Int) = true := by
 cases s with
 | nil => cases h
 | cons c cs =>
  simp only [ident, Bool.and_eq_true, decide_eq_true_eq, List.all_eq_true] at h
  intro x hx
  rcases List.mem_cons.1 hx with rfl | hx
  ·simp [sO, h.2.1]
  ·exact h.2.2.2 x hx
theorem J5 (s : Str) : Ev (fun n => rz n s) (named s) := by
 unfold rz
 have hp : Ev (fun n => pz n s) (decide (s.getLast? = some 39) && ident s.dropLast) := by
  unfold pz
  rcases List.eq_nil_or_concat s with rfl | ⟨t, c, rfl⟩
  ·exact Ev.ret _
  ·simp only [List.concat_eq_append, List.getLast?_concat, List.dropLast_concat]
   cases t with
   | nil =>
    have h1 : decide (1 < (([] ++ [c] : Str).length : Int)) = false := rfl
    simp only [h1, cond_false, Option.bind_some]
    have : ident ([] : Str) = false := rfl
    rw [this, Bool.and_false]; exact Ev.ret _
   | cons d t =>
    have h1 : decide (1 < ((d :: t ++ [c] : Str).length : Int)) = true := decide_eq_true (by simp; omega)
    have hlen : (((d :: t ++ [c] : Str).length : Int) - 1) = ((d :: t).length : Int) := by simp
    have h2 : iQ (d :: t ++ [c]) (((d :: t ++ [c] : Str).length : Int) - 1) = some (c.toNat : Int) := by
     rw [hlen, Bl, show (d :: t ++ [c] : Str) = (d :: t) ++ c :: [] from rfl, gM]; rfl
    have h3 : fO (d :: t ++ [c]) 0 (((d :: t ++ [c] : Str).length : Int) - 1) = some (d :: t) := by rw [hlen, EX _ _ (by simp)]; simp
    simp only [h1, cond_true, h2, h3, Option.bind_some]
    by_cases hc : c = 39
    ·subst hc
     simp only [show ((((39 : UInt8).toNat : Nat) : Int) == 39) = true from rfl, cond_true, decide_true, Bool.true_and]
     exact Ev.bind (Ev.bind (om _) (Ev.ret _)) (Ev.ret _)
    ·have e : (((c.toNat : Nat) : Int) == 39) = false := by
      apply beq_false_of_ne
      intro h
      apply hc
      have : c.toNat = 39 := by omega
      exact UInt8.toNat_inj.1 this
     rw [e]
     have e2 : decide (some c = some (39 : UInt8)) = false := decide_eq_false (by simpa using hc)
     simp only [cond_false, Option.bind_some, e2, Bool.false_and]
     exact Ev.ret _
 refine Ev.bind (a := named s) ?_ (Ev.ret _)
 refine Ev.bind (om s) ?_
 unfold named Jq
 by_cases hq : s.getLast? = some 39
 ·have hi : ident s = false := by
   cases h : ident s with
   | false => rfl
   | true =>
    have := Z5 h 39 (List.mem_of_getLast? hq)
    cases this
  rw [hi, if_pos hq]
  rw [decide_eq_true hq, Bool.true_and] at hp
  exact Ev.bind hp (Ev.ret _)
 ·rw [if_neg hq]
  rw [decide_eq_false hq, Bool.false_and] at hp
  cases ident s
  ·exact Ev.bind hp (Ev.ret _)
  ·exact Ev.ret _
theorem Ty.ind {P : Ty → Prop} (h : ∀ k n ks, (∀ t ∈ ks, P t) → P (.mk k n ks)) (t : Ty) : P t := by
 match t with
 | .mk k n ks => exact h k n ks fun u _ => Ty.ind h u
termination_by SizeOf.sizeOf t
decreasing_by
 rename_i hu
 have := List.sizeOf_lt_of_mem hu
 simp only [Ty.mk.sizeOf_spec]
 omega
def iO (k : Int) (nm : Str) (len : Nat) (d : Int) : Bool :=
 !(k == 2 && decide (1 < d)) && ((((k == 1 || (k == 2 || k == 3)) && len == 0) || ((k == 4 && len == 2) || (k == 5 && len == 1))) && cond (k == 3) (ident nm) (nm == []))
mutual
def pf : Ty → Int → Int → Bool × Int
 | .mk k nm ks, d, c => cond ((decide (c + 1 ≤ 16) && decide (d ≤ 6)) && iO k nm ks.length d) (lT ks (d + 1) (c + 1)) (false, c + 1)
def lT : List Ty → Int → Int → Bool × Int
 | [], _, c => (true, c)
 | t :: ts, d, c => cond (pf t d c).1 (lT ts d (pf t d c).2) (false, (pf t d c).2)
end
mutual
theorem JB : ∀ (t : Ty) (d c : Int), (pf t d c).1 = true → c < (pf t d c).2 ∧ (pf t d c).2 ≤ 16
 | .mk k nm ks, d, c, h => by
  simp only [pf] at h ⊢
  cases hb : ((decide (c + 1 ≤ 16) && decide (d ≤ 6)) && iO k nm ks.length d) with
  | false => rw [hb] at h; cases h
  | true =>
   rw [hb] at h
   simp only [cond_true] at h ⊢
   simp only [Bool.and_eq_true, decide_eq_true_eq] at hb
   have := UJ ks (d + 1) (c + 1) h
   omega
theorem UJ : ∀ (ts : List Ty) (d c : Int), (lT ts d c).1 = true → c ≤ (lT ts d c).2 ∧ (c ≤ 16 → (lT ts d c).2 ≤ 16)
 | [], _, c, _ => by simp [lT]
 | t :: ts, d, c, h => by
  simp only [lT] at h ⊢
  cases hb : (pf t d c).1 with
  | false => rw [hb] at h; cases h
  | true =>
   rw [hb] at h
   simp only [cond_true] at h ⊢
   have h1 := JB t d c hb
   have h2 := UJ ts d _ h
   exact ⟨by omega, fun _ => h2.2 h1.2⟩
end
theorem ac4 (n : Nat) (c d : Int) (h0 : 0 ≤ c) (h1 : c ≤ 16) : jP n c 16 6 d = some (decide (c + 1 ≤ 16) && decide (d ≤ 6), c + 1) := by
 unfold jP
 rw [wrap64 (by omega) (by omega)]
 cases decide (c + 1 ≤ 16) <;> rfl
def agk (t : Ty) : Prop := ∀ d c : Int, 1 ≤ d → d ≤ 7 → 0 ≤ c → c ≤ 16 → Ev (fun n => dh n c 16 6 t d (decide (1 < d))) (pf t d c)
theorem Zu (d : Int) : ∀ (ts : List Ty) (i c : Int), 0 ≤ i → (∃ j, 0 ≤ j ∧ (lT ts d c).1 = false ∧ qK (τ := Int) (fun i x s => cond (!(pf x d s).1) (.rt (i, (pf x d s).2)) (.nx (pf x d s).2)) (fun s => s) i ts c = .rt (j, (lT ts d c).2)) ∨ ((lT ts d c).1 = true ∧ qK (ρ := Int × Int) (fun i x s => cond (!(pf x d s).1) (.rt (i, (pf x d s).2)) (.nx (pf x d s).2)) (fun s => s) i ts c = .nx (lT ts d c).2)
 | [], i, c, _ => .inr ⟨rfl, rfl⟩
 | t :: ts, i, c, hi => by
  simp only [lT, qK]
  cases hb : (pf t d c).1 with
  | false => exact .inl ⟨i, hi, rfl, rfl⟩
  | true => exact Zu d ts (i + 1) _ (by omega)
theorem ab7 (ts : List Ty) (h : ∀ t ∈ ts, agk t) (d c : Int) (hd : 1 ≤ d) (hd6 : d ≤ 6) (h0 : 0 ≤ c) (h1 : c ≤ 16) : Ev (fun n => bO n ts c 16 6 d) (!(lT ts (d + 1) c).1, (lT ts (d + 1) c).2) := by
 refine Ev.succ ?_
 show Ev (fun n => fQ n _ _ _ _ ts c 16 6 d) _
 unfold fQ
 have hloop := AY ts (fun n k i s => iK n (fun p0 p1 p2 p3 p4 => dU n p0 p1 p2 p3 p4) (fun p0 p1 p2 p3 p4 => bO n p0 p1 p2 p3 p4) (fun p0 p1 p2 p3 p4 p5 => dh n p0 p1 p2 p3 p4 p5) (fun p0 p1 p2 p3 p4 => bV n p0 p1 p2 p3 p4) ts 16 6 d k (i, s))
  (fun n i x s => (bV n x s 16 6 d).bind fun x2 => cond x2.1 (some (.rt (i, x2.2))) (some (.nx x2.2))) (fun i x s => cond (!(pf x (d + 1) s).1) (.rt (i, (pf x (d + 1) s).2)) (.nx (pf x (d + 1) s).2)) (fun s => s) (fun _ _ s => 0 ≤ s ∧ s ≤ 16)
  (fun n k i s => by
   show cond _ _ _ = _
   congr 1
   congr 1
   funext x
   dsimp only
   cases bV n x s 16 6 d with
   | none => rfl
   | some b => obtain ⟨b, e⟩ := b; cases b <;> rfl)
  (fun i x suf s hx hs => ⟨by
   have hfit : Ev (fun n => bV n x s 16 6 d) (!(pf x (d + 1) s).1, (pf x (d + 1) s).2) := by
    refine Ev.succ ?_
    show Ev (fun n => fZ n _ _ _ _ x s 16 6 d) _
    unfold fZ
    have := h x hx (d + 1) s (by omega) (by omega) hs.1 hs.2
    rw [decide_eq_true (show 1 < d + 1 by omega)] at this
    rw [wrap64 (by omega) (by omega)]
    exact Ev.bind this (Ev.ret _)
   refine Ev.bind hfit ?_
   cases (pf x (d + 1) s).1
   ·exact Ev.ret _
   ·exact Ev.ret _, fun s' he => by
    cases hb : (pf x (d + 1) s).1 with
    | false => rw [hb] at he; cases he
    | true =>
     rw [hb] at he
     simp only [Bool.not_true, cond_false, LR.nx.injEq] at he
     have := JB x (d + 1) s hb
     omega⟩) (s0 := c) ⟨h0, h1⟩
 rcases Zu (d + 1) ts 0 c (Int.le_refl _) with ⟨j, hj, hf, hr⟩ | ⟨ht, hr⟩
 ·rw [hr] at hloop
  refine Ev.bind (a := (j, (lT ts (d + 1) c).2)) (Ev.succ ?_) ?_
  ·show Ev (fun n => dX n _ _ _ _ ts c 16 6 d) _
   unfold dX
   exact Ev.bind hloop (Ev.ret _)
  ·rw [hf]
   simp only [decide_eq_true hj]
   exact Ev.ret _
 ·rw [hr] at hloop
  refine Ev.bind (a := (-1, (lT ts (d + 1) c).2)) (Ev.succ ?_) ?_
  ·show Ev (fun n => dX n _ _ _ _ ts c 16 6 d) _
   unfold dX
   exact Ev.bind hloop (Ev.ret _)
  ·rw [ht]
   exact Ev.ret _
theorem U1 (len : Nat) (m : Nat) : (((len : Int) != (m : Int))) = !(len == m) := by
 rw [bne]
 congr 1
 by_cases h : len = m
 ·subst h; simp
 ·rw [beq_false_of_ne h, beq_false_of_ne (by omega)]
theorem fits : ∀ t : Ty, agk t := Ty.ind fun k nm ks ih d c hd hd7 h0 h1 => by
 refine Ev.succ ?_
 show Ev (fun n => gT n _ _ _ _ c 16 6 (.mk k nm ks) d (decide (1 < d))) _
 unfold gT
 simp only [ac4 _ c d h0 h1, Option.bind_some, pf, Ty.kind, Ty.name, Ty.kids]
 cases hb : (decide (c + 1 ≤ 16) && decide (d ≤ 6)) with
 | false => exact Ev.ret _
 | true =>
  simp only [Bool.and_eq_true, decide_eq_true_eq] at hb
  have hk := ab7 ks ih d (c + 1) hd hb.2 (by omega) hb.1
  simp only [Bool.not_true, cond_false, Bool.true_and]
  -- the end: the number of kids, the name, the kids
  have hend : ∀ m : Nat, Ev (fun n => (((cond ((ks.length : Int) != (m : Int)) (some true) (cond (k != 3) (some (!(nm == ([] : Str)))) (some false))) : Option Bool).bind fun (s2 : Bool) => (cond s2 (some (false, c + 1)) ((bO n ks (c + 1) 16 6 d).bind fun (x2 : Bool × Int) => some ((!x2.1), x2.2)))))
    (cond ((ks.length == m) && cond (k == 3) true (nm == [])) (lT ks (d + 1) (c + 1)) (false, c + 1)) := fun m => by
   rw [U1]
   cases ks.length == m with
   | false => exact Ev.ret _
   | true =>
    simp only [Bool.not_true, cond_false, Bool.true_and, bne]
    have hkids : Ev (fun n => (bO n ks (c + 1) 16 6 d).bind fun (x2 : Bool × Int) => some ((!x2.1), x2.2)) (lT ks (d + 1) (c + 1)) := by
     refine Ev.bind hk ?_
     simp only [Bool.not_not]
     exact Ev.ret _
    cases k == 3 with
    | true => exact hkids
    | false =>
     simp only [Bool.not_false, cond_true, Option.bind_some, cond_false]
     cases nm == ([] : Str) with
     | false => exact Ev.ret _
     | true => exact hkids
  by_cases e1 : k = 1
  ·subst e1
   have := hend 0
   simpa [iO] using this
  by_cases e2 : k = 2
  ·subst e2
   cases hf : decide (1 < d) with
   | true =>
    have : iO 2 nm ks.length d = false := by simp [iO, hf]
    simp only [this, cond_false]
    exact Ev.of fun n => by simp
   | false =>
    have := hend 0
    simpa [iO, hf] using this
  by_cases e3 : k = 3
  ·subst e3
   simp only [show ((3 : Int) == 1) = false from rfl, show ((3 : Int) == 2) = false from rfl, show ((3 : Int) == 3) = true from rfl, cond_false, cond_true]
   refine Ev.bind (a := cond (ident nm) (.nx 0) (.rt (false, c + 1))) (Ev.bind (pE nm) ?_) ?_
   ·cases ident nm
    ·exact Ev.ret _
    ·exact Ev.ret _
   ·cases hi : ident nm with
    | false =>
     have : iO 3 nm ks.length d = false := by simp [iO, hi]
     rw [this]
     exact Ev.ret _
    | true =>
     have := hend 0
     simpa [iO, hi] using this
  by_cases e4 : k = 4
  ·subst e4
   have := hend 2
   simpa [iO] using this
  by_cases e5 : k = 5
  ·subst e5
   have := hend 1
   simpa [iO] using this
  ·have : iO k nm ks.length d = false := by simp [iO, e1, e2, e3, e4, e5]
   rw [this]
   refine Ev.of fun n => ?_
   have b1 := beq_false_of_ne e1
   have b2 := beq_false_of_ne e2
   have b3 := beq_false_of_ne e3
   have b4 := beq_false_of_ne e4
   have b5 := beq_false_of_ne e5
   simp only [b1, b2, b3, b4, b5, cond_false, Option.bind_some, LR.el]
def eO (t : Ty) : Bool := (pf t 1 0).1
theorem qc (t : Ty) : Ev (fun n => gy n t) (eO t) := by
 unfold gy
 have := fits t 1 0 (by omega) (by omega) (by omega) (by omega)
 rw [show decide ((1 : Int) < 1) = false from rfl] at this
 exact Ev.bind this (Ev.ret _)
def pt (t : Ty) (d c : Int) : Int := cond (pf t d c).1 (pf t d c).2 (-1)
def ahG (t : Ty) : Prop := ∀ d c : Int, 1 ≤ d → d ≤ 7 → 0 ≤ c → c ≤ 16 → Ev (fun n => mQ n t d c) (pt t d c)
theorem ZF (d : Int) : ∀ (ts : List Ty) (c : Int), 0 ≤ c → gP (τ := Int) (fun x s => cond (decide (pt x d s < 0)) (.rt (-1)) (.nx (pt x d s))) (fun s => s) ts c = cond (lT ts d c).1 (.nx (lT ts d c).2) (.rt (-1))
 | [], c, _ => rfl
 | t :: ts, c, h0 => by
  simp only [lT, gP]
  by_cases hb : (pf t d c).1 = true
  ·have h1 := JB t d c hb
   have h2 : pt t d c = (pf t d c).2 := by simp only [pt, hb, cond_true]
   have h3 : decide ((pf t d c).2 < 0) = false := decide_eq_false (by omega)
   simp only [h2, h3, hb, cond_true, cond_false]
   exact ZF d ts (pf t d c).2 (by omega)
  ·have hb' : (pf t d c).1 = false := by simpa using hb
   have h2 : pt t d c = -1 := by simp only [pt, hb', cond_false]
   have h3 : decide (pt t d c < 0) = true := decide_eq_true (by omega)
   simp only [h3, hb', cond_true, cond_false]
theorem typed : ∀ t : Ty, ahG t := Ty.ind fun k nm ks ih d c hd hd7 h0 h1 => by
 refine Ev.succ ?_
 show Ev (fun n => sG n _ (.mk k nm ks) d c) _
 unfold sG
 simp only [pt, pf, Ty.kind, Ty.name, Ty.kids]
 rw [wrap64 (by omega) (by omega)]
 by_cases hd6 : d ≤ 6
 case neg =>
  rw [decide_eq_true (show 6 < d by omega), decide_eq_false hd6]
  simp only [Bool.and_false, Bool.false_and, cond_false]
  exact Ev.ret _
 by_cases hc : c + 1 ≤ 16
 case neg =>
  rw [decide_eq_false (show ¬ 6 < d by omega), decide_eq_true (show 16 < c + 1 by omega), decide_eq_false hc]
  simp only [Bool.false_and, cond_false, cond_true]
  exact Ev.ret _
 rw [decide_eq_false (show ¬ 6 < d by omega), decide_eq_false (show ¬ 16 < c + 1 by omega), decide_eq_true hd6, decide_eq_true hc]
 simp only [cond_false, Bool.true_and]
 have hloop := tC ks (fun n k' i s => pI n (fun p0 p1 p2 => mQ n p0 p1 p2) (.mk k nm ks) d k' (s, i)) (fun n x s => (mQ n x (IntKind.wrap .i64 (d + 1)) s).bind fun x2 => cond (decide (x2 < 0)) (some (.rt (-1))) (some (.nx x2)))
  (fun x s => cond (decide (pt x (d + 1) s < 0)) (.rt (-1)) (.nx (pt x (d + 1) s))) (fun s => s) (fun _ s => 0 ≤ s ∧ s ≤ 16)
  (fun n k' i s => by
   show cond _ _ _ = _
   congr 1
   show (idx ks i).bind _ = _
   congr 1
   funext x
   dsimp only
   cases mQ n x (IntKind.wrap .i64 (d + 1)) s with
   | none => rfl
   | some b => simp only [Option.bind_some]; cases decide (b < 0) <;> rfl)
  (fun x suf s hx hs => ⟨by
   rw [wrap64 (by omega) (by omega)]
   refine Ev.bind (ih x hx (d + 1) s (by omega) (by omega) hs.1 hs.2) ?_
   cases decide (pt x (d + 1) s < 0)
   ·exact Ev.ret _
   ·exact Ev.ret _, fun s' he => by
    cases hb : decide (pt x (d + 1) s < 0) with
    | true => rw [hb] at he; cases he
    | false =>
     rw [hb] at he
     simp only [cond_false, LR.nx.injEq] at he
     have hneg : ¬ pt x (d + 1) s < 0 := of_decide_eq_false hb
     subst he
     unfold pt at hneg ⊢
     cases hb2 : (pf x (d + 1) s).1 with
     | false => rw [hb2] at hneg; simp at hneg
     | true => have := JB x (d + 1) s hb2; simp only [cond_true]; omega⟩) (s0 := c + 1) ⟨by omega, hc⟩
 rw [ZF _ _ _ (by omega)] at hloop
 have hkids : Ev (fun n => (pI n (fun p0 p1 p2 => mQ n p0 p1 p2) (.mk k nm ks) d n (c + 1, 0)).bind (LR.el (fun (s5 : Int) => some s5) (fun r => some r))) (cond (lT ks (d + 1) (c + 1)).1 (lT ks (d + 1) (c + 1)).2 (-1)) := by
  refine Ev.bind hloop ?_
  cases (lT ks (d + 1) (c + 1)).1
  ·exact Ev.ret _
  ·exact Ev.ret _
 have hend : ∀ m : Nat, Ev (fun n => (((cond ((ks.length : Int) != (m : Int)) (some true) (cond (k == 3) ((dY n nm).bind fun (x3 : Bool) => (cond (!x3) (some true) (cond (k != 3) (some (!(nm == ([] : Str)))) (some false)))) (cond (k != 3) (some (!(nm == ([] : Str)))) (some false)))) : Option Bool).bind fun (s3 : Bool) => (cond s3 (some (-1)) ((pI n (fun p0 p1 p2 => mQ n p0 p1 p2) (.mk k nm ks) d n (c + 1, 0)).bind (LR.el (fun (s5 : Int) => some s5) (fun r => some r))))))
   (cond ((ks.length == m) && cond (k == 3) (ident nm) (nm == [])) (cond (lT ks (d + 1) (c + 1)).1 (lT ks (d + 1) (c + 1)).2 (-1)) (-1)) := fun m => by
  rw [U1]
  cases ks.length == m with
  | false => exact Ev.ret _
  | true =>
   simp only [Bool.not_true, cond_false, Bool.true_and, bne]
   cases k == 3 with
   | true =>
    simp only [cond_true, Bool.not_true, cond_false]
    refine Ev.bind (a := !(ident nm)) (Ev.bind (om nm) ?_) ?_
    ·cases ident nm
     ·exact Ev.ret _
     ·exact Ev.ret _
    ·cases ident nm
     ·exact Ev.ret _
     ·exact hkids
   | false =>
    simp only [cond_false, Bool.not_false, cond_true, Option.bind_some]
    cases nm == ([] : Str) with
    | false => exact Ev.ret _
    | true => exact hkids
 have hpair : ∀ b : Bool, (cond (cond b (lT ks (d + 1) (c + 1)) (false, c + 1)).1 (cond b (lT ks (d + 1) (c + 1)) (false, c + 1)).2 (-1) : Int) = cond b (cond (lT ks (d + 1) (c + 1)).1 (lT ks (d + 1) (c + 1)).2 (-1)) (-1) := fun b => by cases b <;> rfl
 rw [hpair]
 by_cases e1 : k = 1
 ·subst e1
  have := hend 0
  simpa [iO] using this
 by_cases e2 : k = 2
 ·subst e2
  cases hf : decide (1 < d) with
  | true =>
   have : iO 2 nm ks.length d = false := by simp [iO, hf]
   rw [this]
   exact Ev.of fun n => by simp
  | false =>
   have := hend 0
   simpa [iO, hf] using this
 by_cases e3 : k = 3
 ·subst e3
  have := hend 0
  simpa [iO] using this
 by_cases e4 : k = 4
 ·subst e4
  have := hend 2
  simpa [iO] using this
 by_cases e5 : k = 5
 ·subst e5
  have := hend 1
  simpa [iO] using this
 ·have : iO k nm ks.length d = false := by simp [iO, e1, e2, e3, e4, e5]
  rw [this]
  refine Ev.of fun n => ?_
  have b1 := beq_false_of_ne e1
  have b2 := beq_false_of_ne e2
  have b3 := beq_false_of_ne e3
  have b4 := beq_false_of_ne e4
  have b5 := beq_false_of_ne e5
  simp only [b1, b2, b3, b4, b5, cond_false, Option.bind_some, LR.el]
theorem xu (t : Ty) : Ev (fun n => eB n t) (eO t) := by
 unfold eB
 refine Ev.bind (typed t 1 0 (by omega) (by omega) (by omega) (by omega)) ?_
 unfold pt eO
 cases hb : (pf t 1 0).1 with
 | false => exact Ev.ret _
 | true =>
  have := JB t 1 0 hb
  simp only [cond_true]
  rw [decide_eq_true (by omega)]
  exact Ev.ret _
theorem GZ {α σ τ ρ : Type} (f : α → σ → σ) (fin : σ → τ) : ∀ (l : List α) (s : σ), gP (ρ := ρ) (fun x s => .nx (f x s)) fin l s = .nx (fin (l.foldl (fun s x => f x s) s))
 | [], _ => rfl
 | x :: xs, s => GZ f fin xs (f x s)
theorem gQ {α σ τ ρ : Type} (l : List α) (L : Nat → Nat → Int → σ → Option (LR τ ρ)) (step : Nat → α → σ → Option σ) (f : α → σ → σ) (fin : σ → τ) (I : List α → σ → Prop)
  (hL : ∀ n k i s, L n (k + 1) i s = cond (decide (i < (l.length : Int))) ((idx l i).bind fun x => (step n x s).bind fun s' => L n k (i + 1) s') (some (.nx (fin s))))
  (hI : ∀ x suf s, x ∈ l → I (x :: suf) s → Ev (fun n => step n x s) (f x s) ∧ I suf (f x s)) {s0 : σ} (h0 : I l s0) : Ev (fun n => L n n 0 s0) (.nx (fin (l.foldl (fun s x => f x s) s0))) := by
 rw [← GZ f fin]
 refine tC l L (fun n x s => (step n x s).bind fun s' => some (.nx s')) (fun x s => .nx (f x s)) fin I (fun n k i s => ?_) (fun x suf s hx hs => ?_) h0
 ·rw [hL]
  congr 1
  congr 1
  funext x
  cases step n x s <;> rfl
 ·obtain ⟨h1, h2⟩ := hI x suf s hx hs
  exact ⟨Ev.bind h1 (Ev.ret _), fun s' h => by cases h; exact h2⟩
theorem Rf {α ρ : Type} (l : List α) (L : Nat → Nat → Int → Option (LR Unit ρ)) (step : Nat → α → Option (LR Unit ρ)) (p : α → Bool) (r : ρ)
  (hL : ∀ n k i, L n (k + 1) i = cond (decide (i < (l.length : Int))) ((idx l i).bind fun x => (step n x).bind (LR.el (fun _ => L n k (i + 1)) (fun r => some (.rt r)))) (some (.nx ())))
  (hp : ∀ x ∈ l, Ev (fun n => step n x) (cond (p x) (.rt r) (.nx ()))) : Ev (fun n => L n n 0) (cond (l.any p) (.rt r) (.nx ())) := by
 have := tC l (fun n k i (_ : Unit) => L n k i) (fun n x _ => step n x) (fun x _ => cond (p x) (.rt r) (.nx ())) (fun _ => ()) (fun _ _ => True)
  (fun n k i s => by rw [hL]) (fun x suf s hx _ => ⟨hp x hx, fun _ _ => trivial⟩) (s0 := ()) trivial
 rw [Jb] at this
 exact this
theorem fu {α : Type} {b : Nat} {l ys : List α} (h : l.length + ys.length ≤ 1000000) (hb : b ≤ 1000) : app b l ys = some (l ++ ys) := by
 unfold app
 have := Nat.mul_le_mul h hb
 rw [if_pos ⟨by omega, by omega⟩]
theorem nG {α : Type} : ∀ (l s : List α), l.foldl (fun s x => s ++ [x]) s = s ++ l
 | [], s => by simp
 | x :: l, s => by simp [nG l]
theorem Ih {α : Type} (k : Str) : dR ([] : List (Str × α)) k = none := rfl
theorem kD {α : Type} (p : Str × α) (m : List (Str × α)) (k : Str) : dR (p :: m) k = if p.1 == k then some p.2 else dR m k := by
 unfold dR
 simp only [List.find?_cons]
 cases p.1 == k <;> rfl
theorem Jm {α : Type} (m : List (Str × α)) (k : Str) (v : α) (k' : Str) : dR (j5 m k v) k' = if k == k' then some v else dR m k' := by
 induction m with
 | nil => rw [j5, kD]
 | cons p m ih =>
  simp only [j5]
  by_cases h : (p.1 == k) = true
  ·have e : p.1 = k := by simpa using h
   rw [if_pos h, kD, kD, e]
   by_cases hk : (k == k') = true
   ·rw [if_pos hk, if_pos hk]
   ·rw [if_neg hk, if_neg hk, if_neg hk]
  ·rw [if_neg h, kD, ih, kD]
   by_cases hp : (p.1 == k') = true
   ·rw [if_pos hp, if_pos hp, if_neg]
    intro h2
    apply h
    have e1 : p.1 = k' := by simpa using hp
    have e2 : k = k' := by simpa using h2
    simp [e1, e2]
   ·rw [if_neg hp, if_neg hp]
theorem yT {α : Type} (m : List (Str × α)) (k : Str) (v : α) : (j5 m k v).length ≤ m.length + 1 := by
 induction m with
 | nil => simp [j5]
 | cons p m ih =>
  simp only [j5]
  split
  ·simp
  ·simp only [List.length_cons]; omega
theorem ED {α : Type} {m : List (Str × α)} (h : m.length ≤ 1000000) (k : Str) (v : α) : uZ m k v = some (j5 m k v) := by
 unfold uZ
 rw [if_pos (by omega)]
theorem mem_keys {α : Type} (m : List (Str × α)) (k : Str) : k ∈ m.map (·.1) ↔ ∃ v, dR m k = some v := by
 induction m with
 | nil => simp [Ih]
 | cons p m ih =>
  rw [kD]
  simp only [List.map_cons, List.mem_cons, ih]
  by_cases h : (p.1 == k) = true
  ·rw [if_pos h]
   have e : p.1 = k := by simpa using h
   exact ⟨fun _ => ⟨_, rfl⟩, fun _ => .inl e.symm⟩
  ·rw [if_neg h]
   have e : k ≠ p.1 := fun e => h (by simp [e])
   simp [e]
def eP {α : Type} (l : List (Str × α)) (m : List (Str × α)) : List (Str × α) := l.foldl (fun m p => j5 m p.1 p.2) m
theorem Ar {α : Type} (l m : List (Str × α)) : (eP l m).length ≤ m.length + l.length := by
 induction l generalizing m with
 | nil => simp [eP]
 | cons p l ih =>
  have h1 := ih (j5 m p.1 p.2)
  have h2 := yT m p.1 p.2
  simp only [eP, List.foldl_cons, List.length_cons] at h1 ⊢
  omega
theorem ER {α : Type} (l l' m : List (Str × α)) : eP (l ++ l') m = eP l' (eP l m) := by simp [eP]
theorem ZX {α : Type} (l m : List (Str × α)) (k : Str) : k ∈ (eP l m).map (·.1) ↔ k ∈ m.map (·.1) ∨ k ∈ l.map (·.1) := by
 induction l generalizing m with
 | nil => simp [eP]
 | cons p l ih =>
  have h1 := ih (j5 m p.1 p.2)
  have h2 : k ∈ (j5 m p.1 p.2).map (·.1) ↔ k ∈ m.map (·.1) ∨ k = p.1 := by
   rw [mem_keys, mem_keys, Jm]
   by_cases h : (p.1 == k) = true
   ·rw [if_pos h]
    have e : p.1 = k := by simpa using h
    exact ⟨fun _ => .inr e.symm, fun _ => ⟨_, rfl⟩⟩
   ·rw [if_neg h]
    have e : k ≠ p.1 := fun e => h (by simp [e])
    simp [e]
  rw [h2] at h1
  simp only [eP, List.foldl_cons, List.map_cons, List.mem_cons] at h1 ⊢
  rw [h1, or_assoc]
mutual
def nD (q : Int) : Ty → Bool
 | .mk k _ ks => k == q || UA q ks
def UA (q : Int) : List Ty → Bool
 | [] => false
 | t :: ts => nD q t || UA q ts
end
theorem H8 (q : Int) : ∀ ts, UA q ts = ts.any (nD q)
 | [] => rfl
 | t :: ts => by simp [UA, H8 q ts]
theorem Ki (q : Int) : ∀ t : Ty, Ev (fun n => fJ n t q) (nD q t) := Ty.ind fun k nm ks ih => by
 refine Ev.succ ?_
 show Ev (fun n => kg n _ _ _ _ (.mk k nm ks) q) _
 unfold kg
 simp only [Ty.kind, Ty.kids, nD, H8]
 have hk : Ev (fun n => cO n ks q) (ks.any (nD q)) := by
  refine Ev.succ ?_
  show Ev (fun n => fq n _ _ _ _ ks q) _
  unfold fq
  refine Ev.bind (a := gH (nD q) 0 ks) (Ev.succ ?_) ?_
  ·show Ev (fun n => gD n _ _ _ _ ks q) _
   unfold gD
   refine nX ks (fun n k i => gU n _ _ _ (fun p0 p1 => eZ n p0 p1) ks q k i) (fun n x => eZ n x q) (nD q) (fun n k i => rfl) (fun x hx => ?_)
   refine Ev.succ ?_
   show Ev (fun n => jm n _ _ _ _ x q) _
   unfold jm
   exact Ev.bind (ih x hx) (Ev.ret _)
  ·rw [rD _ _ _ (Int.le_refl _)]; exact Ev.ret _
 cases hq : (k == q)
 ·exact Ev.bind (Ev.bind hk (Ev.ret _)) (Ev.ret _)
 ·exact Ev.bind (Ev.ret _) (Ev.ret _)
theorem Jk : ∀ t : Ty, Ev (fun n => gW n t) (nD 2 t) := Ty.ind fun k nm ks ih => by
 refine Ev.succ ?_
 show Ev (fun n => mY n _ (.mk k nm ks)) _
 unfold mY
 simp only [Ty.kind, nD, H8]
 cases hq : (k == 2)
 ·have h := iE ks (fun n k' i => oV n (fun p0 => gW n p0) (.mk k nm ks) k' i) (fun n x => gW n x) (nD 2) true (fun n k i => rfl) ih
  simp only [cond_false, Bool.false_or]
  refine Ev.bind h ?_
  cases ks.any (nD 2)
  ·exact Ev.ret _
  ·exact Ev.ret _
 ·exact Ev.ret _
mutual
def bZ : Ty → List Str
 | .mk k nm ks => cond (k == 3) [nm] (iL ks)
def iL : List Ty → List Str
 | [] => []
 | t :: ts => bZ t ++ iL ts
end
mutual
def Aj : Ty → Bool
 | .mk k _ ks => (decide (ks.length ≤ 2) && (k != 3 || ks.length == 0)) && Ma ks
def Ma : List Ty → Bool
 | [] => true
 | t :: ts => Aj t && Ma ts
end
theorem yK : ∀ {ts : List Ty}, Ma ts = true → ∀ t ∈ ts, Aj t = true
 | [], _, t, h => by cases h
 | u :: ts, h, t, ht => by
  simp only [Ma, Bool.and_eq_true] at h
  rcases List.mem_cons.1 ht with rfl | ht
  ·exact h.1
  ·exact yK h.2 t ht
theorem Np : ∀ {ts : List Ty} {t : Ty}, t ∈ ts → (bZ t).length ≤ (iL ts).length
 | [], t, h => by cases h
 | u :: ts, t, ht => by
  simp only [iL, List.length_append]
  rcases List.mem_cons.1 ht with rfl | ht
  ·omega
  ·have := Np ht; omega
theorem afY {k : Int} {nm : Str} {len : Nat} {d : Int} (h : iO k nm len d = true) : len ≤ 2 ∧ (k = 3 → len = 0) := by
 unfold iO at h
 simp only [Bool.and_eq_true, Bool.or_eq_true, beq_iff_eq] at h
 obtain ⟨_, h, _⟩ := h
 rcases h with ⟨h1, h2⟩ | ⟨h1, h2⟩ | ⟨h1, h2⟩ <;> omega
mutual
theorem ael : ∀ (t : Ty) (d c : Int), (pf t d c).1 = true → Aj t = true ∧ ((bZ t).length : Int) ≤ (pf t d c).2 - c
 | .mk k nm ks, d, c, h => by
  simp only [pf] at h ⊢
  cases hb : ((decide (c + 1 ≤ 16) && decide (d ≤ 6)) && iO k nm ks.length d) with
  | false => rw [hb] at h; cases h
  | true =>
   rw [hb] at h
   simp only [cond_true] at h ⊢
   simp only [Bool.and_eq_true] at hb
   have hh := afY hb.2
   have h1 := acs ks (d + 1) (c + 1) h
   have h2 := UJ ks (d + 1) (c + 1) h
   constructor
   ·simp only [Aj, h1.1, Bool.and_true, Bool.and_eq_true, decide_eq_true_eq, Bool.or_eq_true, bne_iff_ne, beq_iff_eq]
    refine ⟨hh.1, ?_⟩
    by_cases e : k = 3
    ·exact .inr (hh.2 e)
    ·exact .inl e
   ·simp only [bZ]
    cases k == 3 with
    | true => simp only [cond_true, List.length_singleton]; omega
    | false => simp only [cond_false]; omega
theorem acs : ∀ (ts : List Ty) (d c : Int), (lT ts d c).1 = true → Ma ts = true ∧ ((iL ts).length : Int) ≤ (lT ts d c).2 - c
 | [], _, c, _ => by simp [lT, Ma, iL]
 | t :: ts, d, c, h => by
  simp only [lT] at h ⊢
  cases hb : (pf t d c).1 with
  | false => rw [hb] at h; cases h
  | true =>
   rw [hb] at h
   simp only [cond_true] at h ⊢
   have h1 := ael t d c hb
   have h2 := acs ts d _ h
   simp only [Ma, h1.1, h2.1, Bool.and_true, iL, List.length_append]
   refine ⟨trivial, ?_⟩
   omega
end
theorem tY {t : Ty} (h : eO t = true) : Aj t = true ∧ (bZ t).length ≤ 16 := by
 have h1 := ael t 1 0 h
 have h2 := JB t 1 0 h
 exact ⟨h1.1, by omega⟩
theorem O5 : ∀ t : Ty, Aj t = true → (bZ t).length ≤ 16 → Ev (fun n => jX n t) (bZ t) := Ty.ind fun k nm ks ih hok hlen => by
 refine Ev.succ ?_
 show Ev (fun n => nZ n _ (.mk k nm ks)) _
 unfold nZ
 simp only [Ty.kind, Ty.name, bZ] at hlen ⊢
 simp only [Aj, Bool.and_eq_true, decide_eq_true_eq] at hok
 cases hq : (k == 3) with
 | true => exact Ev.ret _
 | false =>
  rw [hq] at hlen
  simp only [cond_false] at hlen ⊢
  have h := gQ ks (fun n k' i s => qU n (fun p0 => jX n p0) (.mk k nm ks) k' (s, i)) (fun n x s => (jX n x).bind fun x2 => app 16 s x2) (fun x s => s ++ bZ x) (fun s => s) (fun suf s => s.length + (iL suf).length ≤ 16)
   (fun n k' i s => by
    show cond _ _ _ = _
    congr 1
    show (idx ks i).bind _ = _
    congr 1
    funext x
    simp only [Option.bind_assoc])
   (fun x suf s hx hs => by
    simp only [iL, List.length_append] at hs
    refine ⟨Ev.bind (ih x hx (yK hok.2 x hx) (by have := Np hx; omega)) ?_, ?_⟩
    ·rw [fu (by omega) (by omega)]; exact Ev.ret _
    ·simp only [List.length_append]; omega) (s0 := ([] : List Str)) (by simpa using hlen)
  have hf : ∀ (ts : List Ty) (s : List Str), ts.foldl (fun s x => s ++ bZ x) s = s ++ iL ts := by
   intro ts
   induction ts with
   | nil => intro s; simp [iL]
   | cons t ts iht => intro s; simp [iL, iht]
  rw [hf] at h
  exact Ev.bind h (Ev.ret _)
theorem Z4 : ∀ t : Ty, Aj t = true → ∀ m : List (Str × Bool), m.length + (bZ t).length ≤ 1000 → Ev (fun n => iy n t m) (eP ((bZ t).map fun s => (s, true)) m) := Ty.ind fun k nm ks ih hok m hlen => by
 refine Ev.succ ?_
 show Ev (fun n => lq n _ (.mk k nm ks) m) _
 unfold lq
 simp only [Ty.kind, Ty.name, bZ] at hlen ⊢
 simp only [Aj, Bool.and_eq_true, decide_eq_true_eq, Bool.or_eq_true, beq_iff_eq, bne_iff_ne] at hok
 have hloop : ∀ (m : List (Str × Bool)), m.length + (iL ks).length ≤ 1000 → Ev (fun n => kN n (fun p0 p1 => iy n p0 p1) (.mk k nm ks) n (0, m)) (.nx (eP ((iL ks).map fun s => (s, true)) m)) := fun m hm => by
  have h := gQ ks (fun n k' i s => kN n (fun p0 p1 => iy n p0 p1) (.mk k nm ks) k' (i, s)) (fun n x s => iy n x s) (fun x s => eP ((bZ x).map fun s => (s, true)) s) (fun s => s) (fun suf s => s.length + (iL suf).length ≤ 1000)
   (fun n k' i s => rfl)
   (fun x suf s hx hs => by
    simp only [iL, List.length_append] at hs
    refine ⟨ih x hx (yK hok.2 x hx) s (by omega), ?_⟩
    have := Ar ((bZ x).map fun s => (s, true)) s
    simp only [List.length_map] at this
    omega) (s0 := m) hm
  have hf : ∀ (ts : List Ty) (s : List (Str × Bool)), ts.foldl (fun s x => eP ((bZ x).map fun s => (s, true)) s) s = eP ((iL ts).map fun s => (s, true)) s := by
   intro ts
   induction ts with
   | nil => intro s; rfl
   | cons t ts iht => intro s; simp only [List.foldl_cons, iL, List.map_append, ER, iht]
  rw [hf] at h
  exact h
 cases hq : (k == 3) with
 | true =>
  have hk : k = 3 := by simpa using hq
  have hks : ks = [] := by
   rcases hok.1.2 with h | h
   ·exact absurd hk h
   ·exact List.length_eq_zero_iff.1 h
  rw [hq] at hlen
  simp only [cond_true, List.length_singleton] at hlen ⊢
  rw [ED (by omega)]
  have hl := yT m nm true
  have := hloop (j5 m nm true) (by rw [hks]; simp only [iL, List.length_nil]; omega)
  rw [hks] at this ⊢
  simp only [Option.bind_some]
  exact Ev.bind this (Ev.ret _)
 | false =>
  rw [hq] at hlen
  simp only [cond_false, Option.bind_some] at hlen ⊢
  exact Ev.bind (hloop m hlen) (Ev.ret _)
theorem zR {t : Ty} (h : eO t = true) : Ev (fun n => jf n t) (((eP ((bZ t).map fun s => (s, true)) []).map (·.1)).mergeSort F5) := by
 unfold jf
 refine Ev.bind (qc t) ?_
 rw [h]
 obtain ⟨h1, h2⟩ := tY h
 refine Ev.bind (Z4 t h1 [] (by simp; omega)) ?_
 have := Ar ((bZ t).map fun s => (s, true)) []
 simp only [List.length_map, List.length_nil] at this
 unfold nA
 rw [if_pos (by omega)]
 exact Ev.ret _
theorem IX (t : Ty) (s : Str) : s ∈ ((eP ((bZ t).map fun s => (s, true)) []).map (·.1)).mergeSort F5 ↔ s ∈ bZ t := by
 rw [List.mem_mergeSort, ZX]
 simp
theorem zu : ∀ t : Ty, Aj t = true → Ev (fun n => eD n t) t := Ty.ind fun k nm ks ih hok => by
 refine Ev.succ ?_
 show Ev (fun n => nV n _ (.mk k nm ks)) _
 unfold nV
 simp only [Ty.kind, Ty.name]
 simp only [Aj, Bool.and_eq_true, decide_eq_true_eq] at hok
 have h := gQ ks (fun n k' i s => qJ n (fun p0 => eD n p0) (.mk k nm ks) k' (i, s)) (fun n x s => (eD n x).bind fun x2 => app 48 s [x2]) (fun x s => s ++ [x]) (fun s => s) (fun suf s => s.length + suf.length ≤ 2)
  (fun n k' i s => by
   show cond _ _ _ = _
   congr 1
   show (idx ks i).bind _ = _
   congr 1
   funext x
   simp only [Option.bind_assoc])
  (fun x suf s hx hs => by
   simp only [List.length_cons] at hs
   refine ⟨Ev.bind (ih x hx (yK hok.2 x hx)) ?_, ?_⟩
   ·rw [fu (by simp only [List.length_singleton]; omega) (by omega)]; exact Ev.ret _
   ·simp only [List.length_append, List.length_singleton]; omega) (s0 := ([] : List Ty)) (by simpa using hok.1.1)
 rw [nG] at h
 exact Ev.bind h (Ev.ret _)
theorem oZ {α : Type} [BEq α] [ReflBEq α] (a : α) : (a != a) = false := by simp [bne]
theorem Ey {α : Type} (l : List α) : (l.any fun _ => false) = false := by induction l <;> simp_all
theorem zn : ∀ t : Ty, Ev (fun n => bg n t t) true := Ty.ind fun k nm ks ih => by
 refine Ev.succ ?_
 show Ev (fun n => jI n _ (.mk k nm ks) (.mk k nm ks)) _
 unfold jI
 simp only [oZ, beq_self_eq_true, Bool.not_true, cond_false, Option.bind_some]
 have h := iE ks (fun n k' i => nQ n (fun p0 p1 => bg n p0 p1) (.mk k nm ks) (.mk k nm ks) k' i) (fun n x => (bg n x x).bind fun b => some (!b)) (fun _ => false) false
  (fun n k' i => by
   show cond _ _ _ = _
   congr 1
   show (idx ks i).bind _ = _
   cases hx : idx ks i with
   | none => rfl
   | some x =>
    show ((idx ks i).bind _) = _
    rw [hx]
    simp only [Option.bind_some, Option.bind_assoc])
  (fun x hx => Ev.bind (ih x hx) (Ev.ret _))
 rw [Ey] at h
 exact Ev.bind h (Ev.ret _)
def bU (env : Env) (s : Str) : Bool := env.carriers.any fun c => c.name == s
def yY (c : Carrier) : Bool := ident c.name && (!(decide (8 < (c.elems.length : Int))) && c.elems.all ident)
def uK (env : Env) (d : Decl) : Bool := named d.name && ((eO d.ty && !(nD 2 d.ty)) && (bZ d.ty).all (bU env))
def qM (env : Env) : List Str := (env.carriers.flatMap fun c => c.name :: c.elems) ++ env.names.map (·.name)
def names2 (env : Env) : List Str := env.carriers.map (·.name) ++ (env.carriers.flatMap (·.elems) ++ env.names.map (·.name))
def iI : List Str → List Str → Bool
 | _, [] => true
 | pre, x :: xs => !(pre.any (· == x)) && iI (pre ++ [x]) xs
theorem Qy : ∀ (l pre : List Str), iI pre l = true ↔ l.Nodup ∧ ∀ x ∈ l, x ∉ pre
 | [], pre => by simp [iI]
 | x :: l, pre => by
  simp only [iI, Bool.and_eq_true, Qy l, Bool.not_eq_true', List.nodup_cons, List.mem_cons, List.any_eq_false, beq_iff_eq, List.mem_append, List.not_mem_nil, or_false]
  constructor
  ·rintro ⟨h1, h2, h3⟩
   refine ⟨⟨fun hx => (h3 x hx) (.inr rfl), h2⟩, ?_⟩
   rintro y (rfl | hy)
   ·exact fun hp => h1 _ hp rfl
   ·exact fun hp => h3 y hy (.inl hp)
  ·rintro ⟨⟨h1, h2⟩, h3⟩
   refine ⟨fun y hy e => h3 x (.inl rfl) (e ▸ hy), h2, fun y hy hp => ?_⟩
   rcases hp with hp | rfl
   ·exact h3 y (.inr hy) hp
   ·exact h1 hy
theorem Md (l : List Str) : iI [] l = true ↔ l.Nodup := by rw [Qy]; simp
theorem abX (cs : List Carrier) : (cs.flatMap fun c => c.name :: c.elems).Perm (cs.map (·.name) ++ cs.flatMap (·.elems)) := by
 induction cs with
 | nil => simp
 | cons c cs ih =>
  simp only [List.flatMap_cons, List.map_cons, List.cons_append]
  refine List.Perm.cons _ ?_
  refine (List.Perm.append_left _ ih).trans ?_
  rw [← List.append_assoc, ← List.append_assoc]
  exact List.Perm.append_right _ List.perm_append_comm
theorem ru (env : Env) : (qM env).Perm (names2 env) := by
 unfold qM names2
 rw [← List.append_assoc]
 exact List.Perm.append_right _ (abX _)
theorem abZ (env : Env) : iI [] (qM env) = iI [] (names2 env) := by
 have h : (iI [] (qM env) = true) ↔ (iI [] (names2 env) = true) := by rw [Md, Md]; exact (ru env).nodup_iff
 cases h1 : iI [] (qM env) <;> cases h2 : iI [] (names2 env) <;> simp_all
def bn (env : Env) : Bool := !(decide (8 < (env.carriers.length : Int)) || decide (64 < (env.names.length : Int))) && (env.carriers.all yY && (env.names.all (uK env) && iI [] (names2 env)))
theorem SX (env : Env) (s : Str) : Ev (fun n => ng n env s) (bU env s) := by
 unfold ng jg kC
 refine Ev.bind (a := bU env s) ?_ (Ev.ret _)
 refine Ev.bind (nX env.carriers (fun n k i => gL n env.carriers s k i) (fun _ x => some (x.name == s)) (fun c => c.name == s) (fun n k i => rfl) (fun x _ => Ev.ret _)) ?_
 rw [rD _ _ _ (Int.le_refl _)]
 exact Ev.ret _
theorem J2 (env : Env) {t : Ty} (h : eO t = true) : Ev (fun n => ji n env t) ((bZ t).all (bU env)) := by
 unfold ji jA kY
 refine Ev.bind (zR h) ?_
 generalize hl : ((eP ((bZ t).map fun s => (s, true)) []).map (·.1)).mergeSort F5 = l
 have hm : ∀ s, s ∈ l ↔ s ∈ bZ t := fun s => by rw [← hl]; exact IX t s
 have hf := nX l (fun n k i => gX n l env.carriers env.names k i) (fun n x => mZ n x env.carriers env.names) (fun s => !(bU env s)) (fun n k i => rfl) (fun x _ => by
  unfold mZ
  exact Ev.bind (SX env x) (Ev.ret _))
 refine Ev.bind (a := l.any fun s => !(bU env s)) (Ev.bind hf ?_) ?_
 ·rw [rD _ _ _ (Int.le_refl _)]
  exact Ev.ret _
 ·rw [qh, Bool.not_not]
  have : l.all (bU env) = (bZ t).all (bU env) := by
   have h : (l.all (bU env) = true) ↔ ((bZ t).all (bU env) = true) := by simp only [List.all_eq_true, hm]
   cases h1 : l.all (bU env) <;> cases h2 : (bZ t).all (bU env) <;> simp_all
  rw [this]
  exact Ev.ret _
theorem qR (env : Env) (s : Str) : Ev (fun n => fD n env s) (gH (fun c => c.name == s) 0 env.carriers) := by
 unfold fD
 exact nX env.carriers (fun n k i => mX n env s k i) (fun _ x => some (x.name == s)) (fun c => c.name == s) (fun n k i => rfl) (fun x _ => Ev.ret _)
theorem wL (a : Int) : decide (a < 0) = !(decide (0 ≤ a)) := by
 by_cases h : a < 0
 ·rw [decide_eq_true h, decide_eq_false (by omega)]; rfl
 ·rw [decide_eq_false h, decide_eq_true (by omega)]; rfl
theorem Lp (env : Env) {t : Ty} (h : eO t = true) : Ev (fun n => pV n env t) ((bZ t).all (bU env)) := by
 unfold pV
 obtain ⟨h1, h2⟩ := tY h
 refine Ev.bind (O5 t h1 h2) ?_
 have hs := iE (bZ t) (fun n k i => vW n env (bZ t) k i) (fun n x => (fD n env x).bind fun x3 => some (decide (x3 < 0))) (fun s => !(bU env s)) false
  (fun n k i => by
   show cond _ _ _ = _
   congr 1
   congr 1
   funext x
   simp only [Option.bind_assoc, Option.bind_some])
  (fun x _ => by
   refine Ev.bind (qR env x) ?_
   rw [wL, rD _ _ _ (Int.le_refl _)]
   exact Ev.ret _)
 rw [qh] at hs
 refine Ev.bind hs ?_
 cases (bZ t).all (bU env)
 ·exact Ev.ret _
 ·exact Ev.ret _
theorem DF (env : Env) (h : (qM env).length ≤ 1000000) : Ev (fun n => jZ n env) (qM env) := by
 unfold jZ
 simp only [qM, List.length_append, List.length_map] at h
 have h1 := gQ env.carriers (fun n k i s => l5 n env k (s, i)) (fun n x s => (app 16 s [x.name]).bind fun x4 => app 16 x4 x.elems) (fun x s => s ++ (x.name :: x.elems)) (fun s => s) (fun suf s => s.length + (suf.flatMap fun c => c.name :: c.elems).length ≤ 1000000)
  (fun n k i s => by
   show cond _ _ _ = _
   congr 1
   show (idx env.carriers i).bind _ = _
   congr 1
   funext x
   simp only [Option.bind_assoc])
  (fun x suf s hx hs => by
   simp only [List.flatMap_cons, List.length_append, List.length_cons] at hs
   refine ⟨?_, ?_⟩
   ·rw [fu (by simp only [List.length_singleton]; omega) (by omega), Option.bind_some, fu (by simp only [List.length_append, List.length_singleton]; omega) (by omega)]
    rw [List.append_assoc]
    exact Ev.ret _
   ·simp only [List.length_append, List.length_cons]; omega) (s0 := ([] : List Str)) (by simp only [List.length_nil]; omega)
 have hf1 : ∀ (cs : List Carrier) (s : List Str), cs.foldl (fun s x => s ++ (x.name :: x.elems)) s = s ++ cs.flatMap fun c => c.name :: c.elems := by
  intro cs
  induction cs with
  | nil => intro s; simp
  | cons c cs ih => intro s; rw [List.foldl_cons, ih]; simp
 rw [hf1, List.nil_append] at h1
 have h2 := gQ env.names (fun n k i s => mo n env k (s, i)) (fun n x s => app 16 s [x.name]) (fun x s => s ++ [x.name]) (fun s => s) (fun suf s => s.length + suf.length ≤ 1000000)
  (fun n k i s => rfl)
  (fun x suf s hx hs => by
   simp only [List.length_cons] at hs
   refine ⟨?_, ?_⟩
   ·rw [fu (by simp only [List.length_singleton]; omega) (by omega)]
    exact Ev.ret _
   ·simp only [List.length_append, List.length_singleton]; omega) (s0 := env.carriers.flatMap fun c => c.name :: c.elems) (by omega)
 have hf2 : ∀ (cs : List Decl) (s : List Str), cs.foldl (fun s x => s ++ [x.name]) s = s ++ cs.map (·.name) := by
  intro cs
  induction cs with
  | nil => intro s; simp
  | cons c cs ih => intro s; rw [List.foldl_cons, ih]; simp
 rw [hf2] at h2
 exact Ev.bind h1 (Ev.bind h2 (Ev.ret _))
theorem vO (env : Env) (h : (names2 env).length ≤ 1000000) : Ev (fun n => lV n env) (names2 env) := by
 unfold lV
 simp only [names2, List.length_append, List.length_map] at h
 have h0 := gQ env.carriers (fun n k i s => qm n env k (s, i)) (fun n x s => app 16 s [x.name]) (fun x s => s ++ [x.name]) (fun s => s) (fun suf s => s.length + suf.length ≤ 1000000)
  (fun n k i s => rfl)
  (fun x suf s hx hs => by
   simp only [List.length_cons] at hs
   refine ⟨?_, ?_⟩
   ·rw [fu (by simp only [List.length_singleton]; omega) (by omega)]
    exact Ev.ret _
   ·simp only [List.length_append, List.length_singleton]; omega) (s0 := ([] : List Str)) (by simp only [List.length_nil]; omega)
 have hf0 : ∀ (cs : List Carrier) (s : List Str), cs.foldl (fun s x => s ++ [x.name]) s = s ++ cs.map (·.name) := by
  intro cs
  induction cs with
  | nil => intro s; simp
  | cons c cs ih => intro s; rw [List.foldl_cons, ih]; simp
 rw [hf0, List.nil_append] at h0
 have h1 := gQ env.carriers (fun n k i s => qD n env k (s, i)) (fun n x s => app 16 s x.elems) (fun x s => s ++ x.elems) (fun s => s) (fun suf s => s.length + (suf.flatMap (·.elems)).length ≤ 1000000)
  (fun n k i s => rfl)
  (fun x suf s hx hs => by
   simp only [List.flatMap_cons, List.length_append] at hs
   refine ⟨?_, ?_⟩
   ·rw [fu (by omega) (by omega)]
    exact Ev.ret _
   ·simp only [List.length_append]; omega) (s0 := env.carriers.map (·.name)) (by simp only [List.length_map]; omega)
 have hf1 : ∀ (cs : List Carrier) (s : List Str), cs.foldl (fun s x => s ++ x.elems) s = s ++ cs.flatMap (·.elems) := by
  intro cs
  induction cs with
  | nil => intro s; simp
  | cons c cs ih => intro s; rw [List.foldl_cons, ih]; simp
 rw [hf1] at h1
 have h2 := gQ env.names (fun n k i s => qL n env k (s, i)) (fun n x s => app 16 s [x.name]) (fun x s => s ++ [x.name]) (fun s => s) (fun suf s => s.length + suf.length ≤ 1000000)
  (fun n k i s => rfl)
  (fun x suf s hx hs => by
   simp only [List.length_cons] at hs
   refine ⟨?_, ?_⟩
   ·rw [fu (by simp only [List.length_singleton]; omega) (by omega)]
    exact Ev.ret _
   ·simp only [List.length_append, List.length_singleton]; omega) (s0 := env.carriers.map (·.name) ++ env.carriers.flatMap (·.elems)) (by simp only [List.length_append, List.length_map]; omega)
 have hf2 : ∀ (cs : List Decl) (s : List Str), cs.foldl (fun s x => s ++ [x.name]) s = s ++ cs.map (·.name) := by
  intro cs
  induction cs with
  | nil => intro s; simp
  | cons c cs ih => intro s; rw [List.foldl_cons, ih]; simp
 rw [hf2, List.append_assoc] at h2
 exact Ev.bind h0 (Ev.bind h1 (Ev.bind h2 (Ev.ret _)))
theorem Kt (l : List Str) (hl : l.length ≤ 1000000) : Ev (fun n => mG n l) (iI [] l) := by
 unfold mG
 have h := tC l (fun n k i s => lX n l k (i, s)) (fun n x s => (Q6 (dR s x) (some false) (fun x3 => some x3) : Option Bool).bind fun s3 => cond s3 (some (.rt false)) ((uZ s x true).bind fun x2 => some (.nx x2))) (fun x s => cond ((dR s x).getD false) (.rt false) (.nx (j5 s x true))) (fun _ => ())
  (fun suf s => s.length + suf.length ≤ 1000000)
  (fun n k i s => by
   show cond _ _ _ = _
   congr 1
   show (idx l i).bind _ = _
   congr 1
   funext x
   cases dR s x with
   | none => simp only [Q6, Option.bind_some, cond_false, Option.bind_assoc]
   | some b => cases b <;> simp only [Q6, Option.bind_some, cond_false, cond_true, Option.bind_assoc])
  (fun x suf s hx hs => by
   simp only [List.length_cons] at hs
   refine ⟨?_, fun s' he => ?_⟩
   ·rw [ED (by omega)]
    cases dR s x with
    | none => exact Ev.ret _
    | some b => cases b <;> exact Ev.ret _
   ·cases hb : (dR s x).getD false with
    | true => rw [hb] at he; cases he
    | false =>
     rw [hb] at he
     cases he
     have := yT s x true
     omega) (s0 := ([] : List (Str × Bool))) (by simpa using hl)
 have key : ∀ (suf pre : List Str) (s : List (Str × Bool)), (∀ x, dR s x = if pre.any (· == x) then some true else none) → gP (τ := Unit) (fun x s => cond ((dR s x).getD false) (.rt false) (.nx (j5 s x true))) (fun _ => ()) suf s = cond (iI pre suf) (.nx ()) (.rt false) := by
  intro suf
  induction suf with
  | nil => intro pre s _; rfl
  | cons x suf ih =>
   intro pre s hs
   simp only [gP, iI]
   rw [hs x]
   cases hb : pre.any (· == x) with
   | true => rfl
   | false =>
    simp only [Bool.false_eq_true, if_false, Option.getD_none, cond_false, Bool.not_false, Bool.true_and]
    refine ih (pre ++ [x]) _ (fun y => ?_)
    rw [Jm, hs y]
    simp only [List.any_append, List.any_cons, List.any_nil, Bool.or_false]
    cases hy : (x == y) with
    | true => simp
    | false => simp
 rw [key l [] [] (fun x => rfl)] at h
 refine Ev.bind h ?_
 cases iI [] l
 ·exact Ev.ret _
 ·exact Ev.ret _
theorem aaD (l : List Str) : Ev (fun n => nT n l n 0) (cond (iI [] l) (.nx ()) (.rt false)) := by
 have h := AY l (fun n k i (_ : Unit) => nT n l k i) (fun n i x _ => (fO l 0 i).bind fun x3 => (kZ n x x3).bind fun x4 => cond x4 (some (.rt false)) (some (.nx ()))) (fun i x _ => cond ((l.take i.toNat).any (· == x)) (.rt false) (.nx ())) (fun _ => ())
  (fun i suf _ => ∃ pre, l = pre ++ suf ∧ i = (pre.length : Int))
  (fun n k i s => by
   show cond _ _ _ = _
   congr 1
   congr 1
   funext x
   cases fO l 0 i with
   | none => rfl
   | some y =>
    simp only [Option.bind_some]
    cases kZ n x y with
    | none => rfl
    | some b => cases b <;> rfl)
  (fun i x suf s hx hs => by
   obtain ⟨pre, hp, rfl⟩ := hs
   refine ⟨?_, fun _ _ => ⟨pre ++ [x], by rw [hp]; simp, by simp⟩⟩
   rw [EX l pre.length (by rw [hp]; simp)]
   simp only [Option.bind_some, Int.toNat_natCast]
   refine Ev.bind (EI _ _) ?_
   cases (l.take pre.length).any (· == x)
   ·exact Ev.ret _
   ·exact Ev.ret _) (s0 := ()) ⟨[], rfl, rfl⟩
 have key : ∀ (suf pre : List Str), l = pre ++ suf → qK (τ := Unit) (fun i x _ => cond ((l.take i.toNat).any (· == x)) (.rt false) (.nx ())) (fun _ => ()) (pre.length : Int) suf () = cond (iI pre suf) (.nx ()) (.rt false) := by
  intro suf
  induction suf with
  | nil => intro pre _; rfl
  | cons x suf ih =>
   intro pre hp
   have ht : l.take pre.length = pre := by rw [hp]; simp
   simp only [qK, iI, Int.toNat_natCast, ht]
   cases pre.any (· == x) with
   | true => rfl
   | false =>
    have := ih (pre ++ [x]) (by rw [hp]; simp)
    simp only [List.length_append, List.length_singleton, Int.natCast_add, Int.natCast_one] at this
    simpa using this
 have := key l [] rfl
 simp only [List.length_nil, Int.natCast_zero] at this
 rw [this] at h
 exact h
theorem sH {env : Env} (h1 : ¬ 8 < (env.carriers.length : Int)) (h2 : ¬ 64 < (env.names.length : Int)) (h3 : env.carriers.all yY = true) : (names2 env).length ≤ 1000 := by
 have key : ∀ cs : List Carrier, cs.all yY = true → (cs.flatMap (·.elems)).length ≤ 8 * cs.length := by
  intro cs
  induction cs with
  | nil => intro _; simp
  | cons c cs ih =>
   intro h
   simp only [List.all_cons, Bool.and_eq_true, yY, Bool.not_eq_true', decide_eq_false_iff_not] at h
   have := ih (by simpa only [List.all_eq_true, yY] using h.2)
   simp only [List.flatMap_cons, List.length_append, List.length_cons]
   omega
 have := key _ h3
 simp only [names2, List.length_append, List.length_map]
 omega
theorem fI (env : Env) (hs : ∀ d ∈ env.names, d.name.length ≤ 9223372036854775807) : Ev (fun n => dF n env) (bn env) := by
 unfold dF
 by_cases h1 : 8 < (env.carriers.length : Int)
 ·have : bn env = false := by simp only [bn, decide_eq_true h1, Bool.true_or, Bool.not_true, Bool.false_and]
  rw [this, decide_eq_true h1]
  exact Ev.ret _
 by_cases h2 : 64 < (env.names.length : Int)
 ·have : bn env = false := by simp only [bn, decide_eq_true h2, Bool.or_true, Bool.not_true, Bool.false_and]
  rw [this, decide_eq_true h2, decide_eq_false h1]
  exact Ev.ret _
 simp only [bn, decide_eq_false h1, decide_eq_false h2, Bool.or_false, Bool.not_false, Bool.true_and, cond_false, Option.bind_some]
 have hcar := Rf env.carriers (fun n k i => mq n env k i) (fun n x => ((dV n x.name).bind fun x10 => cond (!x10) (some true) (some (decide (8 < (x.elems.length : Int))))).bind fun s7 => cond s7 (some (.rt false)) ((iM n x n 0).bind (LR.el (fun _ => some (.nx ())) (fun r => some (.rt r))))) (fun c => !(yY c)) false
  (fun n k i => by
   show cond _ _ _ = _
   congr 1
   congr 1
   funext x
   cases ((dV n x.name).bind fun x10 => cond (!x10) (some true) (some (decide (8 < (x.elems.length : Int))))) with
   | none => rfl
   | some b =>
    cases b with
    | true => rfl
    | false =>
     simp only [Option.bind_some, cond_false]
     cases iM n x n 0 with
     | none => rfl
     | some r => cases r <;> rfl)
  (fun c hc => by
   refine Ev.bind (a := !(ident c.name) || decide (8 < (c.elems.length : Int))) (Ev.bind (pE c.name) ?_) ?_
   ·cases ident c.name
    ·exact Ev.ret _
    ·exact Ev.ret _
   ·unfold yY
    cases ident c.name with
    | false => exact Ev.ret _
    | true =>
     cases decide (8 < (c.elems.length : Int)) with
     | true => exact Ev.ret _
     | false =>
      simp only [Bool.not_true, Bool.false_or, cond_false, Bool.true_and, Bool.not_false]
      have h := iE c.elems (fun n k i => iM n c k i) (fun n x => (dV n x).bind fun x9 => some (!x9)) (fun s => !(ident s)) false
       (fun n k i => by
        show cond _ _ _ = _
        congr 1
        congr 1
        funext x
        simp only [Option.bind_assoc, Option.bind_some])
       (fun x _ => Ev.bind (pE x) (Ev.ret _))
      rw [qh] at h
      refine Ev.bind h ?_
      cases c.elems.all ident
      ·exact Ev.ret _
      ·exact Ev.ret _)
 rw [qh] at hcar
 refine Ev.bind hcar ?_
 cases hc : env.carriers.all yY with
 | false => exact Ev.ret _
 | true =>
  simp only [Bool.not_true, cond_false, Bool.true_and]
  have hdecl := iE env.names (fun n k i => mh n env k i) (fun n x => (kI n x.name).bind fun x4 => cond (!x4) (some true) ((iA n x.ty).bind fun x5 => cond (!x5) (some true) ((ji n env x.ty).bind fun x6 => some (!x6)))) (fun d => !(uK env d)) false
   (fun n k i => rfl)
   (fun d hd => by
    refine Ev.bind (KG d.name (hs d hd)) ?_
    unfold uK
    cases named d.name with
    | false => exact Ev.ret _
    | true =>
     simp only [Bool.not_true, cond_false, Bool.true_and]
     refine Ev.bind (a := eO d.ty && !(nD 2 d.ty)) ?_ ?_
     ·unfold iA
      refine Ev.bind (a := eO d.ty && !(nD 2 d.ty)) (Ev.bind (qc d.ty) ?_) (Ev.ret _)
      cases eO d.ty with
      | false => exact Ev.ret _
      | true => exact Ev.bind (Ki 2 d.ty) (Ev.ret _)
     ·cases hv : eO d.ty with
      | false => exact Ev.ret _
      | true =>
       cases nD 2 d.ty with
       | true => exact Ev.ret _
       | false => exact Ev.bind (J2 env hv) (Ev.ret _))
  rw [qh] at hdecl
  refine Ev.bind hdecl ?_
  cases hd : env.names.all (uK env) with
  | false => exact Ev.ret _
  | true =>
   simp only [Bool.not_true, cond_false, Bool.true_and]
   have hlen := sH h1 h2 hc
   have hlen1 : (qM env).length ≤ 1000 := by rw [(ru env).length_eq]; exact hlen
   refine Ev.bind (DF env (by omega)) ?_
   rw [← abZ]
   exact Ev.bind (Kt _ (by omega)) (Ev.ret _)
theorem jM (env : Env) : Ev (fun n => fK n env) (bn env) := by
 unfold fK
 by_cases h1 : 8 < (env.carriers.length : Int)
 ·have : bn env = false := by simp only [bn, decide_eq_true h1, Bool.true_or, Bool.not_true, Bool.false_and]
  rw [this, decide_eq_true h1]
  exact Ev.ret _
 by_cases h2 : 64 < (env.names.length : Int)
 ·have : bn env = false := by simp only [bn, decide_eq_true h2, Bool.or_true, Bool.not_true, Bool.false_and]
  rw [this, decide_eq_true h2, decide_eq_false h1]
  exact Ev.ret _
 simp only [bn, decide_eq_false h1, decide_eq_false h2, Bool.or_false, Bool.not_false, Bool.true_and, cond_false, Option.bind_some]
 have hcar := Rf env.carriers (fun n k i => qy n env k i) (fun n x => ((dY n x.name).bind fun x10 => cond (!x10) (some true) (some (decide (8 < (x.elems.length : Int))))).bind fun s7 => cond s7 (some (.rt false)) ((lH n x n 0).bind (LR.el (fun _ => some (.nx ())) (fun r => some (.rt r))))) (fun c => !(yY c)) false
  (fun n k i => by
   show cond _ _ _ = _
   congr 1
   congr 1
   funext x
   cases ((dY n x.name).bind fun x10 => cond (!x10) (some true) (some (decide (8 < (x.elems.length : Int))))) with
   | none => rfl
   | some b =>
    cases b with
    | true => rfl
    | false =>
     simp only [Option.bind_some, cond_false]
     cases lH n x n 0 with
     | none => rfl
     | some r => cases r <;> rfl)
  (fun c hc => by
   refine Ev.bind (a := !(ident c.name) || decide (8 < (c.elems.length : Int))) (Ev.bind (om c.name) ?_) ?_
   ·cases ident c.name
    ·exact Ev.ret _
    ·exact Ev.ret _
   ·unfold yY
    cases ident c.name with
    | false => exact Ev.ret _
    | true =>
     cases decide (8 < (c.elems.length : Int)) with
     | true => exact Ev.ret _
     | false =>
      simp only [Bool.not_true, Bool.false_or, cond_false, Bool.true_and, Bool.not_false]
      have h := iE c.elems (fun n k i => lH n c k i) (fun n x => (dY n x).bind fun x9 => some (!x9)) (fun s => !(ident s)) false
       (fun n k i => by
        show cond _ _ _ = _
        congr 1
        congr 1
        funext x
        simp only [Option.bind_assoc, Option.bind_some])
       (fun x _ => Ev.bind (om x) (Ev.ret _))
      rw [qh] at h
      refine Ev.bind h ?_
      cases c.elems.all ident
      ·exact Ev.ret _
      ·exact Ev.ret _)
 rw [qh] at hcar
 refine Ev.bind hcar ?_
 cases hc : env.carriers.all yY with
 | false => exact Ev.ret _
 | true =>
  simp only [Bool.not_true, cond_false, Bool.true_and]
  have hdecl := iE env.names (fun n k i => qO n env k i) (fun n x => (rz n x.name).bind fun x6 => cond (!x6) (some true) ((eB n x.ty).bind fun x7 => cond (!x7) (some true) ((gW n x.ty).bind fun x8 => cond x8 (some true) ((pV n env x.ty).bind fun x9 => some (!x9))))) (fun d => !(uK env d)) false
   (fun n k i => rfl)
   (fun d hd => by
    refine Ev.bind (J5 d.name) ?_
    unfold uK
    cases named d.name with
    | false => exact Ev.ret _
    | true =>
     simp only [Bool.not_true, cond_false, Bool.true_and]
     refine Ev.bind (xu d.ty) ?_
     cases hv : eO d.ty with
     | false => exact Ev.ret _
     | true =>
      refine Ev.bind (Jk d.ty) ?_
      cases nD 2 d.ty with
      | true => exact Ev.ret _
      | false => exact Ev.bind (Lp env hv) (Ev.ret _))
  rw [qh] at hdecl
  refine Ev.bind hdecl ?_
  cases hd : env.names.all (uK env) with
  | false => exact Ev.ret _
  | true =>
   simp only [Bool.not_true, cond_false, Bool.true_and]
   have hlen := sH h1 h2 hc
   refine Ev.bind (vO env (by omega)) ?_
   refine Ev.bind (aaD _) ?_
   cases iI [] (names2 env)
   ·exact Ev.ret _
   ·exact Ev.ret _
theorem Val.ind {P : Val → Prop} (h : ∀ k n s ks, (∀ t ∈ ks, P t) → P (.mk k n s ks)) (t : Val) : P t := by
 match t with
 | .mk k n s ks => exact h k n s ks fun u _ => Val.ind h u
termination_by SizeOf.sizeOf t
decreasing_by
 rename_i hu
 have := List.sizeOf_lt_of_mem hu
 simp only [Val.mk.sizeOf_spec]
 omega
mutual
def dw : Val → Prop
 | .mk _ _ _ ks => ks.length ≤ 9223372036854775807 ∧ CP ks
def CP : List Val → Prop
 | [] => True
 | v :: vs => dw v ∧ CP vs
end
theorem Ri : ∀ {vs : List Val}, CP vs → ∀ v ∈ vs, dw v
 | [], _, _, h => by cases h
 | v :: vs, h, u, hu => by
  simp only [CP] at h
  rcases List.mem_cons.1 hu with rfl | hu
  ·exact h.1
  ·exact Ri h.2 u hu
theorem dw.kids {v : Val} (h : dw v) : v.kids.length ≤ 9223372036854775807 ∧ ∀ u ∈ v.kids, dw u := by
 cases v
 simp only [dw] at h
 exact ⟨h.1, Ri h.2⟩
def iT (a b : Int) : Int := cond (decide (a < b)) (-1) (cond (decide (b < a)) 1 0)
mutual
def bW : Val → Val → Int
 | .mk k n s ks, .mk k' n' s' ks' => cond (iT k k' != 0) (iT k k') (cond (iT n n' != 0) (iT n n') (cond (Lib.compareBytes s s' != 0) (Lib.compareBytes s s') (dK ks ks')))
def dK : List Val → List Val → Int
 | [], [] => 0
 | [], _ :: _ => -1
 | _ :: _, [] => 1
 | a :: asx, b :: bs => cond (bW a b != 0) (bW a b) (dK asx bs)
end
def GD : List Val → List Val → LR Unit Int
 | [], _ => .nx ()
 | _ :: _, [] => .rt 1
 | a :: asx, b :: bs => cond (bW a b != 0) (.rt (bW a b)) (GD asx bs)
theorem VK : ∀ (asx bs : List Val) (x y : Nat), x + bs.length = y + asx.length → (match GD asx bs with | .nx _ => cond (decide ((x : Int) < (y : Int))) (-1) 0 | .rt r => r) = dK asx bs
 | [], [], x, y, h => by
  simp only [GD, dK]
  rw [decide_eq_false (by simp at h; omega)]
  rfl
 | [], b :: bs, x, y, h => by
  simp only [GD, dK]
  rw [decide_eq_true (by simp at h; omega)]
  rfl
 | a :: asx, [], x, y, h => rfl
 | a :: asx, b :: bs, x, y, h => by
  simp only [GD, dK]
  cases hc : (bW a b != 0) with
  | true => rfl
  | false => exact VK asx bs x y (by simp at h; omega)
theorem Pn (n : Nat) (a b : Int) : cmp_Compare_int n a b = some (iT a b) := by
 unfold cmp_Compare_int iT
 simp only [bne_self_eq_false, cond_false]
 cases decide (a < b) <;> cases decide (b < a) <;> rfl
theorem afB (a b c : Int) : Ev (fun n => Aw n [a, b, c]) (cond (a != 0) a (cond (b != 0) b (cond (c != 0) c 0))) := by
 refine ⟨4, fun n hn => ?_⟩
 obtain ⟨m, rfl⟩ : ∃ m, n = m + 4 := ⟨n - 4, by omega⟩
 show (oJ (m + 4) [a, b, c] (m + 4) 0).bind _ = _
 have i0 : idx [a, b, c] 0 = some a := rfl
 have i1 : idx [a, b, c] (0 + 1) = some b := rfl
 have i2 : idx [a, b, c] (0 + 1 + 1) = some c := rfl
 simp only [oJ, i0, i1, i2, Option.bind_some, show decide ((0 : Int) < (([a, b, c] : List Int).length : Int)) = true from rfl, show decide ((0 + 1 : Int) < (([a, b, c] : List Int).length : Int)) = true from rfl, show decide ((0 + 1 + 1 : Int) < (([a, b, c] : List Int).length : Int)) = true from rfl, show decide ((0 + 1 + 1 + 1 : Int) < (([a, b, c] : List Int).length : Int)) = false from rfl, cond_true, cond_false]
 cases a != 0 <;> cases b != 0 <;> cases c != 0 <;> rfl
theorem Vx : ∀ (asx : List Val), (∀ a ∈ asx, ∀ b, Ev (fun n => dL n a b) (bW a b)) → ∀ (bs pa pb : List Val), pa.length = pb.length → ∃ N, ∀ n, N ≤ n → ∀ k, asx.length + 1 ≤ k → dA n (fun p0 p1 => dQ n p0 p1) (fun p0 p1 => dL n p0 p1) (pa ++ asx) (pb ++ bs) k (pa.length : Int) = some (GD asx bs)
 | [], _, bs, pa, pb, hp => by
  refine ⟨0, fun n _ k hk => ?_⟩
  obtain ⟨j, rfl⟩ : ∃ j, k = j + 1 := ⟨k - 1, by simp at hk; omega⟩
  unfold dA
  rw [decide_eq_false (by simp)]
  rfl
 | a :: asx, H, [], pa, pb, hp => by
  refine ⟨0, fun n _ k hk => ?_⟩
  obtain ⟨j, rfl⟩ : ∃ j, k = j + 1 := ⟨k - 1, by simp at hk; omega⟩
  unfold dA
  rw [decide_eq_true (by simp; omega), gM]
  simp only [cond_true, Option.bind_some]
  rw [decide_eq_true (by simp; omega)]
  rfl
 | a :: asx, H, b :: bs, pa, pb, hp => by
  obtain ⟨N1, h1⟩ := H a (by simp) b
  obtain ⟨N2, h2⟩ := Vx asx (fun x hx => H x (by simp [hx])) bs (pa ++ [a]) (pb ++ [b]) (by simp [hp])
  refine ⟨N1 + N2, fun n hn k hk => ?_⟩
  obtain ⟨j, rfl⟩ : ∃ j, k = j + 1 := ⟨k - 1, by simp at hk; omega⟩
  have h1 : dL n a b = _ := h1 n (by omega)
  have h2 := h2 n (by omega) j (by simp at hk; omega)
  unfold dA
  rw [decide_eq_true (by simp; omega), gM]
  simp only [cond_true, Option.bind_some]
  rw [decide_eq_false (by simp; omega), show (pa.length : Int) = (pb.length : Int) by rw [hp], gM]
  simp only [cond_false, Option.bind_some]
  rw [h1]
  simp only [Option.bind_some, GD]
  cases hc : (bW a b != 0) with
  | true => rfl
  | false =>
   simp only [cond_false]
   rw [show (pb.length : Int) + 1 = ((pa ++ [a]).length : Int) by simp [hp]]
   simpa using h2
theorem Qe (asx bs : List Val) (H : ∀ a ∈ asx, ∀ b, Ev (fun n => dL n a b) (bW a b)) : Ev (fun n => dQ n asx bs) (dK asx bs) := by
 obtain ⟨N, h⟩ := Vx asx H bs [] [] rfl
 refine Ev.succ ?_
 refine ⟨N + asx.length + 1, fun n hn => ?_⟩
 have := h n (by omega) n (by omega)
 simp only [List.nil_append, List.length_nil] at this
 show fT n _ _ asx bs = _
 unfold fT
 rw [show ((0 : Nat) : Int) = 0 from rfl] at this
 rw [this]
 have he := VK asx bs asx.length bs.length (by omega)
 rw [← he]
 cases GD asx bs with
 | rt r => rfl
 | nx u =>
  simp only [Option.bind_some, LR.el]
  cases decide ((asx.length : Int) < (bs.length : Int)) <;> rfl
theorem rP (a b : Val) : Ev (fun n => dL n a b) (bW a b) := by
 revert b
 induction a using Val.ind with
 | h k n s ks ih =>
  intro b
  obtain ⟨k', n', s', ks'⟩ := b
  have hk := Qe ks ks' ih
  refine Ev.succ ?_
  show Ev (fun m => nu m _ _ (.mk k n s ks) (.mk k' n' s' ks')) _
  unfold nu
  simp only [Pn, strings_Compare, Option.bind_some, Val.kind, Val.n, Val.name, Val.kids]
  refine Ev.bind (afB _ _ _) ?_
  simp only [bW]
  cases h1 : (iT k k' != 0) with
  | true => simp only [cond_true, h1]; exact Ev.ret _
  | false =>
   cases h2 : (iT n n' != 0) with
   | true => simp only [cond_true, cond_false, h2]; exact Ev.ret _
   | false =>
    cases h3 : (Lib.compareBytes s s' != 0) with
    | true => simp only [cond_true, cond_false, h3]; exact Ev.ret _
    | false =>
     simp only [cond_false, bne_self_eq_false]
     exact Ev.bind hk (Ev.ret _)
theorem Ra : ∀ a b : Str, Lib.compareBytes a b = -1 ∨ Lib.compareBytes a b = 0 ∨ Lib.compareBytes a b = 1
 | [], [] => by simp [Lib.compareBytes]
 | [], _ :: _ => by simp [Lib.compareBytes]
 | _ :: _, [] => by simp [Lib.compareBytes]
 | a :: x, b :: y => by
  have := Ra x y
  simp only [Lib.compareBytes]
  split
  ·simp
  ·split
   ·simp
   ·exact this
theorem Ab : ∀ a b : Str, Op.bytesLess a b = (Lib.compareBytes a b == -1) ∧ (a == b) = (Lib.compareBytes a b == 0)
 | [], [] => by simp [Op.bytesLess, Lib.compareBytes]
 | [], _ :: _ => by simp [Op.bytesLess, Lib.compareBytes]
 | _ :: _, [] => by simp [Op.bytesLess, Lib.compareBytes]
 | a :: x, b :: y => by
  have ih := Ab x y
  simp only [Op.bytesLess, Lib.compareBytes]
  by_cases h1 : a < b
  ·have : (a == b) = false := by
    apply beq_false_of_ne
    rintro rfl
    exact absurd h1 (by simp)
   simp [h1, this]
  ·by_cases h2 : b < a
   ·have : (a == b) = false := by
     apply beq_false_of_ne
     rintro rfl
     exact absurd h2 (by simp)
    simp [h1, h2, this]
   ·have : a = b := by
     have h1' := UInt8.not_lt.1 h1
     have h2' := UInt8.not_lt.1 h2
     exact UInt8.le_antisymm h2' h1'
    subst this
    simp [ih.1, ← ih.2]
theorem sign_eq (n : Nat) (a b : Int) : wS n a b = some (iT a b) := by
 unfold wS iT
 cases decide (a < b) <;> cases decide (b < a) <;> rfl
theorem QU : ∀ (asx : List Val), (∀ a ∈ asx, ∀ b, Ev (fun n => fU n a b) (bW a b)) → ∀ (bs pa pb : List Val) (k1 n1 k2 n2 : Int) (s1 s2 : Str), pa.length = pb.length → (pa ++ asx).length ≤ 9223372036854775807 → ∃ N, ∀ n, N ≤ n → ∀ k, asx.length + 1 ≤ k → (kR n (fun p0 p1 => fU n p0 p1) (.mk k1 n1 s1 (pa ++ asx)) (.mk k2 n2 s2 (pb ++ bs)) k (pa.length : Int)).bind (LR.el (fun (_ : Unit) => ((wS n ((pa ++ asx).length : Int) ((pb ++ bs).length : Int)).bind fun (x3 : Int) => some x3)) (fun r => some r)) = some (dK asx bs)
 | [], _, bs, pa, pb, k1, n1, k2, n2, s1, s2, hp, hl => by
  refine ⟨0, fun n _ k hk => ?_⟩
  obtain ⟨j, rfl⟩ : ∃ j, k = j + 1 := ⟨k - 1, by simp at hk; omega⟩
  unfold kR
  rw [decide_eq_false (by simp [Val.kids])]
  simp only [cond_false, Option.bind_some, LR.el, sign_eq, Option.some.injEq]
  cases bs with
  | nil => simp [iT, dK, hp]
  | cons b bs =>
   simp only [dK, iT]
   rw [decide_eq_true (by simp; omega)]
   rfl
 | a :: asx, H, [], pa, pb, k1, n1, k2, n2, s1, s2, hp, hl => by
  refine ⟨0, fun n _ k hk => ?_⟩
  obtain ⟨j, rfl⟩ : ∃ j, k = j + 1 := ⟨k - 1, by simp at hk; omega⟩
  unfold kR
  rw [decide_eq_true (by simp [Val.kids]; omega)]
  simp only [cond_true, Option.bind_some]
  rw [decide_eq_false (by simp [Val.kids]; omega)]
  simp only [cond_false, Option.bind_some, LR.el, sign_eq, Option.some.injEq, dK, iT]
  rw [decide_eq_false (by simp; omega), decide_eq_true (by simp; omega)]
  rfl
 | a :: asx, H, b :: bs, pa, pb, k1, n1, k2, n2, s1, s2, hp, hl => by
  obtain ⟨N1, h1⟩ := H a (by simp) b
  obtain ⟨N2, h2⟩ := QU asx (fun x hx => H x (by simp [hx])) bs (pa ++ [a]) (pb ++ [b]) k1 n1 k2 n2 s1 s2 (by simp [hp]) (by simpa using hl)
  refine ⟨N1 + N2, fun n hn k hk => ?_⟩
  obtain ⟨j, rfl⟩ : ∃ j, k = j + 1 := ⟨k - 1, by simp at hk; omega⟩
  have h1 : fU n a b = _ := h1 n (by omega)
  have h2 := h2 n (by omega) j (by simp at hk; omega)
  unfold kR
  rw [decide_eq_true (by simp [Val.kids]; omega)]
  simp only [cond_true, Option.bind_some]
  rw [decide_eq_true (by simp [Val.kids]; omega)]
  simp only [cond_true, Option.bind_some, Val.kids]
  rw [gM, show (pa.length : Int) = (pb.length : Int) by rw [hp], gM]
  simp only [Option.bind_some]
  rw [h1]
  simp only [Option.bind_some, dK]
  cases hc : (bW a b != 0) with
  | true => rfl
  | false =>
   simp only [cond_false]
   have ew : IntKind.wrap .i64 ((pb.length : Int) + 1) = ((pa ++ [a]).length : Int) := by
    rw [wrap64 (by omega) (by simp at hl; omega)]
    simp [hp]
   rw [ew]
   simpa using h2
theorem Dq (a b : Val) (ha : dw a) : Ev (fun n => fU n a b) (bW a b) := by
 revert b
 induction a using Val.ind with
 | h k n s ks ih =>
  intro b
  obtain ⟨k', n', s', ks'⟩ := b
  obtain ⟨hl, hk⟩ := ha.kids
  simp only [Val.kids] at hl hk
  obtain ⟨N, h⟩ := QU ks (fun a h b => ih a h (hk a h) b) ks' [] [] k n k' n' s s' rfl (by simpa using hl)
  refine Ev.succ ?_
  show Ev (fun m => oU m _ (.mk k n s ks) (.mk k' n' s' ks')) _
  unfold oU
  simp only [sign_eq, Option.bind_some, Val.kind, Val.n, Val.name, bW]
  have e1 : (k != k') = (iT k k' != 0) := by
   unfold iT
   by_cases h1 : k < k'
   ·rw [decide_eq_true h1]; simp; omega
   ·by_cases h2 : k' < k
    ·rw [decide_eq_false h1, decide_eq_true h2]; simp; omega
    ·rw [decide_eq_false h1, decide_eq_false h2]; simp; omega
  have e2 : (n != n') = (iT n n' != 0) := by
   unfold iT
   by_cases h1 : n < n'
   ·rw [decide_eq_true h1]; simp; omega
   ·by_cases h2 : n' < n
    ·rw [decide_eq_false h1, decide_eq_true h2]; simp; omega
    ·rw [decide_eq_false h1, decide_eq_false h2]; simp; omega
  rw [e1, e2, (Ab s s').1, (Ab s s').2]
  cases h1 : (iT k k' != 0) with
  | true => exact Ev.ret _
  | false =>
   simp only [cond_false]
   cases h2 : (iT n n' != 0) with
   | true => exact Ev.ret _
   | false =>
    simp only [cond_false]
    have hb := Ra s s'
    rcases hb with hb | hb | hb <;> rw [hb]
    ·exact Ev.ret _
    ·refine ⟨N + ks.length + 1, fun m hm => ?_⟩
     have := h m (by omega) m (by omega)
     simp only [List.nil_append, List.length_nil, sign_eq, Option.bind_some] at this
     exact this
    ·exact Ev.ret _
end Abs
end Go.Proofs.YtkopaeklihhdlaaGreat

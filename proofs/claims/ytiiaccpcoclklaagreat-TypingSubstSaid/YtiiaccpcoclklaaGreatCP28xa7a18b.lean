/-
  The document's fresh names and substitution of plain data; the law TypingSubst. Conditions: names are no longer than a string may be; lemmas without a program.
-/
import Derived.Test.YtiiaccpcoclklaaGreatCP12xcfa197
set_option linter.unusedSimpArgs false
set_option linter.unusedVariables false
namespace Go.Proofs.YtiiaccpcoclklaaGreat
namespace Abs
open Go
theorem ahP {α : Type} [BEq α] [LawfulBEq α] (f : Nat → α) : ∀ (n a : Nat) (l : List α), l.length < n → (∀ i j, a ≤ i → i < a + n → a ≤ j → j < a + n → f i = f j → i = j) → ∃ k, a ≤ k ∧ k < a + n ∧ f k ∉ l
 | 0, a, l, h, _ => by omega
 | n + 1, a, l, h, hf => by
  by_cases hm : f (a + n) ∈ l
  ·have hl : (l.erase (f (a + n))).length < n := by
    rw [List.length_erase_of_mem hm]
    have : 0 < l.length := List.length_pos_of_mem hm
    omega
   obtain ⟨k, h1, h2, h3⟩ := ahP f n a (l.erase (f (a + n))) hl fun i j g1 g2 g3 g4 => hf i j g1 (by omega) g3 (by omega)
   refine ⟨k, h1, by omega, fun hk => h3 ?_⟩
   refine (List.mem_erase_of_ne ?_).2 hk
   intro e
   have := hf k (a + n) h1 (by omega) (by omega) (by omega) e
   omega
  ·exact ⟨a + n, by omega, by omega, hm⟩
theorem alH {s : Str} {c : UInt8} (h : s.getLast? = some c) (hc : yG (c.toNat : Int) = true) : Oa s = false := by
 cases hk : Oa s with
 | false => rfl
 | true =>
  unfold Oa at hk
  obtain ⟨x, hx, e⟩ := List.any_eq_true.1 hk
  have e' : x = s := by simpa using e
  subst e'
  have key : ∀ x ∈ kws, (match x.getLast? with | some c => yG (c.toNat : Int) | none => false) = false := by decide
  have := key x hx
  rw [h] at this
  simp only at this
  rw [this] at hc
  cases hc
def zx (s : Str) (k : Nat) : Str := (if 16 < s.length + (dec k).length then s.take (16 - (dec k).length) else s) ++ dec k
theorem ag5 (k : Nat) : dec k ≠ [] := by
 intro h
 have := I8 0 k
 by_cases hk : k < 10
 ·rw [dec_lt hk] at h; cases h
 ·have := I8 1 k (by omega)
  rw [h] at this
  simp at this
theorem Vw {nm : Str} (hi : ident nm = true) {j k : Nat} (hj : 1 ≤ j) (hj' : j ≤ nm.length) (hk : k ≤ 999999) : ident (zx (nm.take j) k) = true := by
 cases nm with
 | nil => cases hi
 | cons c cs =>
  have hw := DX hi
  simp only [ident, Bool.and_eq_true, decide_eq_true_eq, List.all_eq_true] at hi
  have hd := MX 5 k (by omega)
  obtain ⟨j, rfl⟩ : ∃ i, j = i + 1 := ⟨j - 1, by omega⟩
  -- the part ahead of the number
  obtain ⟨i, hi'⟩ : ∃ i, (if 16 < ((c :: cs).take (j + 1)).length + (dec k).length then ((c :: cs).take (j + 1)).take (16 - (dec k).length) else (c :: cs).take (j + 1)) = c :: cs.take i ∧ (cs.take i).length + 1 + (dec k).length ≤ 16 := by
   by_cases h : 16 < ((c :: cs).take (j + 1)).length + (dec k).length
   ·rw [if_pos h]
    refine ⟨min (15 - (dec k).length) j, ?_, ?_⟩
    ·rw [List.take_take, show min (16 - (dec k).length) (j + 1) = min (15 - (dec k).length) j + 1 by omega]
     rfl
    ·rw [List.length_take]; omega
   ·rw [if_neg h]
    refine ⟨j, rfl, ?_⟩
    simp only [List.take_succ_cons, List.length_cons] at h
    omega
  unfold zx
  rw [hi'.1]
  have hlast : (c :: cs.take i ++ dec k).getLast? = (dec k).getLast? := by
   rw [List.getLast?_append]
   cases hq : (dec k).getLast? with
   | none => exact absurd (List.getLast?_eq_none_iff.1 hq) (ag5 k)
   | some c => rfl
  obtain ⟨l, hl⟩ : ∃ l, (dec k).getLast? = some l := by
   cases hq : (dec k).getLast? with
   | none => exact absurd (List.getLast?_eq_none_iff.1 hq) (ag5 k)
   | some c => exact ⟨c, rfl⟩
  have hkw : Oa (c :: (cs.take i ++ dec k)) = false := alH (hlast.trans hl) (aek k l (List.mem_of_getLast? hl))
  simp only [List.cons_append, ident, Bool.and_eq_true, decide_eq_true_eq, List.all_eq_true, hkw, Bool.not_false]
  refine ⟨by rw [List.length_append]; omega, hi.2.1, trivial, fun x hx => ?_⟩
  rcases List.mem_append.1 hx with hx | hx
  ·exact hw x (by simp [List.mem_of_mem_take hx])
  ·have := aek k x hx
   simp [vJ, this]
theorem aiS {nm : Str} (hi : ident nm = true) : ∃ j, 1 ≤ j ∧ j ≤ nm.length ∧ Ev (fun n => wJ n n nm) (.nx (nm.take j)) := by
 have hfirst : ∃ c cs, nm = c :: cs ∧ yG (c.toNat : Int) = false := by
  cases nm with
  | nil => cases hi
  | cons c cs =>
   refine ⟨c, cs, rfl, ?_⟩
   simp only [ident, Bool.and_eq_true] at hi
   have := hi.2.1
   simp only [Du, Bool.or_eq_true, Bool.and_eq_true, decide_eq_true_eq] at this
   simp only [yG, Bool.and_eq_false_iff, decide_eq_false_iff_not]
   omega
 have hlen : nm.length ≤ 16 := by
  cases nm with
  | nil => cases hi
  | cons c cs => simp only [ident, Bool.and_eq_true, decide_eq_true_eq] at hi; simp; omega
 have key : ∀ j, 1 ≤ j → j ≤ nm.length → ∃ i, 1 ≤ i ∧ i ≤ nm.length ∧ ∀ n k, j ≤ k → wJ n k (nm.take j) = some (.nx (nm.take i)) := by
  intro j
  induction j with
  | zero => intro h; omega
  | succ j ih =>
   intro h1 h2
   have hl : ((nm.take (j + 1)).length : Int) - 1 = (j : Int) := by rw [List.length_take]; omega
   have hg : nm[j]? = some (nm[j]'(by omega)) := List.getElem?_eq_getElem (by omega)
   generalize hc : nm[j]'(by omega) = c at hg
   have hs : vE (nm.take (j + 1)) (j : Int) = some (c.toNat : Int) := by
    rw [zK]
    unfold idx
    rw [if_pos (by omega)]
    simp only [Int.toNat_natCast]
    rw [List.getElem?_take_of_lt (by omega), hg]
    rfl
   cases hd : yG (c.toNat : Int) with
   | false =>
    refine ⟨j + 1, h1, h2, fun n k hk => ?_⟩
    cases k with
    | zero => omega
    | succ k =>
     show ((vE (nm.take (j + 1)) (((nm.take (j + 1)).length : Int) - 1)).bind _) = _
     rw [hl, hs]
     simp only [Option.bind_some, GQ, hd, cond_false]
   | true =>
    have hj : 1 ≤ j := by
     cases j with
     | zero =>
      obtain ⟨c', cs, rfl, hd'⟩ := hfirst
      simp at hg
      subst hg
      rw [hd] at hd'
      cases hd'
     | succ j => omega
    obtain ⟨i, g1, g2, g3⟩ := ih hj (by omega)
    refine ⟨i, g1, g2, fun n k hk => ?_⟩
    cases k with
    | zero => omega
    | succ k =>
     show ((vE (nm.take (j + 1)) (((nm.take (j + 1)).length : Int) - 1)).bind _) = _
     rw [hl, hs]
     simp only [Option.bind_some, GQ, hd, cond_true]
     rw [Cr _ _ (by rw [List.length_take]; omega), List.take_take, show min j (j + 1) = j by omega]
     exact g3 n k (by omega)
 have h1 : 1 ≤ nm.length := by
  obtain ⟨c, cs, rfl, _⟩ := hfirst
  simp
 obtain ⟨i, g1, g2, g3⟩ := key nm.length h1 (Nat.le_refl _)
 rw [List.take_length] at g3
 exact ⟨i, g1, g2, ⟨nm.length, fun n hn => g3 n n hn⟩⟩
theorem Vx {nm : Str} (hi : ident nm = true) : Ev (fun n => vB n nm) false := by
 unfold vB
 refine Ev.bind (a := false) ?_ (Ev.ret _)
 cases h1 : decide (1 < (nm.length : Int)) with
 | false => exact Ev.ret _
 | true =>
  simp only [cond_true]
  simp only [decide_eq_true_eq] at h1
  obtain ⟨t, c, rfl⟩ : ∃ t c, nm = t ++ [c] := by
   rcases List.eq_nil_or_concat nm with rfl | ⟨t, c, rfl⟩
   ·simp at h1
   ·exact ⟨t, c, by simp⟩
  have h2 : vE (t ++ [c]) (((t ++ [c] : Str).length : Int) - 1) = some (c.toNat : Int) := by
   rw [show (((t ++ [c] : Str).length : Int) - 1) = (t.length : Int) by simp, zK, show (t ++ [c] : Str) = t ++ c :: [] from rfl, zi]; rfl
  rw [h2]
  simp only [Option.bind_some]
  have hw := DX hi c (by simp)
  have : ((c.toNat : Int) == 39) = false := by
   apply beq_false_of_ne
   intro e
   rw [e] at hw
   cases hw
  rw [this]
  exact Ev.ret _
theorem aiq {nm : Str} (hi : ident nm = true) {used : List Str} (hu : used.length ≤ 800000) : ∃ r, Ev (fun n => zH n nm used) r ∧ r ∉ used ∧ ident r = true := by
 have hn := ze hi
 by_cases hm : nm ∈ used
 ·obtain ⟨j, j1, j2, hj⟩ := aiS hi
  have hlen : nm.length ≤ 16 := by
   cases nm with
   | nil => cases hi
   | cons c cs => simp only [ident, Bool.and_eq_true, decide_eq_true_eq] at hi; simp; omega
  have hs : (nm.take j).length ≤ 16 := by rw [List.length_take]; omega
  obtain ⟨k0, q1, q2, q3⟩ : ∃ k, 100000 ≤ k ∧ k < 100000 + 900000 ∧ zx (nm.take j) k ∉ used := ahP (zx (nm.take j)) 900000 100000 used (by omega) fun a b g1 g2 g3 g4 e => by
   unfold zx at e
   rw [alW g1 (by omega), alW g3 (by omega)] at e
   exact aks a b (List.append_cancel_left e)
  have key : ∀ i, i < k0 → ∃ r, (r ∉ used ∧ ident r = true) ∧ ∃ N, ∀ n, N ≤ n → ∀ f, i + 1 ≤ f → qM n used (nm.take j) f ((k0 - i : Nat) : Int) = some (.rt r) := by
   have step : ∀ k : Nat, 1 ≤ k → k ≤ 999999 → ∃ N, ∀ n, N ≤ n → ∀ f, qM n used (nm.take j) (f + 1) (k : Int) = cond (!(used.any fun y => y == zx (nm.take j) k)) (some (.rt (zx (nm.take j) k))) (qM n used (nm.take j) f ((k + 1 : Nat) : Int)) := by
    intro k h1 h2
    obtain ⟨N1, e1⟩ := ae4 k (by omega)
    obtain ⟨N2, e2⟩ := rH (zx (nm.take j) k) used
    refine ⟨max N1 N2, fun n hn f => ?_⟩
    have e1' : oJ n (k : Int) = some (dec k) := e1 n (by omega)
    have e2' : nZ n (zx (nm.take j) k) used = _ := e2 n (by omega)
    have hd := MX 5 k (by omega)
    show ((oJ n (k : Int)).bind _) = _
    rw [e1']
    simp only [Option.bind_some]
    rw [wrap64 (by omega) (by omega), wrap64 (by omega) (by omega), wrap64 (by omega) (by omega)]
    have e6 : ((cond (decide (16 < (((nm.take j).length : Int) + ((dec k).length : Int)))) ((ny (nm.take j) 0 (16 - ((dec k).length : Int))).bind fun (x6 : Str) => some x6) (some (nm.take j))) : Option Str) = some (if 16 < (nm.take j).length + (dec k).length then (nm.take j).take (16 - (dec k).length) else nm.take j) := by
     by_cases h : 16 < (nm.take j).length + (dec k).length
     ·rw [if_pos h, decide_eq_true (by omega)]
      simp only [cond_true]
      rw [show (16 - ((dec k).length : Int)) = ((16 - (dec k).length : Nat) : Int) by omega, Cr _ _ (by omega)]
      rfl
     ·rw [if_neg h, decide_eq_false (by omega)]
      rfl
    rw [e6]
    simp only [Option.bind_some]
    have hc : (if 16 < (nm.take j).length + (dec k).length then (nm.take j).take (16 - (dec k).length) else nm.take j).length ≤ 16 := by
     split
     ·rw [List.length_take]; omega
     ·exact hs
    rw [ad9 (by omega)]
    simp only [Option.bind_some]
    show ((nZ n (zx (nm.take j) k) used).bind _) = _
    rw [e2']
    rfl
   intro i
   induction i with
   | zero =>
    intro _
    obtain ⟨N, h⟩ := step k0 (by omega) (by omega)
    refine ⟨zx (nm.take j) k0, ⟨q3, Vw hi j1 j2 (by omega)⟩, N, fun n hn f hf => ?_⟩
    obtain ⟨f, rfl⟩ : ∃ g, f = g + 1 := ⟨f - 1, by omega⟩
    rw [Nat.sub_zero, h n hn f, JG q3]
    rfl
   | succ i ih =>
    intro hik
    obtain ⟨r, hr, N1, h1⟩ := ih (by omega)
    obtain ⟨N2, h2⟩ := step (k0 - (i + 1)) (by omega) (by omega)
    by_cases hin : zx (nm.take j) (k0 - (i + 1)) ∈ used
    ·refine ⟨r, hr, max N1 N2, fun n hn f hf => ?_⟩
     obtain ⟨f, rfl⟩ : ∃ g, f = g + 1 := ⟨f - 1, by omega⟩
     rw [h2 n (by omega) f, Ml hin]
     simp only [Bool.not_true, cond_false]
     rw [show k0 - (i + 1) + 1 = k0 - i by omega]
     exact h1 n (by omega) f (by omega)
    ·refine ⟨_, ⟨hin, Vw hi j1 j2 (by omega)⟩, N2, fun n hn f hf => ?_⟩
     obtain ⟨f, rfl⟩ : ∃ g, f = g + 1 := ⟨f - 1, by omega⟩
     rw [h2 n hn f, JG hin]
     rfl
  obtain ⟨r, hr, N, h⟩ := key (k0 - 1) (by omega)
  rw [show k0 - (k0 - 1) = 1 by omega] at h
  refine ⟨r, ?_, hr⟩
  have hL0 : Ev (fun n => qM n used (nm.take j) n 1) (.rt r) := ⟨max N (k0 + 1), fun n hn => h n (by omega) n (by omega)⟩
  unfold zH
  refine Ev.bind (a := nm) ?_ ?_
  ·refine Ev.bind (CB nm) ?_
   rw [hn]
   exact Ev.ret _
  ·refine Ev.bind (rH nm used) ?_
   rw [Ml hm]
   simp only [Bool.not_true, cond_false]
   refine Ev.bind (a := nm) ?_ ?_
   ·refine Ev.bind (Vx hi) (Ev.ret _)
   ·refine Ev.bind hj ?_
    simp only [LR.el]
    exact Ev.bind hL0 (Ev.ret _)
 ·refine ⟨nm, ?_, hm, hi⟩
  unfold zH
  refine Ev.bind (a := nm) ?_ ?_
  ·refine Ev.bind (CB nm) ?_
   rw [hn]
   exact Ev.ret _
  ·refine Ev.bind (rH nm used) ?_
   rw [JG hm]
   exact Ev.ret _
def zo (nm : Str) (names : List Str) (acc : List pV) (x : pV) : List pV := cond ((iU acc x.name).isSome || (x.name == nm || !(names.any fun y => y == x.name))) acc (acc ++ [x])
def Bf (nm : Str) (names : List Str) : List pV → List pV → List pV
 | [], acc => acc
 | x :: l, acc => Bf nm names l (zo nm names acc x)
theorem ahl (nm : Str) (names : List Str) (s : Str) : ∀ (l acc : List pV), iU (Bf nm names l acc) s = (match iU acc s with | some u => some u | none => if s ≠ nm ∧ s ∈ names then iU l s else none)
 | [], acc => by
  simp only [Bf]
  cases iU acc s with
  | some u => rfl
  | none => simp [iU]
 | x :: l, acc => by
  simp only [Bf]
  rw [ahl nm names s l]
  unfold zo
  cases hc : ((iU acc x.name).isSome || (x.name == nm || !(names.any fun y => y == x.name))) with
  | true =>
   simp only [cond_true, Fa]
   cases ha : iU acc s with
   | some u => rfl
   | none =>
    simp only
    cases hx : x.name == s with
    | false => rfl
    | true =>
     have e : x.name = s := by simpa using hx
     subst e
     rw [ha] at hc
     simp only [Option.isSome_none, Bool.false_or, Bool.or_eq_true, beq_iff_eq, Bool.not_eq_true'] at hc
     have : ¬(x.name ≠ nm ∧ x.name ∈ names) := by
      rintro ⟨h1, h2⟩
      rcases hc with hc | hc
      ·exact h1 hc
      ·rw [Ml h2] at hc; cases hc
     rw [if_neg this, if_neg this]
  | false =>
   simp only [cond_false, R5, Fa]
   cases ha : iU acc s with
   | some u => rfl
   | none =>
    simp only
    cases hx : x.name == s with
    | false => rfl
    | true =>
     have e : x.name = s := by simpa using hx
     subst e
     simp only [Bool.or_eq_false_iff, Bool.not_eq_false', beq_eq_false_iff_ne] at hc
     obtain ⟨y, hy, hy'⟩ := List.any_eq_true.1 hc.2.2
     have e' : y = x.name := by simpa using hy'
     have hp : x.name ≠ nm ∧ x.name ∈ names := ⟨hc.2.1, e' ▸ hy⟩
     rw [if_pos hp, if_pos hp]
     rfl
theorem adV (nm : Str) (names : List Str) : ∀ (l acc : List pV), ∀ x ∈ Bf nm names l acc, x ∈ acc ∨ x ∈ l
 | [], acc, x, h => .inl h
 | y :: l, acc, x, h => by
  rcases adV nm names l _ x h with h | h
  ·unfold zo at h
   cases hc : ((iU acc y.name).isSome || (y.name == nm || !(names.any fun z => z == y.name))) with
   | true => rw [hc] at h; exact .inl h
   | false =>
    rw [hc] at h
    simp only [cond_false, List.mem_append, List.mem_singleton] at h
    rcases h with h | h
    ·exact .inl h
    ·exact .inr (by simp [h])
  ·exact .inr (by simp [h])
theorem adL (nm : Str) (names : List Str) : ∀ (l acc : List pV), (Bf nm names l acc).length ≤ acc.length + l.length
 | [], acc => by simp [Bf]
 | y :: l, acc => by
  simp only [Bf]
  have := adL nm names l (zo nm names acc y)
  have h : (zo nm names acc y).length ≤ acc.length + 1 := by
   unfold zo
   cases ((iU acc y.name).isSome || (y.name == nm || !(names.any fun z => z == y.name))) <;> simp
  simp; omega
theorem abt (l : List pV) (hl : l.length ≤ 1000) (nm : Str) {body : Tm} {d : Int} (hw : Wf d body) (hd : 0 < d) : Ev (fun n => wX n l nm body) (Bf nm (bW body []) l []) := by
 unfold wX
 refine Ev.bind (Pf body d [] hw (by simpa using hd)) ?_
 have hrun : ∀ (ts : List pV) (i : Int) (acc : List pV), dZ (τ := List pV) (ρ := List pV) (fun _ (x : pV) s => LR.nx (zo nm (bW body []) s x)) (fun s => s) i ts acc = .nx (Bf nm (bW body []) ts acc) := by
  intro ts
  induction ts with
  | nil => intro i acc; rfl
  | cons t ts ih => intro i acc; simp only [dZ, Bf]; exact ih _ _
 have h := yA l (fun n k i (s : List pV) => sM n l nm (bW body []) k (s, i))
  (fun n i x s => ((nD n s x.name).bind fun (x3 : Tm × Bool) => (((cond x3.2 (some true) (cond (x.name == nm) (some true) ((nZ n x.name (bW body [])).bind fun (x8 : Bool) => some (!x8)))) : Option Bool).bind fun (s4 : Bool) => (cond s4 (some s) ((app 120 s ([x])).bind fun (x5 : List pV) => some x5)))).bind fun s3 => some (.nx s3))
  (fun _ x s => .nx (zo nm (bW body []) s x)) (fun s => s) (fun _ suf s => s.length + suf.length ≤ 1000)
  (fun n k s => by
   show cond (decide ((l.length : Int) < (l.length : Int))) _ _ = _
   rw [decide_eq_false (by omega)]
   rfl)
  (fun n k i x s hx hi => by
   show cond (decide (i < (l.length : Int))) _ _ = _
   rw [hi]
   simp only [cond_true, hx, Option.bind_some]
   conv => rhs; rw [Option.bind_assoc]
   rfl)
  (fun i x suf s hx hI _ => by
   refine ⟨?_, fun s' hs' => ?_⟩
   ·refine Ev.bind (a := zo nm (bW body []) s x) ?_ (Ev.ret _)
    refine Ev.bind (Az s x.name) ?_
    refine Ev.bind (a := ((iU s x.name).isSome || (x.name == nm || !((bW body []).any fun y => y == x.name)))) ?_ ?_
    ·cases iU s x.name with
     | some u => exact Ev.ret _
     | none =>
      simp only [ajg, cond_false, Option.isSome_none, Bool.false_or]
      cases x.name == nm with
      | true => exact Ev.ret _
      | false => exact Ev.bind (rH _ _) (Ev.ret _)
    ·unfold zo
     cases ((iU s x.name).isSome || (x.name == nm || !((bW body []).any fun y => y == x.name))) with
     | true => exact Ev.ret _
     | false =>
      simp only [cond_false]
      simp only [List.length_cons] at hI
      rw [gY (by simp; omega) (by omega)]
      exact Ev.ret _
   ·cases hs'
    have : (zo nm (bW body []) s x).length ≤ s.length + 1 := by
     unfold zo
     cases ((iU s x.name).isSome || (x.name == nm || !((bW body []).any fun y => y == x.name))) <;> simp
    simp only [List.length_cons] at hI
    omega) (s0 := []) (by simpa using hl)
 rw [hrun] at h
 exact Ev.bind h (Ev.ret _)
def sI (l : List pV) : List Str := l.flatMap fun x => bW x.term []
theorem ajn {rec_ : Nat → Tm → List pV → Option Tm} (l : List pV) (hl : l.length ≤ 200) (hv : ∀ x ∈ l, bV x.term = true) : Ev (fun n => wL n (rec_ n) l n ([], 0)) (.nx (sI l)) := by
 have hrun : ∀ (ts : List pV) (i : Int) (acc : List Str), dZ (τ := List Str) (ρ := Tm) (fun _ (x : pV) s => LR.nx (s ++ bW x.term [])) (fun s => s) i ts acc = .nx (acc ++ sI ts) := by
  intro ts
  induction ts with
  | nil => intro i acc; simp [dZ, sI]
  | cons t ts ih => intro i acc; simp only [dZ]; rw [ih]; simp [sI]
 have h := yA l (fun n k i (s : List Str) => wL n (rec_ n) l k (s, i)) (fun n i x s => ((oG n x.term ([] : List Str)).bind fun (x20 : List Str) => ((app 16 s x20).bind fun (x21 : List Str) => some (.nx x21))))
  (fun _ x s => .nx (s ++ bW x.term [])) (fun s => s) (fun _ suf s => s.length + 2000 * suf.length ≤ 400000)
  (fun n k s => by
   show cond (decide ((l.length : Int) < (l.length : Int))) _ _ = _
   rw [decide_eq_false (by omega)]
   rfl)
  (fun n k i x s hx hi => by
   show cond (decide (i < (l.length : Int))) _ _ = _
   rw [hi]
   simp only [cond_true, hx, Option.bind_some]
   rw [Option.bind_assoc]
   congr 1
   funext x20
   rw [Option.bind_assoc]
   rfl)
  (fun i x suf s hx hI _ => by
   have hw := gG (hv x hx)
   have hf := hw.Im []
   simp only [List.length_cons] at hI
   refine ⟨?_, fun s' hs' => ?_⟩
   ·refine Ev.bind (Pf x.term 1 [] hw (by simp)) ?_
    rw [gY (by omega) (by omega)]
    exact Ev.ret _
   ·cases hs'
    rw [List.length_append]
    omega) (s0 := []) (by simp; omega)
 rw [hrun, List.nil_append] at h
 exact h
theorem agt (l : List pV) (hv : ∀ x ∈ l, bV x.term = true) : (sI l).length ≤ 2000 * l.length := by
 induction l with
 | nil => simp [sI]
 | cons x l ih =>
  have h1 := (gG (hv x (by simp))).Im []
  have h2 := ih fun y hy => hv y (by simp [hy])
  simp only [sI, List.flatMap_cons, List.length_append, List.length_cons] at h2 ⊢
  omega
theorem pick {P : Tm → Tm → Prop} {ks : List Tm} (h : ∀ k ∈ ks, ∃ k', P k k') : ∃ g : Tm → Tm, ∀ k ∈ ks, P k (g k) := by
 classical
 exact ⟨fun k => if hk : k ∈ ks then Classical.choose (h k hk) else k, fun k hk => by
  simp only [hk, dif_pos]
  exact Classical.choose_spec (h k hk)⟩
theorem aiW : ∀ t : Tm, ∀ (d : Int) (l : List pV), Wf d t → 0 < d → (l.length : Int) ≤ d + 10 → (∀ x ∈ l, bV x.term = true) → ∃ t', Ev (fun n => nu n t l) t' ∧ SubT (iU l) t t' := Tm.ind fun op nm m ty ks ih d l hw hd0 hl hv => by
 obtain ⟨hnode, hd, hks, hkw⟩ := hw.node
 obtain ⟨_, h20k, _, _, hbk⟩ := jM hnode
 have go : ∀ {t' : Tm}, Ev (fun n => nS n (fun p0 p1 => nu n p0 p1) (.mk op nm m ty ks) l) t' → Ev (fun n => nu n (.mk op nm m ty ks) l) t' := fun h => Ev.succ h
 cases h20 : (op == 20) with
 | true =>
  have e : op = 20 := by simpa using h20
  subst e
  cases hu : iU l nm with
  | some u =>
   refine ⟨u, go ?_, .rep hu⟩
   unfold nS
   simp only [Tm.op, Tm.name, show ((20 : Int) == 20) = true from rfl, cond_true]
   refine Ev.bind (Az l nm) ?_
   rw [hu]
   obtain ⟨x, hx, _, hxu⟩ := Ik hu
   exact Ev.bind (Jy u 1 (gG (hxu ▸ hv x hx))) (Ev.ret _)
  | none =>
   refine ⟨_, go ?_, .keep hu⟩
   unfold nS
   simp only [Tm.op, Tm.name, show ((20 : Int) == 20) = true from rfl, cond_true]
   refine Ev.bind (Az l nm) ?_
   rw [hu]
   exact Ev.bind (Jy _ d hw) (Ev.ret _)
 | false =>
  cases hb : bg op with
  | false =>
   obtain ⟨g, hg⟩ := pick (P := fun k k' => Ev (fun n => nu n k l) k' ∧ SubT (iU l) k k') (ks := ks) fun k hk => ih k hk (d + 1) l (hkw k hk) (by omega) (by omega) hv
   refine ⟨.mk op nm m ty (ks.map g), go ?_, .node g h20 hb fun k hk => (hg k hk).2⟩
   unfold nS
   simp only [Tm.op, Tm.name, Tm.n, Tm.ty, h20, cond_false]
   refine Ev.bind (wI ty (I7 hnode)) ?_
   simp only [xA, Option.bind_some, hb, Bool.not_false, cond_true]
   have hrun : ∀ (ts : List Tm) (i : Int) (acc : List Tm), dZ (τ := List Tm) (ρ := Tm) (fun _ (x : Tm) s => LR.nx (s ++ [g x])) (fun s => s) i ts acc = .nx (acc ++ ts.map g) := by
    intro ts
    induction ts with
    | nil => intro i acc; simp [dZ]
    | cons t ts ih => intro i acc; simp only [dZ]; rw [ih]; simp
   have h := yA ks (fun n k i (s : List Tm) => yU n (fun p0 p1 => nu n p0 p1) (.mk op nm m ty ks) l k (i, s)) (fun n i x s => ((nu n x l).bind fun (x7 : Tm) => ((app 104 s ([x7])).bind fun (x8 : List Tm) => some (.nx x8))))
    (fun _ x s => .nx (s ++ [g x])) (fun s => s) (fun _ suf s => s.length + suf.length ≤ 2000)
    (fun n k s => by
     show cond (decide ((ks.length : Int) < (ks.length : Int))) _ _ = _
     rw [decide_eq_false (by omega)]
     rfl)
    (fun n k i x s hx hi => by
     show cond (decide (i < (ks.length : Int))) _ _ = _
     rw [hi]
     simp only [cond_true, Tm.kids, hx, Option.bind_some]
     rw [Option.bind_assoc]
     congr 1
     funext x20
     rw [Option.bind_assoc]
     rfl)
    (fun i x suf s hx hI _ => by
     simp only [List.length_cons] at hI
     refine ⟨?_, fun s' hs' => ?_⟩
     ·refine Ev.bind (hg x hx).1 ?_
      rw [gY (by simp; omega) (by omega)]
      exact Ev.ret _
     ·cases hs'
      rw [List.length_append, List.length_singleton]
      omega) (s0 := []) (by simpa using hks)
   rw [hrun, List.nil_append] at h
   exact Ev.bind h (Ev.ret _)
  | true =>
   obtain ⟨p, q, rfl⟩ := hbk hb
   have hnm : ident nm = true := by
    have hnode := hnode
    simp only [eB, nW, Tm.op, Tm.name, hb, h20, cond_false, cond_true, Bool.and_eq_true] at hnode
    exact hnode.2.1
   obtain ⟨p', ep, sp⟩ := ih p (by simp) (d + 1) l (hkw p (by simp)) (by omega) (by omega) hv
   have hwq := hkw q (by simp)
   have hR := abt l (by omega) nm hwq (by omega)
   have hRlen := adL nm (bW q []) l []
   have hRv : ∀ x ∈ Bf nm (bW q []) l [], bV x.term = true := fun x hx => by
    rcases adV nm _ l [] x hx with h | h
    ·cases h
    ·exact hv x h
   have hRlk : ∀ s, iU (Bf nm (bW q []) l []) s = if s ≠ nm ∧ s ∈ bW q [] then iU l s else none := fun s => ahl nm _ s l []
   generalize Bf nm (bW q []) l [] = R at hR hRlen hRv hRlk
   simp only [List.length_nil, Nat.zero_add] at hRlen
   have hN := ajn (rec_ := fun n p0 p1 => nu n p0 p1) R (by omega) hRv
   have hNlen := agt R hRv
   have hin : ∀ {x : Str} {u : Tm}, iU R x = some u → ∀ y, qo y u = true → y ∈ sI R := fun h y hy => by
    obtain ⟨b, hb, _, e⟩ := Ik h
    exact List.mem_flatMap.2 ⟨b, hb, by rw [e]; exact Ox.2 hy⟩
   have hRx : ∀ x, qo x q = true → x ≠ nm → iU R x = iU l x := fun x hx hne => by
    rw [hRlk, if_pos ⟨hne, Ox.2 hx⟩]
   have hRn : iU R nm = none := by rw [hRlk, if_neg (by simp)]
   have ffq := hwq.Im []
   -- the name and the bindings of the body
   obtain ⟨nm', R', e5, hR'len, hR'v, hi', h1, h2⟩ : ∃ nm' R', Ev (fun n => (nZ n nm (sI R)).bind fun (x14 : Bool) => cond x14 ((oG n q ([] : List Str)).bind fun (x15 : List Str) => ((app 16 x15 (sI R)).bind fun (x16 : List Str) => ((zH n nm x16).bind fun (x17 : Str) => ((app 120 R ([(S_api_Binding.mk nm (Tm.mk 20 x17 0 (Ty.mk 0 ([] : Str) ([])) ([])))])).bind fun (x18 : List S_api_Binding) => some (x18, x17))))) (some (R, nm))) (R', nm') ∧
     R'.length ≤ R.length + 1 ∧ (∀ x ∈ R', bV x.term = true) ∧ ident nm' = true ∧ (iU R' nm = some (qE nm') ∨ (nm' = nm ∧ iU R' nm = none)) ∧
     ∀ x, qo x q = true → x ≠ nm → iU R' x = iU l x ∧ match iU l x with | some u => qo nm' u = false | none => x ≠ nm' := by
    by_cases hm : nm ∈ sI R
    ·obtain ⟨r, er, hr, hri⟩ := aiq hnm (used := bW q [] ++ sI R) (by rw [List.length_append]; omega)
     simp only [List.mem_append, not_or] at hr
     refine ⟨r, R ++ [⟨nm, qE r⟩], ?_, by simp, ?_, hri, .inl ?_, ?_⟩
     ·refine Ev.bind (rH nm (sI R)) ?_
      rw [Ml hm]
      simp only [cond_true]
      refine Ev.bind (Pf q (d + 1) [] hwq (by simp; omega)) ?_
      rw [gY (by omega) (by omega)]
      simp only [Option.bind_some]
      refine Ev.bind er ?_
      rw [gY (by simp; omega) (by omega)]
      exact Ev.ret _
     ·intro x hx
      rcases List.mem_append.1 hx with hx | hx
      ·exact hRv x hx
      ·simp only [List.mem_singleton] at hx
       subst hx
       exact (ajd (ze hri)).valid (by omega)
     ·rw [R5, hRn]
      simp
     ·intro x hx hne
      rw [R5, hRx x hx hne]
      have e : (nm == x) = false := by simpa using fun h => hne h.symm
      cases hlx : iU l x with
      | some u =>
       refine ⟨rfl, ?_⟩
       cases ho : qo r u with
       | false => exact ho
       | true => exact absurd (hin ((hRx x hx hne).trans hlx) r ho) hr.2
      | none => exact ⟨by simp [e], fun h => hr.1 (h ▸ Ox.2 hx)⟩
    ·refine ⟨nm, R, ?_, by omega, hRv, hnm, .inr ⟨rfl, hRn⟩, fun x hx hne => ⟨hRx x hx hne, ?_⟩⟩
     ·refine Ev.bind (rH nm (sI R)) ?_
      rw [JG hm]
      exact Ev.ret _
     ·cases hlx : iU l x with
      | some u =>
       cases ho : qo nm u with
       | false => exact ho
       | true => exact absurd (hin ((hRx x hx hne).trans hlx) nm ho) hm
      | none => exact hne
   obtain ⟨q', eq', sq⟩ := ih q (by simp) (d + 1) R' hwq (by omega) (by omega) hR'v
   refine ⟨.mk op nm' m ty [p', q'], go ?_, .bind hb sp sq (fun _ => hi') h1 h2⟩
   unfold nS
   simp only [Tm.op, Tm.name, Tm.n, Tm.ty, Tm.kids, h20, cond_false]
   refine Ev.bind (wI ty (I7 hnode)) ?_
   simp only [xA, Option.bind_some, hb, Bool.not_true, cond_false, fF, jy]
   refine Ev.bind ep ?_
   refine Ev.bind hR ?_
   refine Ev.bind hN ?_
   simp only [LR.el]
   refine Ev.bind e5 ?_
   exact Ev.bind eq' (Ev.ret _)
theorem aia {t u : Tm} (ht : bV t = true) (hu : bV u = true) (s : Str) : ∃ r, Ev (fun n => zG n t [S_api_Binding.mk s u]) r ∧ (r.2 ≠ 0 ∨ (r.2 = 0 ∧ bV r.1 = true ∧ SubT (iU [S_api_Binding.mk s u]) t r.1)) := by
 have hl : ∀ x ∈ [S_api_Binding.mk s u], bV x.term = true := fun x hx => by
  simp only [List.mem_singleton] at hx
  subst hx
  exact hu
 obtain ⟨t', et, st⟩ := aiW t 1 [S_api_Binding.mk s u] (gG ht) (by omega) (by simp) hl
 have hw := aiD hl t 1 [] 0 1 (gG ht) (by simp) (by omega) (by omega) (by omega) (by omega)
 have hL0 : Ev (fun n => wM n [S_api_Binding.mk s u] n 0) (.nx ()) := by
  have := Gu [S_api_Binding.mk s u] (fun n k i => wM n [S_api_Binding.mk s u] k i) (fun n x => (l6 n x.term).bind fun (x5 : Bool) => cond (!x5) (some (.rt (vV, (1 : Int)))) (some (.nx ()))) (fun x => !(bV x.term)) (vV, (1 : Int))
   (fun n k i => by
    show cond _ _ _ = _
    congr 1
    congr 1
    funext x
    rw [Option.bind_assoc]
    congr 1
    funext b
    cases b <;> rfl)
   (fun x hx => by
    refine Ev.bind (lI x.term) ?_
    cases bV x.term <;> exact Ev.ret _)
  rw [show ([S_api_Binding.mk s u].any fun x => !(bV x.term)) = false by simp [hu]] at this
  exact this
 have hg : ∀ {r}, Ev (fun n => (rO n t [S_api_Binding.mk s u] ([] : List Str) 0 1).bind fun (x2 : Int) => (cond (decide (x2 < 0)) (some ((Tm.mk 0 ([] : Str) 0 (Ty.mk 0 ([] : Str) ([])) ([])), (5 : Int))) ((nu n t [S_api_Binding.mk s u]).bind fun (x3 : Tm) => some (x3, 0)))) r → Ev (fun n => zG n t [S_api_Binding.mk s u]) r := fun h => by
  unfold zG
  refine Ev.bind (lI t) ?_
  rw [ht]
  simp only [Bool.not_true, cond_false]
  exact Ev.bind hL0 h
 cases hq : wg (iU [S_api_Binding.mk s u]) t [] 0 1 with
 | none =>
  refine ⟨(vV, 5), hg ?_, .inl (by show (5 : Int) ≠ 0; omega)⟩
  refine Ev.bind hw ?_
  rw [hq]
  exact Ev.ret _
 | some m =>
  have hle := aaA _ _ _ _ _ _ hq
  refine ⟨(t', 0), hg ?_, .inr ⟨rfl, ?_, st⟩⟩
  ·refine Ev.bind hw ?_
   rw [hq]
   simp only [wgI]
   exact Ev.neg (decide_eq_false (show ¬m < 0 by omega)) (Ev.bind et (Ev.ret _))
  ·have := alx st (iU [S_api_Binding.mk s u]) [] 0 1 m (xG ht).1 (fun x hx => ?_) hq
   ·show (mf t' 1 0).1 = true
    rw [this]
   ·unfold Same
    cases hx' : iU [S_api_Binding.mk s u] x with
    | none => exact .inr rfl
    | some v =>
     obtain ⟨b, hb, _, e⟩ := Ik hx'
     exact .inl ⟨by simp, rfl, (xG (e ▸ hl b hb)).1⟩
theorem ZT {s : Str} (h : ident s = true) : s.length ≤ 16 := by
 cases s with
 | nil => cases h
 | cons c cs => simp only [ident, Bool.and_eq_true, decide_eq_true_eq] at h; simp; omega
theorem ahe {s : Str} (h : named s = true) : s.length ≤ 17 := by
 have := ZT h
 unfold Cc at this
 split at this
 ·rw [List.length_dropLast] at this; omega
 ·omega
mutual
theorem Wp : ∀ t : Tm, DU t = true → fB t
 | .mk op nm m ty ks, h => by
  simp only [DU, Bool.and_eq_true] at h
  refine ⟨?_, aeO ks h.2⟩
  have hn := h.1
  simp only [eB, nW, Tm.op, Tm.name, Bool.and_eq_true] at hn
  have hn := hn.2.1
  cases h20 : op == 20 with
  | true => rw [h20] at hn; have := ahe hn; omega
  | false =>
   rw [h20] at hn
   cases hb : bg op with
   | true => rw [hb] at hn; have := ZT hn; omega
   | false =>
    rw [hb] at hn
    have e : nm = [] := by simpa using hn
    rw [e]
    simp
theorem aeO : ∀ ts : List Tm, BZ ts = true → zV ts
 | [], _ => trivial
 | t :: ts, h => by
  simp only [BZ, Bool.and_eq_true] at h
  exact ⟨Wp t h.1, aeO ts h.2⟩
end
theorem ai3 {env : Env} {u : Tm} (h : ((exprE env u).2 != 0) = false) : bV u = true ∧ ∃ ty, aY env [] u = .ok ty ∧ (exprE env u).1 = ty := by
 unfold exprE at h ⊢
 cases hc : ((fE env u).2.2 == 0 && (fE env u).1.kind == 2) with
 | true => rw [hc] at h; cases h
 | false =>
  rw [hc] at h
  simp only [cond_false] at h ⊢
  obtain ⟨_, hv, ty, hty, hte⟩ := sS h
  exact ⟨hv, ty, hty, by rw [hte]⟩
theorem ag1 {env : Env} (hv : bX env = true) {d : Decl} (hd : d ∈ env.names) : look env d.name = some d.ty := by
 rw [Km hv]
 simp only [uH, List.mem_append, List.mem_map]
 exact .inr ⟨d, hd, rfl⟩
theorem Uz (env : Env) (t u : Tm) (hs : jT env) (ht : fB t) (hu : fB u) : Ev (fun n => yC n env t u) true := by
 unfold yC gu
 refine Ev.bind (vN env) ?_
 cases oO env with
 | false => exact Ev.ret _
 | true =>
  simp only [Bool.not_true, cond_false]
  refine Ev.bind (iJ env t hs ht) ?_
  refine Ev.bind (typing_Expression_ev env u hs hu) ?_
  cases he : ((fE env t).2.2 != 0) with
  | true => exact Ev.ret _
  | false =>
   cases hf : ((exprE env u).2 != 0) with
   | true => exact Ev.ret _
   | false =>
    simp only [cond_false, Option.bind_some]
    obtain ⟨hv, hvt, ty, hty, hte⟩ := sS he
    obtain ⟨hvu, uty, huty, hex⟩ := ai3 hf
    have hloop := Gu env.names (fun n k i => qj n env t u (fE env t) (exprE env u) k i)
     (fun n x7 => ((bO n x7.ty (exprE env u).1).bind fun (x8 : Bool) => (cond (!x8) (some (.nx ())) ((zG n t ([(S_api_Binding.mk x7.name u)])).bind fun (x9 : Tm × Int) => (cond (x9.2 != 0) (some (.nx ())) ((iy n env x9.1).bind fun (x10 : Ty × (List Int) × Int) => (((cond (x10.2.2 != 0) (some true) ((bO n (fE env t).1 x10.1).bind fun (x11 : Bool) => some (!x11))) : Option Bool).bind fun (s5 : Bool) => (cond s5 (some (.rt false)) (some (.nx ())))))))))) (fun _ => false) false
     (fun n k i => by
      show cond _ _ _ = _
      congr 1
      rw [Option.bind_assoc])
     (fun x hx => by
      simp only [cond_false]
      refine Ev.bind (gL x.ty (exprE env u).1) ?_
      cases hq : bM x.ty (exprE env u).1 with
      | false => exact Ev.ret _
      | true =>
       simp only [Bool.not_true, cond_false]
       have hxt : x.ty = uty := (wH _ _ hq).trans hex
       obtain ⟨r, er, hr⟩ := aia hvt hvu x.name
       refine Ev.bind er ?_
       rcases hr with hr | ⟨hr, hvr, hsub⟩
       ·rw [show (r.2 != 0) = true by simpa using hr]
        exact Ev.ret _
       ·rw [hr]
        simp only [bne_self_eq_false, cond_false]
        have hty2 : aY env [] r.1 = .ok ty := aly hsub [] [] ty (fun y hy => by
         unfold Fits
         cases hl : iU [S_api_Binding.mk x.name u] y with
         | none => rfl
         | some v =>
          obtain ⟨b, hb, hbn, hbt⟩ := Ik hl
          simp only [List.mem_singleton] at hb
          subst hb
          simp only at hbn hbt
          subst hbn hbt
          exact ⟨.inl ⟨1, gG hvu⟩, uty, by
           have := ag1 hv hx
           rw [hxt] at this
           exact this, huty⟩) hty
        have hte2 : fE env r.1 = (ty, [], 0) := by
         unfold fE
         rw [hv, hvr, hty2]
         rfl
        refine Ev.bind (iJ env r.1 hs (Wp _ (xG hvr).1)) ?_
        rw [hte2, hte]
        simp only [bne_self_eq_false, cond_false]
        refine Ev.bind (a := false) (Ev.bind (yY ty) (Ev.ret _)) ?_
        exact Ev.ret _)
    rw [show (env.names.any fun _ => false) = false by simp] at hloop
    refine Ev.bind hloop ?_
    exact Ev.ret _
end Abs
end Go.Proofs.YtiiaccpcoclklaaGreat

/-
  The order of values is one: laws of cmpV. Conditions: none; lemmas without a program.
-/
import Derived.Test.YtkopaeklihhdlaaGreatCP1ox325bcc
set_option linter.unusedSimpArgs false
set_option linter.unusedVariables false
namespace Go.Proofs.YtkopaeklihhdlaaGreat
namespace Abs
open Go
theorem Ql (a b : Int) : iG a b < 0 ↔ a < b := by
 unfold iG
 by_cases h : a < b
 ·simp [h]
 ·by_cases h2 : b < a <;> simp [h, h2]
theorem yt (a b : Int) : iG a b = 0 ↔ a = b := by
 unfold iG
 by_cases h : a < b
 ·simp [h]; omega
 ·by_cases h2 : b < a
  ·simp [h, h2]; omega
  ·simp [h, h2]; omega
theorem JK (a b : Int) : iG b a = - iG a b := by
 unfold iG
 by_cases h : a < b
 ·have : ¬ b < a := by omega
  simp [h, this]
 ·by_cases h2 : b < a <;> simp [h, h2]
theorem Iy : ∀ (s t : List UInt8), Lib.compareBytes s t = 0 ↔ s = t
 | [], [] => by simp [Lib.compareBytes]
 | [], _ :: _ => by simp [Lib.compareBytes]
 | _ :: _, [] => by simp [Lib.compareBytes]
 | a :: s, b :: t => by
  have ih := Iy s t
  unfold Lib.compareBytes
  by_cases h1 : a < b
  ·simp only [h1, if_true]
   constructor
   ·intro h; cases h
   ·intro h; cases h; exact absurd h1 (by simp)
  ·by_cases h2 : b < a
   ·simp only [h1, h2, if_false, if_true]
    constructor
    ·intro h; cases h
    ·intro h; cases h; exact absurd h2 (by simp)
   ·simp only [h1, h2, if_false]
    have : a = b := UInt8.le_antisymm (by simpa using h2) (by simpa using h1)
    subst this
    rw [ih]; simp
theorem Q6 : ∀ (s t : List UInt8), Lib.compareBytes t s = - Lib.compareBytes s t
 | [], [] => by simp [Lib.compareBytes]
 | [], _ :: _ => by simp [Lib.compareBytes]
 | _ :: _, [] => by simp [Lib.compareBytes]
 | a :: s, b :: t => by
  have ih := Q6 s t
  unfold Lib.compareBytes
  by_cases h1 : a < b
  ·have : ¬ b < a := fun h => absurd (UInt8.lt_trans h1 h) (by simp)
   simp [h1, this]
  ·by_cases h2 : b < a
   ·simp [h1, h2]
   ·simp [h1, h2, ih]
theorem Ww : ∀ (s t u : List UInt8), Lib.compareBytes s t < 0 → Lib.compareBytes t u < 0 → Lib.compareBytes s u < 0
 | [], [], _, h, _ => by simp [Lib.compareBytes] at h
 | _ :: _, [], _, h, _ => by simp [Lib.compareBytes] at h
 | [], _ :: _, [], _, h => by simp [Lib.compareBytes] at h
 | [], _ :: _, _ :: _, _, _ => by simp [Lib.compareBytes]
 | _ :: _, _ :: _, [], _, h => by simp [Lib.compareBytes] at h
 | a :: s, b :: t, c :: u, h1, h2 => by
  have ih := Ww s t u
  unfold Lib.compareBytes at h1 h2 ⊢
  by_cases ab : a < b
  ·by_cases bc : b < c
   ·simp [UInt8.lt_trans ab bc]
   ·by_cases cb : c < b
    ·simp [bc, cb] at h2
    ·have : b = c := UInt8.le_antisymm (by simpa using cb) (by simpa using bc)
     subst this; simp [ab]
  ·by_cases ba : b < a
   ·simp [ab, ba] at h1
   ·have : a = b := UInt8.le_antisymm (by simpa using ba) (by simpa using ab)
    subst this
    simp only [ab, if_false] at h1
    by_cases ac : a < c
    ·simp [ac]
    ·by_cases ca : c < a
     ·simp [ac, ca] at h2
     ·simp only [ac, ca, if_false] at h2 ⊢
      exact ih h1 h2
def lex (x y : Int) : Int := cond (x != 0) x y
theorem Ea (x y : Int) : lex x y < 0 ↔ x < 0 ∨ x = 0 ∧ y < 0 := by
 unfold lex
 by_cases h : x = 0
 ·subst h; simp
 ·have : (x != 0) = true := by simp [h]
  rw [this]; simp [h]
theorem AL (x y : Int) : lex x y = 0 ↔ x = 0 ∧ y = 0 := by
 unfold lex
 by_cases h : x = 0
 ·subst h; simp
 ·have : (x != 0) = true := by simp [h]
  rw [this]; simp [h]
theorem A9 (x y : Int) : lex (-x) (-y) = - lex x y := by
 unfold lex
 by_cases h : x = 0
 ·subst h; simp
 ·have h1 : (x != 0) = true := by simp [h]
  have h2 : (-x != 0) = true := by simp; omega
  rw [h1, h2]; simp
theorem z8 (k n : Int) (s : Str) (ks : List Val) (k' n' : Int) (s' : Str) (ks' : List Val) : dx (.mk k n s ks) (.mk k' n' s' ks') = lex (iG k k') (lex (iG n n') (lex (Lib.compareBytes s s') (dP ks ks'))) := by
 unfold dx lex; rfl
theorem sK (a b : Val) (asx bs : List Val) : dP (a :: asx) (b :: bs) = lex (dx a b) (dP asx bs) := by
 simp only [dP, lex]
mutual
theorem lS : ∀ (a b : Val), dx a b = 0 ↔ a = b
 | .mk k n s ks, .mk k' n' s' ks' => by
  rw [z8, AL, AL, AL, yt, yt, Iy, Hq ks ks']
  simp
theorem Hq : ∀ (asx bs : List Val), dP asx bs = 0 ↔ asx = bs
 | [], [] => by simp [dP]
 | [], _ :: _ => by simp [dP]
 | _ :: _, [] => by simp [dP]
 | a :: asx, b :: bs => by
  rw [sK, AL, lS a b, Hq asx bs]
  simp
end
mutual
theorem lT : ∀ (a b : Val), dx b a = - dx a b
 | .mk k n s ks, .mk k' n' s' ks' => by
  rw [z8, z8, JK k k', JK n n', Q6 s s', Gs ks ks', A9, A9, A9]
theorem Gs : ∀ (asx bs : List Val), dP bs asx = - dP asx bs
 | [], [] => by simp [dP]
 | [], _ :: _ => by simp [dP]
 | _ :: _, [] => by simp [dP]
 | a :: asx, b :: bs => by
  rw [sK, sK, lT a b, Gs asx bs, A9]
end
mutual
theorem zS : ∀ (a b c : Val), dx a b < 0 → dx b c < 0 → dx a c < 0
 | .mk k n s ks, .mk k' n' s' ks', .mk k'' n'' s'' ks'', h1, h2 => by
  rw [z8, Ea, Ea, Ea, Ql, yt, Ql, yt, Iy] at h1 h2 ⊢
  rcases h1 with h1 | ⟨rfl, h1⟩
  ·rcases h2 with h2 | ⟨rfl, h2⟩
   ·left; omega
   ·left; exact h1
  ·rcases h2 with h2 | ⟨rfl, h2⟩
   ·left; exact h2
   ·right
    refine ⟨rfl, ?_⟩
    rcases h1 with h1 | ⟨rfl, h1⟩
    ·rcases h2 with h2 | ⟨rfl, h2⟩
     ·left; omega
     ·left; exact h1
    ·rcases h2 with h2 | ⟨rfl, h2⟩
     ·left; exact h2
     ·right
      refine ⟨rfl, ?_⟩
      rcases h1 with h1 | ⟨rfl, h1⟩
      ·rcases h2 with h2 | ⟨rfl, h2⟩
       ·left; exact Ww _ _ _ h1 h2
       ·left; exact h1
      ·rcases h2 with h2 | ⟨rfl, h2⟩
       ·left; exact h2
       ·right; exact ⟨rfl, MQ ks ks' ks'' h1 h2⟩
theorem MQ : ∀ (asx bs cs : List Val), dP asx bs < 0 → dP bs cs < 0 → dP asx cs < 0
 | [], [], _, h, _ => by simp [dP] at h
 | _ :: _, [], _, h, _ => by simp [dP] at h
 | [], _ :: _, [], _, h => by simp [dP] at h
 | [], _ :: _, _ :: _, _, _ => by simp [dP]
 | _ :: _, _ :: _, [], _, h => by simp [dP] at h
 | a :: asx, b :: bs, c :: cs, h1, h2 => by
  rw [sK, Ea, lS] at h1 h2 ⊢
  rcases h1 with h1 | ⟨rfl, h1⟩
  ·rcases h2 with h2 | ⟨rfl, h2⟩
   ·left; exact zS a b c h1 h2
   ·left; exact h1
  ·rcases h2 with h2 | ⟨rfl, h2⟩
   ·left; exact h2
   ·right; exact ⟨rfl, MQ asx bs cs h1 h2⟩
end
def Ac (a b : Val) : Bool := decide (dx a b ≤ 0)
theorem Tq (a b c : Val) (h1 : Ac a b = true) (h2 : Ac b c = true) : Ac a c = true := by
 simp only [Ac, decide_eq_true_eq] at *
 rcases Int.lt_or_eq_of_le h1 with h1 | h1
 ·rcases Int.lt_or_eq_of_le h2 with h2 | h2
  ·exact Int.le_of_lt (zS a b c h1 h2)
  ·rw [(lS b c).1 h2] at h1; exact Int.le_of_lt h1
 ·rw [(lS a b).1 h1]; exact h2
def D6 (a b : Val) : Prop := dx a b < 0
theorem G8 (a : Val) : ¬ D6 a a := by
 have := (lS a a).2 rfl
 unfold D6; omega
theorem Ui {a b : Val} (h : D6 a b) : ¬ D6 b a := by
 unfold D6 at *
 rw [lT a b]; omega
def xH (a : Val) : List Val → List Val
 | [] => [a]
 | b :: l => cond (decide (dx a b < 0)) (a :: b :: l) (cond (dx a b == 0) (b :: l) (b :: xH a l))
def sortV : List Val → List Val
 | [] => []
 | a :: l => xH a (sortV l)
theorem FH (a : Val) : ∀ (l : List Val) (x : Val), x ∈ xH a l ↔ x = a ∨ x ∈ l
 | [], x => by simp [xH]
 | b :: l, x => by
  unfold xH
  by_cases h : dx a b < 0
  ·simp [h]
  ·by_cases h2 : dx a b = 0
   ·have := (lS a b).1 h2
    subst this
    simp [h2]
   ·have e : (dx a b == 0) = false := by simp [h2]
    simp only [h, decide_false, cond_false, e, List.mem_cons, FH a l x]
    constructor
    ·rintro (h | h | h)
     ·exact .inr (.inl h)
     ·exact .inl h
     ·exact .inr (.inr h)
    ·rintro (h | h | h)
     ·exact .inr (.inl h)
     ·exact .inl h
     ·exact .inr (.inr h)
theorem EC (a : Val) : ∀ (l : List Val), l.Pairwise D6 → (xH a l).Pairwise D6
 | [], _ => by simp [xH]
 | b :: l, h => by
  have h1 := List.pairwise_cons.1 h
  unfold xH
  by_cases hc : dx a b < 0
  ·simp only [hc, decide_true, cond_true]
   refine List.pairwise_cons.2 ⟨fun x hx => ?_, h⟩
   rcases List.mem_cons.1 hx with rfl | hx
   ·exact hc
   ·exact zS a b x hc (h1.1 x hx)
  ·by_cases h2 : dx a b = 0
   ·simp [h2]; exact List.pairwise_cons.1 h
   ·have e : (dx a b == 0) = false := by simp [h2]
    simp only [hc, decide_false, cond_false, e]
    refine List.pairwise_cons.2 ⟨fun x hx => ?_, EC a l h1.2⟩
    rcases (FH a l x).1 hx with rfl | hx
    ·show dx b x < 0
     rw [lT x b]; omega
    ·exact h1.1 x hx
theorem DK : ∀ (l : List Val) (x : Val), x ∈ sortV l ↔ x ∈ l
 | [], x => by simp [sortV]
 | a :: l, x => by rw [sortV, FH, DK l x]; simp
theorem xu : ∀ (l : List Val), (sortV l).Pairwise D6
 | [] => by simp [sortV]
 | a :: l => EC a _ (xu l)
theorem BH : ∀ (l m : List Val), l.Pairwise D6 → m.Pairwise D6 → (∀ x, x ∈ l ↔ x ∈ m) → l = m
 | [], [], _, _, _ => rfl
 | [], b :: m, _, _, h => by have := (h b).2 (by simp); cases this
 | a :: l, [], _, _, h => by have := (h a).1 (by simp); cases this
 | a :: l, b :: m, hl, hm, h => by
  have h1 := List.pairwise_cons.1 hl
  have h2 := List.pairwise_cons.1 hm
  have e : a = b := by
   rcases List.mem_cons.1 ((h a).1 (by simp)) with e | ha
   ·exact e
   ·rcases List.mem_cons.1 ((h b).2 (by simp)) with e | hb
    ·exact e.symm
    ·exact absurd (h1.1 b hb) (Ui (h2.1 a ha))
  subst e
  rw [BH l m h1.2 h2.2 fun x => ?_]
  constructor
  ·intro hx
   rcases List.mem_cons.1 ((h x).1 (by simp [hx])) with e | hx'
   ·exact absurd (e ▸ h1.1 x hx) (G8 a)
   ·exact hx'
  ·intro hx
   rcases List.mem_cons.1 ((h x).2 (by simp [hx])) with e | hx'
   ·exact absurd (e ▸ h2.1 x hx) (G8 a)
   ·exact hx'
theorem CP {l m : List Val} (hm : m.Pairwise D6) (h : ∀ x, x ∈ m ↔ x ∈ l) : m = sortV l :=
 BH _ _ hm (xu l) fun x => by rw [h x, DK]
def Nh (c : Carrier) (s : Int) : Bool := cond (decide (s < 1)) true (cond (decide (8 < s)) true (cond (decide (0 < (c.elems.length : Int))) (s != (c.elems.length : Int)) false))
def zf : List Carrier → List Int → Bool
 | c :: cs, s :: ss => !(Nh c s) && zf cs ss
 | _, _ => true
def jI (env : Env) (sz : List Int) : Bool := !((sz.length : Int) != (env.carriers.length : Int)) && zf env.carriers sz
theorem yR {env : Env} {sz : List Int} (h : jI env sz = true) : sz.length = env.carriers.length := by
 unfold jI at h
 simp only [Bool.and_eq_true, Bool.not_eq_true', bne_eq_false_iff_eq] at h
 omega
theorem Ns (c : Carrier) (l : List Int) (i : Int) (s : Int) (h : idx l i = some s) : (((idx l i).bind fun (x2 : Int) => (cond (decide (x2 < 1)) (some true) ((idx l i).bind fun (x3 : Int) => (cond (decide (8 < x3)) (some true) (cond (decide (0 < (c.elems.length : Int))) ((idx l i).bind fun (x4 : Int) => some (x4 != (c.elems.length : Int))) (some false)))))) : Option Bool) = some (Nh c s) := by
 rw [h]
 simp only [Option.bind_some, Nh]
 cases decide (s < 1) <;> cases decide (8 < s) <;> cases decide (0 < (c.elems.length : Int)) <;> rfl
theorem MH (n : Nat) (nm : List Decl) : ∀ (cs : List Carrier) (ss : List Int) (pc : List Carrier) (ps : List Int), pc.length = ps.length → cs.length = ss.length → ∀ k, cs.length + 1 ≤ k → iN n ⟨pc ++ cs, nm⟩ (ps ++ ss) k (pc.length : Int) = some (cond (zf cs ss) (.nx ()) (.rt false))
 | [], ss, pc, ps, hp, hl, k, hk => by
  obtain ⟨j, rfl⟩ : ∃ j, k = j + 1 := ⟨k - 1, by simp at hk; omega⟩
  unfold iN
  rw [decide_eq_false (by simp)]
  rfl
 | c :: cs, [], pc, ps, hp, hl, k, hk => by simp at hl
 | c :: cs, s :: ss, pc, ps, hp, hl, k, hk => by
  obtain ⟨j, rfl⟩ : ∃ j, k = j + 1 := ⟨k - 1, by simp at hk; omega⟩
  have hi : idx (ps ++ s :: ss) (pc.length : Int) = some s := by rw [hp]; exact jB _ _ _
  have ih := MH n nm cs ss (pc ++ [c]) (ps ++ [s]) (by simp [hp]) (by simpa using hl) j (by simp at hk; omega)
  unfold iN
  rw [decide_eq_true (by simp; omega)]
  simp only [cond_true]
  rw [jB]
  simp only [Option.bind_some]
  rw [Ns c _ _ s hi]
  simp only [Option.bind_some, zf]
  cases hb : Nh c s with
  | true => rfl
  | false =>
   simp only [cond_false, Bool.not_false, Bool.true_and]
   rw [show (pc.length : Int) + 1 = ((pc ++ [c]).length : Int) by simp]
   simpa using ih
theorem J9 (n : Nat) (nm : List Decl) : ∀ (cs : List Carrier) (ss : List Int) (pc : List Carrier) (ps : List Int), pc.length = ps.length → cs.length = ss.length → ∀ k, cs.length + 1 ≤ k → oG n ⟨pc ++ cs, nm⟩ (ps ++ ss) k (pc.length : Int) = some (cond (zf cs ss) (.nx ()) (.rt false))
 | [], ss, pc, ps, hp, hl, k, hk => by
  obtain ⟨j, rfl⟩ : ∃ j, k = j + 1 := ⟨k - 1, by simp at hk; omega⟩
  have : ss = [] := List.length_eq_zero_iff.1 (by simpa using hl.symm)
  subst this
  unfold oG
  rw [decide_eq_false (by simp [hp])]
  rfl
 | c :: cs, [], pc, ps, hp, hl, k, hk => by simp at hl
 | c :: cs, s :: ss, pc, ps, hp, hl, k, hk => by
  obtain ⟨j, rfl⟩ : ∃ j, k = j + 1 := ⟨k - 1, by simp at hk; omega⟩
  have hi : idx (ps ++ s :: ss) (pc.length : Int) = some s := by rw [hp]; exact jB _ _ _
  have ih := J9 n nm cs ss (pc ++ [c]) (ps ++ [s]) (by simp [hp]) (by simpa using hl) j (by simp at hk; omega)
  unfold oG
  rw [decide_eq_true (by simp; omega)]
  simp only [cond_true]
  rw [jB]
  simp only [Option.bind_some]
  rw [Ns c _ _ s hi]
  simp only [Option.bind_some, zf]
  cases hb : Nh c s with
  | true => rfl
  | false =>
   simp only [cond_false, Bool.not_false, Bool.true_and]
   rw [show (pc.length : Int) + 1 = ((pc ++ [c]).length : Int) by simp]
   simpa using ih
theorem zu (env : Env) (sz : List Int) : Ev (fun n => kV n env sz) (jI env sz) := by
 unfold kV jI
 cases h : ((sz.length : Int) != (env.carriers.length : Int)) with
 | true => exact Ev.ret _
 | false =>
  simp only [bne_eq_false_iff_eq] at h
  simp only [cond_false, Bool.not_false, Bool.true_and]
  refine Ev.bind (a := cond (zf env.carriers sz) (.nx ()) (.rt false)) ⟨env.carriers.length + 1, fun n hn => ?_⟩ ?_
  ·have := MH n env.names env.carriers sz [] [] rfl (by omega) n hn
   simpa using this
  ·cases zf env.carriers sz <;> exact Ev.ret _
theorem Ih (env : Env) (sz : List Int) : Ev (fun n => uE n env sz) (jI env sz) := by
 unfold uE jI
 cases h : ((sz.length : Int) != (env.carriers.length : Int)) with
 | true => exact Ev.ret _
 | false =>
  simp only [bne_eq_false_iff_eq] at h
  simp only [cond_false, Bool.not_false, Bool.true_and]
  refine Ev.bind (a := cond (zf env.carriers sz) (.nx ()) (.rt false)) ⟨env.carriers.length + 1, fun n hn => ?_⟩ ?_
  ·have := J9 n env.names env.carriers sz [] [] rfl (by omega) n hn
   simpa using this
  ·cases zf env.carriers sz <;> exact Ev.ret _
inductive Shp : Ty → Prop where
 | int : Shp (.mk 1 [] [])
 | bool : Shp (.mk 2 [] [])
 | car (nm : Str) : Shp (.mk 3 nm [])
 | pair {a b : Ty} (h : Shp a) (k : Shp b) : Shp (.mk 4 [] [a, b])
 | set {a : Ty} (h : Shp a) : Shp (.mk 5 [] [a])
mutual
theorem TA : ∀ (t : Ty) (d c : Int), (pf t d c).1 = true → Shp t
 | .mk k nm ks, d, c, h => by
  simp only [pf] at h
  cases hb : ((decide (c + 1 ≤ 16) && decide (d ≤ 6)) && gU k nm ks.length d) with
  | false => rw [hb] at h; cases h
  | true =>
   rw [hb] at h
   simp only [cond_true] at h
   have hs := QX ks (d + 1) (c + 1) h
   simp only [gU, Bool.and_eq_true, Bool.or_eq_true, beq_iff_eq] at hb
   obtain ⟨_, _, hk, hn⟩ := hb
   rcases hk with ⟨hk, hl⟩ | ⟨rfl, hl⟩ | ⟨rfl, hl⟩
   ·have : ks = [] := List.length_eq_zero_iff.1 hl
    subst this
    rcases hk with rfl | rfl | rfl
    ·have : nm = [] := by simpa using hn
     subst this; exact .int
    ·have : nm = [] := by simpa using hn
     subst this; exact .bool
    ·exact .car nm
   ·have : nm = [] := by simpa using hn
    subst this
    match ks, hl with
    | [a, b], _ => exact .pair (hs a (by simp)) (hs b (by simp))
   ·have : nm = [] := by simpa using hn
    subst this
    match ks, hl with
    | [a], _ => exact .set (hs a (by simp))
theorem QX : ∀ (ks : List Ty) (d c : Int), (kr ks d c).1 = true → ∀ t ∈ ks, Shp t
 | [], _, _, _, _, ht => by cases ht
 | k :: ks, d, c, h, t, ht => by
  simp only [kr] at h
  cases h1 : (pf k d c).1 with
  | false => rw [h1] at h; cases h
  | true =>
   rw [h1] at h
   simp only [cond_true] at h
   rcases List.mem_cons.1 ht with h2 | ht
   ·have h3 := TA k d c h1
    rw [h2]; exact h3
   ·exact QX ks d _ h t ht
end
theorem vX {t : Ty} (h : dU t = true) : Shp t := TA t 1 0 h
def wQ : List Val → Bool
 | a :: b :: r => !(decide (0 ≤ dx a b)) && wQ (b :: r)
 | _ => true
def LV (v : Val) : Bool := v.kind == 1 && (v.name == [] && ((v.kids.length : Int) == 0 && (decide ((-1000000000) ≤ v.n) && decide (v.n ≤ 1000000000))))
def Mf (v : Val) : Bool := v.kind == 2 && (v.name == [] && ((v.kids.length : Int) == 0 && (v.n == 0 || v.n == 1)))
def RX (env : Env) (sz : List Int) (nm : Str) : Int := (idx sz (gI (fun c => c.name == nm) 0 env.carriers)).getD 0
def M6 (env : Env) (sz : List Int) (nm : Str) (v : Val) : Bool := v.kind == 3 && (v.name == nm && ((v.kids.length : Int) == 0 && (decide (0 ≤ v.n) && decide (v.n < RX env sz nm))))
mutual
def hasB (env : Env) (sz : List Int) : Ty → Val → Bool
 | .mk k nm ks, v => cond (k == 1) (LV v) (cond (k == 2) (Mf v) (cond (k == 3) (M6 env sz nm v) (cond (k == 4) (v.kind == 4 && (v.n == 0 && (v.name == [] && ((v.kids.length : Int) == 2 && F6 env sz ks v.kids))))
   ((v.kind == 5 && (v.n == 0 && (v.name == [] && !(decide (256 < (v.kids.length : Int)))))) && (U6 env sz ks v.kids && wQ v.kids)))))
def F6 (env : Env) (sz : List Int) : List Ty → List Val → Bool
 | [], _ => true
 | t :: ts, vs => match vs with
  | [] => true
  | v :: vs => hasB env sz t v && F6 env sz ts vs
def U6 (env : Env) (sz : List Int) : List Ty → List Val → Bool
 | [], _ => true
 | t :: _, vs => vs.all fun v => hasB env sz t v
end
theorem Mg (env : Env) (s : Str) : Ev (fun n => qg n env s) (gI (fun c => c.name == s) 0 env.carriers) := by
 unfold qg iD
 refine Ev.bind (ng env.carriers (fun n k i => eG n env.carriers s k i) (fun _ x => some (x.name == s)) (fun c => c.name == s) (fun n k i => rfl) (fun x _ => Ev.ret _)) (Ev.ret _)
theorem QV {env : Env} {sz : List Int} {nm : Str} (hl : sz.length = env.carriers.length) (h : bL env nm = true) : 0 ≤ gI (fun c => c.name == nm) 0 env.carriers ∧ idx sz (gI (fun c => c.name == nm) 0 env.carriers) = some (RX env sz nm) := by
 have hg := oH (fun c : Carrier => c.name == nm) env.carriers 0 (Int.le_refl _)
 have hany : env.carriers.any (fun c => c.name == nm) = true := h
 rw [hany] at hg
 have h0 : 0 ≤ gI (fun c : Carrier => c.name == nm) 0 env.carriers := by simpa using hg
 refine ⟨h0, ?_⟩
 rcases mQ (fun c : Carrier => c.name == nm) env.carriers [] with ⟨x, _, _, g1, g2⟩ | ⟨_, g⟩
 ·simp only [List.length_nil, List.nil_append] at g1 g2
  unfold RX
  unfold idx at g2 ⊢
  rw [show (((0 : Nat) : Int)) = 0 from rfl] at g2
  rw [if_pos h0] at g2 ⊢
  have hlt := (List.getElem?_eq_some_iff.1 g2).1
  rw [List.getElem?_eq_getElem (by omega)]
  rfl
 ·simp only [List.length_nil] at g
  rw [show (((0 : Nat) : Int)) = 0 from rfl] at g
  omega
theorem M0 (p2 : Val) : ∀ (suf pre : List Val) (x : Val), p2.kids = pre ++ [x] ++ suf → p2.kids.length ≤ 256 → ∃ N, ∀ n, N ≤ n → ∀ k, suf.length + 1 ≤ k → ∀ r1 r2, ku n r1 r2 p2 k ((pre ++ [x]).length : Int) = some (cond (wQ (x :: suf)) (.nx ()) (.rt false))
 | [], pre, x, e, hl => by
  refine ⟨0, fun n _ k hk r1 r2 => ?_⟩
  obtain ⟨j, rfl⟩ : ∃ j, k = j + 1 := ⟨k - 1, by simp at hk; omega⟩
  unfold ku
  rw [decide_eq_false (by rw [e]; simp)]
  rfl
 | y :: suf, pre, x, e, hl => by
  obtain ⟨N1, h1⟩ := GK x y
  obtain ⟨N2, h2⟩ := M0 p2 suf (pre ++ [x]) y (by rw [e]; simp) hl
  refine ⟨N1 + N2, fun n hn k hk r1 r2 => ?_⟩
  obtain ⟨j, rfl⟩ : ∃ j, k = j + 1 := ⟨k - 1, by simp at hk; omega⟩
  have h1 : fq n x y = _ := h1 n (by omega)
  have h2 := h2 n (by omega) j (by simp at hk; omega) r1 r2
  have hlen : pre.length + 1 ≤ 256 := by rw [e] at hl; simp at hl; omega
  have ew : IntKind.wrap .i64 (((pre ++ [x]).length : Int) - 1) = (pre.length : Int) := by
   rw [List.length_append, List.length_singleton, wrap64 (by omega) (by omega)]; omega
  have i1 : idx p2.kids (pre.length : Int) = some x := by rw [e, List.append_assoc, List.singleton_append]; exact jB _ _ _
  have i2 : idx p2.kids ((pre ++ [x]).length : Int) = some y := by rw [e]; exact jB _ _ _
  unfold ku
  rw [decide_eq_true (by rw [e]; simp; omega), ew, i1, i2]
  simp only [cond_true, Option.bind_some]
  rw [h1]
  simp only [Option.bind_some, wQ]
  cases decide (0 ≤ dx x y) with
  | true => rfl
  | false =>
   simp only [cond_false, Bool.not_false, Bool.true_and]
   rw [show ((pre ++ [x]).length : Int) + 1 = ((pre ++ [x] ++ [y]).length : Int) by simp only [List.length_append, List.length_singleton]; omega]
   exact h2
theorem Kr (env : Env) (sz : List Int) (t : Ty) (H : ∀ v, Ev (fun n => eP n env sz v t) (hasB env sz t v)) : ∀ (suf pre : List Val), ∃ N, ∀ n, N ≤ n → ∀ k, suf.length + 1 ≤ k → iJ n (fun p0 p1 p2 p3 => eP n p0 p1 p2 p3) (fun p0 p1 p2 p3 p4 p5 p6 p7 => jE n p0 p1 p2 p3 p4 p5 p6 p7) [t] (pre ++ suf) env.carriers env.names sz k (pre.length : Int) = some (cond (suf.all fun v => hasB env sz t v) (.nx ()) (.rt false))
 | [], pre => by
  refine ⟨0, fun n _ k hk => ?_⟩
  obtain ⟨j, rfl⟩ : ∃ j, k = j + 1 := ⟨k - 1, by simp at hk; omega⟩
  unfold iJ
  rw [decide_eq_false (by simp)]
  rfl
 | v :: suf, pre => by
  obtain ⟨N1, h1⟩ := H v
  obtain ⟨N2, h2⟩ := Kr env sz t H suf (pre ++ [v])
  refine ⟨N1 + N2, fun n hn k hk => ?_⟩
  obtain ⟨j, rfl⟩ : ∃ j, k = j + 1 := ⟨k - 1, by simp at hk; omega⟩
  have h1 : eP n env sz v t = _ := h1 n (by omega)
  have h2 := h2 n (by omega) j (by simp at hk; omega)
  have i2 : idx [t] (if (([t].length : Int) - 1) < (pre.length : Int) then (([t].length : Int) - 1) else (pre.length : Int)) = some t := by
   simp only [List.length_singleton]
   have : (if (((1 : Nat) : Int) - 1) < (pre.length : Int) then (((1 : Nat) : Int) - 1) else (pre.length : Int)) = 0 := by split <;> omega
   rw [this]
   rfl
  unfold iJ
  rw [decide_eq_true (by simp; omega), jB, i2]
  simp only [cond_true, Option.bind_some]
  rw [show eP n (Env.mk env.carriers env.names) sz v t = eP n env sz v t from rfl, h1]
  simp only [Option.bind_some, List.all_cons]
  cases hasB env sz t v with
  | false => rfl
  | true =>
   simp only [Bool.not_true, cond_false, Bool.true_and]
   rw [show (pre.length : Int) + 1 = ((pre ++ [v]).length : Int) by simp]
   simpa using h2
theorem Xr (env : Env) (sz : List Int) (t u : Ty) (a b : Val) (k n : Int) (s : Str) (H1 : Ev (fun n => eP n env sz a t) (hasB env sz t a)) (H2 : Ev (fun n => eP n env sz b u) (hasB env sz u b)) : Ev (fun m => jE m [t, u] k n s [a, b] env.carriers env.names sz) (F6 env sz [t, u] [a, b]) := by
 refine Ev.succ ?_
 obtain ⟨N1, h1⟩ := H1
 obtain ⟨N2, h2⟩ := H2
 refine ⟨N1 + N2 + 3, fun m hm => ?_⟩
 have h1 : eP m (Env.mk env.carriers env.names) sz a t = _ := h1 m (by omega)
 have h2 : eP m (Env.mk env.carriers env.names) sz b u = _ := h2 m (by omega)
 show jH m _ _ [t, u] k n s [a, b] env.carriers env.names sz = _
 unfold jH
 obtain ⟨j, hj⟩ : ∃ j, m = j + 3 := ⟨m - 3, by omega⟩
 have e1 : iJ m (fun p0 p1 p2 p3 => eP m p0 p1 p2 p3) (fun p0 p1 p2 p3 p4 p5 p6 p7 => jE m p0 p1 p2 p3 p4 p5 p6 p7) [t, u] [a, b] env.carriers env.names sz (j + 3) 0 = some (cond (F6 env sz [t, u] [a, b]) (.nx ()) (.rt false)) := by
  have i0 : idx [t, u] (if (((([t, u] : List Ty)).length : Int) - 1) < 0 then ((([t, u] : List Ty).length : Int) - 1) else 0) = some t := rfl
  have i1 : idx [t, u] (if (((([t, u] : List Ty)).length : Int) - 1) < 0 + 1 then ((([t, u] : List Ty).length : Int) - 1) else 0 + 1) = some u := rfl
  simp only [iJ, i0, i1, show idx [a, b] 0 = some a from rfl, show idx [a, b] (0 + 1) = some b from rfl, Option.bind_some, show decide ((0 : Int) < (([a, b] : List Val).length : Int)) = true from rfl, show decide ((0 + 1 : Int) < (([a, b] : List Val).length : Int)) = true from rfl, show decide ((0 + 1 + 1 : Int) < (([a, b] : List Val).length : Int)) = false from rfl, cond_true, cond_false, h1, h2, F6]
  cases hasB env sz t a <;> cases hasB env sz u b <;> rfl
 rw [← hj] at e1
 rw [e1]
 cases F6 env sz [t, u] [a, b] <;> rfl
theorem UE (env : Env) (sz : List Int) (hl : sz.length = env.carriers.length) : ∀ {t : Ty}, Shp t → (bR t).all (bL env) = true → ∀ v, Ev (fun n => eP n env sz v t) (hasB env sz t v) := by
 intro t h
 induction h with
 | int =>
  intro _ v
  refine Ev.succ ?_
  show Ev (fun n => d9 n _ _ env sz v (.mk 1 [] [])) _
  unfold d9
  refine Ev.pos rfl ?_
  refine Ev.bind (a := LV v) ?_ (Ev.ret _)
  unfold LV
  cases v.kind == 1 <;> cases decide ((-1000000000) ≤ v.n) <;> cases decide (v.n ≤ 1000000000) <;> cases v.name == [] <;> cases (v.kids.length : Int) == 0 <;> exact Ev.ret _
 | bool =>
  intro _ v
  refine Ev.succ ?_
  show Ev (fun n => d9 n _ _ env sz v (.mk 2 [] [])) _
  unfold d9
  refine Ev.neg rfl ?_
  refine Ev.pos rfl ?_
  refine Ev.bind (a := Mf v) ?_ (Ev.ret _)
  unfold Mf
  cases v.kind == 2 <;> cases v.n == 0 <;> cases v.n == 1 <;> cases v.name == [] <;> cases (v.kids.length : Int) == 0 <;> exact Ev.ret _
 | car nm =>
  intro hc v
  have hc : bL env nm = true := by simpa [bR] using hc
  obtain ⟨g1, g2⟩ := QV hl hc
  refine Ev.succ ?_
  show Ev (fun n => d9 n _ _ env sz v (.mk 3 nm [])) _
  unfold d9
  refine Ev.neg rfl ?_
  refine Ev.neg rfl ?_
  refine Ev.pos rfl ?_
  refine Ev.bind (Mg env nm) ?_
  refine Ev.bind (a := M6 env sz nm v) ?_ (Ev.ret _)
  simp only [decide_eq_true g1, cond_true, g2, Option.bind_some, Ty.name]
  unfold M6
  cases v.kind == 3 <;> cases v.name == nm <;> cases decide (0 ≤ v.n) <;> cases decide (v.n < RX env sz nm) <;> cases (v.kids.length : Int) == 0 <;> exact Ev.ret _
 | @pair a b ha hb iha ihb =>
  intro hc v
  simp only [bR, gL, List.append_nil, show ((4 : Int) == 3) = false from rfl, cond_false, List.all_append, Bool.and_eq_true] at hc
  refine Ev.succ ?_
  show Ev (fun n => d9 n _ _ env sz v (.mk 4 [] [a, b])) _
  unfold d9
  refine Ev.neg rfl ?_
  refine Ev.neg rfl ?_
  refine Ev.neg rfl ?_
  refine Ev.pos rfl ?_
  refine Ev.bind (a := hasB env sz (.mk 4 [] [a, b]) v) ?_ (Ev.ret _)
  simp only [hasB, show ((4 : Int) == 1) = false from rfl, show ((4 : Int) == 2) = false from rfl, show ((4 : Int) == 3) = false from rfl, show ((4 : Int) == 4) = true from rfl, cond_false, cond_true, Ty.kids]
  cases v.kind == 4 with
  | false => exact Ev.ret _
  | true =>
   cases v.n == 0 with
   | false => exact Ev.ret _
   | true =>
    cases v.name == [] with
    | false => exact Ev.ret _
    | true =>
     cases h2 : (v.kids.length : Int) == 2 with
     | false => exact Ev.ret _
     | true =>
      simp only [cond_true, Bool.true_and]
      obtain ⟨k, n, s, ks⟩ := v
      simp only [Val.kids, beq_iff_eq] at h2
      match ks, h2 with
      | [x, y], _ => exact Ev.bind (Xr env sz a b x y k n s (iha hc.1 x) (ihb hc.2 y)) (Ev.ret _)
 | @set a ha iha =>
  intro hc v
  simp only [bR, gL, List.append_nil, show ((5 : Int) == 3) = false from rfl, cond_false] at hc
  have H := iha hc
  refine Ev.succ ?_
  show Ev (fun n => d9 n _ _ env sz v (.mk 5 [] [a])) _
  unfold d9
  refine Ev.neg rfl ?_
  refine Ev.neg rfl ?_
  refine Ev.neg rfl ?_
  refine Ev.neg rfl ?_
  refine Ev.pos rfl ?_
  simp only [hasB, show ((5 : Int) == 1) = false from rfl, show ((5 : Int) == 2) = false from rfl, show ((5 : Int) == 3) = false from rfl, show ((5 : Int) == 4) = false from rfl, cond_false, Ty.kids]
  have e1 : (v.kind != 5) = !(v.kind == 5) := rfl
  have e2 : (v.n != 0) = !(v.n == 0) := rfl
  rw [e1, e2]
  cases v.kind == 5 with
  | false => refine Ev.bind (a := true) (Ev.ret _) ?_; exact Ev.ret _
  | true =>
   cases v.n == 0 with
   | false => refine Ev.bind (a := true) (Ev.ret _) ?_; exact Ev.ret _
   | true =>
    cases v.name == [] with
    | false => refine Ev.bind (a := true) (Ev.ret _) ?_; exact Ev.ret _
    | true =>
     cases h256 : decide (256 < (v.kids.length : Int)) with
     | true => refine Ev.bind (a := true) (Ev.ret _) ?_; exact Ev.ret _
     | false =>
      have hlen : v.kids.length ≤ 256 := by simp at h256; omega
      have hk : Ev (fun n => jE n [a] v.kind v.n v.name v.kids env.carriers env.names sz) (v.kids.all fun v => hasB env sz a v) := by
       obtain ⟨N, h⟩ := Kr env sz a H v.kids []
       refine Ev.succ ?_
       refine ⟨N + v.kids.length + 1, fun n hn => ?_⟩
       have := h n (by omega) n (by omega)
       simp only [List.nil_append, List.length_nil] at this
       show jH n _ _ [a] v.kind v.n v.name v.kids env.carriers env.names sz = _
       unfold jH
       rw [show ((0 : Nat) : Int) = 0 from rfl] at this
       rw [this]
       cases (v.kids.all fun v => hasB env sz a v) <;> rfl
      simp only [Bool.not_true, cond_false, Bool.not_false, Bool.true_and, U6]
      refine Ev.bind (Ev.bind hk (Ev.ret _)) ?_
      cases (v.kids.all fun v => hasB env sz a v) with
      | false => exact Ev.ret _
      | true =>
       simp only [Bool.not_true, cond_false, Bool.true_and]
       refine Ev.bind (a := cond (wQ v.kids) (.nx ()) (.rt false)) ?_ (by cases wQ v.kids <;> exact Ev.ret _)
       cases hks : v.kids with
       | nil =>
        refine ⟨1, fun n hn => ?_⟩
        obtain ⟨j, rfl⟩ : ∃ j, n = j + 1 := ⟨n - 1, by omega⟩
        show ku (j + 1) _ _ v (j + 1) 1 = _
        unfold ku
        rw [decide_eq_false (by rw [hks]; simp)]
        rfl
       | cons x xs =>
        obtain ⟨N, h⟩ := M0 v xs [] x (by rw [hks]; rfl) hlen
        refine ⟨N + xs.length + 1, fun n hn => ?_⟩
        have := h n (by omega) n (by omega) (fun p0 p1 p2 p3 => eP n p0 p1 p2 p3) (fun p0 p1 p2 p3 p4 p5 p6 p7 => jE n p0 p1 p2 p3 p4 p5 p6 p7)
        exact this
def ug (s : Str) : Ty := .mk 3 s []
def Ay (t : Ty) : Ty := .mk 5 [] [t]
def Hg (env : Env) : List (Str × Ty) := (env.names.map fun d => (d.name, d.ty)) ++ ((env.carriers.map fun c => (c.name, Ay (ug c.name))) ++ env.carriers.flatMap fun c => c.elems.map fun e => (e, ug c.name))
def look (env : Env) (s : Str) : Option Ty := dG (Hg env) s
theorem QK {α β γ : Type} (l : List α) (l' : List β) (i : Int) (F : α → β → Option γ) : ((idx l i).bind fun x => (idx l' i).bind fun y => F x y) = (idx (l.zip l') i).bind fun p => F p.1 p.2 := by
 unfold idx
 by_cases h : 0 ≤ i
 ·simp only [if_pos h, List.zip, List.getElem?_zipWith]
  cases l[i.toNat]? <;> cases l'[i.toNat]? <;> rfl
 ·simp only [if_neg h]; rfl
theorem u7 {α β ρ : Type} (l : List α) (l' : List β) (hlen : l.length = l'.length) (L : Nat → Nat → Int → Option (LR Unit ρ)) (step : Nat → α → β → Option Bool) (p : α → β → Bool) (r : ρ)
  (hL : ∀ n k i, L n (k + 1) i = cond (decide (i < (l.length : Int))) ((idx l i).bind fun x => (idx l' i).bind fun y => (step n x y).bind fun b => cond b (some (.rt r)) (L n k (i + 1))) (some (.nx ())))
  (hp : ∀ x ∈ l, ∀ y, Ev (fun n => step n x y) (p x y)) : Ev (fun n => L n n 0) (cond ((l.zip l').any fun q => p q.1 q.2) (.rt r) (.nx ())) := by
 refine iq (l.zip l') L (fun n q => step n q.1 q.2) (fun q => p q.1 q.2) r (fun n k i => ?_) (fun q hq => hp q.1 (List.of_mem_zip hq).1 q.2)
 rw [hL, ← QK l l' i fun x y => (step n x y).bind fun b => cond b (some (.rt r)) (L n k (i + 1))]
 have : ((l.zip l').length : Int) = (l.length : Int) := by rw [List.length_zip, ← hlen, Nat.min_self]
 rw [this]
structure Joined (a b : Env) (cs : List Carrier) (ds : List Decl) : Prop where
 c1 : ∀ c ∈ a.carriers, c ∈ cs
 c2 : ∀ c ∈ b.carriers, c ∈ cs
 c3 : ∀ c ∈ cs, c ∈ a.carriers ∨ c ∈ b.carriers
 d1 : ∀ d ∈ a.names, d ∈ ds
 d2 : ∀ d ∈ b.names, d ∈ ds
 d3 : ∀ d ∈ ds, d ∈ a.names ∨ d ∈ b.names
 cl : cs.length ≤ a.carriers.length + b.carriers.length
 dl : ds.length ≤ a.names.length + b.names.length
theorem VP (env : Env) (t : Ty) : Ev (fun n => sQ n env t) (dU t && (bR t).all (bL env)) := by
 unfold sQ
 refine Ev.bind (a := dU t && (bR t).all (bL env)) ?_ (Ev.ret _)
 refine Ev.bind (nC t) ?_
 cases h : dU t with
 | false => exact Ev.ret _
 | true =>
  simp only [cond_true, Bool.true_and]
  refine Ev.bind (uZ h) ?_
  generalize hl : ((dS ((bR t).map fun s => (s, true)) []).map (·.1)).mergeSort BI = l
  have hm : ∀ s, s ∈ l ↔ s ∈ bR t := fun s => by rw [← hl]; exact DV t s
  unfold gJ iL
  have hf := ng l (fun n k i => eZ n l env.carriers env.names k i) (fun n x => pQ n x env.carriers env.names) (fun s => !(bL env s)) (fun n k i => rfl) (fun x _ => by
   unfold pQ
   refine Ev.bind (Mg env x) ?_
   rw [rT, oH _ _ _ (Int.le_refl _)]
   exact Ev.ret _)
  refine Ev.bind (a := l.any fun s => !(bL env s)) (Ev.bind hf ?_) ?_
  ·rw [oH _ _ _ (Int.le_refl _)]
   exact Ev.ret _
  ·rw [nI, Bool.not_not]
   have : l.all (bL env) = (bR t).all (bL env) := by
    have h : (l.all (bL env) = true) ↔ ((bR t).all (bL env) = true) := by simp only [List.all_eq_true, hm]
    cases h1 : l.all (bL env) <;> cases h2 : (bR t).all (bL env) <;> simp_all
   rw [this]
   exact Ev.ret _
def ME (f : Val → Bool) : Val → List Val → Bool
 | _, [] => true
 | x, y :: s => f y && (!(decide (0 ≤ dx x y)) && ME f y s)
theorem Qh (f : Val → Bool) : ∀ (s : List Val) (x : Val), ME f x s = (s.all f && wQ (x :: s))
 | [], _ => rfl
 | y :: s, x => by
  simp only [ME, List.all_cons, wQ]
  rw [Qh f s y]
  cases f y <;> cases decide (0 ≤ dx x y) <;> cases s.all f <;> cases wQ (y :: s) <;> rfl
theorem Vu (env : Env) (sz : List Int) (ty t : Ty) (v : Val) (pre : List Val) (x y : Val) (suf : List Val) (hk : v.kids = pre ++ [x] ++ y :: suf) (ht : ty.kids = [t]) (hx : jR x) (H : Ev (fun n => kP n env sz y t) (hasB env sz t y)) : Ev (fun n => (((idx v.kids ((pre ++ [x]).length : Int)).bind fun (x9 : Val) => ((idx ty.kids 0).bind fun (x10 : Ty) => ((kP n env sz x9 x10).bind fun (x11 : Bool) => (cond (!x11) (some true) (cond (decide (0 < ((pre ++ [x]).length : Int))) ((idx v.kids (((pre ++ [x]).length : Int) - 1)).bind fun (x12 : Val) => ((idx v.kids ((pre ++ [x]).length : Int)).bind fun (x13 : Val) => ((jF n x12 x13).bind fun (x14 : Int) => some (decide (0 ≤ x14))))) (some false)))))) : Option Bool)) (!(hasB env sz t y && !(decide (0 ≤ dx x y)))) := by
 have ew : (((pre ++ [x]).length : Int) - 1) = (pre.length : Int) := by rw [List.length_append, List.length_singleton]; omega
 have i1 : idx v.kids (pre.length : Int) = some x := by rw [hk, List.append_assoc, List.singleton_append]; exact jB _ _ _
 have i2 : idx v.kids ((pre ++ [x]).length : Int) = some y := by rw [hk]; exact jB _ _ _
 rw [ew, i1, i2, ht, decide_eq_true (show 0 < (((pre ++ [x]).length : Nat) : Int) by rw [List.length_append, List.length_singleton]; omega)]
 simp only [Option.bind_some, cond_true, show idx [t] 0 = some t from rfl]
 refine Ev.bind H ?_
 cases hasB env sz t y with
 | false => exact Ev.ret _
 | true =>
  simp only [Bool.not_true, cond_false, Bool.true_and, Bool.not_not]
  exact Ev.bind (Qd x y hx) (Ev.ret _)
theorem Ke (env : Env) (sz : List Int) (ty t : Ty) (v : Val) (ht : ty.kids = [t]) (H : ∀ u, jR u → Ev (fun n => kP n env sz u t) (hasB env sz t u)) (hv : ∀ u ∈ v.kids, jR u) : ∀ (suf pre : List Val) (x : Val), v.kids = pre ++ [x] ++ suf → ∃ N, ∀ n, N ≤ n → ∀ k, suf.length + 1 ≤ k → jN n (fun p0 p1 p2 p3 => kP n p0 p1 p2 p3) env sz v ty k ((pre ++ [x]).length : Int) = some (cond (ME (hasB env sz t) x suf) (.nx ()) (.rt false))
 | [], pre, x, e => by
  refine ⟨0, fun n _ k hk => ?_⟩
  obtain ⟨j, rfl⟩ : ∃ j, k = j + 1 := ⟨k - 1, by simp at hk; omega⟩
  unfold jN
  rw [decide_eq_false (by rw [e]; simp)]
  rfl
 | y :: suf, pre, x, e => by
  obtain ⟨N1, h1⟩ := Vu env sz ty t v pre x y suf e ht (hv x (by rw [e]; simp)) (H y (hv y (by rw [e]; simp)))
  obtain ⟨N2, h2⟩ := Ke env sz ty t v ht H hv suf (pre ++ [x]) y (by rw [e]; simp)
  refine ⟨N1 + N2, fun n hn k hk => ?_⟩
  obtain ⟨j, rfl⟩ : ∃ j, k = j + 1 := ⟨k - 1, by simp at hk; omega⟩
  have h1 := h1 n (by omega)
  have h2 := h2 n (by omega) j (by simp at hk; omega)
  unfold jN
  rw [decide_eq_true (by rw [e]; simp; omega)]
  simp only [cond_true]
  simp only at h1
  rw [h1]
  simp only [Option.bind_some, ME]
  cases hasB env sz t y with
  | false => rfl
  | true =>
   cases decide (0 ≤ dx x y) with
   | true => rfl
   | false =>
    simp only [cond_false, Bool.not_false, Bool.true_and, Bool.not_true]
    rw [show ((pre ++ [x]).length : Int) + 1 = ((pre ++ [x] ++ [y]).length : Int) by simp only [List.length_append, List.length_singleton]; omega]
    exact h2
theorem XE (env : Env) (sz : List Int) (ty t : Ty) (v : Val) (ht : ty.kids = [t]) (H : ∀ u, jR u → Ev (fun n => kP n env sz u t) (hasB env sz t u)) (hv : ∀ u ∈ v.kids, jR u) : Ev (fun n => jN n (fun p0 p1 p2 p3 => kP n p0 p1 p2 p3) env sz v ty n 0) (cond ((v.kids.all fun u => hasB env sz t u) && wQ v.kids) (.nx ()) (.rt false)) := by
 cases hks : v.kids with
 | nil =>
  refine ⟨1, fun n hn => ?_⟩
  obtain ⟨j, rfl⟩ : ∃ j, n = j + 1 := ⟨n - 1, by omega⟩
  show jN (j + 1) _ env sz v ty (j + 1) 0 = _
  unfold jN
  rw [decide_eq_false (by rw [hks]; simp)]
  rfl
 | cons x xs =>
  obtain ⟨N1, h1⟩ := H x (hv x (by rw [hks]; simp))
  obtain ⟨N2, h2⟩ := Ke env sz ty t v ht H hv xs [] x (by rw [hks]; rfl)
  refine ⟨N1 + N2 + xs.length + 3, fun n hn => ?_⟩
  obtain ⟨j, rfl⟩ : ∃ j, n = j + 1 := ⟨n - 1, by omega⟩
  have h1 : kP (j + 1) env sz x t = _ := h1 (j + 1) (by omega)
  have h2 := h2 (j + 1) (by omega) j (by omega)
  show jN (j + 1) _ env sz v ty (j + 1) 0 = _
  unfold jN
  rw [decide_eq_true (by rw [hks, List.length_cons]; omega), ht, hks]
  simp only [cond_true, show idx (x :: xs) 0 = some x from rfl, show idx [t] 0 = some t from rfl, Option.bind_some, show decide ((0 : Int) < 0) = false from rfl, cond_false]
  rw [h1]
  simp only [Option.bind_some, List.all_cons]
  have er := Qh (hasB env sz t) xs x
  cases hasB env sz t x with
  | false => rfl
  | true =>
   simp only [Bool.not_true, cond_false, Option.bind_some, Bool.true_and]
   rw [← er]
   exact h2
theorem Qn (env : Env) (sz : List Int) (hl : sz.length = env.carriers.length) : ∀ {t : Ty}, Shp t → (bR t).all (bL env) = true → ∀ v, jR v → Ev (fun n => kP n env sz v t) (hasB env sz t v) := by
 intro t h
 induction h with
 | int =>
  intro _ v _
  refine Ev.succ ?_
  show Ev (fun n => fV n _ env sz v (.mk 1 [] [])) _
  unfold fV
  refine Ev.pos rfl ?_
  refine Ev.bind (a := LV v) ?_ (Ev.ret _)
  unfold LV
  cases v.kind == 1 <;> cases decide ((-1000000000) ≤ v.n) <;> cases decide (v.n ≤ 1000000000) <;> cases v.name == [] <;> cases (v.kids.length : Int) == 0 <;> exact Ev.ret _
 | bool =>
  intro _ v _
  refine Ev.succ ?_
  show Ev (fun n => fV n _ env sz v (.mk 2 [] [])) _
  unfold fV
  refine Ev.neg rfl ?_
  refine Ev.pos rfl ?_
  refine Ev.bind (a := Mf v) ?_ (Ev.ret _)
  unfold Mf
  cases v.kind == 2 <;> cases v.n == 0 <;> cases v.n == 1 <;> cases v.name == [] <;> cases (v.kids.length : Int) == 0 <;> exact Ev.ret _
 | car nm =>
  intro hc v _
  have hc : bL env nm = true := by simpa [bR] using hc
  obtain ⟨g1, g2⟩ := QV hl hc
  refine Ev.succ ?_
  show Ev (fun n => fV n _ env sz v (.mk 3 nm [])) _
  unfold fV
  refine Ev.neg rfl ?_
  refine Ev.neg rfl ?_
  refine Ev.pos rfl ?_
  refine Ev.bind (a := M6 env sz nm v) ?_ (Ev.ret _)
  simp only [Ty.name]
  unfold M6
  cases v.kind == 3 with
  | false => exact Ev.ret _
  | true =>
   cases v.name == nm with
   | false => exact Ev.ret _
   | true =>
    cases (v.kids.length : Int) == 0 with
    | false => exact Ev.ret _
    | true =>
     cases decide (0 ≤ v.n) with
     | false => exact Ev.ret _
     | true =>
      simp only [cond_true, Bool.true_and]
      refine Ev.bind (qo env nm) ?_
      rw [g2]
      exact Ev.ret _
 | @pair a b ha hb iha ihb =>
  intro hc v hv
  simp only [bR, gL, List.append_nil, show ((4 : Int) == 3) = false from rfl, cond_false, List.all_append, Bool.and_eq_true] at hc
  refine Ev.succ ?_
  show Ev (fun n => fV n _ env sz v (.mk 4 [] [a, b])) _
  unfold fV
  refine Ev.neg rfl ?_
  refine Ev.neg rfl ?_
  refine Ev.neg rfl ?_
  refine Ev.pos rfl ?_
  refine Ev.bind (a := hasB env sz (.mk 4 [] [a, b]) v) ?_ (Ev.ret _)
  simp only [hasB, show ((4 : Int) == 1) = false from rfl, show ((4 : Int) == 2) = false from rfl, show ((4 : Int) == 3) = false from rfl, show ((4 : Int) == 4) = true from rfl, cond_false, cond_true, Ty.kids]
  cases v.kind == 4 with
  | false => exact Ev.ret _
  | true =>
   cases v.n == 0 with
   | false => exact Ev.ret _
   | true =>
    cases v.name == [] with
    | false => exact Ev.ret _
    | true =>
     cases h2 : (v.kids.length : Int) == 2 with
     | false => exact Ev.ret _
     | true =>
      simp only [cond_true, Bool.true_and]
      have hv := hv.kids.2
      obtain ⟨k, n, s, ks⟩ := v
      simp only [Val.kids, beq_iff_eq] at h2 hv
      match ks, h2, hv with
      | [x, y], _, hv =>
       simp only [Val.kids, show idx [x, y] 0 = some x from rfl, show idx [x, y] 1 = some y from rfl, show idx [a, b] 0 = some a from rfl, show idx [a, b] 1 = some b from rfl, Option.bind_some, F6]
       refine Ev.bind (iha hc.1 x (hv x (by simp))) ?_
       cases hasB env sz a x with
       | false => exact Ev.ret _
       | true =>
        simp only [cond_true, Bool.true_and, Bool.and_true]
        exact Ev.bind (ihb hc.2 y (hv y (by simp))) (Ev.ret _)
 | @set a ha iha =>
  intro hc v hv
  simp only [bR, gL, List.append_nil, show ((5 : Int) == 3) = false from rfl, cond_false] at hc
  have H := iha hc
  refine Ev.succ ?_
  show Ev (fun n => fV n _ env sz v (.mk 5 [] [a])) _
  unfold fV
  refine Ev.neg rfl ?_
  refine Ev.neg rfl ?_
  refine Ev.neg rfl ?_
  refine Ev.neg rfl ?_
  simp only [hasB, show ((5 : Int) == 1) = false from rfl, show ((5 : Int) == 2) = false from rfl, show ((5 : Int) == 3) = false from rfl, show ((5 : Int) == 4) = false from rfl, cond_false]
  have e1 : (v.kind != 5) = !(v.kind == 5) := rfl
  have e2 : (v.n != 0) = !(v.n == 0) := rfl
  rw [e1, e2]
  cases v.kind == 5 with
  | false => refine Ev.bind (a := true) (Ev.ret _) ?_; exact Ev.ret _
  | true =>
   cases v.n == 0 with
   | false => refine Ev.bind (a := true) (Ev.ret _) ?_; exact Ev.ret _
   | true =>
    cases v.name == [] with
    | false => refine Ev.bind (a := true) (Ev.ret _) ?_; exact Ev.ret _
    | true =>
     cases decide (256 < (v.kids.length : Int)) with
     | true => refine Ev.bind (a := true) (Ev.ret _) ?_; exact Ev.ret _
     | false =>
      refine Ev.bind (a := false) (Ev.ret _) ?_
      simp only [Bool.not_false, cond_false, Bool.true_and, U6]
      refine Ev.bind (XE env sz (.mk 5 [] [a]) a v rfl H hv.kids.2) ?_
      cases ((v.kids.all fun u => hasB env sz a u) && wQ v.kids) <;> exact Ev.ret _
def Cx (env : Env) (t : Ty) : Bool := dU t && (bR t).all (bL env)
def R6 (env : Env) (sz : List Int) (v : Val) (t : Ty) : Bool := aT env && (jI env sz && (Cx env t && hasB env sz t v))
theorem Yp (env : Env) (sz : List Int) (v : Val) (t : Ty) (hs : ∀ d ∈ env.names, d.name.length ≤ 9223372036854775807) : Ev (fun n => xJ n env sz v t) (R6 env sz v t) := by
 unfold xJ R6
 refine Ev.bind (a := aT env && (jI env sz && (Cx env t && hasB env sz t v))) ?_ (Ev.ret _)
 refine Ev.bind (eD env hs) ?_
 cases aT env with
 | false => exact Ev.ret _
 | true =>
  simp only [cond_true, Bool.true_and]
  refine Ev.bind (zu env sz) ?_
  cases hf : jI env sz with
  | false => exact Ev.ret _
  | true =>
   simp only [cond_true, Bool.true_and]
   refine Ev.bind (VP env t) ?_
   unfold Cx
   cases hk : (dU t && (bR t).all (bL env)) with
   | false => exact Ev.ret _
   | true =>
    simp only [Bool.and_eq_true] at hk
    simp only [cond_true, Bool.true_and]
    exact Ev.bind (UE env sz (yR hf) (vX hk.1) hk.2 v) (Ev.ret _)
theorem XD (env : Env) (sz : List Int) (v : Val) (t : Ty) (hv : jR v) : Ev (fun n => Cn n env sz v t) (R6 env sz v t) := by
 unfold Cn R6
 refine Ev.bind (a := aT env && (jI env sz && (Cx env t && hasB env sz t v))) ?_ (Ev.ret _)
 refine Ev.bind (iX env) ?_
 cases aT env with
 | false => exact Ev.ret _
 | true =>
  simp only [cond_true, Bool.true_and]
  refine Ev.bind (su t) ?_
  unfold Cx
  cases ht : dU t with
  | false =>
   simp only [cond_false, Bool.false_and, Bool.and_false]
   exact Ev.ret _
  | true =>
   simp only [cond_true, Bool.true_and]
   refine Ev.bind (F3 env ht) ?_
   cases hk : (bR t).all (bL env) with
   | false =>
    simp only [cond_false, Bool.false_and, Bool.and_false]
    exact Ev.ret _
   | true =>
    simp only [cond_true, Bool.true_and]
    refine Ev.bind (Ih env sz) ?_
    cases hf : jI env sz with
    | false => exact Ev.ret _
    | true =>
     simp only [cond_true, Bool.true_and]
     exact Ev.bind (Qn env sz (yR hf) (vX ht) hk v hv) (Ev.ret _)
theorem E5 {env : Env} (h : aT env = true) : ∀ d ∈ env.names, dU d.ty = true ∧ (bR d.ty).all (bL env) = true := by
 intro d hd
 simp only [aT, Bool.and_eq_true] at h
 have := List.all_eq_true.1 h.2.2.1 d hd
 simp only [p9, Bool.and_eq_true] at this
 exact ⟨this.2.1.1, this.2.2⟩
def Rz (w : S_api_World) : Bool := (aT w.env && (jI w.env w.sizes && !((w.values.length : Int) != (w.env.names.length : Int)))) && !((w.env.names.zip w.values).any fun q => !(hasB w.env w.sizes q.1.ty q.2))
theorem QJ {α β : Type} (f : α → β → Bool) : ∀ (l : List α) (m : List β), (l.zip m).any (fun q => f q.1 q.2) = (m.zip l).any fun q => f q.2 q.1
 | [], m => by cases m <;> rfl
 | a :: l, [] => rfl
 | a :: l, b :: m => by
  simp only [List.zip_cons_cons, List.any_cons, QJ f l m]
theorem KT (w : S_api_World) (hs : ∀ d ∈ w.env.names, d.name.length ≤ 9223372036854775807) : Ev (fun n => mU n w) (Rz w) := by
 unfold mU Rz
 refine Ev.bind (a := !(aT w.env && (jI w.env w.sizes && !((w.values.length : Int) != (w.env.names.length : Int))))) ?_ ?_
 ·refine Ev.bind (eD w.env hs) ?_
  cases aT w.env with
  | false => exact Ev.ret _
  | true =>
   refine Ev.bind (zu w.env w.sizes) ?_
   cases jI w.env w.sizes with
   | false => exact Ev.ret _
   | true =>
    simp only [Bool.not_true, cond_false, Bool.true_and, Bool.not_not]
    exact Ev.ret _
 ·cases hb : (aT w.env && (jI w.env w.sizes && !((w.values.length : Int) != (w.env.names.length : Int)))) with
  | false => exact Ev.ret _
  | true =>
   simp only [Bool.and_eq_true, Bool.not_eq_true', bne_eq_false_iff_eq] at hb
   obtain ⟨h1, h2, h3⟩ := hb
   simp only [Bool.not_true, cond_false, Bool.true_and]
   have hd := E5 h1
   refine Ev.bind (u7 w.env.names w.values (by omega) (fun n k i => kN n w k i) (fun n d v => (eP n w.env w.sizes v d.ty).bind fun b => some (!b)) (fun d v => !(hasB w.env w.sizes d.ty v)) false (fun n k i => by
    show cond _ _ _ = _
    simp only [Option.bind_assoc, Option.bind_some]) (fun d hm v => Ev.bind (UE w.env w.sizes (yR h2) (vX (hd d hm).1) (hd d hm).2 v) (Ev.ret _))) ?_
   cases ((w.env.names.zip w.values).any fun q => !(hasB w.env w.sizes q.1.ty q.2)) <;> exact Ev.ret _
theorem Jl (w : S_api_World) (hv : ∀ v ∈ w.values, jR v) : Ev (fun n => oJ n w) (Rz w) := by
 unfold oJ Rz
 refine Ev.bind (a := !(aT w.env && (jI w.env w.sizes && !((w.values.length : Int) != (w.env.names.length : Int))))) ?_ ?_
 ·refine Ev.bind (iX w.env) ?_
  cases aT w.env with
  | false => exact Ev.ret _
  | true =>
   refine Ev.bind (Ih w.env w.sizes) ?_
   cases jI w.env w.sizes with
   | false => exact Ev.ret _
   | true =>
    simp only [Bool.not_true, cond_false, Bool.true_and, Bool.not_not]
    exact Ev.ret _
 ·cases hb : (aT w.env && (jI w.env w.sizes && !((w.values.length : Int) != (w.env.names.length : Int)))) with
  | false => exact Ev.ret _
  | true =>
   simp only [Bool.and_eq_true, Bool.not_eq_true', bne_eq_false_iff_eq] at hb
   obtain ⟨h1, h2, h3⟩ := hb
   simp only [Bool.not_true, cond_false, Bool.true_and]
   have hd := E5 h1
   have hloop := iq (w.values.zip w.env.names) (fun n k i => j4 n w k i) (fun n q => (kP n w.env w.sizes q.1 q.2.ty).bind fun b => some (!b)) (fun q => !(hasB w.env w.sizes q.2.ty q.1)) false (fun n k i => by
    show cond _ _ _ = _
    rw [← QK w.values w.env.names i fun x y => ((kP n w.env w.sizes x y.ty).bind fun b => some (!b)).bind fun b => cond b (some (.rt false)) (j4 n w k (i + 1))]
    rw [List.length_zip, show min w.values.length w.env.names.length = w.values.length by omega]
    simp only [Option.bind_assoc, Option.bind_some]) (fun q hq => Ev.bind (Qn w.env w.sizes (yR h2) (vX (hd q.2 (List.of_mem_zip hq).2).1) (hd q.2 (List.of_mem_zip hq).2).2 q.1 (hv q.1 (List.of_mem_zip hq).1)) (Ev.ret _))
   rw [QJ (fun (d : Decl) v => !(hasB w.env w.sizes d.ty v))]
   refine Ev.bind hloop ?_
   cases ((w.values.zip w.env.names).any fun q => !(hasB w.env w.sizes q.2.ty q.1)) <;> exact Ev.ret _
def Q7 (env : Env) (s : S_api_Scope) : Bool := aT env && (jI env s.sizes && (decide ((-1000000000) ≤ s.lo) && (decide (s.lo ≤ s.hi) && decide (s.hi ≤ 1000000000))))
theorem Lv (env : Env) (s : S_api_Scope) (hs : ∀ d ∈ env.names, d.name.length ≤ 9223372036854775807) : Ev (fun n => mM n env s) (Q7 env s) := by
 unfold mM Q7
 refine Ev.bind (a := aT env && (jI env s.sizes && (decide ((-1000000000) ≤ s.lo) && (decide (s.lo ≤ s.hi) && decide (s.hi ≤ 1000000000))))) ?_ (Ev.ret _)
 refine Ev.bind (eD env hs) ?_
 cases aT env with
 | false => exact Ev.ret _
 | true =>
  refine Ev.bind (zu env s.sizes) ?_
  cases jI env s.sizes <;> cases decide ((-1000000000) ≤ s.lo) <;> cases decide (s.lo ≤ s.hi) <;> exact Ev.ret _
theorem Ja (env : Env) (s : S_api_Scope) : Ev (fun n => oK n env s) (Q7 env s) := by
 unfold oK Q7
 refine Ev.bind (a := aT env && (jI env s.sizes && (decide ((-1000000000) ≤ s.lo) && (decide (s.lo ≤ s.hi) && decide (s.hi ≤ 1000000000))))) ?_ (Ev.ret _)
 refine Ev.bind (iX env) ?_
 cases aT env with
 | false => exact Ev.ret _
 | true =>
  refine Ev.bind (Ih env s.sizes) ?_
  cases jI env s.sizes <;> cases decide ((-1000000000) ≤ s.lo) <;> cases decide (s.lo ≤ s.hi) <;> exact Ev.ret _
theorem PG (w : S_api_World) (x : S_refinementlaw03_Typed) (s : S_api_Scope) (hs : ∀ d ∈ w.env.names, d.name.length ≤ 9223372036854775807) (hw : ∀ v ∈ w.values, jR v) (hx : jR x.v) : Ev (fun n => vV n w x s) true := by
 unfold vV Az Bp
 refine Ev.bind (a := decide ((w.env.carriers.length : Int) ≤ 100) && decide ((w.env.names.length : Int) ≤ 100)) ?_ ?_
 ·cases decide ((w.env.carriers.length : Int) ≤ 100) <;> exact Ev.ret _
 cases (decide ((w.env.carriers.length : Int) ≤ 100) && decide ((w.env.names.length : Int) ≤ 100)) with
 | false => exact Ev.ret _
 | true =>
  refine Ev.bind (a := true) ?_ (Ev.ret _)
  refine Ev.bind (Yp w.env x.sizes x.v x.t hs) ?_
  refine Ev.bind (XD w.env x.sizes x.v x.t hx) ?_
  refine Ev.pos (beq_self_eq_true _) ?_
  refine Ev.bind (KT w hs) ?_
  refine Ev.bind (Jl w hw) ?_
  refine Ev.pos (beq_self_eq_true _) ?_
  refine Ev.bind (Lv w.env s hs) ?_
  refine Ev.bind (Ja w.env s) ?_
  refine Ev.pos (beq_self_eq_true _) ?_
  exact Ev.ret _
end Abs
end Go.Proofs.YtkopaeklihhdlaaGreat

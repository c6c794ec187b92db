/-
  TypeOf, Predicate and Expression; the laws TypingTypes and TypingSorts of plain data. Conditions: names are no longer than a string may be; lemmas without a program.
-/
import Derived.Test.YtiiaccpcoclklaaGreatCDgox2531f9
import Derived.Test.YtiiaccpcoclklaaGreatCP7oxa5bab1
set_option linter.unusedSimpArgs false
set_option linter.unusedVariables false
namespace Go.Proofs.YtiiaccpcoclklaaGreat
namespace Abs
open Go
def eX (env : Env) (t : Tm) : Ty × List Int × Int := cond (bJ env && cB t) (Jy (bF env [] t)) (bg, [], 1)
theorem SF : GoodS [] := fun _ h => by cases h
abbrev jd (env : Env) : Prop := ∀ d ∈ env.names, d.name.length ≤ 9223372036854775807
theorem fC (env : Env) (t : Tm) (hs : jd env) (ht : gu t) : Ev (fun n => eT n env t) (eX env t) := by
 unfold eT eX
 refine Ev.bind (a := !(bJ env && cB t)) ?_ ?_
 ·refine Ev.bind (lC env hs) ?_
  cases bJ env with
  | false => exact Ev.ret _
  | true => exact Ev.bind (Js t ht) (Ev.ret _)
 ·cases hb : (bJ env && cB t) with
  | false => exact Ev.ret _
  | true =>
   simp only [Bool.and_eq_true] at hb
   simp only [Bool.not_true, cond_false, cond_true]
   refine Ev.bind (ag2 hb.1) ?_
   refine Ev.bind (atg hb.1 t 1 [] [] (gM hb.2) SF (by simp)) ?_
   cases hr : bF env [] t with
   | er e p =>
    have he := H6 t [] e p hr
    have e0 : (e != 0) = true := by simpa using he
    have hp := Tf (gM hb.2) [] e p hr
    simp only [NA, Jy, e0, cond_true, slices_Clone_int, List.nil_append]
    rw [fD (by simp; omega) (by omega)]
    exact Ev.ret _
   | ok u =>
    simp only [NA, Jy, show ((0 : Int) != 0) = false from rfl, cond_false]
    exact Ev.bind (BJ u (aoC (E9 hb.1 SF hr))) (Ev.ret _)
def bM (op : Int) (ks : List Tm) : Tm := .mk op [] 0 bg ks
def Cx (m : Int) : Tm := .mk 19 [] m bg []
mutual
theorem akR : ∀ (t : Tm) (d c d' c' : Int), (mf t d c).1 = true → d' ≤ d → c' ≤ c → (mf t d' c').1 = true ∧ (mf t d' c').2 - c' = (mf t d c).2 - c
 | .mk op nm m ty ks, d, c, d', c', h, hd, hc => by
  simp only [mf] at h ⊢
  cases hb : ((decide (c + 1 ≤ 2000) && decide (d ≤ 64)) && fK (.mk op nm m ty ks)) with
  | false => rw [hb] at h; cases h
  | true =>
   rw [hb] at h
   simp only [Bool.and_eq_true, decide_eq_true_eq] at hb
   have e : ((decide (c' + 1 ≤ 2000) && decide (d' ≤ 64)) && fK (.mk op nm m ty ks)) = true := by
    rw [decide_eq_true (show c' + 1 ≤ 2000 by omega), decide_eq_true (show d' ≤ 64 by omega), hb.2]
    rfl
   rw [e]
   simp only [cond_true] at h ⊢
   have := ai8 ks (d + 1) (c + 1) (d' + 1) (c' + 1) h (by omega) (by omega)
   exact ⟨this.1, by omega⟩
theorem ai8 : ∀ (ts : List Tm) (d c d' c' : Int), (kS ts d c).1 = true → d' ≤ d → c' ≤ c → (kS ts d' c').1 = true ∧ (kS ts d' c').2 - c' = (kS ts d c).2 - c
 | [], _, _, _, _, _, _, _ => by simp only [kS]; exact ⟨trivial, by omega⟩
 | t :: ts, d, c, d', c', h, hd, hc => by
  simp only [kS] at h ⊢
  cases hb : (mf t d c).1 with
  | false => rw [hb] at h; cases h
  | true =>
   rw [hb] at h
   simp only [cond_true] at h ⊢
   have h1 := akR t d c d' c' hb hd hc
   rw [h1.1]
   simp only [cond_true]
   have h2 := ai8 ts d _ d' (mf t d' c').2 h hd (by omega)
   exact ⟨h2.1, by omega⟩
end
theorem Wf.valid {d : Int} {t : Tm} (h : Wf d t) (hd : 1 ≤ d) : cB t = true := by
 obtain ⟨c, h0, h⟩ := h
 exact (akR t d c 1 0 h hd h0).1
def without (env : Env) (s : Str) : Env := ⟨env.carriers, env.names.filter fun d => !(d.name == s)⟩
def Qo (sc : List Decl) : Prop := ∀ d ∈ sc, Good d.ty ∧ bR d.ty = true
theorem Qo.g {sc : List Decl} (h : Qo sc) : GoodS sc := fun d hd => (h d hd).1
section
variable {env : Env} {sc : List Decl}
end
end Abs
end Go.Proofs.YtiiaccpcoclklaaGreat
namespace Go.Proofs.YtiiaccpcoclklaaGreat
namespace Abs
open Go
end Abs
end Go.Proofs.YtiiaccpcoclklaaGreat
namespace Go.Proofs.YtiiaccpcoclklaaGreat
namespace Abs
open Go
mutual
def vg (x : Str) : Tm → Bool
 | .mk op nm _ _ ks => cond (op == 20) (nm == x) (QW x (bE op) nm 0 ks)
def QW (x : Str) : Bool → Str → Int → List Tm → Bool
 | _, _, _, [] => false
 | bd, nm, i, t :: ts => (!((bd && i == 1) && nm == x) && vg x t) || QW x bd nm (i + 1) ts
end
theorem Cw {op : Int} (hb : bE op = true) : (op == 20) = false ∧ (op == 29) = false := by
 simp only [bE, Bool.or_eq_true, beq_iff_eq] at hb
 rcases hb with rfl | rfl | rfl | rfl <;> exact ⟨rfl, rfl⟩
def ji (s : Str) : Tm := .mk 20 s 0 bg []
inductive SubT : (Str → Option Tm) → Tm → Tm → Prop where
 | rep {σ : Str → Option Tm} {nm : Str} {m : Int} {ty : Ty} {ks : List Tm} {u : Tm} (h : σ nm = some u) : SubT σ (.mk 20 nm m ty ks) u
 | keep {σ : Str → Option Tm} {nm : Str} {m : Int} {ty : Ty} {ks : List Tm} (h : σ nm = none) : SubT σ (.mk 20 nm m ty ks) (.mk 20 nm m ty ks)
 | node {σ : Str → Option Tm} {op : Int} {nm : Str} {m : Int} {ty : Ty} {ks : List Tm} (g : Tm → Tm) (h20 : (op == 20) = false) (hb : bE op = false) (h : ∀ k ∈ ks, SubT σ k (g k)) : SubT σ (.mk op nm m ty ks) (.mk op nm m ty (ks.map g))
 | bind {σ σ' : Str → Option Tm} {op : Int} {nm nm' : Str} {m : Int} {ty : Ty} {p q p' q' : Tm} (hb : bE op = true) (hp : SubT σ p p') (hq : SubT σ' q q') (hi : ident nm = true → ident nm' = true)
   (h1 : σ' nm = some (ji nm') ∨ (nm' = nm ∧ σ' nm = none)) (h2 : ∀ x, vg x q = true → x ≠ nm → σ' x = σ x ∧ match σ x with | some u => vg nm' u = false | none => x ≠ nm') : SubT σ (.mk op nm m ty [p, q]) (.mk op nm' m ty [p', q'])
end Abs
end Go.Proofs.YtiiaccpcoclklaaGreat
namespace Go.Proofs.YtiiaccpcoclklaaGreat
namespace Abs
open Go
mutual
def gV : Tm → Int
 | .mk _ _ _ _ ks => 1 + jJ ks
def jJ : List Tm → Int
 | [] => 0
 | t :: ts => gV t + jJ ts
end
mutual
def zk : Tm → Int
 | .mk _ _ _ _ ks => 1 + He ks
def He : List Tm → Int
 | [] => 0
 | t :: ts => max (zk t) (He ts)
end
mutual
def JH : Tm → Bool
 | .mk op nm m ty ks => fK (.mk op nm m ty ks) && Ih ks
def Ih : List Tm → Bool
 | [] => true
 | t :: ts => JH t && Ih ts
end
mutual
theorem yJ : ∀ t : Tm, 1 ≤ gV t ∧ 1 ≤ zk t
 | .mk _ _ _ _ ks => by have := BP ks; simp only [gV, zk]; omega
theorem BP : ∀ ts : List Tm, 0 ≤ jJ ts ∧ 0 ≤ He ts
 | [] => by simp [jJ, He]
 | t :: ts => by have := yJ t; have := BP ts; simp only [jJ, He]; omega
end
mutual
theorem TL : ∀ (t : Tm) (d c : Int), (mf t d c).1 = true → JH t = true ∧ (mf t d c).2 = c + gV t ∧ c + gV t ≤ 2000 ∧ d + zk t ≤ 65
 | .mk op nm m ty ks, d, c, h => by
  simp only [mf] at h ⊢
  cases hb : ((decide (c + 1 ≤ 2000) && decide (d ≤ 64)) && fK (.mk op nm m ty ks)) with
  | false => rw [hb] at h; cases h
  | true =>
   rw [hb] at h
   simp only [cond_true] at h ⊢
   obtain ⟨g1, g2, g3, g4⟩ := alp ks (d + 1) (c + 1) h
   simp only [Bool.and_eq_true, decide_eq_true_eq] at hb
   simp only [JH, gV, zk, Bool.and_eq_true]
   refine ⟨⟨hb.2, g1⟩, by omega, by omega, ?_⟩
   rcases g4 with g4 | rfl
   ·omega
   ·simp only [He]; omega
theorem alp : ∀ (ts : List Tm) (d c : Int), (kS ts d c).1 = true → Ih ts = true ∧ (kS ts d c).2 = c + jJ ts ∧ (c ≤ 2000 → c + jJ ts ≤ 2000) ∧ (d + He ts ≤ 65 ∨ ts = [])
 | [], d, c, _ => by simp [kS, jJ, Ih]
 | t :: ts, d, c, h => by
  simp only [kS] at h ⊢
  cases hb : (mf t d c).1 with
  | false => rw [hb] at h; cases h
  | true =>
   rw [hb] at h
   simp only [cond_true] at h ⊢
   obtain ⟨g1, g2, g3, g4⟩ := TL t d c hb
   obtain ⟨q1, q2, q3, q4⟩ := alp ts d _ h
   have := yJ t
   simp only [Ih, jJ, He, Bool.and_eq_true]
   refine ⟨⟨g1, q1⟩, by omega, fun _ => by omega, .inl ?_⟩
   rcases q4 with q4 | rfl
   ·omega
   ·simp only [He]; omega
end
end Abs
end Go.Proofs.YtiiaccpcoclklaaGreat
namespace Go.Proofs.YtiiaccpcoclklaaGreat
namespace Abs
open Go
def ix (s : Str) : List Str → Option Nat
 | [] => none
 | x :: l => cond (x == s) (some 0) ((ix s l).map (· + 1))
inductive Alk : List Str → List Str → Tm → Tm → Prop where
 | bnd {X Y : List Str} {nm nm' : Str} {m : Int} {ty : Ty} {ks : List Tm} {i : Nat} (h : ix nm X = some i) (h' : ix nm' Y = some i) (hn : named nm = named nm') : Alk X Y (.mk 20 nm m ty ks) (.mk 20 nm' m ty ks)
 | fre {X Y : List Str} {nm : Str} {m : Int} {ty : Ty} {ks : List Tm} (h : ix nm X = none) (h' : ix nm Y = none) : Alk X Y (.mk 20 nm m ty ks) (.mk 20 nm m ty ks)
 | node {X Y : List Str} {op : Int} {nm : Str} {m : Int} {ty : Ty} {ks ks' : List Tm} (h20 : (op == 20) = false) (hb : bE op = false) (hl : ks'.length = ks.length) (h : ∀ (i : Nat) a b, ks[i]? = some a → ks'[i]? = some b → Alk X Y a b) : Alk X Y (.mk op nm m ty ks) (.mk op nm m ty ks')
 | bind {X Y : List Str} {op : Int} {nm nm' : Str} {m : Int} {ty : Ty} {p q p' q' : Tm} (hb : bE op = true) (hi : ident nm = ident nm') (hp : Alk X Y p p') (hq : Alk (nm :: X) (nm' :: Y) q q') : Alk X Y (.mk op nm m ty [p, q]) (.mk op nm' m ty [p', q'])
theorem auw {t : Ty} (h : zP t = true) : t = bg := by
 obtain ⟨k, nm, ks⟩ := t
 simp only [zP, Ty.kind, Ty.name, Ty.kids, Bool.and_eq_true, beq_iff_eq] at h
 obtain ⟨rfl, rfl, h⟩ := h
 have : ks = [] := List.length_eq_zero_iff.1 (by omega)
 subst this
 rfl
theorem ah8 {nm : Str} {m : Int} {ty : Ty} {ks : List Tm} (h : fK (.mk 20 nm m ty ks) = true) : Tm.mk 20 nm m ty ks = ji nm ∧ named nm = true := by
 have hk := (jO h).2.1 rfl
 subst hk
 simp only [fK, qH, Df, Rw, Tm.op, Tm.name, Tm.n, Tm.ty, show ((20 : Int) == 20) = true from rfl, show ((20 : Int) == 19) = false from rfl, show ((20 : Int) == 29) = false from rfl, cond_true, cond_false, Bool.and_eq_true, beq_iff_eq] at h
 obtain ⟨_, h1, rfl, h3⟩ := h
 rw [auw h3]
 exact ⟨rfl, h1⟩
section
variable {X Y : List Str}
theorem Alk.op {a b : Tm} (h : Alk X Y a b) : b.op = a.op := by cases h <;> rfl
def Fb (X Y : List Str) (ks ks' : List Tm) : Prop := ks'.length = ks.length ∧ ∀ (i : Nat) a b, ks[i]? = some a → ks'[i]? = some b → Alk X Y a b
theorem Fb.nil : Fb X Y [] [] := ⟨rfl, fun i a b h => by simp at h⟩
theorem Fb.cons {a b : Tm} {l l' : List Tm} (h : Alk X Y a b) (hl : Fb X Y l l') : Fb X Y (a :: l) (b :: l') := ⟨by simp [hl.1], fun i x y h1 h2 => by
 cases i with
 | zero => simp at h1 h2; subst h1 h2; exact h
 | succ i => exact hl.2 i x y (by simpa using h1) (by simpa using h2)⟩
theorem Fb.inv {a : Tm} {l l' : List Tm} (h : Fb X Y (a :: l) l') : ∃ b m, l' = b :: m ∧ Alk X Y a b ∧ Fb X Y l m := by
 obtain ⟨h1, h2⟩ := h
 cases l' with
 | nil => simp at h1
 | cons b m => exact ⟨b, m, rfl, h2 0 a b rfl rfl, by simpa using h1, fun i x y q1 q2 => h2 (i + 1) x y (by simpa using q1) (by simpa using q2)⟩
end
end Abs
end Go.Proofs.YtiiaccpcoclklaaGreat
namespace Go.Proofs.YtiiaccpcoclklaaGreat
namespace Abs
open Go
def dec (n : Nat) : Str := if n < 10 then [UInt8.ofNat (48 + n)] else dec (n / 10) ++ [UInt8.ofNat (48 + n % 10)]
theorem dec_lt {n : Nat} (h : n < 10) : dec n = [UInt8.ofNat (48 + n)] := by unfold dec; rw [if_pos h]
theorem EC {n : Nat} (h : ¬n < 10) : dec n = dec (n / 10) ++ [UInt8.ofNat (48 + n % 10)] := by
 conv => lhs; unfold dec
 rw [if_neg h]
theorem Ja : ∀ (m n : Nat), n < 10 ^ (m + 1) → (dec n).length ≤ m + 1
 | 0, n, h => by rw [dec_lt (by simpa using h)]; simp
 | m + 1, n, h => by
  by_cases hn : n < 10
  ·rw [dec_lt hn]; simp
  ·rw [EC hn]
   have := Ja m (n / 10) (by rw [Nat.pow_succ] at h; omega)
   simp; omega
theorem KA : ∀ (m n : Nat), 10 ^ m ≤ n → m + 1 ≤ (dec n).length
 | 0, n, h => by
  by_cases hn : n < 10
  ·rw [dec_lt hn]; simp
  ·rw [EC hn]; simp
 | m + 1, n, h => by
  have h10 : 10 ≤ 10 ^ (m + 1) := by rw [Nat.pow_succ]; have := Nat.pow_pos (n := m) (show 0 < 10 by omega); omega
  rw [EC (by omega)]
  have := KA m (n / 10) (by rw [Nat.pow_succ] at h; omega)
  simp; omega
theorem Kc (n : Nat) : ∀ c ∈ dec n, sZ (c.toNat : Int) = true := by
 induction n using Nat.strongRecOn with
 | ind n ih =>
  intro c hc
  have key : ∀ d : Nat, d < 10 → sZ ((UInt8.ofNat (48 + d)).toNat : Int) = true := by
   intro d hd
   simp only [UInt8.toNat_ofNat', sZ]
   simp
   omega
  by_cases hn : n < 10
  ·rw [dec_lt hn] at hc
   simp only [List.mem_singleton] at hc
   subst hc
   exact key n hn
  ·rw [EC hn] at hc
   rcases List.mem_append.1 hc with hc | hc
   ·exact ih (n / 10) (by omega) c hc
   ·simp only [List.mem_singleton] at hc
    subst hc
    exact key _ (Nat.mod_lt n (by omega))
theorem YW {d : Int} (h0 : 0 ≤ d) (h1 : d < 10) : List.map toByte [IntKind.wrap .u8 (IntKind.wrap .i64 (48 + d))] = [UInt8.ofNat (48 + d.toNat)] := by
 have : d = 0 ∨ d = 1 ∨ d = 2 ∨ d = 3 ∨ d = 4 ∨ d = 5 ∨ d = 6 ∨ d = 7 ∨ d = 8 ∨ d = 9 := by omega
 rcases this with rfl | rfl | rfl | rfl | rfl | rfl | rfl | rfl | rfl | rfl <;> rfl
theorem DL {a b : Str} (h : a.length + b.length ≤ 1000000) : dS a b = some (a ++ b) := by
 unfold dS
 rw [if_pos (by omega)]
theorem ac4 (k : Nat) : k ≤ 1000000 → Ev (fun n => kI n (k : Int)) (dec k) := by
 induction k using Nat.strongRecOn with
 | ind k ih =>
  intro hk
  refine Ev.succ ?_
  show Ev (fun n => rE n (fun p0 => kI n p0) (k : Int)) _
  unfold rE
  rw [show ((k : Int) == -9223372036854775808) = false by apply beq_false_of_ne; omega, decide_eq_false (show ¬(k : Int) < 0 by omega)]
  simp only [cond_false]
  by_cases h : k < 10
  ·rw [decide_eq_true (show (k : Int) < 10 by omega), dec_lt h]
   simp only [cond_true]
   rw [YW (by omega) (by omega)]
   exact Ev.ret _
  ·rw [decide_eq_false (show ¬(k : Int) < 10 by omega), EC h]
   simp only [cond_false]
   have e1 : Int.tdiv (k : Int) 10 = ((k / 10 : Nat) : Int) := by
    rw [Int.tdiv_eq_ediv_of_nonneg (by omega)]; omega
   have e2 : Int.tmod (k : Int) 10 = ((k % 10 : Nat) : Int) := by
    rw [Int.tmod_eq_emod_of_nonneg (by omega)]; omega
   rw [e1, e2, wrap64 (by omega) (by omega)]
   refine Ev.bind (ih (k / 10) (by omega) (by omega)) ?_
   rw [YW (by omega) (by omega)]
   have := Ja 6 (k / 10) (by omega)
   rw [DL (by simp; omega)]
   simp only [Int.toNat_natCast]
   exact Ev.ret _
end Abs
end Go.Proofs.YtiiaccpcoclklaaGreat
namespace Go.Proofs.YtiiaccpcoclklaaGreat
namespace Abs
open Go
theorem Un (k : Nat) : dec k ≠ [] := by
 intro h
 have := KA 0 k
 by_cases hk : k < 10
 ·rw [dec_lt hk] at h; cases h
 ·have := KA 1 k (by omega)
  rw [h] at this
  simp at this
theorem vo {nm : Str} (hi : ident nm = true) : Ev (fun n => nW n nm) false := by
 unfold nW
 refine Ev.bind (a := false) ?_ (Ev.ret _)
 cases h1 : decide (1 < (nm.length : Int)) with
 | false => exact Ev.ret _
 | true =>
  simp only [cond_true]
  simp only [decide_eq_true_eq] at h1
  obtain ⟨t, c, rfl⟩ : ∃ t c, nm = t ++ [c] := by
   rcases List.eq_nil_or_concat nm with rfl | ⟨t, c, rfl⟩
   ·simp at h1
   ·exact ⟨t, c, by simp⟩
  have h2 : jl (t ++ [c]) (((t ++ [c] : Str).length : Int) - 1) = some (c.toNat : Int) := by
   rw [show (((t ++ [c] : Str).length : Int) - 1) = (t.length : Int) by simp, Cu, show (t ++ [c] : Str) = t ++ c :: [] from rfl, BA]; rfl
  rw [h2]
  simp only [Option.bind_some]
  have hw := lV hi c (by simp)
  have : ((c.toNat : Int) == 39) = false := by
   apply beq_false_of_ne
   intro e
   rw [e] at hw
   cases hw
  rw [this]
  exact Ev.ret _
end Abs
end Go.Proofs.YtiiaccpcoclklaaGreat
namespace Go.Proofs.YtiiaccpcoclklaaGreat
namespace Abs
open Go
theorem pick {P : Tm → Tm → Prop} {ks : List Tm} (h : ∀ k ∈ ks, ∃ k', P k k') : ∃ g : Tm → Tm, ∀ k ∈ ks, P k (g k) := by
 classical
 exact ⟨fun k => if hk : k ∈ ks then Classical.choose (h k hk) else k, fun k hk => by
  simp only [hk, dif_pos]
  exact Classical.choose_spec (h k hk)⟩
end Abs
end Go.Proofs.YtiiaccpcoclklaaGreat
namespace Go.Proofs.YtiiaccpcoclklaaGreat
namespace Abs
open Go
theorem FI {s : Str} (h : ident s = true) : s.length ≤ 16 := by
 cases s with
 | nil => cases h
 | cons c cs => simp only [ident, Bool.and_eq_true, decide_eq_true_eq] at h; simp; omega
theorem agh {s : Str} (h : named s = true) : s.length ≤ 17 := by
 have := FI h
 unfold F3 at this
 split at this
 ·rw [List.length_dropLast] at this; omega
 ·omega
end Abs
end Go.Proofs.YtiiaccpcoclklaaGreat
namespace Go.Proofs.YtiiaccpcoclklaaGreat
namespace Abs
open Go
def Cq (c : UInt8) : Bool := qW (c.toNat : Int)
def Sep (b : Str) : Prop := b = [] ∨ ∃ c r, b = c :: r ∧ Cq c = false ∧ c ≠ 39
def blank (c : UInt8) : Bool := c == 32 || (c == 9 || c == 10)
theorem tL (a : Str) (c : UInt8) (r : Str) : jl (a ++ c :: r) (a.length : Int) = some (c.toNat : Int) := by rw [Cu, BA]; rfl
theorem Fp (a w b : Str) : iX (a ++ (w ++ b)) (a.length : Int) ((a.length : Int) + (w.length : Int)) = some w := by
 unfold iX
 rw [if_pos ⟨by omega, by omega, by simp; omega⟩]
 simp only [Int.toNat_natCast, List.drop_left]
 rw [show ((a.length : Int) + (w.length : Int)).toNat - a.length = w.length by omega, List.take_left]
theorem Kj (c : UInt8) (k : Nat) (hk : k < 256) : ((c.toNat : Int) == (k : Int)) = (c == UInt8.ofNat k) := by
 rw [Bool.eq_iff_iff]
 simp only [beq_iff_eq]
 constructor
 ·intro h
  apply UInt8.toNat_inj.1
  rw [UInt8.toNat_ofNat']
  omega
 ·intro h
  subst h
  rw [UInt8.toNat_ofNat']
  omega
theorem Mh {a sp : Str} {c : UInt8} {r : Str} (hsp : sp = [] ∨ sp = [32]) (hc : blank c = false) (hl : (a ++ (sp ++ c :: r)).length ≤ 1000000000) : Ev (fun n => rZ n (a ++ (sp ++ c :: r)) n (a.length : Int)) (.nx ((a.length : Int) + (sp.length : Int))) := by
 have stop : ∀ (p : Str) (n k : Nat), rZ n (p ++ c :: r) (k + 1) (p.length : Int) = some (.nx (p.length : Int)) := by
  intro p n k
  show (((cond (decide ((p.length : Int) < ((p ++ c :: r).length : Int))) _ _) : Option Bool).bind _) = _
  rw [decide_eq_true (by simp; omega), tL]
  simp only [cond_true, Option.bind_some]
  simp only [blank, Bool.or_eq_false_iff] at hc
  rw [show ((c.toNat : Int) == 32) = (c == 32) from Kj c 32 (by omega), show ((c.toNat : Int) == 9) = (c == 9) from Kj c 9 (by omega), show ((c.toNat : Int) == 10) = (c == 10) from Kj c 10 (by omega), hc.1, hc.2.1, hc.2.2]
  rfl
 rcases hsp with rfl | rfl
 ·refine ⟨1, fun n hn => ?_⟩
  obtain ⟨k, rfl⟩ : ∃ k, n = k + 1 := ⟨n - 1, by omega⟩
  simpa using stop a (k + 1) k
 ·refine ⟨2, fun n hn => ?_⟩
  obtain ⟨k, rfl⟩ : ∃ k, n = k + 2 := ⟨n - 2, by omega⟩
  show (((cond (decide ((a.length : Int) < ((a ++ ([32] ++ c :: r)).length : Int))) _ _) : Option Bool).bind _) = _
  rw [decide_eq_true (by simp; omega), show a ++ ([32] ++ c :: r) = a ++ (32 :: c :: r) from rfl, tL]
  simp only [cond_true, Option.bind_some, show (((32 : UInt8).toNat : Int) == 32) = true from rfl]
  simp only [List.length_append, List.length_cons, List.length_nil] at hl
  rw [wrap64 (by omega) (by omega)]
  have := stop (a ++ [32]) (k + 2) k
  simp only [List.append_assoc, List.length_append, List.length_singleton, Int.natCast_add, Int.natCast_one, List.singleton_append] at this
  exact this
theorem agR {a sp : Str} (hsp : sp = [] ∨ sp = [32]) (hl : (a ++ sp).length ≤ 1000000000) : Ev (fun n => rZ n (a ++ sp) n (a.length : Int)) (.nx ((a.length : Int) + (sp.length : Int))) := by
 have stop : ∀ (p : Str) (n k : Nat), rZ n p (k + 1) (p.length : Int) = some (.nx (p.length : Int)) := by
  intro p n k
  show (((cond (decide ((p.length : Int) < (p.length : Int))) _ _) : Option Bool).bind _) = _
  rw [decide_eq_false (by omega)]
  rfl
 rcases hsp with rfl | rfl
 ·refine ⟨1, fun n hn => ?_⟩
  obtain ⟨k, rfl⟩ : ∃ k, n = k + 1 := ⟨n - 1, by omega⟩
  simpa using stop a (k + 1) k
 ·refine ⟨2, fun n hn => ?_⟩
  obtain ⟨k, rfl⟩ : ∃ k, n = k + 2 := ⟨n - 2, by omega⟩
  show (((cond (decide ((a.length : Int) < ((a ++ [32]).length : Int))) _ _) : Option Bool).bind _) = _
  rw [decide_eq_true (by simp; omega), tL]
  simp only [cond_true, Option.bind_some, show (((32 : UInt8).toNat : Int) == 32) = true from rfl]
  simp only [List.length_append, List.length_singleton] at hl
  rw [wrap64 (by omega) (by omega)]
  have := stop (a ++ [32]) (k + 2) k
  simp only [List.length_append, List.length_singleton, Int.natCast_add, Int.natCast_one] at this
  simpa using this
theorem abO (n : Nat) (c : Int) : O9 n c = some (qW c) := by
 unfold O9 qW
 simp only [wZ, yT, Option.bind_some]
 cases Ac c <;> cases sZ c <;> rfl
theorem OZ (b : Str) (hb : b = [] ∨ ∃ c r, b = c :: r ∧ Cq c = false) : ∀ (w p : Str) (n k : Nat), (∀ c ∈ w, Cq c = true) → w.length < k → (p ++ (w ++ b)).length ≤ 1000000000 → xX n (p ++ (w ++ b)) k (p.length : Int) = some (.nx ((p.length : Int) + (w.length : Int)))
 | [], p, n, k, _, hk, hl => by
  obtain ⟨k, rfl⟩ : ∃ j, k = j + 1 := ⟨k - 1, by simp at hk; omega⟩
  rcases hb with rfl | ⟨c, r, rfl, hc⟩
  ·show (((cond (decide ((p.length : Int) < ((p ++ ([] ++ [])).length : Int))) _ _) : Option Bool).bind _) = _
   rw [decide_eq_false (by simp)]
   simp
  ·show (((cond (decide ((p.length : Int) < ((p ++ ([] ++ c :: r)).length : Int))) _ _) : Option Bool).bind _) = _
   rw [decide_eq_true (by simp; omega), List.nil_append, tL]
   simp only [cond_true, Option.bind_some, abO]
   rw [show qW (c.toNat : Int) = false from hc]
   simp
 | x :: w, p, n, k, hw, hk, hl => by
  obtain ⟨k, rfl⟩ : ∃ j, k = j + 1 := ⟨k - 1, by simp at hk; omega⟩
  have ih := OZ b hb w (p ++ [x]) n k (fun c hc => hw c (by simp [hc])) (by simp at hk; omega) (by simpa using hl)
  show (((cond (decide ((p.length : Int) < ((p ++ (x :: w ++ b)).length : Int))) _ _) : Option Bool).bind _) = _
  rw [decide_eq_true (by simp; omega), List.cons_append, tL]
  simp only [cond_true, Option.bind_some, abO]
  rw [show qW (x.toNat : Int) = true from hw x (by simp)]
  simp only [cond_true]
  simp only [List.length_append, List.length_cons] at hl
  rw [wrap64 (by omega) (by omega)]
  simp only [List.append_assoc, List.length_append, List.length_singleton, Int.natCast_add, Int.natCast_one, List.singleton_append] at ih
  rw [ih]
  simp; omega
structure Word (w : Str) : Prop where
 head : ∃ c cs, w = c :: cs ∧ Ac (c.toNat : Int) = true
 all : ∀ c ∈ w, Cq c = true
 len : w.length ≤ 16
theorem iZ {w : Str} (h : ident w = true) : Word w := by
 have hw := lV h
 have hl := FI h
 cases w with
 | nil => cases h
 | cons c cs =>
  simp only [ident, Bool.and_eq_true] at h
  exact ⟨⟨c, cs, rfl, h.2.1⟩, hw, hl⟩
theorem aam {c : UInt8} (h : Ac (c.toNat : Int) = true) : blank c = false ∧ sZ (c.toNat : Int) = false := by
 simp only [Ac, Bool.or_eq_true, Bool.and_eq_true, decide_eq_true_eq] at h
 refine ⟨?_, ?_⟩
 ·simp only [blank, Bool.or_eq_false_iff, beq_eq_false_iff_ne]
  refine ⟨?_, ?_, ?_⟩ <;> (rintro rfl; revert h; decide)
 ·simp only [sZ, Bool.and_eq_false_iff, decide_eq_false_iff_not]
  omega
theorem aqj {a sp w b : Str} (hsp : sp = [] ∨ sp = [32]) (hw : Word w) (hb : Sep b) (hl : (a ++ (sp ++ (w ++ b))).length ≤ 1000000000) : Ev (fun n => vV n (a ++ (sp ++ (w ++ b))) (a.length : Int)) ⟨cond (zf w) 2 1, w, (a.length : Int) + (sp.length : Int)⟩ := by
 obtain ⟨⟨c, cs, hcw, hc⟩, hall, hlen⟩ := hw
 obtain ⟨hcb, hcd⟩ := aam hc
 have hs : a ++ (sp ++ (w ++ b)) = a ++ (sp ++ c :: (cs ++ b)) := by rw [hcw]; rfl
 have hs2 : a ++ (sp ++ (w ++ b)) = (a ++ sp) ++ (w ++ b) := by simp
 have hs3 : a ++ (sp ++ (w ++ b)) = (a ++ sp) ++ c :: (cs ++ b) := by rw [hcw]; simp
 have hp : ((a ++ sp).length : Int) = (a.length : Int) + (sp.length : Int) := by simp
 have e1 : Ev (fun n => rZ n (a ++ (sp ++ (w ++ b))) n (a.length : Int)) (.nx ((a.length : Int) + (sp.length : Int))) := by
  rw [hs] at hl ⊢
  exact Mh hsp hcb hl
 have hb' : b = [] ∨ ∃ c r, b = c :: r ∧ Cq c = false := hb.elim .inl fun ⟨c, r, h1, h2, _⟩ => .inr ⟨c, r, h1, h2⟩
 have e0 : Ev (fun n => xX n (a ++ (sp ++ (w ++ b))) n ((a.length : Int) + (sp.length : Int))) (.nx ((a.length : Int) + (sp.length : Int) + (w.length : Int))) := ⟨w.length + 1, fun n hn => by
  have := OZ b hb' w (a ++ sp) n n hall (by omega) (by rw [← hs2]; exact hl)
  rw [hp] at this
  rw [hs2]
  exact this⟩
 have ec : iX (a ++ (sp ++ (w ++ b))) ((a.length : Int) + (sp.length : Int)) ((a.length : Int) + (sp.length : Int) + (w.length : Int)) = some w := by
  rw [hs2, ← hp]
  exact Fp (a ++ sp) w b
 have ei : jl (a ++ (sp ++ (w ++ b))) ((a.length : Int) + (sp.length : Int)) = some (c.toNat : Int) := by
  rw [hs3, ← hp]
  exact tL _ _ _
 have hq : ∀ x : UInt8, ∀ r, b = x :: r → jl (a ++ (sp ++ (w ++ b))) ((a.length : Int) + (sp.length : Int) + (w.length : Int)) = some (x.toNat : Int) := fun x r h => by
  rw [h, show a ++ (sp ++ (w ++ x :: r)) = (a ++ sp ++ w) ++ x :: r by simp, show (a.length : Int) + (sp.length : Int) + (w.length : Int) = ((a ++ sp ++ w).length : Int) by simp; omega]
  exact tL _ _ _
 have hlt : (((a.length : Int) + (sp.length : Int)) == ((a ++ (sp ++ (w ++ b))).length : Int)) = false := by
  apply beq_false_of_ne
  rw [hcw]; simp; omega
 unfold vV
 refine Ev.bind e1 ?_
 simp only [LR.el, hlt, cond_false]
 refine Ev.bind e0 ?_
 simp only [LR.el, ec, Option.bind_some, ei, wZ, hc, cond_true]
 refine Ev.bind (a := zf w) (Ev.bind (Jl w) (Ev.ret _)) ?_
 cases zf w with
 | true => exact Ev.ret _
 | false =>
  simp only [cond_false]
  rw [decide_eq_false (by omega)]
  simp only [cond_false]
  refine Ev.bind (a := w) ?_ (Ev.ret _)
  refine Ev.bind (a := false) ?_ (Ev.ret _)
  rcases hb with rfl | ⟨x, r, h1, h2, h3⟩
  ·rw [decide_eq_false (by simp; omega)]
   exact Ev.ret _
  ·rw [decide_eq_true (by rw [h1]; simp; omega), hq x r h1]
   simp only [cond_true, Option.bind_some]
   rw [show ((x.toNat : Int) == 39) = (x == 39) from Kj x 39 (by omega), show (x == 39) = false by simpa using h3]
   exact Ev.ret _
end Abs
end Go.Proofs.YtiiaccpcoclklaaGreat
namespace Go.Proofs.YtiiaccpcoclklaaGreat
namespace Abs
open Go
theorem anQ {a sp w b : Str} (hsp : sp = [] ∨ sp = [32]) (hw : Word w) (hk : zf w = false) (hl : (a ++ (sp ++ ((w ++ [39]) ++ b))).length ≤ 1000000000) : Ev (fun n => vV n (a ++ (sp ++ ((w ++ [39]) ++ b))) (a.length : Int)) ⟨1, w ++ [39], (a.length : Int) + (sp.length : Int)⟩ := by
 obtain ⟨⟨c, cs, hcw, hc⟩, hall, hlen⟩ := hw
 obtain ⟨hcb, hcd⟩ := aam hc
 have hsA : a ++ (sp ++ ((w ++ [39]) ++ b)) = a ++ (sp ++ (w ++ 39 :: b)) := by simp
 rw [hsA] at hl ⊢
 have hs : a ++ (sp ++ (w ++ 39 :: b)) = a ++ (sp ++ c :: (cs ++ 39 :: b)) := by rw [hcw]; rfl
 have hs2 : a ++ (sp ++ (w ++ 39 :: b)) = (a ++ sp) ++ (w ++ 39 :: b) := by simp
 have hs3 : a ++ (sp ++ (w ++ 39 :: b)) = (a ++ sp) ++ c :: (cs ++ 39 :: b) := by rw [hcw]; simp
 have hs4 : a ++ (sp ++ (w ++ 39 :: b)) = (a ++ sp) ++ ((w ++ [39]) ++ b) := by simp
 have hp : ((a ++ sp).length : Int) = (a.length : Int) + (sp.length : Int) := by simp
 have e1 : Ev (fun n => rZ n (a ++ (sp ++ (w ++ 39 :: b))) n (a.length : Int)) (.nx ((a.length : Int) + (sp.length : Int))) := by
  rw [hs] at hl ⊢
  exact Mh hsp hcb hl
 have e0 : Ev (fun n => xX n (a ++ (sp ++ (w ++ 39 :: b))) n ((a.length : Int) + (sp.length : Int))) (.nx ((a.length : Int) + (sp.length : Int) + (w.length : Int))) := ⟨w.length + 1, fun n hn => by
  have := OZ (39 :: b) (.inr ⟨39, b, rfl, rfl⟩) w (a ++ sp) n n hall (by omega) (by rw [← hs2]; exact hl)
  rw [hp] at this
  rw [hs2]
  exact this⟩
 have ec : iX (a ++ (sp ++ (w ++ 39 :: b))) ((a.length : Int) + (sp.length : Int)) ((a.length : Int) + (sp.length : Int) + (w.length : Int)) = some w := by
  rw [hs2, ← hp]
  exact Fp (a ++ sp) w (39 :: b)
 have ec2 : iX (a ++ (sp ++ (w ++ 39 :: b))) ((a.length : Int) + (sp.length : Int)) ((a.length : Int) + (sp.length : Int) + (w.length : Int) + 1) = some (w ++ [39]) := by
  have := Fp (a ++ sp) (w ++ [39]) b
  rw [← hs4, hp] at this
  simpa [Int.add_assoc] using this
 have ei : jl (a ++ (sp ++ (w ++ 39 :: b))) ((a.length : Int) + (sp.length : Int)) = some (c.toNat : Int) := by
  rw [hs3, ← hp]
  exact tL _ _ _
 have hq : jl (a ++ (sp ++ (w ++ 39 :: b))) ((a.length : Int) + (sp.length : Int) + (w.length : Int)) = some 39 := by
  rw [show a ++ (sp ++ (w ++ 39 :: b)) = (a ++ sp ++ w) ++ 39 :: b by simp, show (a.length : Int) + (sp.length : Int) + (w.length : Int) = ((a ++ sp ++ w).length : Int) by simp; omega]
  exact tL _ _ _
 have hlt : (((a.length : Int) + (sp.length : Int)) == ((a ++ (sp ++ (w ++ 39 :: b))).length : Int)) = false := by
  apply beq_false_of_ne
  simp; omega
 unfold vV
 refine Ev.bind e1 ?_
 simp only [LR.el, hlt, cond_false]
 refine Ev.bind e0 ?_
 simp only [LR.el, ec, Option.bind_some, ei, wZ, hc, cond_true]
 refine Ev.bind (a := zf w) (Ev.bind (Jl w) (Ev.ret _)) ?_
 rw [hk]
 simp only [cond_false]
 rw [decide_eq_false (by omega)]
 simp only [cond_false]
 refine Ev.bind (a := w ++ [39]) ?_ (Ev.ret _)
 refine Ev.bind (a := true) ?_ ?_
 ·rw [decide_eq_true (by simp; omega), hq]
  exact Ev.ret _
 ·simp only [cond_true]
  simp only [List.length_append, List.length_cons] at hl
  rw [wrap64 (by omega) (by omega), ec2]
  exact Ev.ret _
def ae5 : Str → Int → Int
 | [], n => n
 | c :: cs, n => ae5 cs (10 * n + ((c.toNat : Int) - 48))
theorem agm (c : UInt8) : ∀ (l : Str) (n : Int), ae5 (l ++ [c]) n = 10 * ae5 l n + ((c.toNat : Int) - 48)
 | [], n => rfl
 | d :: l, n => agm c l _
theorem arn (n : Nat) : ae5 (dec n) 0 = (n : Int) := by
 induction n using Nat.strongRecOn with
 | ind n ih =>
  have key : ∀ d : Nat, d < 10 → ((UInt8.ofNat (48 + d)).toNat : Int) - 48 = (d : Int) := fun d hd => by
   rw [UInt8.toNat_ofNat']; omega
  by_cases h : n < 10
  ·rw [dec_lt h]
   simp only [ae5, key n h]
   omega
  ·rw [EC h, agm, ih (n / 10) (by omega), key _ (Nat.mod_lt n (by omega))]
   omega
theorem ark (n : Nat) (h1 : 1 ≤ n) : ∃ c cs, dec n = c :: cs ∧ c ≠ 48 := by
 induction n using Nat.strongRecOn with
 | ind n ih =>
  by_cases h : n < 10
  ·rw [dec_lt h]
   refine ⟨_, [], rfl, fun e => ?_⟩
   have := congrArg UInt8.toNat e
   rw [UInt8.toNat_ofNat'] at this
   simp at this
   omega
  ·obtain ⟨c, cs, e, hc⟩ := ih (n / 10) (by omega) (by omega)
   rw [EC h, e]
   exact ⟨c, _, rfl, hc⟩
theorem as4 {c : UInt8} (h : sZ (c.toNat : Int) = true) : IntKind.wrap .u8 ((c.toNat : Int) - 48) = (c.toNat : Int) - 48 ∧ 0 ≤ (c.toNat : Int) - 48 ∧ (c.toNat : Int) - 48 ≤ 9 := by
 simp only [sZ, Bool.and_eq_true, decide_eq_true_eq] at h
 refine ⟨?_, by omega, by omega⟩
 simp only [IntKind.wrap, IntKind.signed, IntKind.bits]
 simp
 omega
theorem aaZ : ∀ (l p : Str) (v : Int) (n k : Nat), (∀ c ∈ l, sZ (c.toNat : Int) = true) → l.length < k → 0 ≤ v → v < 10 ^ p.length → p.length + l.length ≤ 10 → zC n (p ++ l) k (v, (p.length : Int)) = some (.nx (ae5 l v))
 | [], p, v, n, k, _, hk, _, _, _ => by
  obtain ⟨k, rfl⟩ : ∃ j, k = j + 1 := ⟨k - 1, by simp at hk; omega⟩
  show cond (decide ((p.length : Int) < ((p ++ []).length : Int))) _ _ = _
  rw [decide_eq_false (by simp)]
  rfl
 | c :: l, p, v, n, k, hd, hk, h0, h1, hl => by
  obtain ⟨k, rfl⟩ : ∃ j, k = j + 1 := ⟨k - 1, by simp at hk; omega⟩
  have hc := hd c (by simp)
  obtain ⟨e, d0, d9⟩ := as4 hc
  have hpow : (10 : Int) ^ p.length ≤ 10 ^ 9 := by
   have : p.length ≤ 9 := by simp at hl; omega
   exact_mod_cast Nat.pow_le_pow_right (by omega) this
  show cond (decide ((p.length : Int) < ((p ++ c :: l).length : Int))) _ _ = _
  rw [decide_eq_true (by simp; omega), tL]
  simp only [cond_true, Option.bind_some, yT, hc, Bool.not_true, cond_false, e]
  rw [wrap64 (n := 10 * v) (by omega) (by omega), wrap64 (n := (c.toNat : Int) - 48) (by omega) (by omega), wrap64 (by omega) (by omega)]
  have := aaZ l (p ++ [c]) (10 * v + ((c.toNat : Int) - 48)) n k (fun x hx => hd x (by simp [hx])) (by simp at hk; omega) (by omega) (by
   rw [List.length_append, List.length_singleton, Int.pow_succ]
   omega) (by simp at hl ⊢; omega)
  simp only [List.append_assoc, List.singleton_append, List.length_append, List.length_singleton, Int.natCast_add, Int.natCast_one] at this
  rw [this]
  rfl
theorem agd (m : Nat) (hm : m ≤ 1000000000) : Ev (fun n => FE n (dec m)) (m : Int) := by
 have hup := Ja 9 m (by omega)
 unfold FE
 refine Ev.bind (a := false) ?_ ?_
 ·rw [decide_eq_false (by omega)]
  simp only [cond_false]
  by_cases h : m < 10
  ·rw [dec_lt h]
   exact Ev.ret _
  ·obtain ⟨c, cs, e, hc⟩ := ark m (by omega)
   have hlo := KA 1 m (by omega)
   rw [decide_eq_true (by omega), e]
   simp only [cond_true]
   have : jl (c :: cs) 0 = some (c.toNat : Int) := tL [] c cs
   rw [this]
   simp only [Option.bind_some]
   rw [show ((c.toNat : Int) == 48) = (c == 48) from Kj c 48 (by omega), show (c == 48) = false by simpa using hc]
   exact Ev.ret _
 ·simp only [cond_false]
  have hL : Ev (fun n => zC n (dec m) n (0, 0)) (.nx (m : Int)) := ⟨(dec m).length + 1, fun n hn => by
   have := aaZ (dec m) [] 0 n n (Kc m) (by omega) (by omega) (by simp) (by simp; omega)
   rw [arn] at this
   simpa using this⟩
  refine Ev.bind hL ?_
  simp only [LR.el]
  rw [decide_eq_false (by omega)]
  exact Ev.ret _
theorem QI {c : UInt8} (h : sZ (c.toNat : Int) = true) : Cq c = true ∧ Ac (c.toNat : Int) = false ∧ blank c = false := by
 simp only [sZ, Bool.and_eq_true, decide_eq_true_eq] at h
 refine ⟨by simp [Cq, qW, sZ, h.1, h.2], ?_, ?_⟩
 ·simp only [Ac, Bool.or_eq_false_iff, Bool.and_eq_false_iff, decide_eq_false_iff_not]
  omega
 ·simp only [blank, Bool.or_eq_false_iff, beq_eq_false_iff_ne]
  refine ⟨?_, ?_, ?_⟩ <;> (rintro rfl; revert h; decide)
theorem asc {a sp b : Str} (hsp : sp = [] ∨ sp = [32]) (m : Nat) (hm : m ≤ 1000000000) (hb : Sep b) (hl : (a ++ (sp ++ (dec m ++ b))).length ≤ 1000000000) : Ev (fun n => vV n (a ++ (sp ++ (dec m ++ b))) (a.length : Int)) ⟨3, dec m, (a.length : Int) + (sp.length : Int)⟩ := by
 obtain ⟨c, cs, hcw⟩ : ∃ c cs, dec m = c :: cs := by
  cases h : dec m with
  | nil => exact absurd h (Un m)
  | cons c cs => exact ⟨c, cs, rfl⟩
 have hdig := Kc m
 have hc : sZ (c.toNat : Int) = true := hdig c (by rw [hcw]; simp)
 obtain ⟨_, hcl, hcb⟩ := QI hc
 have hall : ∀ x ∈ dec m, Cq x = true := fun x hx => (QI (hdig x hx)).1
 have ham := agd m hm
 generalize dec m = w at hcw hall hl ham ⊢
 have hs : a ++ (sp ++ (w ++ b)) = a ++ (sp ++ c :: (cs ++ b)) := by rw [hcw]; rfl
 have hs2 : a ++ (sp ++ (w ++ b)) = (a ++ sp) ++ (w ++ b) := by simp
 have hs3 : a ++ (sp ++ (w ++ b)) = (a ++ sp) ++ c :: (cs ++ b) := by rw [hcw]; simp
 have hp : ((a ++ sp).length : Int) = (a.length : Int) + (sp.length : Int) := by simp
 have e1 : Ev (fun n => rZ n (a ++ (sp ++ (w ++ b))) n (a.length : Int)) (.nx ((a.length : Int) + (sp.length : Int))) := by
  rw [hs] at hl ⊢
  exact Mh hsp hcb hl
 have hb' : b = [] ∨ ∃ c r, b = c :: r ∧ Cq c = false := hb.elim .inl fun ⟨c, r, h1, h2, _⟩ => .inr ⟨c, r, h1, h2⟩
 have e0 : Ev (fun n => xX n (a ++ (sp ++ (w ++ b))) n ((a.length : Int) + (sp.length : Int))) (.nx ((a.length : Int) + (sp.length : Int) + (w.length : Int))) := ⟨w.length + 1, fun n hn => by
  have := OZ b hb' w (a ++ sp) n n hall (by omega) (by rw [← hs2]; exact hl)
  rw [hp] at this
  rw [hs2]
  exact this⟩
 have ec : iX (a ++ (sp ++ (w ++ b))) ((a.length : Int) + (sp.length : Int)) ((a.length : Int) + (sp.length : Int) + (w.length : Int)) = some w := by
  rw [hs2, ← hp]
  exact Fp (a ++ sp) w b
 have ei : jl (a ++ (sp ++ (w ++ b))) ((a.length : Int) + (sp.length : Int)) = some (c.toNat : Int) := by
  rw [hs3, ← hp]
  exact tL _ _ _
 have hlt : (((a.length : Int) + (sp.length : Int)) == ((a ++ (sp ++ (w ++ b))).length : Int)) = false := by
  apply beq_false_of_ne
  rw [hcw]; simp; omega
 unfold vV
 refine Ev.bind e1 ?_
 simp only [LR.el, hlt, cond_false]
 refine Ev.bind e0 ?_
 simp only [LR.el, ec, Option.bind_some, ei, wZ, hcl, cond_false, yT, hc, cond_true]
 refine Ev.bind (a := false) ?_ (Ev.ret _)
 refine Ev.bind ham ?_
 rw [decide_eq_false (by omega)]
 exact Ev.ret _
theorem arV {a sp : Str} (hsp : sp = [] ∨ sp = [32]) (hl : (a ++ sp).length ≤ 1000000000) : Ev (fun n => vV n (a ++ sp) (a.length : Int)) ⟨0, [], (a.length : Int) + (sp.length : Int)⟩ := by
 unfold vV
 refine Ev.bind (agR hsp hl) ?_
 simp only [LR.el]
 rw [show (((a.length : Int) + (sp.length : Int)) == ((a ++ sp).length : Int)) = true by simp]
 exact Ev.ret _
def uM : List Str := [[62, 45, 62, 62], [60, 61, 62], [60, 60, 124], [124, 62, 62], [124, 45, 62], [60, 45, 62], [43, 45, 62], [45, 45, 62], [62, 45, 62], [61, 62], [47, 61], [60, 61], [62, 61], [46, 46], [92, 47], [47, 92], [62, 60], [60, 43], [60, 124], [124, 62]]
def aaH : List Str := [[38], [61], [60], [62], [43], [45], [42], [47], [92], [59], [126], [46], [44], [124], [40], [41], [91], [93], [123], [125]]
def GQ (u : Str) : Str := match uM.find? (fun y => y.isPrefixOf u) with
 | some y => y
 | none => cond (aaH.any fun y => y == u.take 1) (u.take 1) []
theorem arl (p u y : Str) (hy : y ≠ []) (hl : (p ++ u).length ≤ 1000000000) : ((cond (decide ((y.length : Int) ≤ (IntKind.wrap .i64 (((p ++ u).length : Int) - (p.length : Int))))) ((iX (p ++ u) (p.length : Int) (IntKind.wrap .i64 ((p.length : Int) + (y.length : Int)))).bind fun (x7 : Str) => some (x7 == y)) (some false)) : Option Bool) = some (y.isPrefixOf u) := by
 simp only [List.length_append] at hl
 rw [wrap64 (n := ((p ++ u).length : Int) - (p.length : Int)) (by simp; omega) (by simp; omega)]
 by_cases h : y.length ≤ u.length
 ·rw [decide_eq_true (by simp; omega), wrap64 (by omega) (by omega)]
  simp only [cond_true]
  have : iX (p ++ u) (p.length : Int) ((p.length : Int) + (y.length : Int)) = some (u.take y.length) := by
   have := Fp p (u.take y.length) (u.drop y.length)
   rw [List.take_append_drop, List.length_take, Nat.min_eq_left h] at this
   exact this
  rw [this]
  simp only [Option.bind_some]
  congr 1
  rw [Bool.eq_iff_iff]
  simp only [beq_iff_eq, List.isPrefixOf_iff_prefix]
  constructor
  ·intro e; rw [← e]; exact List.take_prefix _ _
  ·intro e; exact (List.prefix_iff_eq_take.1 e).symm
 ·rw [decide_eq_false (by simp; omega)]
  simp only [cond_false]
  congr 1
  symm
  cases hq : y.isPrefixOf u with
  | false => rfl
  | true => exact absurd (List.isPrefixOf_iff_prefix.1 hq).length_le h
theorem ar7 (p u : Str) (hu : u ≠ []) (hl : (p ++ u).length ≤ 1000000000) : Ev (fun n => Pd n (p ++ u) (p.length : Int)) (GQ u) := by
 have hrun : ∀ (ts : List Str) (i : Int), dX (τ := Unit) (ρ := Str) (fun _ (y : Str) (_ : Unit) => cond (y.isPrefixOf u) (LR.rt y) (.nx ())) (fun _ => ()) i ts () = (match ts.find? (fun y => y.isPrefixOf u) with | some y => .rt y | none => .nx ()) := by
  intro ts
  induction ts with
  | nil => intro i; rfl
  | cons t ts ih =>
   intro i
   simp only [dX, List.find?_cons]
   cases t.isPrefixOf u with
   | true => rfl
   | false => exact ih (i + 1)
 have hne : ∀ y ∈ uM, y ≠ [] := by decide
 have h := xA (ρ := Str) uM (fun n k i (_ : Unit) => Dv n (p ++ u) (p.length : Int) k i) (fun n i y _ => some (cond (y.isPrefixOf u) (LR.rt y) (.nx ()))) (fun _ y _ => cond (y.isPrefixOf u) (.rt y) (.nx ())) (fun _ => ()) (fun _ _ _ => True)
  (fun n k _ => by
   show cond (decide ((uM.length : Int) < (uM.length : Int))) _ _ = _
   rw [decide_eq_false (by omega)]
   rfl)
  (fun n k i y _ hy hi => by
   have hym : y ∈ uM := by
    unfold idx at hy
    split at hy
    ·exact List.mem_of_getElem? hy
    ·cases hy
   show cond (decide (i < (uM.length : Int))) ((((idx uM i).bind fun (x5 : Str) => (cond (decide ((x5.length : Int) ≤ (IntKind.wrap .i64 (((p ++ u).length : Int) - (p.length : Int))))) ((idx uM i).bind fun (x6 : Str) => ((iX (p ++ u) (p.length : Int) (IntKind.wrap .i64 ((p.length : Int) + (x6.length : Int)))).bind fun (x7 : Str) => ((idx uM i).bind fun (x8 : Str) => some (x7 == x8)))) (some false))) : Option Bool).bind fun (s3 : Bool) => (cond s3 ((idx uM i).bind fun (x4 : Str) => some (.rt x4)) (Dv n (p ++ u) (p.length : Int) k (i + 1)))) _ = _
   rw [hi]
   simp only [cond_true, hy, Option.bind_some]
   rw [arl p u y (hne y hym) hl]
   simp only [Option.bind_some]
   cases y.isPrefixOf u <;> rfl)
  (fun i y suf _ hy _ _ => ⟨Ev.ret _, fun _ _ => trivial⟩) (s0 := ()) trivial
 rw [hrun] at h
 unfold Pd GQ
 refine Ev.bind h ?_
 cases uM.find? (fun y => y.isPrefixOf u) with
 | some y => exact Ev.ret _
 | none =>
  simp only [LR.el]
  cases u with
  | nil => exact absurd rfl hu
  | cons c r =>
   have e1 : iX (p ++ c :: r) (p.length : Int) ((p.length : Int) + 1) = some [c] := Fp p [c] r
   simp only [List.length_append, List.length_cons] at hl
   rw [wrap64 (by omega) (by omega), e1]
   simp only [Option.bind_some]
   refine Ev.bind (oD [c] aaH) ?_
   show Ev (fun _ => cond (aaH.any fun y => y == [c]) _ _) _
   rw [show (c :: r).take 1 = [c] from rfl]
   cases aaH.any fun y => y == [c] <;> exact Ev.ret _
theorem aqI {a sp x b : Str} (hsp : sp = [] ∨ sp = [32]) (hx : ∃ c cs, x = c :: cs ∧ Cq c = false ∧ blank c = false) (hg : GQ (x ++ b) = x) (hl : (a ++ (sp ++ (x ++ b))).length ≤ 1000000000) : Ev (fun n => vV n (a ++ (sp ++ (x ++ b))) (a.length : Int)) ⟨4, x, (a.length : Int) + (sp.length : Int)⟩ := by
 obtain ⟨c, cs, hcw, hcn, hcb⟩ := hx
 have hcl : Ac (c.toNat : Int) = false := by
  simp only [Cq, qW, Bool.or_eq_false_iff] at hcn
  exact hcn.1
 have hcd : sZ (c.toNat : Int) = false := by
  simp only [Cq, qW, Bool.or_eq_false_iff] at hcn
  exact hcn.2.1
 have hs : a ++ (sp ++ (x ++ b)) = a ++ (sp ++ c :: (cs ++ b)) := by rw [hcw]; rfl
 have hs2 : a ++ (sp ++ (x ++ b)) = (a ++ sp) ++ ([] ++ (x ++ b)) := by simp
 have hs3 : a ++ (sp ++ (x ++ b)) = (a ++ sp) ++ c :: (cs ++ b) := by rw [hcw]; simp
 have hp : ((a ++ sp).length : Int) = (a.length : Int) + (sp.length : Int) := by simp
 have e1 : Ev (fun n => rZ n (a ++ (sp ++ (x ++ b))) n (a.length : Int)) (.nx ((a.length : Int) + (sp.length : Int))) := by
  rw [hs] at hl ⊢
  exact Mh hsp hcb hl
 have e0 : Ev (fun n => xX n (a ++ (sp ++ (x ++ b))) n ((a.length : Int) + (sp.length : Int))) (.nx ((a.length : Int) + (sp.length : Int))) := ⟨1, fun n hn => by
  have := OZ (x ++ b) (.inr ⟨c, cs ++ b, by rw [hcw]; rfl, hcn⟩) [] (a ++ sp) n n (by simp) (by simp; omega) (by rw [← hs2]; exact hl)
  rw [hp] at this
  rw [hs2]
  simpa using this⟩
 have ec : iX (a ++ (sp ++ (x ++ b))) ((a.length : Int) + (sp.length : Int)) ((a.length : Int) + (sp.length : Int)) = some [] := by
  have := Fp (a ++ sp) [] (x ++ b)
  rw [← hs2, hp] at this
  simpa using this
 have ei : jl (a ++ (sp ++ (x ++ b))) ((a.length : Int) + (sp.length : Int)) = some (c.toNat : Int) := by
  rw [hs3, ← hp]
  exact tL _ _ _
 have hlt : (((a.length : Int) + (sp.length : Int)) == ((a ++ (sp ++ (x ++ b))).length : Int)) = false := by
  apply beq_false_of_ne
  rw [hcw]; simp; omega
 have esg := ar7 (a ++ sp) (x ++ b) (by rw [hcw]; simp) (by simpa using hl)
 rw [hg, hp, show a ++ sp ++ (x ++ b) = a ++ (sp ++ (x ++ b)) by simp] at esg
 unfold vV
 refine Ev.bind e1 ?_
 simp only [LR.el, hlt, cond_false]
 refine Ev.bind e0 ?_
 simp only [LR.el, ec, Option.bind_some, ei, wZ, hcl, cond_false, yT, hcd]
 refine Ev.bind esg ?_
 rw [show (x == ([] : Str)) = false by rw [hcw]; rfl]
 exact Ev.ret _
theorem atC (y x r : Str) (h : (32 : UInt8) ∉ y) : y.isPrefixOf (x ++ 32 :: r) = y.isPrefixOf x := by
 induction y generalizing x with
 | nil => simp [List.isPrefixOf]
 | cons c y ih =>
  simp only [List.mem_cons, not_or] at h
  cases x with
  | nil =>
   simp only [List.nil_append, List.isPrefixOf, Bool.and_eq_false_iff]
   exact .inl (by simpa using fun e => h.1 e.symm)
  | cons d x =>
   simp only [List.cons_append, List.isPrefixOf]
   rw [ih x h.2]
theorem ahN (x r : Str) (hx : x ≠ []) : GQ (x ++ 32 :: r) = GQ x := by
 have hne : ∀ y ∈ uM, (32 : UInt8) ∉ y := by decide
 have e : uM.find? (fun y => y.isPrefixOf (x ++ 32 :: r)) = uM.find? (fun y => y.isPrefixOf x) := by
  have : ∀ l : List Str, (∀ y ∈ l, (32 : UInt8) ∉ y) → l.find? (fun y => y.isPrefixOf (x ++ 32 :: r)) = l.find? (fun y => y.isPrefixOf x) := by
   intro l
   induction l with
   | nil => intro _; rfl
   | cons y l ih =>
    intro h
    simp only [List.find?_cons]
    rw [atC y x r (h y (by simp)), ih fun z hz => h z (by simp [hz])]
  exact this uM hne
 unfold GQ
 rw [e]
 cases x with
 | nil => exact absurd rfl hx
 | cons c x => rfl
theorem asg (c : UInt8) (r : Str) (hc : c = 40 ∨ c = 41 ∨ c = 91 ∨ c = 93 ∨ c = 123 ∨ c = 125 ∨ c = 44 ∨ c = 126) : GQ (c :: r) = [c] := by
 rcases hc with rfl | rfl | rfl | rfl | rfl | rfl | rfl | rfl <;> rfl
theorem agn (d : UInt8) (r : Str) (hd : d ≠ 45) : GQ (45 :: d :: r) = [45] := by
 have e : (45 == d) = false := by simpa using fun e => hd e.symm
 unfold GQ
 simp only [uM, List.find?_cons, List.isPrefixOf, show ((62 : UInt8) == 45) = false from rfl, show ((60 : UInt8) == 45) = false from rfl, show ((124 : UInt8) == 45) = false from rfl, show ((43 : UInt8) == 45) = false from rfl, show ((61 : UInt8) == 45) = false from rfl, show ((47 : UInt8) == 45) = false from rfl, show ((46 : UInt8) == 45) = false from rfl, show ((92 : UInt8) == 45) = false from rfl, show ((45 : UInt8) == 45) = true from rfl, Bool.false_and, Bool.true_and, e, List.find?_nil]
 rfl
end Abs
end Go.Proofs.YtiiaccpcoclklaaGreat
namespace Go.Proofs.YtiiaccpcoclklaaGreat
namespace Abs
open Go
inductive ShY : Ty → Str → Prop where
 | int : ShY iD [105, 110, 116]
 | car {nm : Str} (h : ident nm = true) : ShY (zh nm) nm
 | set {a : Ty} {s : Str} (h : ShY a s) : ShY (bA a) ([115, 101, 116, 40] ++ (s ++ [41]))
 | pair {a b : Ty} {s r : Str} (h : ShY a s) (k : ShY b r) : ShY (dD a b) ([112, 97, 105, 114, 40] ++ (s ++ ([44, 32] ++ (r ++ [41]))))
def nK (op : Int) : Str := (Ct 0 op).getD []
def Aj (op : Int) : Bool := op == 3 || (op == 21 || (op == 8 || (op == 9 || (op == 56 || !(nK op == [])))))
def DX (op : Int) : Str := cond (op == 8) [102, 111, 114, 97, 108, 108] (cond (op == 9) [101, 120, 105, 115, 116, 115] [102, 117, 110])
def DW (op : Int) : Str := (idx ([[80, 79, 87], [99, 97, 114, 100], [109, 105, 110], [109, 97, 120], [100, 111, 109], [114, 97, 110]] : List Str) (op - 46)).getD []
mutual
inductive Sh : Tm → Str → Prop where
 | tru : Sh (bM 1 []) [116, 114, 117, 101]
 | fls : Sh (bM 2 []) [102, 97, 108, 115, 101]
 | num {m : Nat} (h : m ≤ 1000000000) : Sh (Cx (m : Int)) (dec m)
 | nam {s : Str} (h : named s = true) : Sh (ji s) s
 | emp {ty : Ty} {s : Str} (h : ShY ty s) : Sh (.mk 29 [] 0 ty []) ([123, 125, 91] ++ (s ++ [93]))
 | not {p : Tm} {s : Str} (h : ShC p s) : Sh (bM 3 [p]) ([110, 111, 116, 32] ++ s)
 | neg {p : Tm} {s : Str} (h : ShC p s) : Sh (bM 21 [p]) ([45] ++ s)
 | bind {op : Int} {nm : Str} {p q : Tm} {s r : Str} (ho : op = 8 ∨ op = 9 ∨ op = 56) (hi : ident nm = true) (h : ShC p s) (k : Sh q r) : Sh (.mk op nm 0 bg [p, q]) (DX op ++ ([32] ++ (nm ++ ([32, 105, 110] ++ ([32] ++ (s ++ ([32, 46] ++ ([32] ++ r))))))))
 | compr {nm : Str} {p q : Tm} {s r : Str} (hi : ident nm = true) (h : ShC p s) (k : Sh q r) : Sh (.mk 55 nm 0 bg [p, q]) ([123] ++ (nm ++ ([32, 105, 110] ++ ([32] ++ (s ++ ([32, 124] ++ ([32] ++ (r ++ [125]))))))))
 | app {p q : Tm} {s r : Str} (h : ShC p s) (k : Sh q r) : Sh (bM 54 [p, q]) (s ++ ([40] ++ (r ++ [41])))
 | img {p q : Tm} {s r : Str} (h : ShC p s) (k : Sh q r) : Sh (bM 53 [p, q]) (s ++ ([91] ++ (r ++ [93])))
 | inv {p : Tm} {s : Str} (h : ShC p s) : Sh (bM 52 [p]) (s ++ [126])
 | set {p : Tm} {ks : List Tm} {s r : Str} (h : Sh p s) (k : ShL ks r) : Sh (bM 28 (p :: ks)) ([123] ++ (s ++ (r ++ [125])))
 | pre {op : Int} {p : Tm} {s : Str} (h1 : 46 ≤ op) (h2 : op ≤ 51) (h : Sh p s) : Sh (bM op [p]) (DW op ++ ([40] ++ (s ++ [41])))
 | bin {op : Int} {p q : Tm} {s r : Str} (ho : (nK op == []) = false) (h : ShC p s) (k : ShC q r) : Sh (bM op [p, q]) (s ++ (([32] ++ nK op) ++ ([32] ++ r)))
inductive ShC : Tm → Str → Prop where
 | par {t : Tm} {s : Str} (hc : Aj t.op = true) (h : Sh t s) : ShC t ([40] ++ (s ++ [41]))
 | pla {t : Tm} {s : Str} (hc : Aj t.op = false) (h : Sh t s) : ShC t s
inductive ShL : List Tm → Str → Prop where
 | nil : ShL [] []
 | cons {p : Tm} {ks : List Tm} {s r : Str} (h : Sh p s) (k : ShL ks r) : ShL (p :: ks) ([44] ++ ([32] ++ (s ++ r)))
end
theorem ajQ : ∀ t : Ty, Good t → ∀ d c : Int, 0 < d → 0 ≤ c → (pf t d c).1 = true → ∃ s, Ev (fun n => qL n t) s ∧ ShY t s ∧ (s.length : Int) ≤ 30 * ((pf t d c).2 - c) := by
 intro t hg
 induction hg with
 | int =>
  intro d c hd hc0 h
  have := Cb iD d c h
  exact ⟨_, ⟨1, fun n hn => by obtain ⟨k, rfl⟩ : ∃ k, n = k + 1 := ⟨n - 1, by omega⟩; rfl⟩, .int, by simp; omega⟩
 | car nm =>
  intro d c hd hc0 h
  have hle := Cb (zh nm) d c h
  have hi : ident nm = true := by
   simp only [zh, pf] at h
   cases hb : ((decide (c + 1 ≤ 16) && decide (d ≤ 6)) && fV 3 nm ([] : List Ty).length d) with
   | false => rw [hb] at h; cases h
   | true =>
    simp only [fV, Bool.and_eq_true] at hb
    exact hb.2.2.2
  have := FI hi
  exact ⟨_, ⟨1, fun n hn => by obtain ⟨k, rfl⟩ : ∃ k, n = k + 1 := ⟨n - 1, by omega⟩; rfl⟩, .car hi, by omega⟩
 | @pair a b ha hb iha ihb =>
  intro d c hd hc0 h
  simp only [dD, pf] at h
  cases hh : ((decide (c + 1 ≤ 16) && decide (d ≤ 6)) && fV 4 [] [a, b].length d) with
  | false => rw [hh] at h; cases h
  | true =>
   rw [hh] at h
   simp only [cond_true, jY] at h
   cases h1 : (pf a (d + 1) (c + 1)).1 with
   | false => rw [h1] at h; cases h
   | true =>
    rw [h1] at h
    simp only [cond_true] at h
    cases h2 : (pf b (d + 1) (pf a (d + 1) (c + 1)).2).1 with
    | false => rw [h2] at h; cases h
    | true =>
     obtain ⟨s, es, ss, ls⟩ := iha (d + 1) (c + 1) (by omega) (by omega) h1
     have l1 := Cb _ _ _ h1
     have l2 := Cb _ _ _ h2
     obtain ⟨r, er, sr, lr⟩ := ihb (d + 1) _ (by omega) (by omega) h2
     have e2 : (pf (dD a b) d c).2 = (pf b (d + 1) (pf a (d + 1) (c + 1)).2).2 := by
      simp only [dD, pf, hh, cond_true, jY, h1, h2]
     refine ⟨_, ?_, .pair ss sr, ?_⟩
     ·refine Ev.succ ?_
      show Ev (fun n => qc n (fun p0 => qL n p0) (dD a b)) _
      unfold qc
      simp only [dD, Ty.kind, Ty.kids, show ((4 : Int) == 1) = false from rfl, show ((4 : Int) == 2) = false from rfl, show ((4 : Int) == 5) = false from rfl, show ((4 : Int) == 4) = true from rfl, cond_false, cond_true, gI, kE, Option.bind_some]
      have bs : s.length ≤ 1000 ∧ r.length ≤ 1000 := by omega
      refine Ev.bind es ?_
      rw [DL (by simp; omega)]
      simp only [Option.bind_some]
      rw [DL (by simp; omega)]
      simp only [Option.bind_some]
      refine Ev.bind er ?_
      rw [DL (by simp; omega)]
      simp only [Option.bind_some]
      rw [DL (by simp; omega)]
      simp only [Option.bind_some]
      refine Ev.eq (Ev.ret _) ?_
      simp
     ·rw [e2]; simp; omega
 | @set a ha iha =>
  intro d c hd hc0 h
  simp only [bA, pf] at h
  cases hh : ((decide (c + 1 ≤ 16) && decide (d ≤ 6)) && fV 5 [] [a].length d) with
  | false => rw [hh] at h; cases h
  | true =>
   rw [hh] at h
   simp only [cond_true, jY] at h
   cases h1 : (pf a (d + 1) (c + 1)).1 with
   | false => rw [h1] at h; cases h
   | true =>
    obtain ⟨s, es, ss, ls⟩ := iha (d + 1) (c + 1) (by omega) (by omega) h1
    have l1 := Cb _ _ _ h1
    have e2 : (pf (bA a) d c).2 = (pf a (d + 1) (c + 1)).2 := by
     simp only [bA, pf, hh, cond_true, jY, h1]
    refine ⟨_, ?_, .set ss, ?_⟩
    ·refine Ev.succ ?_
     show Ev (fun n => qc n (fun p0 => qL n p0) (bA a)) _
     unfold qc
     simp only [bA, Ty.kind, Ty.kids, show ((5 : Int) == 1) = false from rfl, show ((5 : Int) == 2) = false from rfl, show ((5 : Int) == 5) = true from rfl, cond_false, cond_true, gI, Option.bind_some]
     have bs : s.length ≤ 1000 := by omega
     refine Ev.bind es ?_
     rw [DL (by simp; omega)]
     simp only [Option.bind_some]
     rw [DL (by simp; omega)]
     simp only [Option.bind_some]
     refine Ev.eq (Ev.ret _) ?_
     simp
    ·rw [e2]; simp; omega
end Abs
end Go.Proofs.YtiiaccpcoclklaaGreat
namespace Go.Proofs.YtiiaccpcoclklaaGreat
namespace Abs
open Go
theorem afO (n : Nat) {op : Int} (h1 : 1 ≤ op) (h2 : op ≤ 56) : Ct n op = some (nK op) := by
 rcases Ko h1 h2 with rfl | rfl | rfl | rfl | rfl | rfl | rfl | rfl | rfl | rfl | rfl | rfl | rfl | rfl | rfl | rfl | rfl | rfl | rfl | rfl | rfl | rfl | rfl | rfl | rfl | rfl | rfl | rfl | rfl | rfl | rfl | rfl | rfl | rfl | rfl | rfl | rfl | rfl | rfl | rfl | rfl | rfl | rfl | rfl | rfl | rfl | rfl | rfl | rfl | rfl | rfl | rfl | rfl | rfl | rfl | rfl <;> rfl
theorem Yj (n : Nat) {t : Tm} (h1 : 1 ≤ t.op) (h2 : t.op ≤ 56) : Ef n t = some (Aj t.op) := by
 unfold Ef Aj
 rw [afO n h1 h2]
 cases t.op == 3 <;> cases t.op == 21 <;> cases t.op == 8 <;> cases t.op == 9 <;> cases t.op == 56 <;> rfl
theorem asv {t : Ty} (h : zP t = true) : t = bg := by
 obtain ⟨k, nm, ks⟩ := t
 simp only [zP, Ty.kind, Ty.name, Ty.kids, Bool.and_eq_true, beq_iff_eq] at h
 obtain ⟨rfl, rfl, h⟩ := h
 have : ks = [] := List.length_eq_zero_iff.1 (by omega)
 subst this
 rfl
theorem an4 {op : Int} {nm : Str} {m : Int} {ty : Ty} {ks : List Tm} (h : fK (.mk op nm m ty ks) = true) : ((op == 20) = false → bE op = false → nm = []) ∧ ((op == 19) = false → m = 0) ∧ ((op == 29) = false → ty = bg) ∧ (bE op = true → ident nm = true) ∧ (op = 19 → 0 ≤ m ∧ m ≤ 1000000000) := by
 simp only [fK, qH, Df, Rw, Tm.op, Tm.name, Tm.n, Tm.ty, Bool.and_eq_true] at h
 obtain ⟨_, h1, h2, h3⟩ := h
 refine ⟨fun a b => ?_, fun a => ?_, fun a => ?_, fun a => ?_, fun a => ?_⟩
 ·rw [a, b] at h1; simpa using h1
 ·rw [a] at h2; simpa using h2
 ·rw [a] at h3; exact asv h3
 ·rw [a, (Cw a).1] at h1; exact h1
 ·subst a; simp only [show ((19 : Int) == 19) = true from rfl, cond_true, Bool.and_eq_true] at h2; exact ⟨of_decide_eq_true h2.1, of_decide_eq_true h2.2⟩
theorem amT {d : Int} {t : Tm} (h : Wf d t) : gV t ≤ 2000 := by
 obtain ⟨c, h0, h1⟩ := h
 have := (TL t d c h1).2.2.1
 omega
theorem asJ {op : Int} (h1 : 46 ≤ op) (h2 : op ≤ 51) : (DW op).length ≤ 4 ∧ idx ([[80, 79, 87], [99, 97, 114, 100], [109, 105, 110], [109, 97, 120], [100, 111, 109], [114, 97, 110]] : List Str) (IntKind.wrap .i64 (op - 46)) = some (DW op) := by
 have : op = 46 ∨ op = 47 ∨ op = 48 ∨ op = 49 ∨ op = 50 ∨ op = 51 := by omega
 rcases this with rfl | rfl | rfl | rfl | rfl | rfl <;> exact ⟨by decide, rfl⟩
theorem ar3 {op : Int} (h1 : 1 ≤ op) (h2 : op ≤ 56) : (nK op).length ≤ 5 := by
 rcases Ko h1 h2 with rfl | rfl | rfl | rfl | rfl | rfl | rfl | rfl | rfl | rfl | rfl | rfl | rfl | rfl | rfl | rfl | rfl | rfl | rfl | rfl | rfl | rfl | rfl | rfl | rfl | rfl | rfl | rfl | rfl | rfl | rfl | rfl | rfl | rfl | rfl | rfl | rfl | rfl | rfl | rfl | rfl | rfl | rfl | rfl | rfl | rfl | rfl | rfl | rfl | rfl | rfl | rfl | rfl | rfl | rfl | rfl <;> decide
theorem auO {P : Tm → Str → Prop} {ks : List Tm} (h : ∀ k ∈ ks, ∃ s, P k s) : ∃ g : Tm → Str, ∀ k ∈ ks, P k (g k) := by
 classical
 exact ⟨fun k => if hk : k ∈ ks then Classical.choose (h k hk) else [], fun k hk => by
  simp only [hk, dif_pos]
  exact Classical.choose_spec (h k hk)⟩
theorem lW {a b : Str} (h : a.length + b.length ≤ 2000000000) : dS a b = some (a ++ b) := by
 unfold dS
 rw [if_pos (by omega)]
def PrE (t : Tm) : Prop := ∃ s, Ev (fun n => nk n t) s ∧ Sh t s ∧ (s.length : Int) + 10 ≤ 500 * gV t
theorem PrE.closed {t : Tm} (h1 : 1 ≤ t.op) (h2 : t.op ≤ 56) (hz : gV t ≤ 2000) (h : PrE t) : ∃ s, Ev (fun n => jy n t) s ∧ ShC t s ∧ (s.length : Int) + 8 ≤ 500 * gV t := by
 obtain ⟨s, es, ss, ls⟩ := h
 cases hc : Aj t.op with
 | true =>
  refine ⟨[40] ++ (s ++ [41]), Ev.succ ?_, .par hc ss, by simp; omega⟩
  show Ev (fun n => tV n (fun p0 => nk n p0) (fun p0 => jy n p0) t) _
  unfold tV
  simp only [Yj _ h1 h2, hc, Option.bind_some, cond_true]
  refine Ev.bind es ?_
  rw [lW (by simp; omega)]
  simp only [Option.bind_some]
  rw [lW (by simp; omega)]
  exact Ev.ret _
 | false =>
  refine ⟨s, Ev.succ ?_, .pla hc ss, by omega⟩
  show Ev (fun n => tV n (fun p0 => nk n p0) (fun p0 => jy n p0) t) _
  unfold tV
  simp only [Yj _ h1 h2, hc, Option.bind_some, cond_false]
  exact Ev.bind es (Ev.ret _)
theorem arP {d : Int} {t : Tm} (h : Wf d t) : 1 ≤ t.op ∧ t.op ≤ 56 := by
 obtain ⟨op, nm, m, ty, ks⟩ := t
 exact (jO h.node.1).1
theorem ak3 (g : Tm → Str) : ∀ (ts : List Tm), (∀ t ∈ ts, Sh t (g t)) → ∀ (i : Int) (acc : Str), 0 < i → ∃ r, ShL ts r ∧ dX (τ := Str) (ρ := Str) (fun i (x : Tm) s => LR.nx ((cond (decide (0 < i)) (s ++ [44, 32]) s) ++ g x)) (fun s => s) i ts acc = .nx (acc ++ r) ∧ (r.length : Int) = (ts.map fun t => ((g t).length : Int) + 2).sum
 | [], _, i, acc, _ => ⟨[], .nil, by simp [dX], rfl⟩
 | t :: ts, h, i, acc, hi => by
  obtain ⟨r, h1, h2, h3⟩ := ak3 g ts (fun t ht => h t (by simp [ht])) (i + 1) ((acc ++ [44, 32]) ++ g t) (by omega)
  refine ⟨_, .cons (h t (by simp)) h1, ?_, ?_⟩
  ·simp only [dX]
   rw [decide_eq_true hi]
   simp only [cond_true]
   rw [h2]
   simp
  ·simp only [List.map_cons, List.sum_cons, ← h3]
   simp; omega
theorem aox : ∀ {ts : List Tm} {g : Tm → Str}, (∀ t ∈ ts, ((g t).length : Int) + 10 ≤ 500 * gV t) → (ts.map fun t => ((g t).length : Int) + 2).sum ≤ 500 * jJ ts
 | [], g, _ => by simp [jJ]
 | t :: ts, g, h => by
  have := aox (ts := ts) (g := g) fun t ht => h t (by simp [ht])
  have h1 := h t (by simp)
  have := yJ t
  simp only [List.map_cons, List.sum_cons, jJ]
  omega
end Abs
end Go.Proofs.YtiiaccpcoclklaaGreat
namespace Go.Proofs.YtiiaccpcoclklaaGreat
namespace Abs
open Go
theorem ajh (k : Nat) (hk : k ≤ 1000000000) : Ev (fun n => kI n (k : Int)) (dec k) := by
 by_cases h : k ≤ 1000000
 ·exact ac4 k h
 ·have e1 : Int.tdiv (k : Int) 10 = ((k / 10 : Nat) : Int) := by
   rw [Int.tdiv_eq_ediv_of_nonneg (by omega)]; omega
  have e2 : Int.tmod (k : Int) 10 = ((k % 10 : Nat) : Int) := by
   rw [Int.tmod_eq_emod_of_nonneg (by omega)]; omega
  have ih : Ev (fun n => kI n ((k / 10 : Nat) : Int)) (dec (k / 10)) := ajh (k / 10) (by omega)
  refine Ev.succ ?_
  show Ev (fun n => rE n (fun p0 => kI n p0) (k : Int)) _
  unfold rE
  rw [show ((k : Int) == -9223372036854775808) = false by apply beq_false_of_ne; omega, decide_eq_false (show ¬(k : Int) < 0 by omega)]
  simp only [cond_false]
  rw [decide_eq_false (show ¬(k : Int) < 10 by omega), EC (show ¬k < 10 by omega)]
  simp only [cond_false]
  rw [e1, e2, wrap64 (by omega) (by omega)]
  refine Ev.bind ih ?_
  rw [YW (by omega) (by omega)]
  have := Ja 9 (k / 10) (by omega)
  rw [DL (by simp; omega)]
  simp only [Int.toNat_natCast]
  exact Ev.ret _
termination_by k
theorem asw : ∀ t : Tm, ∀ d : Int, Wf d t → PrE t := Tm.ind fun op nm m ty ks ih d hw => by
 obtain ⟨hnode, hd, hks, hkw⟩ := hw.node
 obtain ⟨⟨o1, o2⟩, h20k, h29k, hlen, hbk⟩ := jO hnode
 obtain ⟨n1, n2, n3, n4, n5⟩ := an4 hnode
 have hz := amT hw
 simp only [gV] at hz
 have ihk : ∀ k ∈ ks, PrE k := fun k hk => ih k hk (d + 1) (hkw k hk)
 have ihc : ∀ k ∈ ks, ∃ s, Ev (fun n => jy n k) s ∧ ShC k s ∧ (s.length : Int) + 8 ≤ 500 * gV k := fun k hk =>
  (ihk k hk).closed (arP (hkw k hk)).1 (arP (hkw k hk)).2 (amT (hkw k hk))
 have zero : dP op = 0 → ks = [] := fun h => by
  have hn := hnode
  simp only [fK, yN, Tm.op, Tm.kids, h, Bool.and_eq_true] at hn
  have hl := hn.1.2
  simp only [show ((0 : Int) == -1) = false from rfl, cond_false, beq_iff_eq] at hl
  exact List.length_eq_zero_iff.1 (by omega)
 have one : dP op = 1 → ∃ a, ks = [a] := fun h => by
  have hl := (hlen (ks.map fun _ => bg) (by simp)).one h
  exact uI ks (by simpa using hl)
 have two : dP op = 2 → ∃ a b, ks = [a, b] := fun h => by
  have hl := (hlen (ks.map fun _ => bg) (by simp)).two h
  exact dZ ks (by simpa using hl)
 have go : ∀ {s : Str}, Ev (fun n => zQ n (fun p0 => nk n p0) (fun p0 => jy n p0) (.mk op nm m ty ks)) s → Ev (fun n => nk n (.mk op nm m ty ks)) s := fun h => Ev.succ h
 by_cases e1 : op = 1
 ·subst e1
  have := zero rfl; subst this
  have := n1 rfl rfl; subst this
  have := n2 rfl; subst this
  have := n3 rfl; subst this
  exact ⟨_, go (Ev.ret _), .tru, by simp [gV, jJ]⟩
 by_cases e2 : op = 2
 ·subst e2
  have := zero rfl; subst this
  have := n1 rfl rfl; subst this
  have := n2 rfl; subst this
  have := n3 rfl; subst this
  exact ⟨_, go (Ev.ret _), .fls, by simp [gV, jJ]⟩
 by_cases e19 : op = 19
 ·subst e19
  have := zero rfl; subst this
  have := n1 rfl rfl; subst this
  have := n3 rfl; subst this
  obtain ⟨m0, m1⟩ := n5 rfl
  obtain ⟨k, rfl⟩ : ∃ k : Nat, m = (k : Int) := ⟨m.toNat, by omega⟩
  have hdl := Ja 9 k (by omega)
  refine ⟨dec k, go ?_, .num (by omega), by simp only [gV, jJ]; omega⟩
  show Ev (fun n => (kI n (k : Int)).bind fun (x1 : Str) => some x1) _
  have hdec : Ev (fun n => kI n (k : Int)) (dec k) := ajh k (by omega)
  exact Ev.bind hdec (Ev.ret _)
 by_cases e20 : op = 20
 ·subst e20
  obtain ⟨e, hn⟩ := ah8 hnode
  rw [e] at go ⊢
  have := agh hn
  exact ⟨nm, go (Ev.ret _), .nam hn, by simp only [ji, gV, jJ]; omega⟩
 by_cases e29 : op = 29
 ·subst e29
  obtain ⟨hk0, hvt, hk2⟩ := h29k rfl
  subst hk0
  have := n1 rfl rfl; subst this
  have := n2 rfl; subst this
  have hg : Good ty := (Sz hvt).resolve_left fun h => by subst h; cases hk2
  obtain ⟨s, es, ss, ls⟩ := ajQ ty hg 1 0 (by omega) (by omega) hvt
  have := Cb ty 1 0 hvt
  refine ⟨_, go ?_, .emp ss, by simp [gV, jJ]; omega⟩
  show Ev (fun n => ((qL n ty).bind fun (x2 : Str) => ((dS ([123, 125, 91] : Str) x2).bind fun (x3 : Str) => ((dS x3 ([93] : Str)).bind fun (x4 : Str) => some x4)))) _
  refine Ev.bind es ?_
  rw [lW (by simp; omega)]
  simp only [Option.bind_some]
  rw [lW (by simp; omega)]
  exact Ev.eq (Ev.ret _) (by simp)
 have nm0 : bE op = false → nm = [] := n1 (by simpa using e20)
 have m0 : m = 0 := n2 (by simpa using e19)
 have ty0 : ty = bg := n3 (by simpa using e29)
 subst m0 ty0
 by_cases e3 : op = 3
 ·subst e3
  have := nm0 rfl; subst this
  obtain ⟨p, rfl⟩ := one rfl
  obtain ⟨s, es, ss, ls⟩ := ihc p (by simp)
  simp only [jJ] at hz
  refine ⟨_, go ?_, .not ss, by simp [gV, jJ]; omega⟩
  show Ev (fun n => ((jy n p).bind fun (x6 : Str) => ((dS ([110, 111, 116, 32] : Str) x6).bind fun (x7 : Str) => some x7))) _
  refine Ev.bind es ?_
  rw [lW (by simp; omega)]
  exact Ev.ret _
 by_cases e21 : op = 21
 ·subst e21
  have := nm0 rfl; subst this
  obtain ⟨p, rfl⟩ := one rfl
  obtain ⟨s, es, ss, ls⟩ := ihc p (by simp)
  simp only [jJ] at hz
  refine ⟨_, go ?_, .neg ss, by simp [gV, jJ]; omega⟩
  show Ev (fun n => ((jy n p).bind fun (x9 : Str) => ((dS ([45] : Str) x9).bind fun (x10 : Str) => some x10))) _
  refine Ev.bind es ?_
  rw [lW (by simp; omega)]
  exact Ev.ret _
 by_cases eb : op = 8 ∨ op = 9 ∨ op = 56
 ·have hb : bE op = true := by rcases eb with rfl | rfl | rfl <;> rfl
  have hi := n4 hb
  have hil := FI hi
  obtain ⟨p, q, rfl⟩ := hbk hb
  obtain ⟨s, es, ss, ls⟩ := ihc p (by simp)
  obtain ⟨r, er, sr, lr⟩ := ihk q (by simp)
  simp only [jJ] at hz
  have body : ∀ kw : Str, kw.length ≤ 6 → Ev (fun n => ((dS (kw ++ [32]) nm).bind fun (x11 : Str) => ((dS x11 ([32, 105, 110, 32] : Str)).bind fun (x12 : Str) => ((jy n p).bind fun (x14 : Str) => ((dS x12 x14).bind fun (x15 : Str) => ((dS x15 ([32, 46, 32] : Str)).bind fun (x16 : Str) => ((nk n q).bind fun (x18 : Str) => ((dS x16 x18).bind fun (x19 : Str) => some x19)))))))) (kw ++ ([32] ++ (nm ++ ([32, 105, 110] ++ ([32] ++ (s ++ ([32, 46] ++ ([32] ++ r)))))))) := fun kw hkl => by
   rw [lW (by simp; omega)]
   simp only [Option.bind_some]
   rw [lW (by simp; omega)]
   simp only [Option.bind_some]
   refine Ev.bind es ?_
   rw [lW (by simp; omega)]
   simp only [Option.bind_some]
   rw [lW (by simp; omega)]
   simp only [Option.bind_some]
   refine Ev.bind er ?_
   rw [lW (by simp; omega)]
   exact Ev.eq (Ev.ret _) (by simp)
  refine ⟨_, go ?_, .bind eb hi ss sr, ?_⟩
  ·rcases eb with rfl | rfl | rfl
   ·exact body [102, 111, 114, 97, 108, 108] (by decide)
   ·exact body [101, 120, 105, 115, 116, 115] (by decide)
   ·exact body [102, 117, 110] (by decide)
  ·have : (DX op).length ≤ 6 := by rcases eb with rfl | rfl | rfl <;> decide
   simp [gV, jJ]; omega
 by_cases e55 : op = 55
 ·subst e55
  have hi := n4 rfl
  have hil := FI hi
  obtain ⟨p, q, rfl⟩ := hbk rfl
  obtain ⟨s, es, ss, ls⟩ := ihc p (by simp)
  obtain ⟨r, er, sr, lr⟩ := ihk q (by simp)
  simp only [jJ] at hz
  refine ⟨_, go ?_, .compr hi ss sr, by simp [gV, jJ]; omega⟩
  show Ev (fun n => ((dS ([123] : Str) nm).bind fun (x38 : Str) => ((dS x38 ([32, 105, 110, 32] : Str)).bind fun (x39 : Str) => ((jy n p).bind fun (x41 : Str) => ((dS x39 x41).bind fun (x42 : Str) => ((dS x42 ([32, 124, 32] : Str)).bind fun (x43 : Str) => ((nk n q).bind fun (x45 : Str) => ((dS x43 x45).bind fun (x46 : Str) => ((dS x46 ([125] : Str)).bind fun (x47 : Str) => some x47))))))))) _
  rw [lW (by simp; omega)]
  simp only [Option.bind_some]
  rw [lW (by simp; omega)]
  simp only [Option.bind_some]
  refine Ev.bind es ?_
  rw [lW (by simp; omega)]
  simp only [Option.bind_some]
  rw [lW (by simp; omega)]
  simp only [Option.bind_some]
  refine Ev.bind er ?_
  rw [lW (by simp; omega)]
  simp only [Option.bind_some]
  rw [lW (by simp; omega)]
  exact Ev.eq (Ev.ret _) (by simp)
 have hb : bE op = false := by
  simp only [not_or] at eb
  simp only [bE, Bool.or_eq_false_iff, beq_eq_false_iff_ne]
  exact ⟨eb.1, eb.2.1, e55, eb.2.2⟩
 have := nm0 hb; subst this
 have appl : ∀ (o c : UInt8) (p q : Tm) (s r : Str), Ev (fun n => jy n p) s → Ev (fun n => nk n q) r → (s.length : Int) + r.length ≤ 1500000 → Ev (fun n => ((jy n p).bind fun (x49 : Str) => ((dS x49 ([o] : Str)).bind fun (x50 : Str) => ((nk n q).bind fun (x52 : Str) => ((dS x50 x52).bind fun (x53 : Str) => ((dS x53 ([c] : Str)).bind fun (x54 : Str) => some x54)))))) (s ++ ([o] ++ (r ++ [c]))) := fun o c p q s r es er hl => by
  refine Ev.bind es ?_
  rw [lW (by simp; omega)]
  simp only [Option.bind_some]
  refine Ev.bind er ?_
  rw [lW (by simp; omega)]
  simp only [Option.bind_some]
  rw [lW (by simp; omega)]
  exact Ev.eq (Ev.ret _) (by simp)
 by_cases e54 : op = 54
 ·subst e54
  obtain ⟨p, q, rfl⟩ := two rfl
  obtain ⟨s, es, ss, ls⟩ := ihc p (by simp)
  obtain ⟨r, er, sr, lr⟩ := ihk q (by simp)
  simp only [jJ] at hz
  exact ⟨_, go (appl 40 41 p q s r es er (by omega)), .app ss sr, by simp [gV, jJ]; omega⟩
 by_cases e53 : op = 53
 ·subst e53
  obtain ⟨p, q, rfl⟩ := two rfl
  obtain ⟨s, es, ss, ls⟩ := ihc p (by simp)
  obtain ⟨r, er, sr, lr⟩ := ihk q (by simp)
  simp only [jJ] at hz
  exact ⟨_, go (appl 91 93 p q s r es er (by omega)), .img ss sr, by simp [gV, jJ]; omega⟩
 by_cases e52 : op = 52
 ·subst e52
  obtain ⟨p, rfl⟩ := one rfl
  obtain ⟨s, es, ss, ls⟩ := ihc p (by simp)
  simp only [jJ] at hz
  refine ⟨_, go ?_, .inv ss, by simp [gV, jJ]; omega⟩
  show Ev (fun n => ((jy n p).bind fun (x63 : Str) => ((dS x63 ([126] : Str)).bind fun (x64 : Str) => some x64))) _
  refine Ev.bind es ?_
  rw [lW (by simp; omega)]
  exact Ev.ret _
 by_cases e28 : op = 28
 ·subst e28
  have hne : ks ≠ [] := fun h => by
   have := (hlen (ks.map fun _ => bg) (by simp)).some rfl
   exact this (by simp [h])
  obtain ⟨p, ks, rfl⟩ := Kn ks hne
  obtain ⟨g, hg⟩ := auO (P := fun k s => Ev (fun n => nk n k) s ∧ Sh k s ∧ (s.length : Int) + 10 ≤ 500 * gV k) ihk
  obtain ⟨r, r1, r2, r3⟩ := ak3 g ks (fun t ht => (hg t (by simp [ht])).2.1) 1 ([123] ++ g p) (by omega)
  have hsum := aox (ts := ks) (g := g) fun t ht => (hg t (by simp [ht])).2.2
  obtain ⟨ep, sp, lp⟩ := hg p (by simp)
  simp only [jJ] at hz
  have hloop := xA (ρ := Str) (p :: ks) (fun n k i (s : Str) => Dk n (fun p0 => nk n p0) (fun p0 => jy n p0) (.mk 28 [] 0 bg (p :: ks)) k (s, i))
   (fun n i x s => (((cond (decide (0 < i)) ((dS s ([44, 32] : Str)).bind fun (x69 : Str) => some x69) (some s)) : Option Str).bind fun (s3 : Str) => ((nk n x).bind fun (x67 : Str) => ((dS s3 x67).bind fun (x68 : Str) => some (.nx x68)))))
   (fun i x s => LR.nx ((cond (decide (0 < i)) (s ++ [44, 32]) s) ++ g x)) (fun s => s) (fun i suf s => (s.length : Int) + 500 * jJ suf ≤ 1500000)
   (fun n k s => by
    show cond (decide (((p :: ks).length : Int) < ((p :: ks).length : Int))) _ _ = _
    rw [decide_eq_false (by omega)]
    rfl)
   (fun n k i x s hx hi => by
    show cond (decide (i < ((p :: ks).length : Int))) _ _ = _
    rw [hi]
    simp only [cond_true, Tm.kids, hx, Option.bind_some]
    conv => rhs; rw [Option.bind_assoc]
    congr 1
    funext s3
    conv => rhs; rw [Option.bind_assoc]
    congr 1
    funext x67
    conv => rhs; rw [Option.bind_assoc]
    rfl)
   (fun i x suf s hx hI _ => by
    obtain ⟨ex, sx, lx⟩ := hg x hx
    simp only [jJ] at hI
    have hs0 := BP suf
    have hx0 := yJ x
    refine ⟨?_, fun s' hs' => ?_⟩
    ·refine Ev.bind (a := cond (decide (0 < i)) (s ++ [44, 32]) s) ?_ ?_
     ·cases decide (0 < i) with
      | false => exact Ev.ret _
      | true =>
       simp only [cond_true]
       rw [lW (by simp; omega)]
       exact Ev.ret _
     ·refine Ev.bind ex ?_
      rw [lW (by cases decide (0 < i) <;> simp <;> omega)]
      exact Ev.ret _
    ·cases hs'
     cases decide (0 < i) <;> simp <;> omega) (s0 := [123]) (by simp only [jJ]; simp; omega)
  have hr0 : dX (τ := Str) (ρ := Str) (fun i (x : Tm) s => LR.nx ((cond (decide (0 < i)) (s ++ [44, 32]) s) ++ g x)) (fun s => s) 0 (p :: ks) [123] = .nx ([123] ++ g p ++ r) := by
   simp only [dX]
   exact r2
  rw [hr0] at hloop
  refine ⟨_, go ?_, .set sp r1, by simp [gV, jJ]; omega⟩
  show Ev (fun n => ((Dk n (fun p0 => nk n p0) (fun p0 => jy n p0) (.mk 28 [] 0 bg (p :: ks)) n (([123] : Str), 0)).bind (LR.el (fun (s2 : Str) => ((dS s2 ([125] : Str)).bind fun (x65 : Str) => some x65)) (fun r => some r)))) _
  refine Ev.bind hloop ?_
  simp only [LR.el]
  rw [lW (by simp; omega)]
  exact Ev.eq (Ev.ret _) (by simp)
 have hf : ∀ k ∈ ([1, 2, 19, 20, 29, 3, 21, 8, 9, 56, 55, 54, 53, 52, 28] : List Int), (op == k) = false := by
  simp only [not_or] at eb
  intro k hk
  simp only [List.mem_cons, List.not_mem_nil, or_false] at hk
  apply beq_false_of_ne
  rcases hk with rfl | rfl | rfl | rfl | rfl | rfl | rfl | rfl | rfl | rfl | rfl | rfl | rfl | rfl | rfl
  ·exact e1
  ·exact e2
  ·exact e19
  ·exact e20
  ·exact e29
  ·exact e3
  ·exact e21
  ·exact eb.1
  ·exact eb.2.1
  ·exact eb.2.2
  ·exact e55
  ·exact e54
  ·exact e53
  ·exact e52
  ·exact e28
 by_cases hp : 46 ≤ op ∧ op ≤ 51
 ·obtain ⟨hp1, hp2⟩ := hp
  obtain ⟨p, rfl⟩ := one (by
   have : op = 46 ∨ op = 47 ∨ op = 48 ∨ op = 49 ∨ op = 50 ∨ op = 51 := by omega
   rcases this with rfl | rfl | rfl | rfl | rfl | rfl <;> rfl)
  obtain ⟨s, es, ss, ls⟩ := ihk p (by simp)
  obtain ⟨pl, pe⟩ := asJ hp1 hp2
  simp only [jJ] at hz
  refine ⟨_, go ?_, .pre hp1 hp2 ss, by simp [gV, jJ]; omega⟩
  unfold zQ
  simp only [Tm.op, Tm.kids, hf 1 (by simp), hf 2 (by simp), hf 19 (by simp), hf 20 (by simp), hf 29 (by simp), hf 3 (by simp), hf 21 (by simp), hf 8 (by simp), hf 9 (by simp), hf 56 (by simp), hf 55 (by simp), hf 54 (by simp), hf 53 (by simp), hf 52 (by simp), hf 28 (by simp), cond_false]
  refine Ev.bind (a := true) (Ev.of fun n => by simp [hp1, hp2]) ?_
  simp only [cond_true, Option.bind_some, pe, gI]
  rw [lW (by simp; omega)]
  simp only [Option.bind_some]
  refine Ev.bind es ?_
  rw [lW (by simp; omega)]
  simp only [Option.bind_some]
  rw [lW (by simp; omega)]
  exact Ev.eq (Ev.ret _) (by simp)
 ·obtain ⟨p, q, rfl⟩ := two (by
   unfold dP
   simp only [hf 1 (by simp), hf 2 (by simp), hf 19 (by simp), hf 20 (by simp), hf 29 (by simp), hf 3 (by simp), hf 21 (by simp), hf 28 (by simp), Bool.or_self, cond_false, Bool.false_or]
   rw [show (decide (46 ≤ op) && decide (op ≤ 52)) = false by simp only [Bool.and_eq_false_iff, decide_eq_false_iff_not]; omega]
   simp only [cond_false]
   rw [show (decide (4 ≤ op) && decide (op ≤ 56)) = true by simp only [Bool.and_eq_true, decide_eq_true_eq]; omega]
   rfl)
  obtain ⟨s, es, ss, ls⟩ := ihc p (by simp)
  obtain ⟨r, er, sr, lr⟩ := ihc q (by simp)
  simp only [jJ] at hz
  have hsl := ar3 o1 o2
  have hsn : (nK op == []) = false := by
   rcases Ko o1 o2 with rfl | rfl | rfl | rfl | rfl | rfl | rfl | rfl | rfl | rfl | rfl | rfl | rfl | rfl | rfl | rfl | rfl | rfl | rfl | rfl | rfl | rfl | rfl | rfl | rfl | rfl | rfl | rfl | rfl | rfl | rfl | rfl | rfl | rfl | rfl | rfl | rfl | rfl | rfl | rfl | rfl | rfl | rfl | rfl | rfl | rfl | rfl | rfl | rfl | rfl | rfl | rfl | rfl | rfl | rfl | rfl
   all_goals first | rfl | (exfalso; revert hf hp; simp)
  refine ⟨_, go ?_, .bin hsn ss sr, by simp [gV, jJ]; omega⟩
  unfold zQ
  simp only [Tm.op, Tm.kids, hf 1 (by simp), hf 2 (by simp), hf 19 (by simp), hf 20 (by simp), hf 29 (by simp), hf 3 (by simp), hf 21 (by simp), hf 8 (by simp), hf 9 (by simp), hf 56 (by simp), hf 55 (by simp), hf 54 (by simp), hf 53 (by simp), hf 52 (by simp), hf 28 (by simp), cond_false]
  refine Ev.bind (a := false) (Ev.of fun n => ?_) ?_
  ·show (cond (decide (46 ≤ op)) (some (decide (op ≤ 51))) (some false) : Option Bool) = some false
   by_cases h : 46 ≤ op
   ·rw [decide_eq_true h, decide_eq_false (show ¬op ≤ 51 by omega)]; rfl
   ·rw [decide_eq_false h]; rfl
  ·simp only [cond_false, Option.bind_some, gI, kE]
   refine Ev.bind es ?_
   rw [lW (by simp; omega)]
   simp only [Option.bind_some, afO _ o1 o2]
   rw [lW (by simp; omega)]
   simp only [Option.bind_some]
   rw [lW (by simp; omega)]
   simp only [Option.bind_some]
   refine Ev.bind er ?_
   rw [lW (by simp; omega)]
   exact Ev.eq (Ev.ret _) (by simp)
end Abs
end Go.Proofs.YtiiaccpcoclklaaGreat
namespace Go.Proofs.YtiiaccpcoclklaaGreat
namespace Abs
open Go
structure Tk where
 k : Int
 w : Str
 b : Str
def tpos (P : Str) (t : Tk) : Int := (P.length : Int) - ((t.w.length : Int) + (t.b.length : Int))
def Su (P : Str) (t : Tk) : Prop := ∃ a, P = a ++ (t.w ++ t.b)
structure Nx (u : Str) (t : Tk) : Prop where
 cut : ∃ sp, u = sp ++ (t.w ++ t.b)
 lex : ∀ a : Str, (a ++ u).length ≤ 1000000000 → Ev (fun n => vV n (a ++ u) (a.length : Int)) ⟨t.k, t.w, tpos (a ++ u) t⟩
def opn (w : Str) : Bool := ([([40] : Str), ([91] : Str), ([123] : Str)]).any fun x => x == w
def cls (w : Str) : Bool := ([([41] : Str), ([93] : Str), ([125] : Str)]).any fun x => x == w
def up (w : Str) (d : Int) : Int := cond (opn w) (d + 1) d
def dn (w : Str) (d : Int) : Int := cond (cls w) (d - 1) d
theorem Nx.su {P a u : Str} {t : Tk} (h : Nx u t) (e : P = a ++ u) : Su P t := by
 obtain ⟨sp, hsp⟩ := h.cut
 exact ⟨a ++ sp, by rw [e, hsp]; simp⟩
theorem Nx.uniq {u : Str} {t r : Tk} (h : Nx u t) (g : Nx u r) (hl : u.length ≤ 1000000000) : t = r := by
 have e := Ev.uniq (h.lex [] (by simpa using hl)) (g.lex [] (by simpa using hl))
 obtain ⟨k, w, b⟩ := t
 obtain ⟨k', w', b'⟩ := r
 obtain ⟨sp, h1⟩ := h.cut
 obtain ⟨sq, h2⟩ := g.cut
 injection e with e1 e2 e3
 dsimp only at e1 e2 h1 h2
 subst e1 e2
 simp only [tpos] at e3
 have e4 : b.length = b'.length := by omega
 have e5 : sp.length = sq.length := by
  have := congrArg List.length (h1.symm.trans h2)
  simp at this
  omega
 have := List.append_inj (h1.symm.trans h2) e5
 rw [List.append_cancel_left this.2]
theorem oz {P : Str} {t r : Tk} {d : Int} (hP : P.length ≤ 1000000000) (hs : Su P t) (hn : Nx t.b r) (h0 : 0 ≤ d) (hd : up t.w d ≤ 64) : Ev (fun n => bq n P t.k t.w (tpos P t) d 0 0) (r.k, r.w, tpos P r, dn t.w (up t.w d), 0, 0) ∧ Su P r := by
 obtain ⟨a, ha⟩ := hs
 have hu : P = (a ++ t.w) ++ t.b := by rw [ha]; simp
 have hx := hn.lex (a ++ t.w) (by rw [← hu]; exact hP)
 rw [← hu] at hx
 have hd1 : d ≤ 64 := by unfold up at hd; cases ho : opn t.w <;> rw [ho] at hd <;> simp only [cond_true, cond_false] at hd <;> omega
 have e1 : IntKind.wrap .i64 (tpos P t + (t.w.length : Int)) = ((a ++ t.w).length : Int) := by
  have : tpos P t + (t.w.length : Int) = ((a ++ t.w).length : Int) := by
   unfold tpos; rw [ha]; simp only [List.length_append]; omega
  rw [this]
  exact (bC (by omega) (by rw [hu] at hP; simp at hP ⊢; omega)).symm
 have e2 : IntKind.wrap .i64 (d + 1) = d + 1 := (bC (by omega) (by omega)).symm
 refine ⟨?_, hn.su hu⟩
 unfold bq
 refine Ev.bind (a := (up t.w d, 0, 0)) ?_ ?_
 ·refine Ev.bind (oD _ _) ?_
  show Ev (fun n => cond (opn t.w) _ _) _
  unfold up at hd ⊢
  cases ho : opn t.w with
  | true =>
   rw [ho] at hd
   simp only [cond_true] at hd ⊢
   rw [e2, decide_eq_false (by omega)]
   exact Ev.ret _
  | false => exact Ev.ret _
 ·refine Ev.bind (a := dn t.w (up t.w d)) ?_ ?_
  ·refine Ev.bind (oD _ _) ?_
   show Ev (fun n => cond (cls t.w) _ _) _
   unfold dn
   cases hc : cls t.w with
   | true =>
    simp only [cond_true]
    have : IntKind.wrap .i64 (up t.w d - 1) = up t.w d - 1 := by
     unfold up at hd ⊢
     cases ho : opn t.w <;> rw [ho] at hd <;> simp only [cond_true, cond_false] at hd ⊢ <;> exact (bC (by omega) (by omega)).symm
    rw [this]
    exact Ev.ret _
   | false => exact Ev.ret _
  ·dsimp only
   rw [e1]
   exact Ev.bind hx (Ev.ret _)
theorem Io (n : Nat) (p0 : Str) (p1 : Int) (p2 : Str) (p3 p4 p5 p6 : Int) (p7 : Str) : fu n p0 p1 p2 p3 p4 p5 p6 p7 = some ((p1 == 4 || p1 == 2) && p2 == p7) := by
 unfold fu
 generalize (p1 == 4) = x
 generalize (p1 == 2) = y
 cases x <;> cases y <;> rfl
theorem xR {P : Str} {t r : Tk} {d : Int} {x : Str} (hP : P.length ≤ 1000000000) (hs : Su P t) (hn : Nx t.b r) (h0 : 0 ≤ d) (hd : up t.w d ≤ 64) (hk : t.k = 4 ∨ t.k = 2) (hx : t.w = x) : Ev (fun n => gB n P t.k t.w (tpos P t) d 0 0 x) (r.k, r.w, tpos P r, dn t.w (up t.w d), 0, 0) ∧ Su P r := by
 obtain ⟨h1, h2⟩ := oz hP hs hn h0 hd
 refine ⟨?_, h2⟩
 unfold gB
 have e : ((t.k == 4 || t.k == 2) && t.w == x) = true := by
  rw [hx]
  rcases hk with h | h <;> simp [h]
 simp only [Io, Option.bind_some, e]
 show Ev (fun n => (bq n P t.k t.w (tpos P t) d 0 0).bind _) _
 exact Ev.bind h1 (Ev.ret _)
def JC (c : UInt8) : Int := cond (c == 40 || (c == 91 || c == 123)) 1 (cond (c == 41 || (c == 93 || c == 125)) (-1) 0)
def net : Str → Int
 | [] => 0
 | c :: r => JC c + net r
def uR : Str → Int
 | [] => 0
 | c :: r => max 0 (JC c + uR r)
theorem jM (x y : Str) : net (x ++ y) = net x + net y := by
 induction x with
 | nil => simp [net]
 | cons c r ih => simp only [List.cons_append, net, ih]; omega
theorem kC (x : Str) : 0 ≤ uR x := by
 cases x <;> simp only [uR] <;> omega
theorem dI (x y : Str) : uR (x ++ y) = max (uR x) (net x + uR y) := by
 induction x with
 | nil => have := kC y; simp [uR, net]; omega
 | cons c r ih => simp only [List.cons_append, net, uR, ih]; omega
theorem ap7 {c : UInt8} (h : Cq c = true) : JC c = 0 := by
 unfold JC
 have : ∀ k : UInt8, Cq k = false → (c == k) = false := by
  intro k hk
  cases hc : c == k with
  | false => rfl
  | true => rw [beq_iff_eq] at hc; subst hc; rw [h] at hk; cases hk
 rw [this 40 rfl, this 91 rfl, this 123 rfl, this 41 rfl, this 93 rfl, this 125 rfl]
 rfl
theorem xq : ∀ w : Str, (∀ c ∈ w, Cq c = true) → net w = 0 ∧ uR w = 0
 | [], _ => ⟨rfl, rfl⟩
 | c :: r, h => by
  obtain ⟨h1, h2⟩ := xq r fun x hx => h x (by simp [hx])
  have := ap7 (h c (by simp))
  constructor <;> simp only [net, uR] <;> omega
end Abs
end Go.Proofs.YtiiaccpcoclklaaGreat
namespace Go.Proofs.YtiiaccpcoclklaaGreat
namespace Abs
open Go
theorem oV {sp w b : Str} (hsp : sp = [] ∨ sp = [32]) (hw : Word w) (hb : Sep b) : Nx (sp ++ (w ++ b)) ⟨cond (zf w) 2 1, w, b⟩ := by
 refine ⟨⟨sp, rfl⟩, fun a hl => ?_⟩
 refine Ev.eq (aqj hsp hw hb hl) ?_
 simp only [tpos, List.length_append]
 congr 1
 omega
theorem ajC {sp w b : Str} (hsp : sp = [] ∨ sp = [32]) (hw : Word w) (hk : zf w = false) : Nx (sp ++ ((w ++ [39]) ++ b)) ⟨1, w ++ [39], b⟩ := by
 refine ⟨⟨sp, rfl⟩, fun a hl => ?_⟩
 refine Ev.eq (anQ hsp hw hk hl) ?_
 simp only [tpos, List.length_append]
 congr 1
 omega
theorem aog {sp b : Str} (hsp : sp = [] ∨ sp = [32]) (m : Nat) (hm : m ≤ 1000000000) (hb : Sep b) : Nx (sp ++ (dec m ++ b)) ⟨3, dec m, b⟩ := by
 refine ⟨⟨sp, rfl⟩, fun a hl => ?_⟩
 refine Ev.eq (asc hsp m hm hb hl) ?_
 simp only [tpos, List.length_append]
 congr 1
 omega
theorem Kk {sp x b : Str} (hsp : sp = [] ∨ sp = [32]) (hx : ∃ c cs, x = c :: cs ∧ Cq c = false ∧ blank c = false) (hg : GQ (x ++ b) = x) : Nx (sp ++ (x ++ b)) ⟨4, x, b⟩ := by
 refine ⟨⟨sp, rfl⟩, fun a hl => ?_⟩
 refine Ev.eq (aqI hsp hx hg hl) ?_
 simp only [tpos, List.length_append]
 congr 1
 omega
theorem kD {sp : Str} (hsp : sp = [] ∨ sp = [32]) (c : UInt8) (b : Str) (hc : c = 40 ∨ c = 41 ∨ c = 91 ∨ c = 93 ∨ c = 123 ∨ c = 125 ∨ c = 44 ∨ c = 126) : Nx (sp ++ ([c] ++ b)) ⟨4, [c], b⟩ :=
 Kk hsp ⟨c, [], rfl, by rcases hc with h | h | h | h | h | h | h | h <;> subst h <;> rfl, by rcases hc with h | h | h | h | h | h | h | h <;> subst h <;> rfl⟩ (asg c b hc)
theorem atA : Nx [] ⟨0, [], []⟩ := by
 refine ⟨⟨[], rfl⟩, fun a hl => ?_⟩
 refine Ev.eq (arV (a := a) (sp := []) (Or.inl rfl) (by simpa using hl)) ?_
 simp [tpos]
theorem iw {c : UInt8} {r : Str} (h : Cq c = false) (k : c ≠ 39) : Sep (c :: r) := Or.inr ⟨c, r, rfl, h, k⟩
theorem ShY.first {ty : Ty} {s : Str} (h : ShY ty s) {sp b : Str} (hsp : sp = [] ∨ sp = [32]) (hb : Sep b) : ∃ t, Nx (sp ++ (s ++ b)) t := by
 cases h with
 | int => exact ⟨_, oV hsp ⟨⟨105, [110, 116], rfl, rfl⟩, by decide, by decide⟩ hb⟩
 | car hi => exact ⟨_, oV hsp (iZ hi) hb⟩
 | @set a s h =>
  have := oV (sp := sp) (w := [115, 101, 116]) (b := [40] ++ (s ++ ([41] ++ b))) hsp ⟨⟨115, [101, 116], rfl, rfl⟩, by decide, by decide⟩ (iw rfl (by decide))
  exact ⟨_, by simpa using this⟩
 | @pair a c s r h k =>
  have := oV (sp := sp) (w := [112, 97, 105, 114]) (b := [40] ++ (s ++ ([44, 32] ++ (r ++ ([41] ++ b))))) hsp ⟨⟨112, [97, 105, 114], rfl, rfl⟩, by decide, by decide⟩ (iw rfl (by decide))
  exact ⟨_, by simpa using this⟩
theorem Kr {w : Str} (hw : Word w) (d : Int) : up w d = d ∧ dn w d = d := by
 obtain ⟨c, cs, rfl, hc⟩ := hw.head
 have : ∀ k : UInt8, Ac (k.toNat : Int) = false → (([k] : Str) == c :: cs) = false := by
  intro k hk
  cases h : (([k] : Str) == c :: cs) with
  | false => rfl
  | true =>
   rw [beq_iff_eq] at h
   injection h with h1 h2
   subst h1
   rw [hk] at hc
   cases hc
 unfold up dn opn cls
 simp only [List.any_cons, List.any_nil]
 rw [this 40 rfl, this 91 rfl, this 123 rfl, this 41 rfl, this 93 rfl, this 125 rfl]
 exact ⟨rfl, rfl⟩
theorem ShY.net {ty : Ty} {s : Str} (h : ShY ty s) : Abs.net s = 0 := by
 induction h with
 | int => rfl
 | car hi => exact (xq _ (lV hi)).1
 | set h ih => rw [jM, jM, ih]; rfl
 | pair h k ih1 ih2 => rw [jM, jM, jM, jM, ih1, ih2]; rfl
theorem aup {P : Str} (hP : P.length ≤ 1000000000) : ∀ {ty : Ty} {s : Str}, ShY ty s → ∀ {sp b : Str} {t r : Tk} {d : Int}, (sp = [] ∨ sp = [32]) → Nx (sp ++ (s ++ b)) t → Sep b → Nx b r → (∃ a, P = a ++ (sp ++ (s ++ b))) → 0 ≤ d → d + uR s ≤ 64 → Ev (fun n => sG n P t.k t.w (tpos P t) d 0 0) (ty, r.k, r.w, tpos P r, d, 0, 0) := by
 intro ty s h
 induction h with
 | int =>
  intro sp b t r d hsp ht hb hr ⟨a, ha⟩ h0 hd
  have hl : (sp ++ ([105, 110, 116] ++ b)).length ≤ 1000000000 := by rw [ha] at hP; simp only [List.length_append] at hP ⊢; omega
  have e := ht.uniq (oV hsp ⟨⟨105, [110, 116], rfl, rfl⟩, by decide, by decide⟩ hb) hl
  have hs := ht.su ha
  have hdd : d ≤ 64 := by have := kC [105, 110, 116]; omega
  subst e
  have hp := (oz hP hs hr h0 hdd).1
  refine Ev.succ ?_
  show Ev (fun n => (bq n P 2 [105, 110, 116] (tpos P ⟨2, [105, 110, 116], b⟩) d 0 0).bind _) _
  exact Ev.bind hp (Ev.ret _)
 | @car nm hi =>
  intro sp b t r d hsp ht hb hr ⟨a, ha⟩ h0 hd
  have hl : (sp ++ (nm ++ b)).length ≤ 1000000000 := by rw [ha] at hP; simp only [List.length_append] at hP ⊢; omega
  have hk : zf nm = false := by
   cases nm with
   | nil => cases hi
   | cons c cs =>
    simp only [ident, Bool.and_eq_true, Bool.not_eq_true'] at hi
    exact hi.2.2.1
  have e := ht.uniq (oV hsp (iZ hi) hb) hl
  rw [hk] at e
  have hs := ht.su ha
  have hw := xq nm (lV hi)
  have hnb : up nm d = d ∧ dn nm d = d := Kr (iZ hi) d
  subst e
  have hp := (oz hP hs hr h0 (by show up nm d ≤ 64; rw [hnb.1]; omega)).1
  simp only [cond_false] at hp ⊢
  rw [hnb.1, hnb.2] at hp
  refine Ev.succ ?_
  show Ev (fun n => uF n _ P 1 nm _ d 0 0) _
  unfold uF
  refine Ev.neg rfl ?_
  refine Ev.bind (a := true) ?_ ?_
  ·refine Ev.pos rfl ?_
   exact Ev.bind (vo hi) (Ev.ret _)
  ·refine Ev.pos rfl ?_
   exact Ev.bind hp (Ev.ret _)
 | @set a s h ih =>
  intro sp b t r d hsp ht hb hr ⟨q, hq⟩ h0 hd
  have ea : [115, 101, 116, 40] ++ (s ++ [41]) ++ b = [115, 101, 116] ++ ([40] ++ (s ++ ([41] ++ b))) := by simp
  have hl : (sp ++ ([115, 101, 116, 40] ++ (s ++ [41]) ++ b)).length ≤ 1000000000 := by rw [hq] at hP; rw [List.length_append] at hP; omega
  have hn : d + 1 + uR s ≤ 64 := by
   rw [dI, dI s] at hd
   have : net [115, 101, 116, 40] = 1 := rfl
   omega
  have hm := kC s
  have e := ht.uniq (t := t) (r := ⟨2, [115, 101, 116], [40] ++ (s ++ ([41] ++ b))⟩) (by rw [ea]; exact oV hsp ⟨⟨115, [101, 116], rfl, rfl⟩, by decide, by decide⟩ (iw rfl (by decide))) hl
  have hs := ht.su hq
  subst e
  obtain ⟨p1, s1⟩ := oz (d := d) hP hs (kD (sp := []) (Or.inl rfl) 40 (s ++ ([41] ++ b)) (by simp)) h0 (by show d ≤ 64; omega)
  have hb1 : Sep ([41] ++ b) := iw rfl (by decide)
  obtain ⟨t2, n2⟩ := h.first (sp := []) (b := [41] ++ b) (Or.inl rfl) hb1
  obtain ⟨p2, s2⟩ := xR (d := d) (x := [40]) hP s1 n2 h0 (by show d + 1 ≤ 64; omega) (Or.inl rfl) rfl
  have n3 : Nx ([41] ++ b) ⟨4, [41], b⟩ := kD (sp := []) (Or.inl rfl) 41 b (by simp)
  have p3 := ih (sp := []) (Or.inl rfl) n2 hb1 n3 ⟨q ++ sp ++ [115, 101, 116, 40], by rw [hq]; simp⟩ (by omega) hn
  obtain ⟨p4, s4⟩ := xR (d := d + 1) (x := [41]) hP (n3.su (a := q ++ sp ++ [115, 101, 116, 40] ++ s) (by rw [hq]; simp)) hr (by omega) (by show d + 1 ≤ 64; omega) (Or.inl rfl) rfl
  have e4 : dn [41] (up [41] (d + 1)) = d := by show d + 1 - 1 = d; omega
  rw [e4] at p4
  refine Ev.succ ?_
  show Ev (fun n => (bq n P 2 [115, 101, 116] _ d 0 0).bind _) _
  refine Ev.bind p1 ?_
  refine Ev.bind p2 ?_
  refine Ev.bind p3 ?_
  refine Ev.bind p4 ?_
  exact Ev.ret _
 | @pair a c s r h k ih1 ih2 =>
  intro sp b t z d hsp ht hb hr ⟨q, hq⟩ h0 hd
  have ea : [112, 97, 105, 114, 40] ++ (s ++ ([44, 32] ++ (r ++ [41]))) ++ b = [112, 97, 105, 114] ++ ([40] ++ (s ++ ([44] ++ ([32] ++ (r ++ ([41] ++ b)))))) := by simp
  have hl : (sp ++ ([112, 97, 105, 114, 40] ++ (s ++ ([44, 32] ++ (r ++ [41]))) ++ b)).length ≤ 1000000000 := by rw [hq] at hP; rw [List.length_append] at hP; omega
  have hn : d + 1 + uR s ≤ 64 ∧ d + 1 + (net s + uR r) ≤ 64 := by
   rw [dI, dI s, dI [44, 32], dI r] at hd
   have : net [112, 97, 105, 114, 40] = 1 := rfl
   have : net [44, 32] = 0 := rfl
   omega
  have hnet : net s = 0 := h.net
  have hm := kC s
  have hm2 := kC r
  have e := ht.uniq (t := t) (r := ⟨2, [112, 97, 105, 114], [40] ++ (s ++ ([44] ++ ([32] ++ (r ++ ([41] ++ b)))))⟩) (by rw [ea]; exact oV hsp ⟨⟨112, [97, 105, 114], rfl, rfl⟩, by decide, by decide⟩ (iw rfl (by decide))) hl
  have hs := ht.su hq
  subst e
  obtain ⟨p1, s1⟩ := oz (d := d) hP hs (kD (sp := []) (Or.inl rfl) 40 (s ++ ([44] ++ ([32] ++ (r ++ ([41] ++ b))))) (by simp)) h0 (by show d ≤ 64; omega)
  have hb1 : Sep ([44] ++ ([32] ++ (r ++ ([41] ++ b)))) := iw rfl (by decide)
  obtain ⟨t2, n2⟩ := h.first (sp := []) (Or.inl rfl) hb1
  obtain ⟨p2, s2⟩ := xR (d := d) (x := [40]) hP s1 n2 h0 (by show d + 1 ≤ 64; omega) (Or.inl rfl) rfl
  have n3 := kD (sp := []) (Or.inl rfl) 44 ([32] ++ (r ++ ([41] ++ b))) (by simp)
  have p3 := ih1 (sp := []) (Or.inl rfl) n2 hb1 n3 ⟨q ++ sp ++ [112, 97, 105, 114, 40], by rw [hq]; simp⟩ (by omega) hn.1
  have hb2 : Sep ([41] ++ b) := iw rfl (by decide)
  obtain ⟨t4, n4⟩ := k.first (sp := [32]) (Or.inr rfl) hb2
  obtain ⟨p4, s4⟩ := xR (d := d + 1) (x := [44]) hP (n3.su (a := q ++ sp ++ [112, 97, 105, 114, 40] ++ s) (by rw [hq]; simp)) n4 (by omega) (by show d + 1 ≤ 64; omega) (Or.inl rfl) rfl
  have e4 : dn [44] (up [44] (d + 1)) = d + 1 := rfl
  rw [e4] at p4
  have n5 : Nx ([41] ++ b) ⟨4, [41], b⟩ := kD (sp := []) (Or.inl rfl) 41 b (by simp)
  have p5 := ih2 (sp := [32]) (d := d + 1) (Or.inr rfl) n4 hb2 n5 ⟨q ++ sp ++ [112, 97, 105, 114, 40] ++ s ++ [44], by rw [hq]; simp⟩ (by omega) (by omega)
  obtain ⟨p6, s6⟩ := xR (d := d + 1) (x := [41]) hP (n5.su (a := q ++ sp ++ [112, 97, 105, 114, 40] ++ s ++ [44] ++ [32] ++ r) (by rw [hq]; simp)) hr (by omega) (by show d + 1 ≤ 64; omega) (Or.inl rfl) rfl
  have e6 : dn [41] (up [41] (d + 1)) = d := by show d + 1 - 1 = d; omega
  rw [e6] at p6
  refine Ev.succ ?_
  show Ev (fun n => (bq n P 2 [112, 97, 105, 114] _ d 0 0).bind _) _
  refine Ev.bind p1 ?_
  refine Ev.bind p2 ?_
  refine Ev.bind p3 ?_
  refine Ev.bind p4 ?_
  refine Ev.bind p5 ?_
  refine Ev.bind p6 ?_
  exact Ev.ret _
end Abs
end Go.Proofs.YtiiaccpcoclklaaGreat

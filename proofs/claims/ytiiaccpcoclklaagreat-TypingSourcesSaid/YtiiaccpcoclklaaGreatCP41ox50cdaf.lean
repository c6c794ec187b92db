/-
  What Readable says of the printed text. Conditions: none; lemmas without a program.
-/
import Derived.Test.YtiiaccpcoclklaaGreatCP15ox6be288
set_option linter.unusedSimpArgs false
set_option linter.unusedVariables false
namespace Go.Proofs.YtiiaccpcoclklaaGreat
namespace Abs
open Go
theorem ahf (n k : Nat) (p : Str) (c : UInt8) (r : Str) (v m : Int) (h1 : -1000000000 ≤ v) (h2 : v ≤ 1000000000) : mI n (p ++ c :: r) (k + 1) (v, m, (p.length : Int)) = mI n (p ++ c :: r) k (v + JC c, cond (JC c == 1) (max m (v + 1)) m, (p.length : Int) + 1) := by
 have es := tL p c r
 have e1 : IntKind.wrap .i64 (v + 1) = v + 1 := (bC (by omega) (by omega)).symm
 have e2 : IntKind.wrap .i64 (v - 1) = v - 1 := (bC (by omega) (by omega)).symm
 have em : (if v + 1 > m then v + 1 else m) = max m (v + 1) := by split <;> omega
 conv => lhs; unfold mI
 dsimp only
 rw [decide_eq_true (by simp; omega), es]
 simp only [cond_true, Option.bind_some]
 have t : ∀ q : Nat, q < 256 → ((c.toNat : Int) == (q : Int)) = (c == UInt8.ofNat q) := fun q hq => Kj c q hq
 have t40 : ((c.toNat : Int) == 40) = (c == 40) := t 40 (by decide)
 have t91 : ((c.toNat : Int) == 91) = (c == 91) := t 91 (by decide)
 have t123 : ((c.toNat : Int) == 123) = (c == 123) := t 123 (by decide)
 have t41 : ((c.toNat : Int) == 41) = (c == 41) := t 41 (by decide)
 have t93 : ((c.toNat : Int) == 93) = (c == 93) := t 93 (by decide)
 have t125 : ((c.toNat : Int) == 125) = (c == 125) := t 125 (by decide)
 rw [t40, t91, t123, t41, t93, t125]
 cases ho : (c == 40 || (c == 91 || c == 123)) with
 | true =>
  have : c = 40 ∨ c = 91 ∨ c = 123 := by simpa using ho
  rcases this with h | h | h <;> subst h <;> simp [JC, e1, em]
 | false =>
  have h3 : (c == 40) = false ∧ (c == 91) = false ∧ (c == 123) = false := by simpa using ho
  rw [h3.1, h3.2.1, h3.2.2]
  cases hc : (c == 41 || (c == 93 || c == 125)) with
  | true =>
   have : c = 41 ∨ c = 93 ∨ c = 125 := by simpa using hc
   rcases this with h | h | h <;> subst h <;> simp [JC, e2] <;> rfl
  | false =>
   have h4 : (c == 41) = false ∧ (c == 93) = false ∧ (c == 125) = false := by simpa using hc
   rw [h4.1, h4.2.1, h4.2.2]
   simp [JC, h3, h4]
theorem ah2 (n : Nat) : ∀ (u p : Str) (k : Nat) (v m : Int), u.length < k → p.length + u.length ≤ 1000000000 → -(p.length : Int) ≤ v → v ≤ m → v ≤ (p.length : Int) → mI n (p ++ u) k (v, m, (p.length : Int)) = some (.nx (max m (v + uR u))) := by
 intro u
 induction u with
 | nil =>
  intro p k v m hk hl h1 h2 h3
  obtain ⟨k, rfl⟩ : ∃ j, k = j + 1 := ⟨k - 1, by simp at hk; omega⟩
  unfold mI
  dsimp only
  rw [decide_eq_false (by simp)]
  simp only [cond_false, uR]
  rw [show max m (v + 0) = m by omega]
 | cons c r ih =>
  intro p k v m hk hl h1 h2 h3
  simp only [List.length_cons] at hk hl
  obtain ⟨k, rfl⟩ : ∃ j, k = j + 1 := ⟨k - 1, by omega⟩
  rw [ahf n k p c r v m (by omega) (by omega)]
  have hd : JC c = 1 ∨ JC c = 0 ∨ JC c = -1 := by
   unfold JC
   cases (c == 40 || (c == 91 || c == 123)) <;> cases (c == 41 || (c == 93 || c == 125)) <;> simp
  have hm := kC r
  have := ih (p ++ [c]) k (v + JC c) (cond (JC c == 1) (max m (v + 1)) m) (by omega) (by simp; omega) (by simp; omega) (by rcases hd with h | h | h <;> rw [h] <;> simp <;> omega) (by simp; omega)
  rw [show p ++ [c] ++ r = p ++ c :: r by simp, show (((p ++ [c]).length : Nat) : Int) = (p.length : Int) + 1 by simp] at this
  rw [this]
  congr 2
  simp only [uR]
  rcases hd with h | h | h <;> rw [h] <;> simp <;> omega
theorem akm (u : Str) (hl : u.length ≤ 1000000000) : Ev (fun n => mI n u n (0, 0, 0)) (.nx (uR u)) := by
 refine ⟨u.length + 1, fun n hn => ?_⟩
 have := ah2 n u [] n 0 0 (by omega) (by simp; omega) (by simp) (by omega) (by simp)
 simp only [List.nil_append, List.length_nil] at this
 have hm := kC u
 rw [show max 0 (0 + uR u) = uR u by omega] at this
 exact this
theorem auM {α : Type} (c : Bool) (a b : α) : cond c (some a) (some b) = some (cond c a b) := by cases c <;> rfl
def Qt (w : Str) : Int × Int := (xW 0 w).getD (0, 0)
theorem afT (n : Nat) (w : Str) : xW n w = some (Qt w) := by
 have h : ∃ x, xW n w = some x := by
  simp only [xW, Iu, Gq, Vj, auM, Option.bind_some, Option.some.injEq, exists_eq']
 obtain ⟨x, hx⟩ := h
 have e : xW 0 w = xW n w := rfl
 rw [hx]
 unfold Qt
 rw [e, hx]
 rfl
def NW (r : Tk) : Bool := r.k == 4 || r.k == 2
def zi (r : Tk) (x : Str) : Bool := NW r && r.w == x
def lvl (r : Tk) : Int := cond (NW r) (Qt r.w).1 0
theorem arM {P : Str} {r : Tk} {d L : Int} (n : Nat) (h : lvl r ≠ L) (h1 : 1 ≤ L) : nP n P r.k r.w (tpos P r) d 0 0 L = some 0 := by
 unfold nP
 rw [afT]
 unfold lvl NW at h
 cases h4 : r.k == 4 with
 | true =>
  rw [h4] at h
  simp only [Bool.true_or, cond_true] at h
  have : (r.k != 4) = false := by simp [bne, h4]
  rw [this]
  simp only [cond_false, Option.bind_some]
  have : ((Qt r.w).1 != L) = true := by simpa using h
  rw [this]
  rfl
 | false =>
  rw [h4] at h
  have : (r.k != 4) = true := by simp [bne, h4]
  rw [this]
  simp only [cond_true, Option.bind_some]
  cases h2 : r.k == 2 with
  | true =>
   rw [h2] at h
   simp only [Bool.or_true, cond_true] at h
   have : (r.k != 2) = false := by simp [bne, h2]
   rw [this]
   simp only [cond_false, Option.bind_some]
   have : ((Qt r.w).1 != L) = true := by simpa using h
   rw [this]
   rfl
  | false =>
   have : (r.k != 2) = true := by simp [bne, h2]
   rw [this]
   rfl
theorem aul {P : Str} {r : Tk} {d L o : Int} (n : Nat) (hk : NW r = true) (h : Qt r.w = (L, o)) : nP n P r.k r.w (tpos P r) d 0 0 L = some o := by
 unfold nP
 rw [afT, h]
 unfold NW at hk
 cases h4 : r.k == 4 with
 | true =>
  have : (r.k != 4) = false := by simp [bne, h4]
  rw [this]
  simp
 | false =>
  rw [h4] at hk
  simp only [Bool.false_or] at hk
  have e1 : (r.k != 4) = true := by simp [bne, h4]
  have e2 : (r.k != 2) = false := by simp [bne, hk]
  rw [e1, e2]
  simp
def lq (P : Str) (t : Tk) (d L : Int) (v : Tm) (r : Tk) : Prop := Ev (fun n => bI n P t.k t.w (tpos P t) d 0 0 L) (v, r.k, r.w, tpos P r, d, 0, 0)
def am3 (P : Str) (t : Tk) (d : Int) (x : Tm) (L : Int) (v : Tm) (r : Tk) : Prop := Ev (fun n => fO n P t.k t.w (tpos P t) d 0 0 x L) (v, r.k, r.w, tpos P r, d, 0, 0)
def ahj (P : Str) (t : Tk) (d : Int) (v : Tm) (r : Tk) : Prop := Ev (fun n => fq n P t.k t.w (tpos P t) d 0 0) (v, r.k, r.w, tpos P r, d, 0, 0)
def zl (P : Str) (t : Tk) (d : Int) (v : Tm) (r : Tk) : Prop := Ev (fun n => gN n P t.k t.w (tpos P t) d 0 0) (v, r.k, r.w, tpos P r, d, 0, 0)
abbrev arq (n : Nat) (P : Str) (k : Nat) (r : Tk) (d : Int) (v : Tm) := jU n (fun p0 p1 p2 p3 p4 p5 p6 p7 => dY n p0 p1 p2 p3 p4 p5 p6 p7) (fun p0 p1 p2 p3 p4 p5 p6 p7 p8 => fO n p0 p1 p2 p3 p4 p5 p6 p7 p8) (fun p0 p1 p2 p3 p4 p5 p6 => fB n p0 p1 p2 p3 p4 p5 p6) (fun p0 p1 p2 p3 p4 p5 p6 => gN n p0 p1 p2 p3 p4 p5 p6) (fun p0 p1 p2 p3 p4 p5 p6 => fq n p0 p1 p2 p3 p4 p5 p6) (fun p0 p1 p2 p3 p4 p5 p6 p7 => bI n p0 p1 p2 p3 p4 p5 p6 p7) (fun p0 p1 p2 p3 p4 p5 p6 p7 => dQ n p0 p1 p2 p3 p4 p5 p6 p7) P k (r.k, r.w, tpos P r, d, 0, 0, v.op, v.name, v.n, v.ty.kind, v.ty.name, v.ty.kids, v.kids)
def J8 (P : Str) (v : Tm) (r : Tk) (d : Int) (x : Tm) (z : Tk) : Prop := ∃ N, ∀ n k, N ≤ n → N ≤ k → arq n P k r d v = some (.rt (x, z.k, z.w, tpos P z, d, 0, 0))
theorem ak8 {P : Str} {r : Tk} {d L : Int} {v : Tm} (h : lvl r ≠ L) (h1 : 1 ≤ L) : am3 P r d v L v r := by
 refine Ev.succ ?_
 refine ⟨1, fun n hn => ?_⟩
 obtain ⟨m, rfl⟩ : ∃ m, n = m + 1 := ⟨n - 1, by omega⟩
 show mP _ _ _ _ _ _ _ _ P r.k r.w (tpos P r) d 0 0 v L = _
 obtain ⟨o, nm, q, ty, ks⟩ := v
 obtain ⟨tk, tn, tks⟩ := ty
 unfold mP mK
 dsimp only
 rw [arM _ h h1]
 rfl
theorem alk {P : Str} {t r : Tk} {d l : Int} {v : Tm} (h : lq P t d (l + 1) v r) (hr : lvl r ≠ l) (h1 : 1 ≤ l) (h2 : l ≤ 13) (hn : l = 5 → zi t [110, 111, 116] = false) (hm : l = 13 → zi t [45] = false) : lq P t d l v r := by
 refine Ev.succ ?_
 show Ev (fun n => jm n _ _ _ _ _ _ _ P t.k t.w (tpos P t) d 0 0 l) _
 unfold jm
 refine Ev.neg rfl ?_
 refine Ev.bind (a := false) ?_ ?_
 ·cases h5 : l == 5 with
  | true =>
   have := hn (by simpa using h5)
   simp only [cond_true, Io, Option.bind_some]
   exact Ev.eq (Ev.ret _) this
  | false => exact Ev.ret _
 refine Ev.neg rfl ?_
 refine Ev.bind (a := false) ?_ ?_
 ·cases h5 : l == 13 with
  | true =>
   have := hm (by simpa using h5)
   simp only [cond_true, Io, Option.bind_some]
   exact Ev.eq (Ev.ret _) this
  | false => exact Ev.ret _
 refine Ev.neg rfl ?_
 have h14 : (l == 14) = false := by simp; omega
 refine Ev.neg h14 ?_
 have e : IntKind.wrap .i64 (l + 1) = l + 1 := (bC (by omega) (by omega)).symm
 rw [e]
 refine Ev.bind h ?_
 refine Ev.bind (ak8 (v := v) hr h1) ?_
 exact Ev.ret _
theorem asn {P : Str} {t r : Tk} {d : Int} {v : Tm} (h : ahj P t d v r) : lq P t d 14 v r := by
 refine Ev.succ ?_
 show Ev (fun n => jm n _ _ _ _ _ _ _ P t.k t.w (tpos P t) d 0 0 14) _
 unfold jm
 refine Ev.neg rfl ?_
 refine Ev.bind (a := false) (Ev.ret _) ?_
 refine Ev.neg rfl ?_
 refine Ev.bind (a := false) (Ev.ret _) ?_
 refine Ev.neg rfl ?_
 refine Ev.pos rfl ?_
 exact Ev.bind h (Ev.ret _)
theorem ak1 {P : Str} {t r : Tk} {d : Int} {v : Tm} (h : ahj P t d v r) (hn : zi t [110, 111, 116] = false) (hm : zi t [45] = false) (l : Int) (h1 : 1 ≤ l) (h2 : l ≤ 14) (hr : lvl r < l) : lq P t d l v r := by
 have key : ∀ j : Nat, j ≤ 13 → lvl r < 14 - (j : Int) → lq P t d (14 - (j : Int)) v r := by
  intro j
  induction j with
  | zero => intro _ _; exact asn h
  | succ j ih =>
   intro hj hl
   have := ih (by omega) (by omega)
   refine alk (l := 14 - ((j + 1 : Nat) : Int)) ?_ (by omega) (by omega) (by omega) (fun _ => hn) (fun _ => hm)
   rw [show (14 - ((j + 1 : Nat) : Int)) + 1 = 14 - (j : Int) by omega]
   exact this
 have := key (14 - l).toNat (by omega) (by omega)
 rw [show 14 - ((14 - l).toNat : Int) = l by omega] at this
 exact this
theorem alc {P : Str} {t r z : Tk} {d : Int} {v x : Tm} (h : zl P t d v r) (hl : J8 P v r d x z) : ahj P t d x z := by
 refine Ev.succ ?_
 show Ev (fun n => pz n _ _ _ _ _ _ _ P t.k t.w (tpos P t) d 0 0) _
 unfold pz
 refine Ev.bind h ?_
 refine Ev.bind (a := .rt (x, z.k, z.w, tpos P z, d, 0, 0)) ?_ (by show Ev (fun _ => some (x, z.k, z.w, tpos P z, d, 0, 0)) _; exact Ev.ret _)
 obtain ⟨N, hN⟩ := hl
 exact ⟨N, fun n hn => hN n n hn hn⟩
theorem afS {P : Str} {r : Tk} {d : Int} {v : Tm} (h1 : zi r [40] = false) (h2 : zi r [91] = false) (h3 : zi r [126] = false) : J8 P v r d v r := by
 refine ⟨1, fun n k hn hk => ?_⟩
 obtain ⟨m, rfl⟩ : ∃ m, k = m + 1 := ⟨k - 1, by omega⟩
 obtain ⟨o, nm, q, ty, ks⟩ := v
 obtain ⟨tk, tn, tks⟩ := ty
 unfold arq jU
 simp only [Io, Option.bind_some]
 unfold zi NW at h1 h2 h3
 rw [h1, h2, h3]
 rfl
theorem aot {c : UInt8} {cs : Str} (hc : Cq c = true) (d : Int) : up (c :: cs) d = d ∧ dn (c :: cs) d = d := by
 have : ∀ k : UInt8, Cq k = false → (([k] : Str) == c :: cs) = false := by
  intro k hk
  cases h : (([k] : Str) == c :: cs) with
  | false => rfl
  | true =>
   rw [beq_iff_eq] at h
   injection h with h1 h2
   subst h1
   rw [hk] at hc
   cases hc
 unfold up dn opn cls
 simp only [List.any_cons, List.any_nil]
 rw [this 40 rfl, this 91 rfl, this 123 rfl, this 41 rfl, this 93 rfl, this 125 rfl]
 exact ⟨rfl, rfl⟩
theorem yI {P : Str} {t r : Tk} {d : Int} (hP : P.length ≤ 1000000000) (hs : Su P t) (hn : Nx t.b r) (h0 : 0 ≤ d) (hd : d ≤ 64) (hu : up t.w d = d) (hw : dn t.w d = d) : Ev (fun n => bq n P t.k t.w (tpos P t) d 0 0) (r.k, r.w, tpos P r, d, 0, 0) := by
 have := (oz hP hs hn h0 (by rw [hu]; exact hd)).1
 rw [hu, hw] at this
 exact this
theorem arN {P : Str} {t r : Tk} {d : Int} {x : Str} (hP : P.length ≤ 1000000000) (hs : Su P t) (hn : Nx t.b r) (h0 : 0 ≤ d) (hd : d ≤ 64) (hu : up t.w d = d) (hw : dn t.w d = d) (hk : t.k = 4 ∨ t.k = 2) (hx : t.w = x) : Ev (fun n => gB n P t.k t.w (tpos P t) d 0 0 x) (r.k, r.w, tpos P r, d, 0, 0) := by
 have := (xR hP hs hn h0 (by rw [hu]; exact hd) hk hx).1
 rw [hu, hw] at this
 exact this
theorem afP {P w b : Str} {r : Tk} {d : Int} (hP : P.length ≤ 1000000000) (hs : Su P ⟨1, w, b⟩) (hn : Nx b r) (h0 : 0 ≤ d) (hd : d ≤ 64) (hu : up w d = d) (hw : dn w d = d) : zl P ⟨1, w, b⟩ d (ji w) r := by
 have hp := yI hP hs hn h0 hd hu hw
 refine Ev.succ ?_
 show Ev (fun n => mQ n _ _ _ _ _ _ _ P 1 w (tpos P ⟨1, w, b⟩) d 0 0) _
 unfold mQ
 refine Ev.neg rfl ?_
 refine Ev.pos rfl ?_
 exact Ev.bind hp (Ev.ret _)
theorem apW {P b : Str} {m : Nat} {r : Tk} {d : Int} (hP : P.length ≤ 1000000000) (hm : m ≤ 1000000000) (hs : Su P ⟨3, dec m, b⟩) (hn : Nx b r) (h0 : 0 ≤ d) (hd : d ≤ 64) (hu : up (dec m) d = d) (hw : dn (dec m) d = d) : zl P ⟨3, dec m, b⟩ d (Cx (m : Int)) r := by
 have hp := yI hP hs hn h0 hd hu hw
 refine Ev.succ ?_
 show Ev (fun n => mQ n _ _ _ _ _ _ _ P 3 (dec m) (tpos P ⟨3, dec m, b⟩) d 0 0) _
 unfold mQ
 refine Ev.neg rfl ?_
 refine Ev.neg rfl ?_
 refine Ev.pos rfl ?_
 refine Ev.bind hp ?_
 refine Ev.bind (agd m hm) ?_
 exact Ev.ret _
theorem anF {P b : Str} {r : Tk} {d : Int} (hP : P.length ≤ 1000000000) (hs : Su P ⟨2, [116, 114, 117, 101], b⟩) (hn : Nx b r) (h0 : 0 ≤ d) (hd : d ≤ 64) : zl P ⟨2, [116, 114, 117, 101], b⟩ d (bM 1 []) r := by
 have hp := yI hP hs hn h0 hd rfl rfl
 refine Ev.succ ?_
 show Ev (fun n => (bq n P 2 [116, 114, 117, 101] _ d 0 0).bind _) _
 exact Ev.bind hp (Ev.ret _)
theorem amy {P b : Str} {r : Tk} {d : Int} (hP : P.length ≤ 1000000000) (hs : Su P ⟨2, [102, 97, 108, 115, 101], b⟩) (hn : Nx b r) (h0 : 0 ≤ d) (hd : d ≤ 64) : zl P ⟨2, [102, 97, 108, 115, 101], b⟩ d (bM 2 []) r := by
 have hp := yI hP hs hn h0 hd rfl rfl
 refine Ev.succ ?_
 show Ev (fun n => (bq n P 2 [102, 97, 108, 115, 101] _ d 0 0).bind _) _
 exact Ev.bind hp (Ev.ret _)
theorem Jf {P x c : Str} {t r : Tk} {d : Int} {v : Tm} (hP : P.length ≤ 1000000000) (h : lq P t (d + 1) 1 v ⟨4, x, c⟩) (hs : Su P ⟨4, x, c⟩) (hn : Nx c r) (h0 : 0 ≤ d) (hd : d + 1 ≤ 64) (hx : x = [41] ∨ x = [93] ∨ x = [125]) : Ev (fun n => dQ n P t.k t.w (tpos P t) (d + 1) 0 0 x) (v, r.k, r.w, tpos P r, d, 0, 0) := by
 have hu : up x (d + 1) = d + 1 := by rcases hx with h | h | h <;> subst h <;> rfl
 have hw : dn x (d + 1) = d := by rcases hx with h | h | h <;> subst h <;> (show d + 1 - 1 = d) <;> omega
 have hm := (xR (d := d + 1) (x := x) hP hs hn (by omega) (by rw [hu]; exact hd) (Or.inl rfl) rfl).1
 rw [hu, hw] at hm
 refine Ev.succ ?_
 show Ev (fun n => qo n _ _ _ _ _ _ _ P t.k t.w (tpos P t) (d + 1) 0 0 x) _
 unfold qo
 refine Ev.bind h ?_
 exact Ev.bind hm (Ev.ret _)
theorem apG {P b c : Str} {t r : Tk} {d : Int} {v : Tm} (hP : P.length ≤ 1000000000) (hs : Su P ⟨4, [40], b⟩) (hn : Nx b t) (h : lq P t (d + 1) 1 v ⟨4, [41], c⟩) (hz : Su P ⟨4, [41], c⟩) (hr : Nx c r) (h0 : 0 ≤ d) (hd : d + 1 ≤ 64) : zl P ⟨4, [40], b⟩ d v r := by
 have hp := (oz (d := d) hP hs hn h0 (by show d + 1 ≤ 64; omega)).1
 have hi := Jf hP h hz hr h0 hd (Or.inl rfl)
 refine Ev.succ ?_
 show Ev (fun n => (bq n P 4 [40] _ d 0 0).bind _) _
 refine Ev.bind hp ?_
 exact Ev.bind hi (Ev.ret _)
theorem aqb {P b c : Str} {t r z : Tk} {d : Int} {v q x : Tm} (hP : P.length ≤ 1000000000) (hs : Su P ⟨4, [40], b⟩) (hn : Nx b t) (h : lq P t (d + 1) 1 q ⟨4, [41], c⟩) (hz : Su P ⟨4, [41], c⟩) (hr : Nx c r) (h0 : 0 ≤ d) (hd : d + 1 ≤ 64) (hl : J8 P (bM 54 [v, q]) r d x z) : J8 P v ⟨4, [40], b⟩ d x z := by
 obtain ⟨N1, hp⟩ := (oz (d := d) hP hs hn h0 (by show d + 1 ≤ 64; omega)).1
 obtain ⟨N2, hi⟩ := Jf hP h hz hr h0 hd (Or.inl rfl)
 obtain ⟨N3, hl⟩ := hl
 refine ⟨N1 + N2 + N3 + 1, fun n k hn hk => ?_⟩
 obtain ⟨m, rfl⟩ : ∃ m, k = m + 1 := ⟨k - 1, by omega⟩
 have a1 : bq n P 4 [40] (tpos P ⟨4, [40], b⟩) d 0 0 = some _ := hp n (by omega)
 have a2 : dQ n P t.k t.w (tpos P t) (d + 1) 0 0 [41] = some _ := hi n (by omega)
 have a3 := hl n m (by omega) (by omega)
 obtain ⟨o, nm, q', ty, ks⟩ := v
 obtain ⟨tk, tn, tks⟩ := ty
 show ((bq n P 4 [40] (tpos P ⟨4, [40], b⟩) d 0 0).bind _ : Option _) = _
 rw [a1]
 show ((dQ n P t.k t.w (tpos P t) (d + 1) 0 0 [41]).bind _ : Option _) = _
 rw [a2]
 exact a3
theorem aq9 {P b c : Str} {t r z : Tk} {d : Int} {v q x : Tm} (hP : P.length ≤ 1000000000) (hs : Su P ⟨4, [91], b⟩) (hn : Nx b t) (h : lq P t (d + 1) 1 q ⟨4, [93], c⟩) (hz : Su P ⟨4, [93], c⟩) (hr : Nx c r) (h0 : 0 ≤ d) (hd : d + 1 ≤ 64) (hl : J8 P (bM 53 [v, q]) r d x z) : J8 P v ⟨4, [91], b⟩ d x z := by
 obtain ⟨N1, hp⟩ := (oz (d := d) hP hs hn h0 (by show d + 1 ≤ 64; omega)).1
 obtain ⟨N2, hi⟩ := Jf hP h hz hr h0 hd (Or.inr (Or.inl rfl))
 obtain ⟨N3, hl⟩ := hl
 refine ⟨N1 + N2 + N3 + 1, fun n k hn hk => ?_⟩
 obtain ⟨m, rfl⟩ : ∃ m, k = m + 1 := ⟨k - 1, by omega⟩
 have a1 : bq n P 4 [91] (tpos P ⟨4, [91], b⟩) d 0 0 = some _ := hp n (by omega)
 have a2 : dQ n P t.k t.w (tpos P t) (d + 1) 0 0 [93] = some _ := hi n (by omega)
 have a3 := hl n m (by omega) (by omega)
 obtain ⟨o, nm, q', ty, ks⟩ := v
 obtain ⟨tk, tn, tks⟩ := ty
 show ((bq n P 4 [91] (tpos P ⟨4, [91], b⟩) d 0 0).bind _ : Option _) = _
 rw [a1]
 show ((dQ n P t.k t.w (tpos P t) (d + 1) 0 0 [93]).bind _ : Option _) = _
 rw [a2]
 exact a3
theorem aqt {P b : Str} {r z : Tk} {d : Int} {v x : Tm} (hP : P.length ≤ 1000000000) (hs : Su P ⟨4, [126], b⟩) (hn : Nx b r) (h0 : 0 ≤ d) (hd : d ≤ 64) (hl : J8 P (bM 52 [v]) r d x z) : J8 P v ⟨4, [126], b⟩ d x z := by
 obtain ⟨N1, hp⟩ := yI (d := d) hP hs hn h0 hd rfl rfl
 obtain ⟨N3, hl⟩ := hl
 refine ⟨N1 + N3 + 1, fun n k hn hk => ?_⟩
 obtain ⟨m, rfl⟩ : ∃ m, k = m + 1 := ⟨k - 1, by omega⟩
 have a1 : bq n P 4 [126] (tpos P ⟨4, [126], b⟩) d 0 0 = some _ := hp n (by omega)
 have a3 := hl n m (by omega) (by omega)
 obtain ⟨o, nm, q', ty, ks⟩ := v
 obtain ⟨tk, tn, tks⟩ := ty
 show ((bq n P 4 [126] (tpos P ⟨4, [126], b⟩) d 0 0).bind _ : Option _) = _
 rw [a1]
 exact a3
theorem aqW {P b : Str} {t r : Tk} {d : Int} {v : Tm} (hP : P.length ≤ 1000000000) (hs : Su P ⟨2, [110, 111, 116], b⟩) (hn : Nx b t) (h0 : 0 ≤ d) (hd : d ≤ 64) (h : lq P t d 5 v r) : lq P ⟨2, [110, 111, 116], b⟩ d 5 (bM 3 [v]) r := by
 have hp := yI (d := d) hP hs hn h0 hd rfl rfl
 refine Ev.succ ?_
 show Ev (fun n => (bq n P 2 [110, 111, 116] _ d 0 0).bind _) _
 refine Ev.bind hp ?_
 exact Ev.bind h (Ev.ret _)
theorem aqY {P b : Str} {t r : Tk} {d : Int} {v : Tm} (hP : P.length ≤ 1000000000) (hs : Su P ⟨4, [45], b⟩) (hn : Nx b t) (h0 : 0 ≤ d) (hd : d ≤ 64) (h : lq P t d 13 v r) : lq P ⟨4, [45], b⟩ d 13 (bM 21 [v]) r := by
 have hp := yI (d := d) hP hs hn h0 hd rfl rfl
 refine Ev.succ ?_
 show Ev (fun n => (bq n P 4 [45] _ d 0 0).bind _) _
 refine Ev.bind hp ?_
 exact Ev.bind h (Ev.ret _)
abbrev Ms (n : Nat) (P : Str) (L : Int) (k : Nat) (r : Tk) (d : Int) (v : Tm) := mK n (fun p0 p1 p2 p3 p4 p5 p6 p7 => dY n p0 p1 p2 p3 p4 p5 p6 p7) (fun p0 p1 p2 p3 p4 p5 p6 p7 p8 => fO n p0 p1 p2 p3 p4 p5 p6 p7 p8) (fun p0 p1 p2 p3 p4 p5 p6 => fB n p0 p1 p2 p3 p4 p5 p6) (fun p0 p1 p2 p3 p4 p5 p6 => gN n p0 p1 p2 p3 p4 p5 p6) (fun p0 p1 p2 p3 p4 p5 p6 => fq n p0 p1 p2 p3 p4 p5 p6) (fun p0 p1 p2 p3 p4 p5 p6 p7 => bI n p0 p1 p2 p3 p4 p5 p6 p7) (fun p0 p1 p2 p3 p4 p5 p6 p7 => dQ n p0 p1 p2 p3 p4 p5 p6 p7) P L k (r.k, r.w, tpos P r, d, 0, 0, v.op, v.name, v.n, v.ty.kind, v.ty.name, v.ty.kids, v.kids)
theorem aqJ {P : Str} {r : Tk} {d L : Int} {v : Tm} (n k : Nat) (h : lvl r ≠ L) (h1 : 1 ≤ L) : Ms n P L (k + 1) r d v = some (.nx (r.k, r.w, tpos P r, d, 0, 0, v.op, v.name, v.n, v.ty.kind, v.ty.name, v.ty.kids, v.kids)) := by
 unfold Ms mK
 dsimp only
 rw [arM _ h h1]
 rfl
theorem aqC {P : Str} {r0 t1 r : Tk} {d l o : Int} {p q : Tm} (hP : P.length ≤ 1000000000) (hs : Su P r0) (hn : Nx r0.b t1) (h0 : 0 ≤ d) (hd : d ≤ 64) (hu : up r0.w d = d) (hw : dn r0.w d = d) (hk : NW r0 = true) (hb : Qt r0.w = (l, o)) (ho : o ≠ 0) (hl : l = 1 ∨ l = 2 ∨ l = 3 ∨ l = 4 ∨ l = 6 ∨ l = 7 ∨ l = 8 ∨ l = 9 ∨ l = 10 ∨ l = 11 ∨ l = 12) (h : lq P t1 d (cond (l == 2) 2 (l + 1)) q r) (hr : lvl r = 0) : am3 P r0 d p l (bM o [p, q]) r := by
 obtain ⟨N1, hp⟩ := yI hP hs hn h0 hd hu hw
 obtain ⟨N2, h⟩ := h
 refine Ev.succ ?_
 refine ⟨N1 + N2 + 2, fun n hn => ?_⟩
 have a1 : bq n P r0.k r0.w (tpos P r0) d 0 0 = some _ := hp n (by omega)
 have a2 : bI n P t1.k t1.w (tpos P t1) d 0 0 (cond (l == 2) 2 (l + 1)) = some _ := h n (by omega)
 obtain ⟨m, rfl⟩ : ∃ m, n = m + 2 := ⟨n - 2, by omega⟩
 obtain ⟨po, pn, pq, pty, pks⟩ := p
 obtain ⟨tk, tn, tks⟩ := pty
 show mP _ _ _ _ _ _ _ _ P r0.k r0.w (tpos P r0) d 0 0 _ l = _
 unfold mP mK
 dsimp only
 have ho' : (o == 0) = false := by simpa using ho
 rw [aul _ hk hb]
 simp only [show ((0 : Int) == 0) = true from rfl, cond_true, Option.bind_some, ho', cond_false]
 rw [a1]
 simp only [Option.bind_some]
 have no := fun (j : Nat) (v : Tm) => aqJ (P := P) (r := r) (d := d) (L := l) (v := v) (m + 2) j (by rw [hr]; omega) (by omega)
 rcases hl with e | e | e | e | e | e | e | e | e | e | e <;> subst e
 ·show (((bI (m + 2) P t1.k t1.w (tpos P t1) d 0 0 2).bind _ : Option _).bind _ : Option _) = _
  rw [show bI (m + 2) P t1.k t1.w (tpos P t1) d 0 0 2 = _ from a2]
  rfl
 ·show (((bI (m + 2) P t1.k t1.w (tpos P t1) d 0 0 2).bind _ : Option _).bind _ : Option _) = _
  rw [show bI (m + 2) P t1.k t1.w (tpos P t1) d 0 0 2 = _ from a2]
  rfl
 ·show (((bI (m + 2) P t1.k t1.w (tpos P t1) d 0 0 4).bind _ : Option _).bind _ : Option _) = _
  rw [show bI (m + 2) P t1.k t1.w (tpos P t1) d 0 0 4 = _ from a2]
  simp only [Option.bind_some]
  show ((Ms (m + 2) P 3 (m + 1) r d (bM o [_, q])).bind _ : Option _) = _
  rw [no m]
  rfl
 ·show (((bI (m + 2) P t1.k t1.w (tpos P t1) d 0 0 5).bind _ : Option _).bind _ : Option _) = _
  rw [show bI (m + 2) P t1.k t1.w (tpos P t1) d 0 0 5 = _ from a2]
  simp only [Option.bind_some]
  show ((Ms (m + 2) P 4 (m + 1) r d (bM o [_, q])).bind _ : Option _) = _
  rw [no m]
  rfl
 ·show (((bI (m + 2) P t1.k t1.w (tpos P t1) d 0 0 7).bind _ : Option _).bind _ : Option _) = _
  rw [show bI (m + 2) P t1.k t1.w (tpos P t1) d 0 0 7 = _ from a2]
  rfl
 ·show (((bI (m + 2) P t1.k t1.w (tpos P t1) d 0 0 8).bind _ : Option _).bind _ : Option _) = _
  rw [show bI (m + 2) P t1.k t1.w (tpos P t1) d 0 0 8 = _ from a2]
  rfl
 ·show (((bI (m + 2) P t1.k t1.w (tpos P t1) d 0 0 9).bind _ : Option _).bind _ : Option _) = _
  rw [show bI (m + 2) P t1.k t1.w (tpos P t1) d 0 0 9 = _ from a2]
  simp only [Option.bind_some]
  show ((Ms (m + 2) P 8 (m + 1) r d (bM o [_, q])).bind _ : Option _) = _
  rw [no m]
  rfl
 ·show (((bI (m + 2) P t1.k t1.w (tpos P t1) d 0 0 10).bind _ : Option _).bind _ : Option _) = _
  rw [show bI (m + 2) P t1.k t1.w (tpos P t1) d 0 0 10 = _ from a2]
  simp only [Option.bind_some]
  show ((Ms (m + 2) P 9 (m + 1) r d (bM o [_, q])).bind _ : Option _) = _
  rw [no m]
  rfl
 ·show (((bI (m + 2) P t1.k t1.w (tpos P t1) d 0 0 11).bind _ : Option _).bind _ : Option _) = _
  rw [show bI (m + 2) P t1.k t1.w (tpos P t1) d 0 0 11 = _ from a2]
  rfl
 ·show (((bI (m + 2) P t1.k t1.w (tpos P t1) d 0 0 12).bind _ : Option _).bind _ : Option _) = _
  rw [show bI (m + 2) P t1.k t1.w (tpos P t1) d 0 0 12 = _ from a2]
  simp only [Option.bind_some]
  show ((Ms (m + 2) P 11 (m + 1) r d (bM o [_, q])).bind _ : Option _) = _
  rw [no m]
  rfl
 ·show (((bI (m + 2) P t1.k t1.w (tpos P t1) d 0 0 13).bind _ : Option _).bind _ : Option _) = _
  rw [show bI (m + 2) P t1.k t1.w (tpos P t1) d 0 0 13 = _ from a2]
  simp only [Option.bind_some]
  show ((Ms (m + 2) P 12 (m + 1) r d (bM o [_, q])).bind _ : Option _) = _
  rw [no m]
  rfl
theorem aqh {P : Str} {t r0 r : Tk} {d l : Int} {p v : Tm} (h : lq P t d (l + 1) p r0) (hm : am3 P r0 d p l v r) (h1 : 1 ≤ l) (h2 : l ≤ 12) (h5 : l ≠ 5) : lq P t d l v r := by
 refine Ev.succ ?_
 show Ev (fun n => jm n _ _ _ _ _ _ _ P t.k t.w (tpos P t) d 0 0 l) _
 unfold jm
 refine Ev.neg rfl ?_
 refine Ev.bind (a := false) ?_ ?_
 ·rw [show (l == 5) = false by simpa using h5]
  exact Ev.ret _
 refine Ev.neg rfl ?_
 refine Ev.bind (a := false) ?_ ?_
 ·rw [show (l == 13) = false by simp; omega]
  exact Ev.ret _
 refine Ev.neg rfl ?_
 refine Ev.neg (by simp; omega) ?_
 have e : IntKind.wrap .i64 (l + 1) = l + 1 := (bC (by omega) (by omega)).symm
 rw [e]
 refine Ev.bind h ?_
 exact Ev.bind hm (Ev.ret _)
theorem aso {P nm b : Str} {r : Tk} {d : Int} (hP : P.length ≤ 1000000000) (hs : Su P ⟨1, nm, b⟩) (hi : ident nm = true) (hn : Nx b r) (h0 : 0 ≤ d) (hd : d ≤ 64) : Ev (fun n => zX n P 1 nm (tpos P ⟨1, nm, b⟩) d 0 0) (nm, r.k, r.w, tpos P r, d, 0, 0) := by
 have hw := Kr (iZ hi) d
 have hp := yI hP hs hn h0 hd hw.1 hw.2
 unfold zX
 refine Ev.neg rfl ?_
 refine Ev.bind (a := false) ?_ ?_
 ·refine Ev.neg rfl ?_
  exact Ev.bind (vo hi) (Ev.ret _)
 ·refine Ev.neg rfl ?_
  exact Ev.bind hp (Ev.ret _)
theorem UZ {P kw b nm b1 b2 b4 : Str} {t3 t5 r : Tk} {d : Int} (op : Int) {p q : Tm} (hP : P.length ≤ 1000000000) (hu : up kw d = d) (hw : dn kw d = d) (hs : Su P ⟨2, kw, b⟩) (hn1 : Nx b ⟨1, nm, b1⟩) (hi : ident nm = true) (hn2 : Nx b1 ⟨2, [105, 110], b2⟩) (hn3 : Nx b2 t3) (h3 : lq P t3 d 7 p ⟨4, [46], b4⟩) (hz : Su P ⟨4, [46], b4⟩) (hn5 : Nx b4 t5) (h5 : lq P t5 d 1 q r) (h0 : 0 ≤ d) (hd : d ≤ 64) : Ev (fun n => dY n P 2 kw (tpos P ⟨2, kw, b⟩) d 0 0 op) (.mk op nm 0 bg [p, q], r.k, r.w, tpos P r, d, 0, 0) := by
 have s1 : Su P ⟨1, nm, b1⟩ := (oz hP hs hn1 h0 (by show up kw d ≤ 64; rw [hu]; exact hd)).2
 have p1 := yI hP hs hn1 h0 hd hu hw
 have p2 := aso hP s1 hi hn2 h0 hd
 have s2 : Su P ⟨2, [105, 110], b2⟩ := (oz hP s1 hn2 h0 (by show up nm d ≤ 64; rw [(Kr (iZ hi) d).1]; exact hd)).2
 have p3 := arN (x := [105, 110]) hP s2 hn3 h0 hd rfl rfl (Or.inr rfl) rfl
 have p5 := arN (x := [46]) hP hz hn5 h0 hd rfl rfl (Or.inl rfl) rfl
 refine Ev.succ ?_
 show Ev (fun n => qx n _ _ _ _ _ _ _ P 2 kw (tpos P ⟨2, kw, b⟩) d 0 0 op) _
 unfold qx
 refine Ev.bind p1 ?_
 refine Ev.bind p2 ?_
 refine Ev.bind p3 ?_
 refine Ev.bind h3 ?_
 refine Ev.bind p5 ?_
 refine Ev.bind h5 ?_
 exact Ev.ret _
theorem aki {P b nm b1 b2 b4 : Str} {t3 t5 r : Tk} {d op : Int} {p q : Tm} (hP : P.length ≤ 1000000000) (ho : op = 8 ∨ op = 9 ∨ op = 56) (hs : Su P ⟨2, DX op, b⟩) (hn1 : Nx b ⟨1, nm, b1⟩) (hi : ident nm = true) (hn2 : Nx b1 ⟨2, [105, 110], b2⟩) (hn3 : Nx b2 t3) (h3 : lq P t3 d 7 p ⟨4, [46], b4⟩) (hz : Su P ⟨4, [46], b4⟩) (hn5 : Nx b4 t5) (h5 : lq P t5 d 1 q r) (h0 : 0 ≤ d) (hd : d ≤ 64) : zl P ⟨2, DX op, b⟩ d (.mk op nm 0 bg [p, q]) r := by
 rcases ho with e | e | e <;> subst e
 ·have hb := UZ 8 hP (kw := DX 8) rfl rfl hs hn1 hi hn2 hn3 h3 hz hn5 h5 h0 hd
  refine Ev.succ ?_
  show Ev (fun n => (dY n P 2 (DX 8) _ d 0 0 8).bind _) _
  exact Ev.bind hb (Ev.ret _)
 ·have hb := UZ 9 hP (kw := DX 9) rfl rfl hs hn1 hi hn2 hn3 h3 hz hn5 h5 h0 hd
  refine Ev.succ ?_
  show Ev (fun n => (dY n P 2 (DX 9) _ d 0 0 9).bind _) _
  exact Ev.bind hb (Ev.ret _)
 ·have hb := UZ 56 hP (kw := DX 56) rfl rfl hs hn1 hi hn2 hn3 h3 hz hn5 h5 h0 hd
  refine Ev.succ ?_
  show Ev (fun n => (dY n P 2 (DX 56) _ d 0 0 56).bind _) _
  exact Ev.bind hb (Ev.ret _)
theorem an8 {op : Int} (h1 : 46 ≤ op) (h2 : op ≤ 51) : Ev (fun n => FX n (DW op)) op := by
 have : op = 46 ∨ op = 47 ∨ op = 48 ∨ op = 49 ∨ op = 50 ∨ op = 51 := by omega
 refine ⟨7, fun n hn => ?_⟩
 obtain ⟨m, rfl⟩ : ∃ m, n = m + 7 := ⟨n - 7, by omega⟩
 rcases this with e | e | e | e | e | e <;> subst e <;> rfl
theorem akC {P b b1 c : Str} {t r : Tk} {d op : Int} {p : Tm} (hP : P.length ≤ 1000000000) (h1 : 46 ≤ op) (h2 : op ≤ 51) (hs : Su P ⟨2, DW op, b⟩) (hn : Nx b ⟨4, [40], b1⟩) (hn1 : Nx b1 t) (h : lq P t (d + 1) 1 p ⟨4, [41], c⟩) (hz : Su P ⟨4, [41], c⟩) (hr : Nx c r) (h0 : 0 ≤ d) (hd : d + 1 ≤ 64) : zl P ⟨2, DW op, b⟩ d (bM op [p]) r := by
 have hpre := an8 h1 h2
 have hi := Jf hP h hz hr h0 hd (Or.inl rfl)
 have : op = 46 ∨ op = 47 ∨ op = 48 ∨ op = 49 ∨ op = 50 ∨ op = 51 := by omega
 have key : up (DW op) d = d ∧ dn (DW op) d = d := by rcases this with e | e | e | e | e | e <;> subst e <;> exact ⟨rfl, rfl⟩
 have s1 : Su P ⟨4, [40], b1⟩ := (oz hP hs hn h0 (by show up (DW op) d ≤ 64; rw [key.1]; omega)).2
 have p1 := yI hP hs hn h0 (by omega) key.1 key.2
 have p2 := (xR (d := d) (x := [40]) hP s1 hn1 h0 (by show d + 1 ≤ 64; exact hd) (Or.inl rfl) rfl).1
 refine Ev.succ ?_
 rcases this with e | e | e | e | e | e <;> subst e <;>
  (refine Ev.bind (f := fun n => ((FX n (DW _)).bind fun x => some (decide (0 < x)) : Option Bool)) (a := true) (Ev.bind hpre (Ev.ret _)) ?_
   refine Ev.pos rfl ?_
   refine Ev.bind p1 ?_
   refine Ev.bind p2 ?_
   refine Ev.bind hpre ?_
   exact Ev.bind hi (Ev.ret _))
theorem ND {P : Str} {t r : Tk} {d : Int} (hP : P.length ≤ 1000000000) (hs : Su P t) (hn : Nx t.b r) : Ev (fun n => nZ n P t.k t.w (tpos P t) d 0 0) (r.k == 2 && r.w == [105, 110]) := by
 obtain ⟨a, ha⟩ := hs
 have hu : P = (a ++ t.w) ++ t.b := by rw [ha]; simp
 have hx := hn.lex (a ++ t.w) (by rw [← hu]; exact hP)
 rw [← hu] at hx
 have e1 : IntKind.wrap .i64 (tpos P t + (t.w.length : Int)) = ((a ++ t.w).length : Int) := by
  have : tpos P t + (t.w.length : Int) = ((a ++ t.w).length : Int) := by
   unfold tpos; rw [ha]; simp only [List.length_append]; omega
  rw [this]
  exact (bC (by omega) (by rw [hu] at hP; simp at hP ⊢; omega)).symm
 unfold nZ
 rw [e1]
 refine Ev.bind hx ?_
 cases (r.k == 2) <;> exact Ev.ret _
theorem aq4 {P b b1 b2 b4 : Str} {t3 r : Tk} {d : Int} {ty : Ty} (hP : P.length ≤ 1000000000) (hs : Su P ⟨4, [123], b⟩) (hn1 : Nx b ⟨4, [125], b1⟩) (hn2 : Nx b1 ⟨4, [91], b2⟩) (hn3 : Nx b2 t3) (h3 : Ev (fun n => sG n P t3.k t3.w (tpos P t3) (d + 1) 0 0) (ty, 4, [93], tpos P ⟨4, [93], b4⟩, d + 1, 0, 0)) (hz : Su P ⟨4, [93], b4⟩) (hr : Nx b4 r) (h0 : 0 ≤ d) (hd : d + 1 ≤ 64) : zl P ⟨4, [123], b⟩ d (.mk 29 [] 0 ty []) r := by
 obtain ⟨p1, s1⟩ := oz (d := d) hP hs hn1 h0 (by show d + 1 ≤ 64; exact hd)
 obtain ⟨p2, s2⟩ := oz (d := d + 1) hP s1 hn2 (by omega) (by show d + 1 ≤ 64; exact hd)
 have e2 : dn [125] (up [125] (d + 1)) = d := by show d + 1 - 1 = d; omega
 rw [e2] at p2
 obtain ⟨p3, s3⟩ := xR (d := d) (x := [91]) hP s2 hn3 h0 (by show d + 1 ≤ 64; exact hd) (Or.inl rfl) rfl
 obtain ⟨p4, s4⟩ := xR (d := d + 1) (x := [93]) hP hz hr (by omega) (by show d + 1 ≤ 64; exact hd) (Or.inl rfl) rfl
 have e4 : dn [93] (up [93] (d + 1)) = d := by show d + 1 - 1 = d; omega
 rw [e4] at p4
 refine Ev.succ ?_
 show Ev (fun n => (bq n P 4 [123] _ d 0 0).bind _) _
 refine Ev.bind p1 ?_
 refine Ev.bind (f := fun n => fB n P 4 [125] (tpos P ⟨4, [125], b1⟩) (d + 1) 0 0) (a := (.mk 29 [] 0 ty [], r.k, r.w, tpos P r, d, 0, 0)) ?_ (Ev.ret _)
 refine Ev.succ ?_
 show Ev (fun n => (bq n P 4 [125] _ (d + 1) 0 0).bind _) _
 refine Ev.bind p2 ?_
 refine Ev.bind p3 ?_
 refine Ev.bind h3 ?_
 exact Ev.bind p4 (Ev.ret _)
theorem Pw {P b : Str} {t r : Tk} {d : Int} {v : Tm} (hP : P.length ≤ 1000000000) (hs : Su P ⟨4, [123], b⟩) (hn : Nx b t) (h0 : 0 ≤ d) (hd : d + 1 ≤ 64) (h : Ev (fun n => fB n P t.k t.w (tpos P t) (d + 1) 0 0) (v, r.k, r.w, tpos P r, d, 0, 0)) : zl P ⟨4, [123], b⟩ d v r := by
 obtain ⟨p1, s1⟩ := oz (d := d) hP hs hn h0 (by show d + 1 ≤ 64; exact hd)
 refine Ev.succ ?_
 show Ev (fun n => (bq n P 4 [123] _ d 0 0).bind _) _
 refine Ev.bind p1 ?_
 exact Ev.bind h (Ev.ret _)
theorem amI {P b nm b1 b2 b4 c : Str} {t3 t5 r : Tk} {d : Int} {p q : Tm} (hP : P.length ≤ 1000000000) (hs : Su P ⟨4, [123], b⟩) (hn1 : Nx b ⟨1, nm, b1⟩) (hi : ident nm = true) (hn2 : Nx b1 ⟨2, [105, 110], b2⟩) (hn3 : Nx b2 t3) (h3 : lq P t3 (d + 1) 7 p ⟨4, [124], b4⟩) (hz : Su P ⟨4, [124], b4⟩) (hn5 : Nx b4 t5) (h5 : lq P t5 (d + 1) 1 q ⟨4, [125], c⟩) (hy : Su P ⟨4, [125], c⟩) (hr : Nx c r) (h0 : 0 ≤ d) (hd : d + 1 ≤ 64) : zl P ⟨4, [123], b⟩ d (.mk 55 nm 0 bg [p, q]) r := by
 obtain ⟨_, s1⟩ := oz (d := d) hP hs hn1 h0 (by show d + 1 ≤ 64; exact hd)
 have hw := Kr (iZ hi) (d + 1)
 have p1 := yI (d := d + 1) hP s1 hn2 (by omega) hd hw.1 hw.2
 have s2 : Su P ⟨2, [105, 110], b2⟩ := (oz (d := d + 1) hP s1 hn2 (by omega) (by show up nm (d + 1) ≤ 64; rw [hw.1]; exact hd)).2
 have p2 := yI (d := d + 1) hP s2 hn3 (by omega) hd rfl rfl
 have p4 := yI (d := d + 1) hP hz hn5 (by omega) hd rfl rfl
 have hi5 := Jf hP h5 hy hr h0 hd (Or.inr (Or.inr rfl))
 have hf := ND (d := d + 1) hP s1 hn2
 refine Pw hP hs hn1 h0 hd ?_
 refine Ev.succ ?_
 show Ev (fun n => iG n _ _ _ _ _ _ _ P 1 nm (tpos P ⟨1, nm, b1⟩) (d + 1) 0 0) _
 unfold iG
 refine Ev.bind (a := false) (Ev.of fun n => Io _ _ _ _ _ _ _ _ _) ?_
 refine Ev.neg rfl ?_
 refine Ev.bind (a := .rt (.mk 55 nm 0 bg [p, q], r.k, r.w, tpos P r, d, 0, 0)) ?_ (by show Ev (fun _ => some (Tm.mk 55 nm 0 bg [p, q], r.k, r.w, tpos P r, d, (0 : Int), (0 : Int))) _; exact Ev.ret _)
 refine Ev.bind (a := true) ?_ ?_
 ·refine Ev.pos rfl ?_
  refine Ev.pos rfl ?_
  refine Ev.bind (vo hi) ?_
  refine Ev.pos rfl ?_
  exact Ev.bind hf (Ev.ret _)
 refine Ev.pos rfl ?_
 refine Ev.bind p1 ?_
 refine Ev.bind p2 ?_
 refine Ev.bind h3 ?_
 refine Ev.bind (a := true) ?_ ?_
 ·refine Ev.pos rfl ?_
  exact Ev.bind (Ev.of fun n => Io _ _ _ _ _ _ _ _ _) (Ev.ret _)
 refine Ev.pos rfl ?_
 refine Ev.bind p4 ?_
 exact Ev.bind hi5 (Ev.ret _)
abbrev ahm (n : Nat) (P : Str) (k : Nat) (r : Tk) (d : Int) (acc : List Tm) := oU n (fun p0 p1 p2 p3 p4 p5 p6 p7 => dY n p0 p1 p2 p3 p4 p5 p6 p7) (fun p0 p1 p2 p3 p4 p5 p6 p7 p8 => fO n p0 p1 p2 p3 p4 p5 p6 p7 p8) (fun p0 p1 p2 p3 p4 p5 p6 => fB n p0 p1 p2 p3 p4 p5 p6) (fun p0 p1 p2 p3 p4 p5 p6 => gN n p0 p1 p2 p3 p4 p5 p6) (fun p0 p1 p2 p3 p4 p5 p6 => fq n p0 p1 p2 p3 p4 p5 p6) (fun p0 p1 p2 p3 p4 p5 p6 p7 => bI n p0 p1 p2 p3 p4 p5 p6 p7) (fun p0 p1 p2 p3 p4 p5 p6 p7 => dQ n p0 p1 p2 p3 p4 p5 p6 p7) P k (r.k, r.w, tpos P r, d, 0, 0, acc)
def U9 (P : Str) (r : Tk) (d : Int) (acc : List Tm) (z : Tk) (out : List Tm) : Prop := ∃ N, ∀ n k, N ≤ n → N ≤ k → ahm n P k r d acc = some (.nx (z.k, z.w, tpos P z, d, 0, 0, out))
theorem apB {P : Str} {r : Tk} {d : Int} {acc : List Tm} (h : zi r [44] = false) : U9 P r d acc r acc := by
 refine ⟨1, fun n k hn hk => ?_⟩
 obtain ⟨m, rfl⟩ : ∃ m, k = m + 1 := ⟨k - 1, by omega⟩
 unfold ahm oU
 simp only [Io, Option.bind_some]
 unfold zi NW at h
 rw [h]
 rfl
theorem apb {P b : Str} {t r z : Tk} {d : Int} {acc out : List Tm} {v : Tm} (hP : P.length ≤ 1000000000) (hs : Su P ⟨4, [44], b⟩) (hn : Nx b t) (h : lq P t d 1 v r) (h0 : 0 ≤ d) (hd : d ≤ 64) (ha : acc.length ≤ 500000) (hl : U9 P r d (acc ++ [v]) z out) : U9 P ⟨4, [44], b⟩ d acc z out := by
 obtain ⟨N1, hp⟩ := yI (d := d) hP hs hn h0 hd rfl rfl
 obtain ⟨N2, h⟩ := h
 obtain ⟨N3, hl⟩ := hl
 refine ⟨N1 + N2 + N3 + 1, fun n k hn hk => ?_⟩
 obtain ⟨m, rfl⟩ : ∃ m, k = m + 1 := ⟨k - 1, by omega⟩
 have a1 : bq n P 4 [44] (tpos P ⟨4, [44], b⟩) d 0 0 = some _ := hp n (by omega)
 have a2 : bI n P t.k t.w (tpos P t) d 0 0 1 = some _ := h n (by omega)
 have a3 := hl n m (by omega) (by omega)
 show ((bq n P 4 [44] (tpos P ⟨4, [44], b⟩) d 0 0).bind _ : Option _) = _
 rw [a1]
 show ((bI n P t.k t.w (tpos P t) d 0 0 1).bind _ : Option _) = _
 rw [a2]
 show ((Abs.app 104 acc [v]).bind _ : Option _) = _
 rw [fD (by simp; omega) (by omega)]
 exact a3
theorem aqK {P b c : Str} {t r0 r : Tk} {d : Int} {v : Tm} {ks : List Tm} (hP : P.length ≤ 1000000000) (hs : Su P ⟨4, [123], b⟩) (hn : Nx b t) (h1 : zi t [125] = false) (hf : Ev (fun n => (cond (t.k == 1) ((nW n t.w).bind fun (x19 : Bool) => (cond (!x19) ((nZ n P t.k t.w (tpos P t) (d + 1) 0 0).bind fun (x20 : Bool) => some x20) (some false))) (some false) : Option Bool)) false) (h : lq P t (d + 1) 1 v r0) (hl : U9 P r0 (d + 1) [v] ⟨4, [125], c⟩ ks) (hz : Su P ⟨4, [125], c⟩) (hr : Nx c r) (h0 : 0 ≤ d) (hd : d + 1 ≤ 64) : zl P ⟨4, [123], b⟩ d (bM 28 ks) r := by
 have p4 := (xR (d := d + 1) (x := [125]) hP hz hr (by omega) (by show d + 1 ≤ 64; exact hd) (Or.inl rfl) rfl).1
 have e4 : dn [125] (up [125] (d + 1)) = d := by show d + 1 - 1 = d; omega
 rw [e4] at p4
 obtain ⟨N, hl⟩ := hl
 refine Pw hP hs hn h0 hd ?_
 refine Ev.succ ?_
 show Ev (fun n => iG n _ _ _ _ _ _ _ P t.k t.w (tpos P t) (d + 1) 0 0) _
 unfold iG
 refine Ev.bind (a := false) (Ev.of fun n => by rw [Io]; exact congrArg some h1) ?_
 refine Ev.neg rfl ?_
 refine Ev.bind (a := .nx (r0.k, r0.w, tpos P r0, d + 1, 0, 0, v.op, v.name, v.n, v.ty.kind, v.ty.name, v.ty.kids, v.kids)) ?_ ?_
 ·refine Ev.bind (a := false) ?_ ?_
  ·refine Ev.pos rfl ?_
   exact hf
  refine Ev.neg rfl ?_
  exact Ev.bind h (Ev.ret _)
 ·refine Ev.bind (f := fun n => ahm n P n r0 (d + 1) [.mk v.op v.name v.n (.mk v.ty.kind v.ty.name v.ty.kids) v.kids]) (a := .nx ((4 : Int), ([125] : Str), tpos P ⟨4, [125], c⟩, d + 1, (0 : Int), (0 : Int), ks)) ?_ ?_
  ·refine ⟨N, fun n hn => ?_⟩
   have := hl n n hn hn
   obtain ⟨po, pn, pq, pty, pks⟩ := v
   obtain ⟨tk, tn, tks⟩ := pty
   exact this
  ·exact Ev.bind p4 (Ev.ret _)
abbrev BUp (n : Nat) (P : Str) (k : Nat) (L : Int) (r : Tk) (d : Int) (v : Tm) := sV n (fun p0 p1 p2 p3 p4 p5 p6 p7 => dY n p0 p1 p2 p3 p4 p5 p6 p7) (fun p0 p1 p2 p3 p4 p5 p6 p7 p8 => fO n p0 p1 p2 p3 p4 p5 p6 p7 p8) (fun p0 p1 p2 p3 p4 p5 p6 => fB n p0 p1 p2 p3 p4 p5 p6) (fun p0 p1 p2 p3 p4 p5 p6 => gN n p0 p1 p2 p3 p4 p5 p6) (fun p0 p1 p2 p3 p4 p5 p6 => fq n p0 p1 p2 p3 p4 p5 p6) (fun p0 p1 p2 p3 p4 p5 p6 p7 => bI n p0 p1 p2 p3 p4 p5 p6 p7) (fun p0 p1 p2 p3 p4 p5 p6 p7 => dQ n p0 p1 p2 p3 p4 p5 p6 p7) P k (L, r.k, r.w, tpos P r, d, 0, 0, v.op, v.name, v.n, v.ty.kind, v.ty.name, v.ty.kids, v.kids)
theorem QX {P : Str} {r : Tk} {d : Int} {v : Tm} {n : Nat} (k : Nat) (L : Int) (h1 : 1 ≤ L) (h2 : L ≤ 4) (h : fO n P r.k r.w (tpos P r) d 0 0 v L = some (v, r.k, r.w, tpos P r, d, 0, 0)) : BUp n P (k + 1) L r d v = BUp n P k (L - 1) r d v := by
 obtain ⟨o, nm, q', ty, ks⟩ := v
 obtain ⟨tk, tn, tks⟩ := ty
 have e : IntKind.wrap .i64 (L - 1) = L - 1 := (bC (by omega) (by omega)).symm
 show cond (decide (1 ≤ L)) ((fO n P r.k r.w (tpos P r) d 0 0 (.mk o nm q' (.mk tk tn tks) ks) L).bind _) _ = _
 rw [decide_eq_true h1, h]
 simp only [cond_true, Option.bind_some, e]
theorem atv {P : Str} {r : Tk} {d : Int} {v : Tm} (hr : lvl r = 0) : ∃ N, ∀ n k, N ≤ n → N ≤ k → BUp n P k 4 r d v = some (.nx (r.k, r.w, tpos P r, d, 0, 0, v.op, v.name, v.n, v.ty.kind, v.ty.name, v.ty.kids, v.kids)) := by
 have no := fun L h => ak8 (P := P) (r := r) (d := d) (L := L) (v := v) (by rw [hr]; omega) h
 obtain ⟨N1, m1⟩ := no 1 (by omega)
 obtain ⟨N2, m2⟩ := no 2 (by omega)
 obtain ⟨N3, m3⟩ := no 3 (by omega)
 obtain ⟨N4, m4⟩ := no 4 (by omega)
 refine ⟨N1 + N2 + N3 + N4 + 5, fun n k hn hk => ?_⟩
 obtain ⟨m, rfl⟩ : ∃ m, k = m + 5 := ⟨k - 5, by omega⟩
 refine (QX (m + 4) 4 (by omega) (by omega) (m4 n (by omega))).trans ?_
 refine (QX (m + 3) 3 (by omega) (by omega) (m3 n (by omega))).trans ?_
 refine (QX (m + 2) 2 (by omega) (by omega) (m2 n (by omega))).trans ?_
 refine (QX (m + 1) 1 (by omega) (by omega) (m1 n (by omega))).trans ?_
 rfl
theorem as2 {P b nm b1 b2 c : Str} {t3 r0 r : Tk} {d : Int} {q : Tm} {ks : List Tm} (hP : P.length ≤ 1000000000) (hs : Su P ⟨4, [123], b⟩) (hn1 : Nx b ⟨1, nm, b1⟩) (hi : ident nm = true) (hn2 : Nx b1 ⟨2, [105, 110], b2⟩) (hn3 : Nx b2 t3) (h3 : lq P t3 (d + 1) 7 q r0) (hno : zi r0 [124] = false) (hlv : lvl r0 = 0) (hl : U9 P r0 (d + 1) [bM 16 [ji nm, q]] ⟨4, [125], c⟩ ks) (hz : Su P ⟨4, [125], c⟩) (hr : Nx c r) (h0 : 0 ≤ d) (hd : d + 1 ≤ 64) : zl P ⟨4, [123], b⟩ d (bM 28 ks) r := by
 obtain ⟨_, s1⟩ := oz (d := d) hP hs hn1 h0 (by show d + 1 ≤ 64; exact hd)
 have hw := Kr (iZ hi) (d + 1)
 have p1 := yI (d := d + 1) hP s1 hn2 (by omega) hd hw.1 hw.2
 have s2 : Su P ⟨2, [105, 110], b2⟩ := (oz (d := d + 1) hP s1 hn2 (by omega) (by show up nm (d + 1) ≤ 64; rw [hw.1]; exact hd)).2
 have p2 := yI (d := d + 1) hP s2 hn3 (by omega) hd rfl rfl
 have p4 := (xR (d := d + 1) (x := [125]) hP hz hr (by omega) (by show d + 1 ≤ 64; exact hd) (Or.inl rfl) rfl).1
 have e4 : dn [125] (up [125] (d + 1)) = d := by show d + 1 - 1 = d; omega
 rw [e4] at p4
 have hf := ND (d := d + 1) hP s1 hn2
 obtain ⟨N, hl⟩ := hl
 obtain ⟨M, hb⟩ := atv (P := P) (d := d + 1) (v := bM 16 [ji nm, q]) hlv
 refine Pw hP hs hn1 h0 hd ?_
 refine Ev.succ ?_
 show Ev (fun n => iG n _ _ _ _ _ _ _ P 1 nm (tpos P ⟨1, nm, b1⟩) (d + 1) 0 0) _
 unfold iG
 refine Ev.bind (a := false) (Ev.of fun n => Io _ _ _ _ _ _ _ _ _) ?_
 refine Ev.neg rfl ?_
 refine Ev.bind (a := .nx (r0.k, r0.w, tpos P r0, d + 1, 0, 0, 16, [], 0, 0, [], [], [ji nm, q])) ?_ ?_
 ·refine Ev.bind (a := true) ?_ ?_
  ·refine Ev.pos rfl ?_
   refine Ev.pos rfl ?_
   refine Ev.bind (vo hi) ?_
   refine Ev.pos rfl ?_
   exact Ev.bind hf (Ev.ret _)
  refine Ev.pos rfl ?_
  refine Ev.bind p1 ?_
  refine Ev.bind p2 ?_
  refine Ev.bind h3 ?_
  refine Ev.bind (a := false) ?_ ?_
  ·refine Ev.pos rfl ?_
   exact Ev.bind (Ev.of fun n => Io _ _ _ _ _ _ _ _ _) (Ev.eq (Ev.ret _) (by rw [← hno]; rfl))
  refine Ev.neg rfl ?_
  refine Ev.bind (f := fun n => BUp n P n 4 r0 (d + 1) (bM 16 [ji nm, q])) ⟨M, fun n hn => hb n n hn hn⟩ ?_
  exact Ev.ret _
 ·refine Ev.bind (f := fun n => ahm n P n r0 (d + 1) [bM 16 [ji nm, q]]) (a := .nx ((4 : Int), ([125] : Str), tpos P ⟨4, [125], c⟩, d + 1, (0 : Int), (0 : Int), ks)) ?_ ?_
  ·exact ⟨N, fun n hn => hl n n hn hn⟩
  ·exact Ev.bind p4 (Ev.ret _)
def Ye (op : Int) : Int := cond (zf (nK op)) 2 4
def FW (op : Int) : Int := (Qt (nK op)).1
theorem aus {op : Int} (h : ¬(1 ≤ op ∧ op ≤ 56)) : nK op = [] := by
 have e : ∀ k : Int, 1 ≤ k → k ≤ 56 → (op == k) = false := by
  intro k h1 h2
  apply beq_false_of_ne
  omega
 have e1 : (cond (decide (10 ≤ op)) (some (decide (op ≤ 18))) (some false) : Option Bool) = some false := by
  by_cases h1 : 10 ≤ op
  ·rw [decide_eq_true h1, decide_eq_false (by omega)]; rfl
  ·rw [decide_eq_false h1]; rfl
 have e2 : (cond (decide (31 ≤ op)) (some (decide (op ≤ 45))) (some false) : Option Bool) = some false := by
  by_cases h1 : 31 ≤ op
  ·rw [decide_eq_true h1, decide_eq_false (by omega)]; rfl
  ·rw [decide_eq_false h1]; rfl
 unfold nK Ct
 rw [e 7 (by omega) (by omega), e 6 (by omega) (by omega), e 5 (by omega) (by omega), e 4 (by omega) (by omega), e 27 (by omega) (by omega), e 30 (by omega) (by omega), e 22 (by omega) (by omega), e 23 (by omega) (by omega), e 24 (by omega) (by omega), e 25 (by omega) (by omega), e 26 (by omega) (by omega), e1, e2]
 rfl
structure SgF (op : Int) : Prop where
 tok : (zf (nK op) = true ∧ Word (nK op)) ∨ (zf (nK op) = false ∧ (∃ c cs, nK op = c :: cs ∧ Cq c = false ∧ blank c = false) ∧ GQ (nK op) = nK op)
 bin : Qt (nK op) = (FW op, op)
 lev : FW op = 1 ∨ FW op = 2 ∨ FW op = 3 ∨ FW op = 4 ∨ FW op = 6 ∨ FW op = 7 ∨ FW op = 8 ∨ FW op = 9 ∨ FW op = 10 ∨ FW op = 11 ∨ FW op = 12
 ud : ∀ d, up (nK op) d = d ∧ dn (nK op) d = d
 net : Abs.net (nK op) = 0
 nin : op ≠ 16 → (Ye op == 2 && nK op == [105, 110]) = false
 nz : op ≠ 0
 nl : ∀ b, zi ⟨Ye op, nK op, b⟩ [40] = false ∧ zi ⟨Ye op, nK op, b⟩ [91] = false ∧ zi ⟨Ye op, nK op, b⟩ [126] = false
theorem anT {op : Int} (ho : (nK op == []) = false) : SgF op := by
 by_cases h : 1 ≤ op ∧ op ≤ 56
 ·rcases Ko h.1 h.2 with rfl | rfl | rfl | rfl | rfl | rfl | rfl | rfl | rfl | rfl | rfl | rfl | rfl | rfl | rfl | rfl | rfl | rfl | rfl | rfl | rfl | rfl | rfl | rfl | rfl | rfl | rfl | rfl | rfl | rfl | rfl | rfl | rfl | rfl | rfl | rfl | rfl | rfl | rfl | rfl | rfl | rfl | rfl | rfl | rfl | rfl | rfl | rfl | rfl | rfl | rfl | rfl | rfl | rfl | rfl | rfl <;>
   first
   | exact absurd ho (by decide)
   | exact ⟨Or.inr ⟨by decide, ⟨_, _, rfl, by decide, by decide⟩, by decide⟩, by decide, by decide, fun d => ⟨rfl, rfl⟩, by decide, fun _ => by decide, by decide, fun b => ⟨rfl, rfl, rfl⟩⟩
   | exact ⟨Or.inl ⟨by decide, ⟨_, _, rfl, by decide⟩, by decide, by decide⟩, by decide, by decide, fun d => ⟨rfl, rfl⟩, by decide, fun h => by first | exact absurd rfl h | decide, by decide, fun b => ⟨rfl, rfl, rfl⟩⟩
 ·rw [aus h] at ho
  cases ho
theorem arC {op : Int} (hf : SgF op) (b : Str) : Nx ([32] ++ (nK op ++ (32 :: b))) ⟨Ye op, nK op, 32 :: b⟩ := by
 unfold Ye
 rcases hf.tok with ⟨h1, h2⟩ | ⟨h1, h2, h3⟩
 ·have := oV (sp := [32]) (Or.inr rfl) h2 (b := 32 :: b) (iw rfl (by decide))
  rw [h1] at this ⊢
  exact this
 ·rw [h1]
  refine Kk (Or.inr rfl) h2 ?_
  obtain ⟨c, cs, e, _⟩ := h2
  rw [ahN _ _ (by rw [e]; simp)]
  exact h3
theorem akM (op : Int) (b : Str) : NW ⟨Ye op, nK op, b⟩ = true := by
 unfold Ye NW
 cases zf (nK op) <;> rfl
theorem atK {op : Int} (hf : SgF op) (b : Str) : lvl ⟨Ye op, nK op, b⟩ = FW op := by
 unfold lvl
 rw [akM]
 rfl
def NN (t : Tk) : Prop := zi t [110, 111, 116] = false ∧ zi t [45] = false
def HF (t : Tk) : Prop := t.k ≠ 1 ∨ (∃ w, t.w = w ++ [39] ∧ ident w = true) ∨ (ident t.w = true ∧ ∃ r, Nx t.b r ∧ (r.k == 2 && r.w == [105, 110]) = false)
def FT (v : Tm) (s : Str) : Prop := net s = 0 ∧ (Aj v.op = false → ∃ c cs, s = c :: cs ∧ c ≠ 45) ∧ ∀ sp b, (sp = [] ∨ sp = [32]) → Sep b → ∃ t, Nx (sp ++ (s ++ b)) t ∧ zi t [125] = false ∧ (Aj v.op = false → NN t) ∧ ((∃ w, v = ji w ∧ s = w ∧ ident w = true) ∨ (∃ w q, v = bM 16 [ji w, q] ∧ ident w = true) ∨ HF t)
def FC (v : Tm) (s : Str) : Prop := net s = 0 ∧ (∃ c cs, s = c :: cs ∧ c ≠ 45) ∧ ∀ sp b, (sp = [] ∨ sp = [32]) → Sep b → ∃ t, Nx (sp ++ (s ++ b)) t ∧ zi t [125] = false ∧ NN t ∧ ((∃ w, v = ji w ∧ s = w ∧ ident w = true) ∨ HF t)
theorem za {w : Str} (h : ident w = true) : zf w = false := by
 cases w with
 | nil => cases h
 | cons c cs =>
  simp only [ident, Bool.and_eq_true, Bool.not_eq_true'] at h
  exact h.2.2.1
theorem X9 {s : Str} (h : named s = true) : ident s = true ∨ ∃ w, s = w ++ [39] ∧ ident w = true := by
 unfold named F3 at h
 by_cases hl : s.getLast? = some 39
 ·rw [if_pos hl] at h
  right
  rcases List.eq_nil_or_concat s with rfl | ⟨t, c, rfl⟩
  ·cases hl
  ·simp only [List.concat_eq_append, List.getLast?_concat, List.dropLast_concat, Option.some.injEq] at hl h
   exact ⟨t, by rw [hl]; simp, h⟩
 ·rw [if_neg hl] at h
  exact Or.inl h
theorem acX {w : Str} (h : ident w = true) : ∃ c cs, w = c :: cs ∧ c ≠ 45 := by
 obtain ⟨c, cs, e, hc⟩ := (iZ h).head
 refine ⟨c, cs, e, ?_⟩
 rintro rfl
 cases hc
theorem Am {w : Str} (hw : Word w) (hk : zf w = true) {sp b : Str} (hsp : sp = [] ∨ sp = [32]) (hb : Sep b) : Nx (sp ++ (w ++ b)) ⟨2, w, b⟩ := by
 have := oV hsp hw hb
 rw [hk] at this
 exact this
theorem aji {m : Nat} (h : m ≤ 1000000000) : FT (Cx (m : Int)) (dec m) := by
 have hd : ∀ c ∈ dec m, Cq c = true := fun c hc => (QI (Kc m c hc)).1
 refine ⟨(xq _ hd).1, fun _ => ?_, fun sp b hsp hb => ⟨_, aog hsp m h hb, rfl, fun _ => ⟨rfl, rfl⟩, Or.inr (Or.inr (Or.inl (by show (3 : Int) ≠ 1; decide)))⟩⟩
 cases hm : dec m with
 | nil => exact absurd hm (Un m)
 | cons c cs =>
  refine ⟨c, cs, rfl, ?_⟩
  rintro rfl
  have := hd 45 (by rw [hm]; simp)
  cases this
theorem ahC {s : Str} (h : named s = true) : FT (ji s) s := by
 rcases X9 h with hi | ⟨w, rfl, hi⟩
 ·refine ⟨(xq _ (lV hi)).1, fun _ => acX hi, fun sp b hsp hb => ⟨⟨1, s, b⟩, ?_, rfl, fun _ => ⟨rfl, rfl⟩, Or.inl ⟨s, rfl, rfl, hi⟩⟩⟩
  have := oV hsp (iZ hi) hb
  rw [za hi] at this
  exact this
 ·refine ⟨?_, fun _ => ?_, fun sp b hsp hb => ⟨⟨1, w ++ [39], b⟩, ajC hsp (iZ hi) (za hi), rfl, fun _ => ⟨rfl, rfl⟩, Or.inr (Or.inr (Or.inr (Or.inl ⟨w, rfl, hi⟩)))⟩⟩
  ·rw [jM, (xq _ (lV hi)).1]; rfl
  ·obtain ⟨c, cs, e, hc⟩ := acX hi
   exact ⟨c, cs ++ [39], by rw [e]; rfl, hc⟩
theorem abZ {v : Tm} (c : UInt8) (r : Str) (hc : c = 40 ∨ c = 91 ∨ c = 123) (hn : net (c :: r) = 0) : FT v (c :: r) := by
 refine ⟨hn, fun _ => ⟨c, r, rfl, by rcases hc with h | h | h <;> subst h <;> decide⟩, fun sp b hsp hb => ⟨⟨4, [c], r ++ b⟩, kD hsp c (r ++ b) (by rcases hc with h | h | h <;> subst h <;> simp), ?_, fun _ => ?_, Or.inr (Or.inr (Or.inl (by show (4 : Int) ≠ 1; decide)))⟩⟩
 ·rcases hc with h | h | h <;> subst h <;> rfl
 ·rcases hc with h | h | h <;> subst h <;> exact ⟨rfl, rfl⟩
theorem ab4 {v : Tm} (w r : Str) (hw : Word w) (hk : zf w = true) (hr : ∀ b, Sep b → Sep (r ++ b)) (hn : net (w ++ r) = 0) (hnn : Aj v.op = false → (w == [110, 111, 116]) = false) : FT v (w ++ r) := by
 obtain ⟨c, cs, e, hc⟩ := hw.head
 refine ⟨hn, fun _ => ⟨c, cs ++ r, by rw [e]; rfl, by rintro rfl; cases hc⟩, fun sp b hsp hb => ⟨⟨2, w, r ++ b⟩, ?_, ?_, fun hv => ⟨hnn hv, ?_⟩, Or.inr (Or.inr (Or.inl (by show (2 : Int) ≠ 1; decide)))⟩⟩
 ·rw [List.append_assoc]
  exact Am hw hk hsp (hr b hb)
 ·show (w == [125]) = false
  rw [e]
  apply beq_false_of_ne
  rintro h
  injection h with h1 h2
  subst h1
  cases hc
 ·show (w == [45]) = false
  rw [e]
  apply beq_false_of_ne
  rintro h
  injection h with h1 h2
  subst h1
  cases hc
theorem ae6 {v p : Tm} {s r : Str} (c : UInt8) (hc : c = 40 ∨ c = 91 ∨ c = 126) (h : FC p s) (hn : net (s ++ (c :: r)) = 0) : FT v (s ++ (c :: r)) := by
 obtain ⟨h1, ⟨x, xs, e, hx⟩, h2⟩ := h
 refine ⟨hn, fun _ => ⟨x, xs ++ (c :: r), by rw [e]; rfl, hx⟩, fun sp b hsp hb => ?_⟩
 have hs : Sep (c :: (r ++ b)) := iw (by rcases hc with h | h | h <;> subst h <;> rfl) (by rcases hc with h | h | h <;> subst h <;> decide)
 have nb : Nx (c :: (r ++ b)) ⟨4, [c], r ++ b⟩ := kD (sp := []) (Or.inl rfl) c (r ++ b) (by rcases hc with h | h | h <;> subst h <;> simp)
 obtain ⟨t, g1, g2, g3, g4⟩ := h2 sp (c :: (r ++ b)) hsp hs
 rcases g4 with ⟨w, _, e2, hi⟩ | g4
 ·refine ⟨⟨1, w, c :: (r ++ b)⟩, ?_, rfl, fun _ => ⟨rfl, rfl⟩, Or.inr (Or.inr (Or.inr (Or.inr ⟨hi, _, nb, rfl⟩)))⟩
  have := oV hsp (iZ hi) hs
  rw [za hi] at this
  rw [e2]
  simpa using this
 ·exact ⟨t, by simpa using g1, g2, fun _ => g3, Or.inr (Or.inr g4)⟩
theorem ah1 {op : Int} {p q : Tm} {s r : Str} (ho : (nK op == []) = false) (h : FC p s) (k : FC q r) : FT (bM op [p, q]) (s ++ (([32] ++ nK op) ++ ([32] ++ r))) := by
 have hf := anT ho
 obtain ⟨h1, ⟨x, xs, e, hx⟩, h2⟩ := h
 have hcm : Aj op = true := by unfold Aj; rw [ho]; cases op == 3 <;> cases op == 21 <;> cases op == 8 <;> cases op == 9 <;> cases op == 56 <;> rfl
 refine ⟨?_, fun hv => ?_, fun sp b hsp hb => ?_⟩
 ·rw [jM, jM, jM, jM, h1, hf.net, k.1]; rfl
 ·rw [show (bM op [p, q]).op = op from rfl, hcm] at hv; cases hv
 ·have ea : s ++ (([32] ++ nK op) ++ ([32] ++ r)) ++ b = s ++ ([32] ++ (nK op ++ (32 :: (r ++ b)))) := by simp
  have hs : Sep ([32] ++ (nK op ++ (32 :: (r ++ b)))) := iw rfl (by decide)
  obtain ⟨t, g1, g2, g3, g4⟩ := h2 sp _ hsp hs
  rw [ea]
  rcases g4 with ⟨w, e1, e2, hi⟩ | g4
  ·by_cases h16 : op = 16
   ·subst h16
    exact ⟨t, g1, g2, fun hv => (by rw [show (bM 16 [p, q]).op = 16 from rfl, hcm] at hv; cases hv), Or.inr (Or.inl ⟨w, q, by rw [e1], hi⟩)⟩
   ·refine ⟨⟨1, w, [32] ++ (nK op ++ (32 :: (r ++ b)))⟩, ?_, rfl, fun _ => ⟨rfl, rfl⟩, Or.inr (Or.inr (Or.inr (Or.inr ⟨hi, _, arC hf (r ++ b), hf.nin h16⟩)))⟩
    have := oV hsp (iZ hi) hs
    rw [za hi] at this
    rw [e2]
    exact this
  ·exact ⟨t, g1, g2, fun _ => g3, Or.inr (Or.inr g4)⟩
theorem aal {v : Tm} {s : Str} (hc : Aj v.op = false) (h : FT v s) : FC v s := by
 obtain ⟨h1, h2, h3⟩ := h
 refine ⟨h1, h2 hc, fun sp b hsp hb => ?_⟩
 obtain ⟨t, g1, g2, g3, g4⟩ := h3 sp b hsp hb
 refine ⟨t, g1, g2, g3 hc, ?_⟩
 rcases g4 with g | ⟨w, q, rfl, _⟩ | g
 ·exact Or.inl g
 ·cases hc
 ·exact Or.inr g
theorem ahM {v : Tm} {s : Str} (h : FT v s) : FC v ([40] ++ (s ++ [41])) := by
 have := abZ (v := bM 1 []) 40 (s ++ [41]) (Or.inl rfl) (by show JC 40 + net (s ++ [41]) = 0; rw [jM, h.1]; rfl)
 obtain ⟨h1, h2, h3⟩ := aal (v := bM 1 []) rfl this
 refine ⟨h1, h2, fun sp b hsp hb => ?_⟩
 obtain ⟨t, g1, g2, g3, g4⟩ := h3 sp b hsp hb
 refine ⟨t, g1, g2, g3, Or.inr ?_⟩
 rcases g4 with ⟨w, e, _⟩ | g
 ·cases e
 ·exact g
theorem alf {op : Int} (ho : op = 8 ∨ op = 9 ∨ op = 56) : Word (DX op) ∧ zf (DX op) = true ∧ net (DX op) = 0 ∧ Aj op = true ∧ ∀ d, up (DX op) d = d ∧ dn (DX op) d = d := by
 rcases ho with h | h | h <;> subst h <;> exact ⟨⟨⟨_, _, rfl, by decide⟩, by decide, by decide⟩, by decide, by decide, by decide, fun d => ⟨rfl, rfl⟩⟩
theorem alA {op : Int} (h1 : 46 ≤ op) (h2 : op ≤ 51) : Word (DW op) ∧ zf (DW op) = true ∧ net (DW op) = 0 ∧ Aj op = false ∧ (DW op == [110, 111, 116]) = false ∧ ∀ d, up (DW op) d = d ∧ dn (DW op) d = d := by
 have : op = 46 ∨ op = 47 ∨ op = 48 ∨ op = 49 ∨ op = 50 ∨ op = 51 := by omega
 rcases this with h | h | h | h | h | h <;> subst h <;> exact ⟨⟨⟨_, _, rfl, by decide⟩, by decide, by decide⟩, by decide, by decide, by decide, by decide, fun d => ⟨rfl, rfl⟩⟩
theorem arz (r b : Str) : Sep (32 :: r ++ b) := iw rfl (by decide)
theorem aeX {op : Int} {nm : Str} {p q : Tm} {s r : Str} (ho : op = 8 ∨ op = 9 ∨ op = 56) (hi : ident nm = true) (h : FC p s) (k : FT q r) : FT (.mk op nm 0 bg [p, q]) (DX op ++ ([32] ++ (nm ++ ([32, 105, 110] ++ ([32] ++ (s ++ ([32, 46] ++ ([32] ++ r)))))))) := by
 obtain ⟨g1, g2, g3, g4, _⟩ := alf ho
 refine ab4 (DX op) _ g1 g2 (fun b hb => arz _ b) ?_ (fun hv => by rw [show (Tm.mk op nm 0 bg [p, q]).op = op from rfl, g4] at hv; cases hv)
 simp only [jM, g3, h.1, k.1, (xq _ (lV hi)).1]
 rfl
theorem aiZ {op : Int} {p : Tm} {s : Str} (h1 : 46 ≤ op) (h2 : op ≤ 51) (h : FT p s) : FT (bM op [p]) (DW op ++ ([40] ++ (s ++ [41]))) := by
 obtain ⟨g1, g2, g3, g4, g5, _⟩ := alA h1 h2
 refine ab4 (DW op) _ g1 g2 (fun b hb => iw rfl (by decide)) ?_ (fun _ => g5)
 simp only [jM, g3, h.1]
 rfl
theorem ajz {p : Tm} {s : Str} (h : FC p s) : FT (bM 21 [p]) ([45] ++ s) := by
 obtain ⟨h1, ⟨x, xs, e, hx⟩, h2⟩ := h
 refine ⟨by rw [jM, h1]; rfl, fun hv => (by cases hv), fun sp b hsp hb => ⟨⟨4, [45], s ++ b⟩, ?_, rfl, fun hv => (by cases hv), Or.inr (Or.inr (Or.inl (by show (4 : Int) ≠ 1; decide)))⟩⟩
 rw [List.append_assoc]
 refine Kk hsp ⟨45, [], rfl, by decide, by decide⟩ ?_
 rw [e]
 exact agn x (xs ++ b) hx
theorem ah4 {p : Tm} {s : Str} (h : FC p s) : FT (bM 3 [p]) ([110, 111, 116, 32] ++ s) := by
 refine ab4 [110, 111, 116] (32 :: s) ⟨⟨_, _, rfl, by decide⟩, by decide, by decide⟩ (by decide) (fun b hb => arz _ b) ?_ (fun hv => by cases hv)
 show net ([110, 111, 116, 32] ++ s) = 0
 rw [jM, h.1]
 rfl
theorem pI : (∀ v s, Sh v s → FT v s) ∧ (∀ v s, ShC v s → FC v s) ∧ (∀ ks r, ShL ks r → net r = 0) := by
 have tru : FT (bM 1 []) [116, 114, 117, 101] := ab4 [116, 114, 117, 101] [] ⟨⟨_, _, rfl, by decide⟩, by decide, by decide⟩ (by decide) (fun b hb => hb) (by decide) (fun _ => by decide)
 have fls : FT (bM 2 []) [102, 97, 108, 115, 101] := ab4 [102, 97, 108, 115, 101] [] ⟨⟨_, _, rfl, by decide⟩, by decide, by decide⟩ (by decide) (fun b hb => hb) (by decide) (fun _ => by decide)
 have emp : ∀ {ty : Ty} {s : Str}, ShY ty s → FT (.mk 29 [] 0 ty []) ([123, 125, 91] ++ (s ++ [93])) := fun {ty s} h => abZ 123 _ (by simp) (by show net ([123, 125, 91] ++ (s ++ [93])) = 0; rw [jM, jM, h.net]; rfl)
 have compr : ∀ {nm : Str} {p q : Tm} {s r : Str}, ident nm = true → FC p s → FT q r → FT (.mk 55 nm 0 bg [p, q]) ([123] ++ (nm ++ ([32, 105, 110] ++ ([32] ++ (s ++ ([32, 124] ++ ([32] ++ (r ++ [125])))))))) := fun {nm p q s r} hi h k => abZ 123 _ (by simp) (by
  show net ([123] ++ (nm ++ ([32, 105, 110] ++ ([32] ++ (s ++ ([32, 124] ++ ([32] ++ (r ++ [125])))))))) = 0
  simp only [jM, h.1, k.1, (xq _ (lV hi)).1]
  rfl)
 have app : ∀ {p q : Tm} {s r : Str}, FC p s → FT q r → FT (bM 54 [p, q]) (s ++ ([40] ++ (r ++ [41]))) := fun {p q s r} h k => ae6 40 (by simp) h (by
  show net (s ++ ([40] ++ (r ++ [41]))) = 0
  simp only [jM, h.1, k.1]
  rfl)
 have img : ∀ {p q : Tm} {s r : Str}, FC p s → FT q r → FT (bM 53 [p, q]) (s ++ ([91] ++ (r ++ [93]))) := fun {p q s r} h k => ae6 91 (by simp) h (by
  show net (s ++ ([91] ++ (r ++ [93]))) = 0
  simp only [jM, h.1, k.1]
  rfl)
 have inv : ∀ {p : Tm} {s : Str}, FC p s → FT (bM 52 [p]) (s ++ [126]) := fun {p s} h => ae6 126 (by simp) h (by
  show net (s ++ [126]) = 0
  simp only [jM, h.1]
  rfl)
 have set : ∀ {p : Tm} {ks : List Tm} {s r : Str}, FT p s → net r = 0 → FT (bM 28 (p :: ks)) ([123] ++ (s ++ (r ++ [125]))) := fun {p ks s r} h k => abZ 123 _ (by simp) (by
  show net ([123] ++ (s ++ (r ++ [125]))) = 0
  simp only [jM, h.1, k]
  rfl)
 have cons : ∀ {p : Tm} {s r : Str}, FT p s → net r = 0 → net ([44] ++ ([32] ++ (s ++ r))) = 0 := fun {p s r} h k => by
  simp only [jM, h.1, k]
  rfl
 refine ⟨fun v s h => ?_, fun v s h => ?_, fun v s h => ?_⟩
 ·exact Sh.rec (motive_1 := fun v s _ => FT v s) (motive_2 := fun v s _ => FC v s) (motive_3 := fun _ r _ => net r = 0) tru fls (fun h => aji h) (fun h => ahC h) (fun h => emp h) (fun _ h => ah4 h) (fun _ h => ajz h) (fun ho hi _ _ h k => aeX ho hi h k) (fun hi _ _ h k => compr hi h k) (fun _ _ h k => app h k) (fun _ _ h k => img h k) (fun _ h => inv h) (fun _ _ h k => set h k) (fun h1 h2 _ h => aiZ h1 h2 h) (fun ho _ _ h k => ah1 ho h k) (fun _ _ h => ahM h) (fun hc _ h => aal hc h) rfl (fun _ _ h k => cons h k) h
 ·exact ShC.rec (motive_1 := fun v s _ => FT v s) (motive_2 := fun v s _ => FC v s) (motive_3 := fun _ r _ => net r = 0) tru fls (fun h => aji h) (fun h => ahC h) (fun h => emp h) (fun _ h => ah4 h) (fun _ h => ajz h) (fun ho hi _ _ h k => aeX ho hi h k) (fun hi _ _ h k => compr hi h k) (fun _ _ h k => app h k) (fun _ _ h k => img h k) (fun _ h => inv h) (fun _ _ h k => set h k) (fun h1 h2 _ h => aiZ h1 h2 h) (fun ho _ _ h k => ah1 ho h k) (fun _ _ h => ahM h) (fun hc _ h => aal hc h) rfl (fun _ _ h k => cons h k) h
 ·exact ShL.rec (motive_1 := fun v s _ => FT v s) (motive_2 := fun v s _ => FC v s) (motive_3 := fun _ r _ => net r = 0) tru fls (fun h => aji h) (fun h => ahC h) (fun h => emp h) (fun _ h => ah4 h) (fun _ h => ajz h) (fun ho hi _ _ h k => aeX ho hi h k) (fun hi _ _ h k => compr hi h k) (fun _ _ h k => app h k) (fun _ _ h k => img h k) (fun _ h => inv h) (fun _ _ h k => set h k) (fun h1 h2 _ h => aiZ h1 h2 h) (fun ho _ _ h k => ah1 ho h k) (fun _ _ h => ahM h) (fun hc _ h => aal hc h) rfl (fun _ _ h k => cons h k) h
end Abs
end Go.Proofs.YtiiaccpcoclklaaGreat

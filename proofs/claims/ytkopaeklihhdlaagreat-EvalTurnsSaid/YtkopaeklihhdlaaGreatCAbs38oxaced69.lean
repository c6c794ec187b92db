/-
  Laws for walks that go along with a plain function: starts, ends, calls, loops, elements, appends. Conditions: none; lemmas over any program.
-/
import Derived.Lib.Bytealg
import Derived.Test.YtkopaeklihhdlaaGreatCAbs31oxfcf4cc
set_option linter.unusedSimpArgs false
set_option linter.unusedVariables false
namespace Go.Proofs.YtkopaeklihhdlaaGreat
namespace Abs
open Go
theorem ob {α β : Type} {x : Option α} {k : α → Option β} {r : β} (h : x.bind k = some r) : ∃ a, x = some a ∧ k a = some r := by
 cases x with
 | none => cases h
 | some a => exact ⟨a, rfl, h⟩
inductive LR (σ ρ : Type) where
 | nx (s : σ)
 | rt (r : ρ)
def LR.on {σ ρ : Type} (k : σ → Option ρ) : LR σ ρ → Option ρ
 | .nx s => k s
 | .rt r => some r
@[reducible] def LR.el {σ ρ β : Type} (k : σ → β) (j : ρ → β) : LR σ ρ → β
 | .nx s => k s
 | .rt r => j r
def idx {α : Type} (l : List α) (i : Int) : Option α := if 0 ≤ i then l[i.toNat]? else none
def app {α : Type} (b : Nat) (l ys : List α) : Option (List α) := if (l.length + ys.length) * b ≤ 140737488355328 ∧ l.length + ys.length ≤ 140737488355328 then some (l ++ ys) else none
def iQ (s : List UInt8) (i : Int) : Option Int := if 0 ≤ i ∧ i < s.length then some ((s.getD i.toNat 0).toNat : Int) else none
def fO {α : Type} (s : List α) (lo hi : Int) : Option (List α) := if 0 ≤ lo ∧ lo ≤ hi ∧ hi ≤ s.length then some ((s.drop lo.toNat).take (hi.toNat - lo.toNat)) else none
theorem bB {n : Int} (h1 : -9223372036854775808 ≤ n) (h2 : n ≤ 9223372036854775807) : n = IntKind.wrap .i64 n := by
 simp only [IntKind.wrap, IntKind.signed, IntKind.bits]; simp; omega
theorem bY {n : Int} (h : VF (.int .i64 n)) : -9223372036854775808 ≤ n ∧ n ≤ 9223372036854775807 := h
theorem gI {α : Type} {f : α → List AV} {l : List α} {t : Tag} (h : VF (.slice (l.map f) t)) : (l.length : Int) ≤ 9223372036854775807 := by
 have : (l.map f).length ≤ 9223372036854775807 := h
 rw [List.length_map] at this; omega
theorem vfs {s : List UInt8} (h : VF (.str s)) : (s.length : Int) ≤ 9223372036854775807 := by
 have : s.length ≤ 9223372036854775807 := h
 omega
theorem aI {α : Type} {c : Bool} {X Y : Option α} {r : α} {A B : Prop} (h : _root_.cond c X Y = some r) (h1 : c = true → X = some r → A) (h2 : c = false → Y = some r → B) : eY c A B := by
 cases c
 ·exact h2 rfl h
 ·exact h1 rfl h
theorem AW.aK {α : Type} {P : Program} {m : Nat} {c : Operand} {x y : Code} {Q : QT} {t : List AV} {h : List AObj} {b : Bool} {X Y : Option α} {r : α} (hc : cK t c = .bool b) (hh : _root_.cond b X Y = some r)
  (h1 : b = true → X = some r → AW P m x Q t h) (h2 : b = false → Y = some r → AW P m y Q t h) : AW P m (.cond c x y) Q t h :=
 AW.cond hc (fun e => h1 e (by subst e; exact hh)) (fun e => h2 e (by subst e; exact hh))
theorem aU {α : Type} {l : List α} {f : α → List AV} {x : α} {i : Int} {sz : Nat} {B : List AV → Prop} {cs : List AV} (hx : idx l i = some x) (hc : f x = cs) (hz : cs.length = sz) (hk : B cs) : ∃ c, (l.map f)[i.toNat]? = some c ∧ 0 ≤ i ∧ c.length = sz ∧ B c := by
 unfold idx at hx
 split at hx
 ·rename_i h0
  exact ⟨cs, by rw [List.getElem?_map, hx, ← hc]; rfl, h0, hz, hk⟩
 ·cases hx
theorem aQ {α : Type} {l : List α} {f : α → List AV} {K : Int → Prop} (h : K l.length) : ∃ n, n = ((l.map f).length : Int) ∧ K n := ⟨l.length, by rw [List.length_map], h⟩
theorem yV {s : List UInt8} {i x : Int} {B : Int → Prop} (hx : iQ s i = some x) (hk : B x) : ∃ x : Int, (0 ≤ i ∧ i < s.length) ∧ x = (s.getD i.toNat 0).toNat ∧ B x := by
 unfold iQ at hx
 split at hx
 ·rename_i h0; cases hx; exact ⟨_, h0, rfl, hk⟩
 ·cases hx
inductive Bd : Option AV → Int → Int → Prop where
 | none (d : Int) : Bd none d d
 | int (k : IntKind) (n d : Int) : Bd (some (.int k n)) n d
theorem aaY {s x : List UInt8} {lo hi : Option AV} {a b : Int} {B : List UInt8 → Prop} (hx : fO s a b = some x) (ha : Bd lo a 0) (hb : Bd hi b s.length) (hk : B x) : ∃ r, (∃ l h, dI hi s.length s.length = some h ∧ dI lo 0 h = some l ∧ r = (s.drop l).take (h - l)) ∧ B r := by
 unfold fO at hx
 split at hx
 ·rename_i h0
  obtain ⟨h1, h2, h3⟩ := h0
  cases hx
  refine ⟨_, ⟨a.toNat, b.toNat, ?_, ?_, rfl⟩, hk⟩
  ·cases hb with
   | none => simp [dI]
   | int k n => simp [dI]; omega
  ·cases ha with
   | none => simp [dI]
   | int k n => simp [dI]; omega
 ·cases hx
theorem NQ {α : Type} {l x : List α} {f : α → List AV} {sz : Nat} {lo hi : Option AV} {a b : Int} {B : List (List AV) → Prop} (hx : fO l a b = some x) (ha : Bd lo a 0) (hb : Bd hi b l.length) (hf : ∀ x, bR sz (f x) = true) (hk : B (x.map f)) :
  ∃ r, (∃ i h, dI hi (l.map f).length (l.map f).length = some h ∧ dI lo 0 h = some i ∧ (i < (l.map f).length → ((l.map f).getD i []).length = sz) ∧ r = ((l.map f).drop i).take (h - i)) ∧ B r := by
 unfold fO at hx
 split at hx
 ·rename_i h0
  obtain ⟨h1, h2, h3⟩ := h0
  cases hx
  refine ⟨_, ⟨a.toNat, b.toNat, ?_, ?_, ?_, ?_⟩, hk⟩
  ·cases hb with
   | none => simp [dI]
   | int k n => simp [dI]; omega
  ·cases ha with
   | none => simp [dI]
   | int k n => simp [dI]; omega
  ·intro hi
   rw [List.length_map] at hi
   have := hf l[a.toNat]
   simp only [bR, Bool.and_eq_true, beq_iff_eq] at this
   simp only [List.getD, List.getElem?_map, List.getElem?_eq_getElem hi, Option.map_some, Option.getD_some]
   exact this.1
  ·rw [List.map_take, List.map_drop]
 ·cases hx
theorem PY {α : Type} {l ys r : List α} {b : Nat} (h : app b l ys = some r) : (l.length + ys.length) * b ≤ 140737488355328 ∧ l.length + ys.length ≤ 140737488355328 ∧ r = l ++ ys := by
 unfold app at h
 split at h
 ·rename_i h0; cases h; exact ⟨h0.1, h0.2, rfl⟩
 ·cases h
theorem GL {α : Type} {f : α → List AV} {sz : Nat} (hf : ∀ x, bR sz (f x) = true) (l : List α) : (l.map f).all (bR sz) = true := by
 simp [List.all_eq_true, hf]
theorem gq {α : Type} {l ys r : List α} {f : α → List AV} {b sz n : Nat} {es es' : List (List AV)} {K : List (List AV) → Nat → Prop} (h : app b l ys = some r) (hf : ∀ x, bR sz (f x) = true) (he : es = l.map f) (he' : es' = ys.map f) (hn : n = l.length * sz)
  (hK : K (r.map f) (r.length * sz)) : adU n es es' sz b (QG (es ++ es') fun r => ∃ n, n = (es ++ es').length * sz ∧ K r n) := by
 obtain ⟨h1, h2, rfl⟩ := PY h
 subst he; subst he'
 refine ⟨⟨by rw [List.length_map]; exact hn, by simp only [List.length_map]; exact h1, by simp only [List.length_map]; exact h2, GL hf _, GL hf _⟩, (l ++ ys).map f, by simp, (l ++ ys).length * sz, by simp, hK⟩
abbrev u2 (l : List AV) : List AV := .unk :: .unk :: l
abbrev u4 (l : List AV) : List AV := u2 (u2 l)
abbrev u8 (l : List AV) : List AV := u4 (u4 l)
abbrev u16 (l : List AV) : List AV := u8 (u8 l)
abbrev u32 (l : List AV) : List AV := u16 (u16 l)
abbrev u64 (l : List AV) : List AV := u32 (u32 l)
section
variable {h : List AObj} {L : List (Option Nat)} {xs ys : List AV}
theorem VWs.u2 {a b : AV} (hv : VWs h L xs ys) : VWs h L (Abs.u2 xs) (a :: b :: ys) := .cons (.unk _) (.cons (.unk _) hv)
theorem VWs.u4 {a0 a1 a2 a3 : AV} (hv : VWs h L xs ys) : VWs h L (Abs.u4 xs) (a0 :: a1 :: a2 :: a3 :: ys) := .u2 (.u2 hv)
theorem VWs.u8 {a0 a1 a2 a3 a4 a5 a6 a7 : AV} (hv : VWs h L xs ys) : VWs h L (Abs.u8 xs) (a0 :: a1 :: a2 :: a3 :: a4 :: a5 :: a6 :: a7 :: ys) := .u4 (.u4 hv)
theorem VWs.u16 {a0 a1 a2 a3 a4 a5 a6 a7 a8 a9 a10 a11 a12 a13 a14 a15 : AV} (hv : VWs h L xs ys) : VWs h L (Abs.u16 xs) (a0 :: a1 :: a2 :: a3 :: a4 :: a5 :: a6 :: a7 :: a8 :: a9 :: a10 :: a11 :: a12 :: a13 :: a14 :: a15 :: ys) := .u8 (.u8 hv)
theorem VWs.u32 {a0 a1 a2 a3 a4 a5 a6 a7 a8 a9 a10 a11 a12 a13 a14 a15 a16 a17 a18 a19 a20 a21 a22 a23 a24 a25 a26 a27 a28 a29 a30 a31 : AV} (hv : VWs h L xs ys) : VWs h L (Abs.u32 xs) (a0 :: a1 :: a2 :: a3 :: a4 :: a5 :: a6 :: a7 :: a8 :: a9 :: a10 :: a11 :: a12 :: a13 :: a14 :: a15 :: a16 :: a17 :: a18 :: a19 :: a20 :: a21 :: a22 :: a23 :: a24 :: a25 :: a26 :: a27 :: a28 :: a29 :: a30 :: a31 :: ys) := .u16 (.u16 hv)
theorem VWs.u64 {a0 a1 a2 a3 a4 a5 a6 a7 a8 a9 a10 a11 a12 a13 a14 a15 a16 a17 a18 a19 a20 a21 a22 a23 a24 a25 a26 a27 a28 a29 a30 a31 a32 a33 a34 a35 a36 a37 a38 a39 a40 a41 a42 a43 a44 a45 a46 a47 a48 a49 a50 a51 a52 a53 a54 a55 a56 a57 a58 a59 a60 a61 a62 a63 : AV} (hv : VWs h L xs ys) : VWs h L (Abs.u64 xs) (a0 :: a1 :: a2 :: a3 :: a4 :: a5 :: a6 :: a7 :: a8 :: a9 :: a10 :: a11 :: a12 :: a13 :: a14 :: a15 :: a16 :: a17 :: a18 :: a19 :: a20 :: a21 :: a22 :: a23 :: a24 :: a25 :: a26 :: a27 :: a28 :: a29 :: a30 :: a31 :: a32 :: a33 :: a34 :: a35 :: a36 :: a37 :: a38 :: a39 :: a40 :: a41 :: a42 :: a43 :: a44 :: a45 :: a46 :: a47 :: a48 :: a49 :: a50 :: a51 :: a52 :: a53 :: a54 :: a55 :: a56 :: a57 :: a58 :: a59 :: a60 :: a61 :: a62 :: a63 :: ys) := .u32 (.u32 hv)
end
theorem aC {P : Program} {f : Nat} {fn : Func} {c : Code} {args : List AV} {H H' : List AObj} {res : AV} (wk : Bool) (hf : P.funcs[f]? = some fn) (hb : fn.body = some c) (hlen : args.length ≤ fn.ntmps)
  (h : ∀ Q : QT, (∀ e t h, ahu P fn.results.toList wk H res H' e t h → Q e t h) → ∀ t, Bz fn.ntmps args (fun u => t = u) → AW P H.length c Q t H) : aA P f args H res H' := by
 refine ab4 wk hf hb hlen ?_
 exact h _ (fun _ _ _ h => h) _ (by unfold Bz; rw [rG])
theorem aG {P : Program} {τ : Nat → TI} {rs : List ResultVar} {wk : Bool} {res : AV} {t : List AV} {h : List AObj} (hτ : τ = TI.of P) (hr : ∀ g, ren g res = res) (hq : resT τ t h rs fun xs => KA (xA wk xs) fun v => Ends v res) : WB P rs wk [] res [] t h := by
 subst hτ
 obtain ⟨xs, h1, h2⟩ := Aq _ _ hq
 rw [zL] at h2
 exact .inl ⟨[], xs, h1, by rw [hr]; exact h2, by simp, rfl, by simp, fun i hi => (by cases hi), fun l hl => (by cases hl), fun i l hi => by simp at hi⟩
inductive RetOs (g : Nat → Nat) (h : List AObj) : List Nat → List AObj → Prop where
 | nil : RetOs g h [] []
 | cons {l : Nat} {o : AObj} {ls : List Nat} {os : List AObj} : bS g o = obj? h l → RetOs g h ls os → RetOs g h (l :: ls) (o :: os)
theorem RetOs.len {g : Nat → Nat} {h : List AObj} {ls : List Nat} {os : List AObj} (hv : RetOs g h ls os) : os.length = ls.length := by
 induction hv with
 | nil => rfl
 | cons _ _ ih => simp [ih]
theorem RetOs.get {g : Nat → Nat} {h : List AObj} {ls : List Nat} {os : List AObj} (hv : RetOs g h ls os) : ∀ i l, ls[i]? = some l → obj? h l = bS g (obj? os i) := by
 induction hv with
 | nil => intro i l hi; simp at hi
 | cons h1 _ ih => intro i l hi; cases i with
  | zero => simp at hi; subst hi; exact h1.symm
  | succ i => exact ih i l (by simpa using hi)
def aef (n m : Nat) (L : List Nat) : Bool := decide L.Nodup && decide (n ≤ L.length) && (List.range n).all (fun i => L[i]? == some i) && L.all (fun l => decide (l < m))
theorem bH {P : Program} {τ : Nat → TI} {rs : List ResultVar} {wk : Bool} {H H' : List AObj} {res : AV} {t : List AV} {h : List AObj} (hτ : τ = TI.of P) (L : List Nat) (hL : aef H.length h.length L = true) (hO : RetOs (nm L h.length) h L H')
  (hq : resT τ t h rs fun xs => KA (xA wk xs) fun v => Ends v (ren (nm L h.length) res)) : ∃ L, wD P rs wk L H res H' ⟨t, h⟩ := by
 subst hτ
 obtain ⟨xs, h1, h2⟩ := Aq _ _ hq
 rw [zL] at h2
 simp only [aef, Bool.and_eq_true, List.all_eq_true, decide_eq_true_eq] at hL
 obtain ⟨⟨⟨q1, q2⟩, q3⟩, q4⟩ := hL
 exact ⟨L, xs, h1, h2, q1, hO.len, q2, fun i hi => by simpa using q3 i (by simpa using hi), q4, hO.get⟩
theorem d9 {P : Program} {rs : List ResultVar} {wk : Bool} {H H' : List AObj} {res : AV} {t : List AV} {h : List AObj} (t' : List AV) (h' : List AObj) (hw : Le H.length t h t' h') (hq : ∃ L, wD P rs wk L H res H' ⟨t', h'⟩) : WB P rs wk H res H' t h := .inr ⟨t', h', hw, hq⟩
theorem aA.args {P : Program} {f : Nat} {args args' : List AV} {H H' : List AObj} {res : AV} (hc : aA P f args H res H') (hs : SWs args' args) : aA P f args' H res H' :=
 fun κ aO w vs hen hl hr => hc κ aO w vs hen (hl.trans hs.len) fun j hj => (hs.get j).rel (hr j (by rw [hs.len]; exact hj))
inductive PassO (g : Nat → Nat) (h : List AObj) : List Nat → List AObj → Prop where
 | nil : PassO g h [] []
 | cons {l : Nat} {o : AObj} {ls : List Nat} {os : List AObj} : bS g o = obj? h l → PassO g h ls os → PassO g h (l :: ls) (o :: os)
theorem PassO.len {g : Nat → Nat} {h : List AObj} {ls : List Nat} {os : List AObj} (hv : PassO g h ls os) : os.length = ls.length := by
 induction hv with
 | nil => rfl
 | cons _ _ ih => simp [ih]
theorem PassO.get {g : Nat → Nat} {h : List AObj} {ls : List Nat} {os : List AObj} (hv : PassO g h ls os) : ∀ i l, ls[i]? = some l → obj? h l = bS g (obj? os i) := by
 induction hv with
 | nil => intro i l hi; simp at hi
 | cons h1 _ ih => intro i l hi; cases i with
  | zero => simp at hi; subst hi; exact h1.symm
  | succ i => exact ih i l (by simpa using hi)
def abJ (h : List AObj) (ρ ks : List Nat) (n : Nat) : Bool := decide (ρ ++ ks).Nodup && ρ.all (fun l => decide (l < h.length)) && ks.all (fun l => bT (obj? h l)) && decide (n = (ρ ++ ks).length)
def EJ (g : Nat → Nat) : List AObj → List AObj
 | [] => []
 | o :: os => bS g o :: EJ g os
theorem Qv (g : Nat → Nat) : ∀ os, EJ g os = os.map (bS g)
 | [] => rfl
 | o :: os => by simp [EJ, Qv g os]
theorem bJ {g : Nat → Nat} {o o' : AObj} {os os' : List AObj} (h1 : bS g o = o') (h2 : EJ g os = os') : EJ g (o :: os) = o' :: os' := by simp only [EJ, h1, h2]
theorem bF {P : Program} {f : Nat} {args : List AV} {dst : Option Tmp} {t : List AV} {h : List AObj} {k : Nat} {K : Nat → List Nat → List Wr → Prop} (ρ ks : List Nat) (aargs an : List AV) {H H' : List AObj} {res rn : AV} {Hn : List AObj}
  (hc : aA P f aargs H res H') (hok : aY P f = true) (hp : abJ h ρ ks H'.length = true) (hO : PassO (nm (ρ ++ ks) h.length) h ρ H) (ha : bD (nm (ρ ++ ks) h.length) aargs = an) (hs : SWs args an)
  (hr : ren (nm (ρ ++ ks) h.length) res = rn) (hH : EJ (nm (ρ ++ ks) h.length) H' = Hn) (hK : K (k + ks.length) (ρ ++ ks) (ow (ρ ++ ks) Hn ++ aM dst rn)) : ACallU P f args dst t h k K := by
 simp only [abJ, Bool.and_eq_true, List.all_eq_true, decide_eq_true_eq] at hp
 obtain ⟨⟨⟨q1, q2⟩, q3⟩, q4⟩ := hp
 refine ⟨⟨hok, ρ, ks, aargs, H, res, H', ⟨q1, hO.len, q2, q3, hO.get⟩, q4, by rw [← wh, ha]; exact hs, hc, ?_⟩⟩
 rw [hr, ← Qv, hH]; exact hK
theorem aB {P : Program} {f : Nat} {args : List AV} {dst : Option Tmp} {t : List AV} {h : List AObj} {k : Nat} {K : Nat → List Nat → List Wr → Prop} {aargs : List AV} {res : AV}
  (hc : aA P f aargs [] res []) (hok : aY P f = true) (hs : SWs args aargs) (ha : ∀ g, bD g aargs = aargs) (hr : ∀ g, ren g res = res) (hK : K k [] (aM dst res)) : ACallU P f args dst t h k K := by
 refine ⟨⟨hok, [], [], aargs, [], res, [], ⟨by simp, rfl, fun l hl => (by cases hl), fun l hl => (by cases hl), fun i l hi => by simp at hi⟩, rfl, by rw [← wh, ha]; exact hs, hc, ?_⟩⟩
 simp only [List.append_nil, List.length_nil, Nat.add_zero, List.map_nil, ow, List.nil_append, hr]
 exact hK
theorem AW.loopS {σ ρ : Type} {P : Program} {m : Nat} {c : Code} {Q : QT} {t : List AV} {h : List AObj} (L : Nat → σ → Option ρ) (tT : σ → List AV) (tH : σ → List AObj) {out : ρ} {n : Nat} {s0 : σ} (h0 : L n s0 = some out) (hz : ∀ s, L 0 s = none)
  (hw0 : Le m t h (tT s0) (tH s0))
  (round : ∀ n s, L (n + 1) s = some out → ∀ K : List AV → List AObj → Prop, (∀ t' h' s', L n s' = some out → Le m t' h' (tT s') (tH s') → K t' h') → AW P m c (GI K Q) (tT s) (tH s)) : AW P m (.loop c) Q t h := by
 refine AW.loop (fun n t h => ∃ s, L n s = some out ∧ Le m t h (tT s) (tH s)) (n := n) ⟨s0, h0, hw0⟩ ?_
 rintro n t h ⟨s, hs, hw⟩
 refine AW.le hw ?_
 cases n with
 | zero => rw [hz] at hs; cases hs
 | succ n => exact round n s hs _ fun t' h' s' g1 g2 => ⟨n, by omega, s', g1, g2⟩
end Abs
end Go.Proofs.YtkopaeklihhdlaaGreat
namespace Go.Proofs.YtkopaeklihhdlaaGreat
namespace Abs
open Go
structure Carrier where
 name : Str
 elems : List Str
structure Decl where
 name : Str
 ty : Ty
structure Env where
 carriers : List Carrier
 names : List Decl
def encI (n : Int) : List AV := [.int .i64 n]
def encS (s : Str) : List AV := [.str s]
def CJ (n : Int) : List AV := [.int .u8 n]
def aj (x : Carrier) : List AV := [.str x.name, .slice (x.elems.map encS) .shared]
def ak (x : Decl) : List AV := [.str x.name, .int .i64 x.ty.kind, .str x.ty.name, .slice (x.ty.kids.map aH) .shared]
theorem sI {α : Type} {f : α → List AV} (hf : ∀ g x, bD g (f x) = f x) (g : Nat → Nat) (l : List α) : bq g (l.map f) = l.map f := by
 rw [Cv, List.map_map]
 exact List.map_congr_left fun x _ => hf g x
theorem aR (g : Nat → Nat) (l : List Int) : bq g (l.map encI) = l.map encI := sI (fun _ _ => rfl) g l
theorem bQ (g : Nat → Nat) (l : List Int) : bq g (l.map CJ) = l.map CJ := sI (fun _ _ => rfl) g l
theorem bE (g : Nat → Nat) (l : List Str) : bq g (l.map encS) = l.map encS := sI (fun _ _ => rfl) g l
theorem bf (g : Nat → Nat) (l : List Ty) : bq g (l.map aH) = l.map aH := afJ g l
theorem bP (g : Nat → Nat) (l : List Tm) : bq g (l.map sU) = l.map sU := afS g l
theorem au (g : Nat → Nat) (l : List Carrier) : bq g (l.map aj) = l.map aj := sI (fun g x => by simp only [aj, bD, ren, dx, bE]) g l
theorem aF (g : Nat → Nat) (l : List Decl) : bq g (l.map ak) = l.map ak := sI (fun g x => by simp only [ak, bD, ren, dx, bf]) g l
theorem agf (g : Nat → Nat) (n : Int) : bD g (encI n) = encI n := rfl
theorem agW (g : Nat → Nat) (n : Str) : bD g (encS n) = encS n := rfl
theorem aeN (g : Nat → Nat) (n : Int) : bD g (CJ n) = CJ n := rfl
theorem UD (g : Nat → Nat) (x : Carrier) : bD g (aj x) = aj x := by simp only [aj, bD, ren, dx, bE]
theorem acw (g : Nat → Nat) (x : Decl) : bD g (ak x) = ak x := by simp only [ak, bD, ren, dx, bf]
theorem agT (n : Int) : bR 1 (encI n) = true := rfl
theorem Dj (n : Str) : bR 1 (encS n) = true := rfl
theorem ad9 (n : Ty) : bR 3 (aH n) = true := by rw [fC]; rfl
theorem MO (n : Carrier) : bR 2 (aj n) = true := rfl
theorem Y1 (n : Decl) : bR 4 (ak n) = true := rfl
def dR {α : Type} (m : List (Str × α)) (k : Str) : Option α := (m.find? fun p => p.1 == k).map (·.2)
def j5 {α : Type} (m : List (Str × α)) (k : Str) (v : α) : List (Str × α) :=
 match m with
 | [] => [(k, v)]
 | p :: r => if p.1 == k then (k, v) :: r else p :: j5 r k v
def uZ {α : Type} (m : List (Str × α)) (k : Str) (v : α) : Option (List (Str × α)) := if m.length < 140737488355328 then some (j5 m k v) else none
@[reducible] def Q6 {α β : Type} (o : Option α) (Y : β) (X : α → β) : β := match o with | some v => X v | none => Y
theorem Xk {α : Type} (f : α → AV) : ∀ (m : List (Str × α)) (k : Str), nH (m.map fun p => (p.1, f p.2)) k = (dR m k).map f
 | [], k => rfl
 | p :: m, k => by
  have ih := Xk f m k
  unfold nH dR at *
  simp only [List.map_cons, List.find?_cons]
  cases h : (p.1 == k)
  ·exact ih
  ·rfl
theorem Zy {α : Type} (f : α → AV) : ∀ (m : List (Str × α)) (k : Str) (v : α), xO (m.map fun p => (p.1, f p.2)) k (f v) = (j5 m k v).map fun p => (p.1, f p.2)
 | [], k, v => rfl
 | p :: m, k, v => by
  simp only [List.map_cons, xO, j5]
  split
  ·rfl
  ·rw [Zy f m k v]; rfl
theorem afX {α β : Type} {m : List (Str × α)} {k : Str} {f : α → AV} {A : AV → Prop} {B : Prop} {X : α → Option β} {Y : Option β} {r : β} (h : Q6 (dR m k) Y X = some r)
  (h1 : ∀ x, dR m k = some x → X x = some r → A (f x)) (h2 : dR m k = none → Y = some r → B) : (∀ v, nH (m.map fun p => (p.1, f p.2)) k = some v → A v) ∧ (nH (m.map fun p => (p.1, f p.2)) k = none → B) := by
 rw [Xk]
 cases hm : dR m k with
 | none => rw [hm] at h; exact ⟨fun v hv => (by cases hv), fun _ => h2 hm h⟩
 | some x => rw [hm] at h; exact ⟨fun v hv => (by cases hv; exact h1 x hm h), fun hv => (by cases hv)⟩
theorem ab8 {α : Type} {m r : List (Str × α)} {k : Str} {f : α → AV} {v : α} {u : AV} {B : List (List UInt8 × AV) → Prop} (h : uZ m k v = some r) (hu : u = f v) (hB : B (r.map fun p => (p.1, f p.2))) :
  ∃ es, (m.map fun p => (p.1, f p.2)).length < 140737488355328 ∧ es = xO (m.map fun p => (p.1, f p.2)) k u ∧ B es := by
 unfold uZ at h
 split at h
 ·rename_i hl; cases h
  exact ⟨_, by rw [List.length_map]; exact hl, by rw [hu, Zy], hB⟩
 ·cases h
theorem yS {α : Type} {f : α → AV} (hf : ∀ g x, ren g (f x) = f x) (g : Nat → Nat) (m : List (Str × α)) : (m.map fun p => (p.1, f p.2)).map (fun p => (p.1, ren g p.2)) = m.map fun p => (p.1, f p.2) := by
 rw [List.map_map]
 exact List.map_congr_left fun p _ => by simp only [Function.comp, hf]
theorem aN {α : Type} (l : List α) : l = l.take l.length := by simp
theorem yM {α : Type} {l l' ys r : List α} {f : α → List AV} {b sz : Nat} {K : List (List AV) → Nat → Prop} (h : app b l' ys = some r) (hp : l' = l.take l'.length) (hf : ∀ x, bR sz (f x) = true) (hK : K (r.map f) r.length) :
  (l'.length ≤ (l.map f).length ∧ (l'.length + (ys.map f).length) * b ≤ 140737488355328 ∧ l'.length + (ys.map f).length ≤ 140737488355328 ∧ ((l.map f).all (bR sz) = true) ∧ ((ys.map f).all (bR sz) = true)) ∧ ∃ r m, r = (l.map f).take l'.length ++ ys.map f ∧ m = r.length ∧ K r m := by
 obtain ⟨h1, h2, rfl⟩ := PY h
 have hle : l'.length ≤ l.length := by
  have := congrArg List.length hp
  rw [List.length_take] at this; omega
 refine ⟨⟨by simpa using hle, by simpa using h1, by simpa using h2, GL hf _, GL hf _⟩, (l' ++ ys).map f, (l' ++ ys).length, ?_, by simp, hK⟩
 rw [← List.map_take, ← hp, List.map_append]
theorem VZ {α : Type} {f : α → List AV} {e e0 : List α} {g : Nat → Nat} (hr : ∀ g (l : List α), bq g (l.map f) = l.map f) (hp : e = e0.take e.length) : bq g (e.map f) = (e0.map f).take e.length := by
 rw [hr, ← List.map_take, ← hp]
theorem VW.iJ {α : Type} {f : α → List AV} {e e0 : List α} {h : List AObj} {L : List (Option Nat)} {l z : Nat} (hr : ∀ g (l : List α), bq g (l.map f) = l.map f) (hp : e = e0.take e.length) (ho : obj? h l = .arr z (e0.map f)) (hn : L.contains (some l) = false) : VW h L (.slice (e.map f) .shared) (.psl l z e.length) := by
 have hle : e.length ≤ e0.length := by
  have := congrArg List.length hp
  rw [List.length_take] at this; omega
 exact .frzP ho (fun hm => by simp [hm] at hn) (by simpa using hle) (VZ hr hp)
theorem OW.arr' {α : Type} {f : α → List AV} {e e0 : List α} {h : List AObj} {L : List (Option Nat)} {z : Nat} (hr : ∀ g (l : List α), bq g (l.map f) = l.map f) (hp : e = e0.take e.length) : OW h L (.arr z (e.map f)) (.arr z (e0.map f)) := .arr (VZ hr hp)
theorem bM (g : Nat → Nat) (xs ys : List AV) : bD g (xs ++ ys) = bD g xs ++ bD g ys := by simp only [wh, List.map_append]
def upd {α : Type} (l : List α) (i : Int) (v : α) : List α := l.set i.toNat v
theorem NA {α : Type} {l : List α} {n : Int} {x : α} (h : idx l n = some x) : 0 ≤ n ∧ n < (l.length : Int) ∧ l[n.toNat]? = some x := by
 unfold idx at h
 split at h
 ·rename_i h0
  have := (List.getElem?_eq_some_iff.1 h).1
  exact ⟨h0, by omega, h⟩
 ·cases h
theorem yH {α : Type} {l l0 : List α} {n : Int} {x : α} {z : Nat} {B : Nat → Prop} (hx : idx l n = some x) (hl : l0.length = l.length) (hB : B (n.toNat * z)) : ∃ m : Nat, (0 ≤ n ∧ n < ((l0.length : Nat) : Int) ∧ z = z) ∧ m = n.toNat * z ∧ B m := by
 obtain ⟨h1, h2, _⟩ := NA hx
 exact ⟨_, ⟨h1, by rw [hl]; exact h2, rfl⟩, rfl, hB⟩
theorem QB {α : Type} {l : List α} {f : α → List AV} {n : Int} {x : α} {z : Nat} {cs : List AV} {B : List AV → Prop} (hx : idx l n = some x) (hf : f x = cs) (hz : 0 < z) (hB : B cs) : ∃ i cs', n.toNat * z = i * z ∧ 0 < z ∧ (l.map f)[i]? = some cs' ∧ B cs' := by
 obtain ⟨_, _, h3⟩ := NA hx
 exact ⟨n.toNat, cs, rfl, hz, by rw [List.getElem?_map, h3, ← hf]; rfl, hB⟩
theorem QV {α : Type} {l : List α} {f : α → List AV} {n : Int} {x v : α} {z : Nat} {vs : List AV} {B : List (List AV) → Prop} (hx : idx l n = some x) (hv : vs = f v) (hz : 0 < z) (hB : B ((upd l n v).map f)) : ∃ i r, n.toNat * z = i * z ∧ 0 < z ∧ i < (l.map f).length ∧ r = (l.map f).set i vs ∧ B r := by
 obtain ⟨_, h2, _⟩ := NA hx
 exact ⟨n.toNat, _, rfl, hz, by rw [List.length_map]; omega, by rw [hv, upd, List.map_set], hB⟩
theorem ahs {α : Type} {l : List α} {f : α → List AV} {n : Int} {x v : α} {z j : Nat} {vs : List AV} {B : List (List AV) → Prop} (hx : idx l n = some x) (hj : j < z) (hjz : j + vs.length ≤ z) (hv : (f x).take j ++ vs ++ (f x).drop (j + vs.length) = f v) (hB : B ((upd l n v).map f)) : ∃ i j' cs r, n.toNat * z + j = i * z + j' ∧ j' < z ∧ j' + vs.length ≤ z ∧ (l.map f)[i]? = some cs ∧ r = (l.map f).set i (cs.take j' ++ vs ++ cs.drop (j' + vs.length)) ∧ B r := by
 obtain ⟨_, h2, h3⟩ := NA hx
 exact ⟨n.toNat, j, f x, _, rfl, hj, hjz, by rw [List.getElem?_map, h3]; rfl, by rw [hv, upd, List.map_set], hB⟩
theorem y7 {g : Nat → Nat} {l z n n' : Nat} {y : AV} (h : n = n') (h2 : ren g (.psl l z n') = y) : ren g (.psl l z n) = y := h ▸ h2
end Abs
end Go.Proofs.YtkopaeklihhdlaaGreat
namespace Go.Proofs.YtkopaeklihhdlaaGreat
namespace Abs
open Go
def F5 (a b : Str) : Bool := decide (a ≤ b)
def slices_Clone_int (_ : Nat) (p0 : List Int) : Option (List Int) := app 8 ([] : List Int) p0
def slices_Clone_string (_ : Nat) (p0 : List Str) : Option (List Str) := app 16 ([] : List Str) p0
def nA (_ : Nat) (p0 : List (Str × Bool)) : Option (List Str) := if p0.length * 16 ≤ 140737488355328 then some ((p0.map (·.1)).mergeSort F5) else none
def Ql (_ : Nat) (_ : List (Str × Bool)) : Option Unit := some ()
end Abs
end Go.Proofs.YtkopaeklihhdlaaGreat
namespace Go.Proofs.YtkopaeklihhdlaaGreat
namespace Abs
open Go
end Abs
end Go.Proofs.YtkopaeklihhdlaaGreat
namespace Go.Proofs.YtkopaeklihhdlaaGreat
namespace Abs
open Go
inductive Val where
 | mk (kind : Int) (n : Int) (name : Str) (kids : List Val)
def Val.kind : Val → Int | .mk k _ _ _ => k
def Val.n : Val → Int | .mk _ n _ _ => n
def Val.name : Val → Str | .mk _ _ s _ => s
def Val.kids : Val → List Val | .mk _ _ _ ks => ks
mutual
def ah : Val → List AV
 | .mk k n s ks => [.int .i64 k, .int .i64 n, .str s, .slice (wM ks) .shared]
def wM : List Val → List (List AV)
 | [] => []
 | t :: ts => ah t :: wM ts
end
theorem Dg : ∀ ts, wM ts = ts.map ah
 | [] => rfl
 | t :: ts => by simp [wM, Dg ts]
theorem aX (t : Val) : ah t = [.int .i64 t.kind, .int .i64 t.n, .str t.name, .slice (t.kids.map ah) .shared] := by
 cases t; simp [ah, Dg, Val.kind, Val.n, Val.name, Val.kids]
mutual
theorem Au (g : Nat → Nat) : ∀ t, bD g (ah t) = ah t
 | .mk k n s ks => by simp only [ah, bD, ren, dx, Du g ks]
theorem Du (g : Nat → Nat) : ∀ ts, bq g (wM ts) = wM ts
 | [] => rfl
 | t :: ts => by simp only [wM, bq, Au g t, Du g ts]
end
theorem aD (g : Nat → Nat) (ts : List Val) : bq g (ts.map ah) = ts.map ah := by rw [← Dg]; exact Du g ts
theorem lY (n : Val) : bR 4 (ah n) = true := by rw [aX]; rfl
end Abs
end Go.Proofs.YtkopaeklihhdlaaGreat
namespace Go.Proofs.YtkopaeklihhdlaaGreat
namespace Abs
open Go
def strings_Compare (_ : Nat) (a b : Str) : Option Int := some (Lib.compareBytes a b)
def kH (_ : Nat) : Option Bool := some true
end Abs
end Go.Proofs.YtkopaeklihhdlaaGreat

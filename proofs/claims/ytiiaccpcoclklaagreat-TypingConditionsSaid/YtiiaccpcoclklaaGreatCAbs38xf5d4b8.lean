/-
  Laws for walks that go along with a plain function: starts, ends, calls, loops, elements, appends. Conditions: none; lemmas over any program. More of the program's data as plain structures, and as abstract values. Conditions: none; definitions and lemmas. Plain functions of library functions whose contracts are proved by hand. Conditions: none. The records of the types that walks ask for. Conditions: none. Weakenings that leave every object where it is, and short names for what the printed scripts use most. Conditions: none; lemmas over any program. The layings of the shelf for slices.Sorted over maps.Keys at this program (printed by the kit's lay-plain). Conditions: none. A run of Go code on abstract values by a plain function ('xcall'), and that what it answers is a contract ('xcall_ok'). Conditions: none; over any program.
-/
import Derived.Test.YtiiaccpcoclklaaGreatProg
import Derived.KernelRfl
import Derived.Shelf.SlGeneric
import Derived.Shelf.SlIter.Nil
import Derived.Shelf.SortM.Plain
import Derived.Shelf.SortM.SortNone
import Derived.Ground.GgzProg
import Derived.Ground.SlgmProg
import Derived.Test.YtiiaccpcoclklaaGreatCAbs23x87ab6a
import Derived.Test.YtiiaccpcoclklaaGreatCAbs31x403705
set_option linter.unusedSimpArgs false
set_option linter.unusedVariables false
namespace Go.Proofs.YtiiaccpcoclklaaGreat
namespace Abs
open Go
theorem ob {α β : Type} {x : Option α} {k : α → Option β} {r : β} (h : x.bind k = some r) : ∃ a, x = some a ∧ k a = some r := by
 cases x with
 | none => cases h
 | some a => exact ⟨a, rfl, h⟩
inductive LR (σ ρ : Type) where
 | nx (s : σ)
 | rt (r : ρ)
def LR.on {σ ρ : Type} (k : σ → Option ρ) : LR σ ρ → Option ρ
 | .nx s => k s
 | .rt r => some r
@[reducible] def LR.el {σ ρ β : Type} (k : σ → β) (j : ρ → β) : LR σ ρ → β
 | .nx s => k s
 | .rt r => j r
def idx {α : Type} (l : List α) (i : Int) : Option α := if 0 ≤ i then l[i.toNat]? else none
def app {α : Type} (b : Nat) (l ys : List α) : Option (List α) := if (l.length + ys.length) * b ≤ 140737488355328 ∧ l.length + ys.length ≤ 140737488355328 then some (l ++ ys) else none
def sZ (s : List UInt8) (i : Int) : Option Int := if 0 ≤ i ∧ i < s.length then some ((s.getD i.toNat 0).toNat : Int) else none
def qx {α : Type} (s : List α) (lo hi : Int) : Option (List α) := if 0 ≤ lo ∧ lo ≤ hi ∧ hi ≤ s.length then some ((s.drop lo.toNat).take (hi.toNat - lo.toNat)) else none
theorem dG {n : Int} (h1 : -9223372036854775808 ≤ n) (h2 : n ≤ 9223372036854775807) : n = IntKind.wrap .i64 n := by
 simp only [IntKind.wrap, IntKind.signed, IntKind.bits]; simp; omega
theorem iW {n : Int} (h : VF (.int .i64 n)) : -9223372036854775808 ≤ n ∧ n ≤ 9223372036854775807 := h
theorem ng {α : Type} {f : α → List AV} {l : List α} {t : Tag} (h : VF (.slice (l.map f) t)) : (l.length : Int) ≤ 9223372036854775807 := by
 have : (l.map f).length ≤ 9223372036854775807 := h
 rw [List.length_map] at this; omega
theorem SF {s : List UInt8} (h : VF (.str s)) : (s.length : Int) ≤ 9223372036854775807 := by
 have : s.length ≤ 9223372036854775807 := h
 omega
theorem aB {α : Type} {c : Bool} {X Y : Option α} {r : α} {A B : Prop} (h : _root_.cond c X Y = some r) (h1 : c = true → X = some r → A) (h2 : c = false → Y = some r → B) : gq c A B := by
 cases c
 ·exact h2 rfl h
 ·exact h1 rfl h
theorem AW.aA {α : Type} {P : Program} {m : Nat} {c : Operand} {x y : Code} {Q : QT} {t : List AV} {h : List AObj} {b : Bool} {X Y : Option α} {r : α} (hc : fE t c = .bool b) (hh : _root_.cond b X Y = some r)
  (h1 : b = true → X = some r → AW P m x Q t h) (h2 : b = false → Y = some r → AW P m y Q t h) : AW P m (.cond c x y) Q t h :=
 AW.cond hc (fun e => h1 e (by subst e; exact hh)) (fun e => h2 e (by subst e; exact hh))
theorem aN {α : Type} {l : List α} {f : α → List AV} {x : α} {i : Int} {sz : Nat} {B : List AV → Prop} {cs : List AV} (hx : idx l i = some x) (hc : f x = cs) (hz : cs.length = sz) (hk : B cs) : ∃ c, (l.map f)[i.toNat]? = some c ∧ 0 ≤ i ∧ c.length = sz ∧ B c := by
 unfold idx at hx
 split at hx
 ·rename_i h0
  exact ⟨cs, by rw [List.getElem?_map, hx, ← hc]; rfl, h0, hz, hk⟩
 ·cases hx
theorem bO {α : Type} {l : List α} {f : α → List AV} {K : Int → Prop} (h : K l.length) : ∃ n, n = ((l.map f).length : Int) ∧ K n := ⟨l.length, by rw [List.length_map], h⟩
theorem uO {s : List UInt8} {i x : Int} {B : Int → Prop} (hx : sZ s i = some x) (hk : B x) : ∃ x : Int, (0 ≤ i ∧ i < s.length) ∧ x = (s.getD i.toNat 0).toNat ∧ B x := by
 unfold sZ at hx
 split at hx
 ·rename_i h0; cases hx; exact ⟨_, h0, rfl, hk⟩
 ·cases hx
inductive Bd : Option AV → Int → Int → Prop where
 | none (d : Int) : Bd none d d
 | int (k : IntKind) (n d : Int) : Bd (some (.int k n)) n d
theorem Oo {s x : List UInt8} {lo hi : Option AV} {a b : Int} {B : List UInt8 → Prop} (hx : qx s a b = some x) (ha : Bd lo a 0) (hb : Bd hi b s.length) (hk : B x) : ∃ r, (∃ l h, d9 hi s.length s.length = some h ∧ d9 lo 0 h = some l ∧ r = (s.drop l).take (h - l)) ∧ B r := by
 unfold qx at hx
 split at hx
 ·rename_i h0
  obtain ⟨h1, h2, h3⟩ := h0
  cases hx
  refine ⟨_, ⟨a.toNat, b.toNat, ?_, ?_, rfl⟩, hk⟩
  ·cases hb with
   | none => simp [d9]
   | int k n => simp [d9]; omega
  ·cases ha with
   | none => simp [d9]
   | int k n => simp [d9]; omega
 ·cases hx
theorem M8 {α : Type} {l ys r : List α} {b : Nat} (h : app b l ys = some r) : (l.length + ys.length) * b ≤ 140737488355328 ∧ l.length + ys.length ≤ 140737488355328 ∧ r = l ++ ys := by
 unfold app at h
 split at h
 ·rename_i h0; cases h; exact ⟨h0.1, h0.2, rfl⟩
 ·cases h
theorem Gj {α : Type} {f : α → List AV} {sz : Nat} (hf : ∀ x, dF sz (f x) = true) (l : List α) : (l.map f).all (dF sz) = true := by
 simp [List.all_eq_true, hf]
theorem pR {α : Type} {l ys r : List α} {f : α → List AV} {b sz n : Nat} {es es' : List (List AV)} {K : List (List AV) → Nat → Prop} (h : app b l ys = some r) (hf : ∀ x, dF sz (f x) = true) (he : es = l.map f) (he' : es' = ys.map f) (hn : n = l.length * sz)
  (hK : K (r.map f) (r.length * sz)) : R8 n es es' sz b (Kl (es ++ es') fun r => ∃ n, n = (es ++ es').length * sz ∧ K r n) := by
 obtain ⟨h1, h2, rfl⟩ := M8 h
 subst he; subst he'
 refine ⟨⟨by rw [List.length_map]; exact hn, by simp only [List.length_map]; exact h1, by simp only [List.length_map]; exact h2, Gj hf _, Gj hf _⟩, (l ++ ys).map f, by simp, (l ++ ys).length * sz, by simp, hK⟩
abbrev u2 (l : List AV) : List AV := .unk :: .unk :: l
abbrev u4 (l : List AV) : List AV := u2 (u2 l)
abbrev u8 (l : List AV) : List AV := u4 (u4 l)
abbrev u16 (l : List AV) : List AV := u8 (u8 l)
abbrev u32 (l : List AV) : List AV := u16 (u16 l)
abbrev u64 (l : List AV) : List AV := u32 (u32 l)
section
variable {h : List AObj} {L : List (Option Nat)} {xs ys : List AV}
theorem VWs.u2 {a b : AV} (hv : VWs h L xs ys) : VWs h L (Abs.u2 xs) (a :: b :: ys) := .cons (.unk _) (.cons (.unk _) hv)
theorem VWs.u4 {a0 a1 a2 a3 : AV} (hv : VWs h L xs ys) : VWs h L (Abs.u4 xs) (a0 :: a1 :: a2 :: a3 :: ys) := .u2 (.u2 hv)
theorem VWs.u8 {a0 a1 a2 a3 a4 a5 a6 a7 : AV} (hv : VWs h L xs ys) : VWs h L (Abs.u8 xs) (a0 :: a1 :: a2 :: a3 :: a4 :: a5 :: a6 :: a7 :: ys) := .u4 (.u4 hv)
theorem VWs.u16 {a0 a1 a2 a3 a4 a5 a6 a7 a8 a9 a10 a11 a12 a13 a14 a15 : AV} (hv : VWs h L xs ys) : VWs h L (Abs.u16 xs) (a0 :: a1 :: a2 :: a3 :: a4 :: a5 :: a6 :: a7 :: a8 :: a9 :: a10 :: a11 :: a12 :: a13 :: a14 :: a15 :: ys) := .u8 (.u8 hv)
theorem VWs.u32 {a0 a1 a2 a3 a4 a5 a6 a7 a8 a9 a10 a11 a12 a13 a14 a15 a16 a17 a18 a19 a20 a21 a22 a23 a24 a25 a26 a27 a28 a29 a30 a31 : AV} (hv : VWs h L xs ys) : VWs h L (Abs.u32 xs) (a0 :: a1 :: a2 :: a3 :: a4 :: a5 :: a6 :: a7 :: a8 :: a9 :: a10 :: a11 :: a12 :: a13 :: a14 :: a15 :: a16 :: a17 :: a18 :: a19 :: a20 :: a21 :: a22 :: a23 :: a24 :: a25 :: a26 :: a27 :: a28 :: a29 :: a30 :: a31 :: ys) := .u16 (.u16 hv)
theorem VWs.u64 {a0 a1 a2 a3 a4 a5 a6 a7 a8 a9 a10 a11 a12 a13 a14 a15 a16 a17 a18 a19 a20 a21 a22 a23 a24 a25 a26 a27 a28 a29 a30 a31 a32 a33 a34 a35 a36 a37 a38 a39 a40 a41 a42 a43 a44 a45 a46 a47 a48 a49 a50 a51 a52 a53 a54 a55 a56 a57 a58 a59 a60 a61 a62 a63 : AV} (hv : VWs h L xs ys) : VWs h L (Abs.u64 xs) (a0 :: a1 :: a2 :: a3 :: a4 :: a5 :: a6 :: a7 :: a8 :: a9 :: a10 :: a11 :: a12 :: a13 :: a14 :: a15 :: a16 :: a17 :: a18 :: a19 :: a20 :: a21 :: a22 :: a23 :: a24 :: a25 :: a26 :: a27 :: a28 :: a29 :: a30 :: a31 :: a32 :: a33 :: a34 :: a35 :: a36 :: a37 :: a38 :: a39 :: a40 :: a41 :: a42 :: a43 :: a44 :: a45 :: a46 :: a47 :: a48 :: a49 :: a50 :: a51 :: a52 :: a53 :: a54 :: a55 :: a56 :: a57 :: a58 :: a59 :: a60 :: a61 :: a62 :: a63 :: ys) := .u32 (.u32 hv)
end
theorem ah {P : Program} {f : Nat} {fn : Func} {c : Code} {args : List AV} {H H' : List AObj} {res : AV} (wk : Bool) (hf : P.funcs[f]? = some fn) (hb : fn.body = some c) (hlen : args.length ≤ fn.ntmps)
  (h : ∀ Q : QT, (∀ e t h, Vp P fn.results.toList wk H res H' e t h → Q e t h) → ∀ t, PY fn.ntmps args (fun u => t = u) → AW P H.length c Q t H) : ak P f args H res H' := by
 refine PN wk hf hb hlen ?_
 exact h _ (fun _ _ _ h => h) _ (by unfold PY; rw [y7])
theorem aj {P : Program} {τ : Nat → TI} {rs : List ResultVar} {wk : Bool} {res : AV} {t : List AV} {h : List AObj} (hτ : τ = TI.of P) (hr : ∀ g, ren g res = res) (hq : resT τ t h rs fun xs => Jd (zo wk xs) fun v => Ends v res) : LH P rs wk [] res [] t h := by
 subst hτ
 obtain ⟨xs, h1, h2⟩ := Gs _ _ hq
 rw [zO] at h2
 exact .inl ⟨[], xs, h1, by rw [hr]; exact h2, by simp, rfl, by simp, fun i hi => (by cases hi), fun l hl => (by cases hl), fun i l hi => by simp at hi⟩
inductive RetOs (g : Nat → Nat) (h : List AObj) : List Nat → List AObj → Prop where
 | nil : RetOs g h [] []
 | cons {l : Nat} {o : AObj} {ls : List Nat} {os : List AObj} : bC g o = obj? h l → RetOs g h ls os → RetOs g h (l :: ls) (o :: os)
theorem RetOs.len {g : Nat → Nat} {h : List AObj} {ls : List Nat} {os : List AObj} (hv : RetOs g h ls os) : os.length = ls.length := by
 induction hv with
 | nil => rfl
 | cons _ _ ih => simp [ih]
theorem RetOs.get {g : Nat → Nat} {h : List AObj} {ls : List Nat} {os : List AObj} (hv : RetOs g h ls os) : ∀ i l, ls[i]? = some l → obj? h l = bC g (obj? os i) := by
 induction hv with
 | nil => intro i l hi; simp at hi
 | cons h1 _ ih => intro i l hi; cases i with
  | zero => simp at hi; subst hi; exact h1.symm
  | succ i => exact ih i l (by simpa using hi)
def Sz (n m : Nat) (L : List Nat) : Bool := decide L.Nodup && decide (n ≤ L.length) && (List.range n).all (fun i => L[i]? == some i) && L.all (fun l => decide (l < m))
theorem aX {P : Program} {τ : Nat → TI} {rs : List ResultVar} {wk : Bool} {H H' : List AObj} {res : AV} {t : List AV} {h : List AObj} (hτ : τ = TI.of P) (L : List Nat) (hL : Sz H.length h.length L = true) (hO : RetOs (nm L h.length) h L H')
  (hq : resT τ t h rs fun xs => Jd (zo wk xs) fun v => Ends v (ren (nm L h.length) res)) : ∃ L, CZ P rs wk L H res H' ⟨t, h⟩ := by
 subst hτ
 obtain ⟨xs, h1, h2⟩ := Gs _ _ hq
 rw [zO] at h2
 simp only [Sz, Bool.and_eq_true, List.all_eq_true, decide_eq_true_eq] at hL
 obtain ⟨⟨⟨q1, q2⟩, q3⟩, q4⟩ := hL
 exact ⟨L, xs, h1, h2, q1, hO.len, q2, fun i hi => by simpa using q3 i (by simpa using hi), q4, hO.get⟩
theorem bP {P : Program} {rs : List ResultVar} {wk : Bool} {H H' : List AObj} {res : AV} {t : List AV} {h : List AObj} (t' : List AV) (h' : List AObj) (hw : Le H.length t h t' h') (hq : ∃ L, CZ P rs wk L H res H' ⟨t', h'⟩) : LH P rs wk H res H' t h := .inr ⟨t', h', hw, hq⟩
theorem ak.args {P : Program} {f : Nat} {args args' : List AV} {H H' : List AObj} {res : AV} (hc : ak P f args H res H') (hs : SWs args' args) : ak P f args' H res H' :=
 fun κ aS w vs hen hl hr => hc κ aS w vs hen (hl.trans hs.len) fun j hj => (hs.get j).rel (hr j (by rw [hs.len]; exact hj))
inductive PassO (g : Nat → Nat) (h : List AObj) : List Nat → List AObj → Prop where
 | nil : PassO g h [] []
 | cons {l : Nat} {o : AObj} {ls : List Nat} {os : List AObj} : bC g o = obj? h l → PassO g h ls os → PassO g h (l :: ls) (o :: os)
theorem PassO.len {g : Nat → Nat} {h : List AObj} {ls : List Nat} {os : List AObj} (hv : PassO g h ls os) : os.length = ls.length := by
 induction hv with
 | nil => rfl
 | cons _ _ ih => simp [ih]
theorem PassO.get {g : Nat → Nat} {h : List AObj} {ls : List Nat} {os : List AObj} (hv : PassO g h ls os) : ∀ i l, ls[i]? = some l → obj? h l = bC g (obj? os i) := by
 induction hv with
 | nil => intro i l hi; simp at hi
 | cons h1 _ ih => intro i l hi; cases i with
  | zero => simp at hi; subst hi; exact h1.symm
  | succ i => exact ih i l (by simpa using hi)
def QA (h : List AObj) (ρ ks : List Nat) (n : Nat) : Bool := decide (ρ ++ ks).Nodup && ρ.all (fun l => decide (l < h.length)) && ks.all (fun l => cZ (obj? h l)) && decide (n = (ρ ++ ks).length)
def Ca (g : Nat → Nat) : List AObj → List AObj
 | [] => []
 | o :: os => bC g o :: Ca g os
theorem Jk (g : Nat → Nat) : ∀ os, Ca g os = os.map (bC g)
 | [] => rfl
 | o :: os => by simp [Ca, Jk g os]
theorem aZ {g : Nat → Nat} {o o' : AObj} {os os' : List AObj} (h1 : bC g o = o') (h2 : Ca g os = os') : Ca g (o :: os) = o' :: os' := by simp only [Ca, h1, h2]
theorem bI {P : Program} {f : Nat} {args : List AV} {dst : Option Tmp} {t : List AV} {h : List AObj} {k : Nat} {K : Nat → List Nat → List Wr → Prop} (ρ ks : List Nat) (aargs an : List AV) {H H' : List AObj} {res rn : AV} {Hn : List AObj}
  (hc : ak P f aargs H res H') (hok : aM P f = true) (hp : QA h ρ ks H'.length = true) (hO : PassO (nm (ρ ++ ks) h.length) h ρ H) (ha : bn (nm (ρ ++ ks) h.length) aargs = an) (hs : SWs args an)
  (hr : ren (nm (ρ ++ ks) h.length) res = rn) (hH : Ca (nm (ρ ++ ks) h.length) H' = Hn) (hK : K (k + ks.length) (ρ ++ ks) (nQ (ρ ++ ks) Hn ++ aH dst rn)) : ACallU P f args dst t h k K := by
 simp only [QA, Bool.and_eq_true, List.all_eq_true, decide_eq_true_eq] at hp
 obtain ⟨⟨⟨q1, q2⟩, q3⟩, q4⟩ := hp
 refine ⟨⟨hok, ρ, ks, aargs, H, res, H', ⟨q1, hO.len, q2, q3, hO.get⟩, q4, by rw [← sD, ha]; exact hs, hc, ?_⟩⟩
 rw [hr, ← Jk, hH]; exact hK
theorem aD {P : Program} {f : Nat} {args : List AV} {dst : Option Tmp} {t : List AV} {h : List AObj} {k : Nat} {K : Nat → List Nat → List Wr → Prop} {aargs : List AV} {res : AV}
  (hc : ak P f aargs [] res []) (hok : aM P f = true) (hs : SWs args aargs) (ha : ∀ g, bn g aargs = aargs) (hr : ∀ g, ren g res = res) (hK : K k [] (aH dst res)) : ACallU P f args dst t h k K := by
 refine ⟨⟨hok, [], [], aargs, [], res, [], ⟨by simp, rfl, fun l hl => (by cases hl), fun l hl => (by cases hl), fun i l hi => by simp at hi⟩, rfl, by rw [← sD, ha]; exact hs, hc, ?_⟩⟩
 simp only [List.append_nil, List.length_nil, Nat.add_zero, List.map_nil, nQ, List.nil_append, hr]
 exact hK
theorem AW.loopS {σ ρ : Type} {P : Program} {m : Nat} {c : Code} {Q : QT} {t : List AV} {h : List AObj} (L : Nat → σ → Option ρ) (tT : σ → List AV) (tH : σ → List AObj) {out : ρ} {n : Nat} {s0 : σ} (h0 : L n s0 = some out) (hz : ∀ s, L 0 s = none)
  (hw0 : Le m t h (tT s0) (tH s0))
  (round : ∀ n s, L (n + 1) s = some out → ∀ K : List AV → List AObj → Prop, (∀ t' h' s', L n s' = some out → Le m t' h' (tT s') (tH s') → K t' h') → AW P m c (DC K Q) (tT s) (tH s)) : AW P m (.loop c) Q t h := by
 refine AW.loop (fun n t h => ∃ s, L n s = some out ∧ Le m t h (tT s) (tH s)) (n := n) ⟨s0, h0, hw0⟩ ?_
 rintro n t h ⟨s, hs, hw⟩
 refine AW.le hw ?_
 cases n with
 | zero => rw [hz] at hs; cases hs
 | succ n => exact round n s hs _ fun t' h' s' g1 g2 => ⟨n, by omega, s', g1, g2⟩
end Abs
end Go.Proofs.YtiiaccpcoclklaaGreat
namespace Go.Proofs.YtiiaccpcoclklaaGreat
namespace Abs
open Go
structure Carrier where
 name : Str
 elems : List Str
structure Decl where
 name : Str
 ty : Ty
structure Env where
 carriers : List Carrier
 names : List Decl
def encI (n : Int) : List AV := [.int .i64 n]
def encS (s : Str) : List AV := [.str s]
def J2 (n : Int) : List AV := [.int .u8 n]
def cO (x : Carrier) : List AV := [.str x.name, .slice (x.elems.map encS) .shared]
def bD (x : Decl) : List AV := [.str x.name, .int .i64 x.ty.kind, .str x.ty.name, .slice (x.ty.kids.map aG) .shared]
theorem wV {α : Type} {f : α → List AV} (hf : ∀ g x, bn g (f x) = f x) (g : Nat → Nat) (l : List α) : aW g (l.map f) = l.map f := by
 rw [yM, List.map_map]
 exact List.map_congr_left fun x _ => hf g x
theorem aL (g : Nat → Nat) (l : List Int) : aW g (l.map encI) = l.map encI := wV (fun _ _ => rfl) g l
theorem bA (g : Nat → Nat) (l : List Int) : aW g (l.map J2) = l.map J2 := wV (fun _ _ => rfl) g l
theorem aU (g : Nat → Nat) (l : List Str) : aW g (l.map encS) = l.map encS := wV (fun _ _ => rfl) g l
theorem aF (g : Nat → Nat) (l : List Ty) : aW g (l.map aG) = l.map aG := UM g l
theorem aT (g : Nat → Nat) (l : List Tm) : aW g (l.map aY) = l.map aY := TJ g l
theorem aC (g : Nat → Nat) (l : List Carrier) : aW g (l.map cO) = l.map cO := wV (fun g x => by simp only [cO, bn, ren, cB, aU]) g l
theorem aK (g : Nat → Nat) (l : List Decl) : aW g (l.map bD) = l.map bD := wV (fun g x => by simp only [bD, bn, ren, cB, aF]) g l
theorem VH (g : Nat → Nat) (n : Int) : bn g (encI n) = encI n := rfl
theorem Wi (g : Nat → Nat) (n : Str) : bn g (encS n) = encS n := rfl
theorem TM (g : Nat → Nat) (n : Int) : bn g (J2 n) = J2 n := rfl
theorem KF (g : Nat → Nat) (x : Carrier) : bn g (cO x) = cO x := by simp only [cO, bn, ren, cB, aU]
theorem Qn (g : Nat → Nat) (x : Decl) : bn g (bD x) = bD x := by simp only [bD, bn, ren, cB, aF]
theorem Vz (n : Int) : dF 1 (encI n) = true := rfl
theorem FQ (n : Str) : dF 1 (encS n) = true := rfl
theorem SS (n : Ty) : dF 3 (aG n) = true := by rw [aR]; rfl
theorem Xq (n : Tm) : dF 7 (aY n) = true := by rw [bG]; rfl
def dY {α : Type} (m : List (Str × α)) (k : Str) : Option α := (m.find? fun p => p.1 == k).map (·.2)
def jI {α : Type} (m : List (Str × α)) (k : Str) (v : α) : List (Str × α) :=
 match m with
 | [] => [(k, v)]
 | p :: r => if p.1 == k then (k, v) :: r else p :: jI r k v
def qb {α : Type} (m : List (Str × α)) (k : Str) (v : α) : Option (List (Str × α)) := if m.length < 140737488355328 then some (jI m k v) else none
@[reducible] def JE {α β : Type} (o : Option α) (Y : β) (X : α → β) : β := match o with | some v => X v | none => Y
theorem LC {α : Type} (f : α → AV) : ∀ (m : List (Str × α)) (k : Str), mK (m.map fun p => (p.1, f p.2)) k = (dY m k).map f
 | [], k => rfl
 | p :: m, k => by
  have ih := LC f m k
  unfold mK dY at *
  simp only [List.map_cons, List.find?_cons]
  cases h : (p.1 == k)
  ·exact ih
  ·rfl
theorem Nr {α : Type} (f : α → AV) : ∀ (m : List (Str × α)) (k : Str) (v : α), uh (m.map fun p => (p.1, f p.2)) k (f v) = (jI m k v).map fun p => (p.1, f p.2)
 | [], k, v => rfl
 | p :: m, k, v => by
  simp only [List.map_cons, uh, jI]
  split
  ·rfl
  ·rw [Nr f m k v]; rfl
theorem Ie {α β : Type} {m : List (Str × α)} {k : Str} {f : α → AV} {A : AV → Prop} {B : Prop} {X : α → Option β} {Y : Option β} {r : β} (h : JE (dY m k) Y X = some r)
  (h1 : ∀ x, dY m k = some x → X x = some r → A (f x)) (h2 : dY m k = none → Y = some r → B) : (∀ v, mK (m.map fun p => (p.1, f p.2)) k = some v → A v) ∧ (mK (m.map fun p => (p.1, f p.2)) k = none → B) := by
 rw [LC]
 cases hm : dY m k with
 | none => rw [hm] at h; exact ⟨fun v hv => (by cases hv), fun _ => h2 hm h⟩
 | some x => rw [hm] at h; exact ⟨fun v hv => (by cases hv; exact h1 x hm h), fun hv => (by cases hv)⟩
theorem Ai {α : Type} {m r : List (Str × α)} {k : Str} {f : α → AV} {v : α} {u : AV} {B : List (List UInt8 × AV) → Prop} (h : qb m k v = some r) (hu : u = f v) (hB : B (r.map fun p => (p.1, f p.2))) :
  ∃ es, (m.map fun p => (p.1, f p.2)).length < 140737488355328 ∧ es = uh (m.map fun p => (p.1, f p.2)) k u ∧ B es := by
 unfold qb at h
 split at h
 ·rename_i hl; cases h
  exact ⟨_, by rw [List.length_map]; exact hl, by rw [hu, Nr], hB⟩
 ·cases h
theorem bK {α : Type} {f : α → AV} (hf : ∀ g x, ren g (f x) = f x) (g : Nat → Nat) (m : List (Str × α)) : (m.map fun p => (p.1, f p.2)).map (fun p => (p.1, ren g p.2)) = m.map fun p => (p.1, f p.2) := by
 rw [List.map_map]
 exact List.map_congr_left fun p _ => by simp only [Function.comp, hf]
theorem bB {α : Type} (l : List α) : l = l.take l.length := by simp
theorem Np {α : Type} {l l' ys r : List α} {f : α → List AV} {b sz : Nat} {K : List (List AV) → Nat → Prop} (h : app b l' ys = some r) (hp : l' = l.take l'.length) (hf : ∀ x, dF sz (f x) = true) (hK : K (r.map f) r.length) :
  (l'.length ≤ (l.map f).length ∧ (l'.length + (ys.map f).length) * b ≤ 140737488355328 ∧ l'.length + (ys.map f).length ≤ 140737488355328 ∧ ((l.map f).all (dF sz) = true) ∧ ((ys.map f).all (dF sz) = true)) ∧ ∃ r m, r = (l.map f).take l'.length ++ ys.map f ∧ m = r.length ∧ K r m := by
 obtain ⟨h1, h2, rfl⟩ := M8 h
 have hle : l'.length ≤ l.length := by
  have := congrArg List.length hp
  rw [List.length_take] at this; omega
 refine ⟨⟨by simpa using hle, by simpa using h1, by simpa using h2, Gj hf _, Gj hf _⟩, (l' ++ ys).map f, (l' ++ ys).length, ?_, by simp, hK⟩
 rw [← List.map_take, ← hp, List.map_append]
theorem Ue {α : Type} {l x : List α} {hi : Int} {k : IntKind} {B : Nat → Prop} (hx : qx l 0 hi = some x) (hB : B x.length) : ∃ m, d9 (some (.int k hi)) l.length l.length = some m ∧ B m := by
 unfold qx at hx
 split at hx
 ·rename_i h0
  obtain ⟨_, h2, h3⟩ := h0
  cases hx
  refine ⟨_, ?_, hB⟩
  simp only [d9]
  rw [if_pos ⟨by omega, h3⟩]
  simp; omega
 ·cases hx
theorem Sb {α : Type} {l l' x : List α} {hi : Int} (hx : qx l' 0 hi = some x) (hp : l' = l.take l'.length) : x = l.take x.length := by
 unfold qx at hx
 split at hx
 ·rename_i h0
  cases hx
  have hle : l'.length ≤ l.length := by
   have := congrArg List.length hp
   rw [List.length_take] at this; omega
  simp only [Int.toNat_zero, List.drop_zero, Nat.sub_zero, List.length_take]
  rw [hp, List.take_take]
  simp only [List.length_take]
  congr 1; omega
 ·cases hx
theorem LK {α : Type} {f : α → List AV} {e e0 : List α} {g : Nat → Nat} (hr : ∀ g (l : List α), aW g (l.map f) = l.map f) (hp : e = e0.take e.length) : aW g (e.map f) = (e0.map f).take e.length := by
 rw [hr, ← List.map_take, ← hp]
theorem VW.JY {α : Type} {f : α → List AV} {e e0 : List α} {h : List AObj} {L : List (Option Nat)} {l z : Nat} (hr : ∀ g (l : List α), aW g (l.map f) = l.map f) (hp : e = e0.take e.length) (ho : obj? h l = .arr z (e0.map f)) (hn : L.contains (some l) = false) : VW h L (.slice (e.map f) .shared) (.psl l z e.length) := by
 have hle : e.length ≤ e0.length := by
  have := congrArg List.length hp
  rw [List.length_take] at this; omega
 exact .frzP ho (fun hm => by simp [hm] at hn) (by simpa using hle) (LK hr hp)
theorem OW.arr' {α : Type} {f : α → List AV} {e e0 : List α} {h : List AObj} {L : List (Option Nat)} {z : Nat} (hr : ∀ g (l : List α), aW g (l.map f) = l.map f) (hp : e = e0.take e.length) : OW h L (.arr z (e.map f)) (.arr z (e0.map f)) := .arr (LK hr hp)
theorem bg {α : Type} {c : Bool} {X Y : Option α} {r : α} (h : cond c X Y = some r) : (c = true ∧ X = some r) ∨ (c = false ∧ Y = some r) := by
 cases c
 ·exact .inr ⟨rfl, h⟩
 ·exact .inl ⟨rfl, h⟩
theorem bS {n q : Int} {len o sz : Nat} {B : Nat → Prop} (hc : (n == q) = true) (hq : 0 ≤ q ∧ q < (len : Int)) (hB : B (o + q.toNat * sz)) : ∃ m : Nat, (0 ≤ n ∧ n < (len : Int)) ∧ m = o + n.toNat * sz ∧ B m := by
 have e : n = q := by simpa using hc
 subst e
 exact ⟨_, hq, rfl, hB⟩
def SL {α : Type} : List α → Option (α × List α)
 | [] => none
 | x :: r => some (x, r)
theorem Ib {α : Type} {l : List α} {f : α → List AV} {x : α × List α} {cells : List AV} {B : List AV → Prop} (hx : SL l = some x) (hc : cells = f x.1 ++ [.flist (x.2.map f)]) (hB : B cells) : ∃ cs r cells, l.map f = cs :: r ∧ cells = cs ++ [AV.flist r] ∧ B cells := by
 cases l with
 | nil => cases hx
 | cons y r => cases hx; exact ⟨_, _, cells, rfl, hc, hB⟩
theorem Vo {α : Type} {l : List α} {f : α → List AV} {B : Bool → Prop} (hB : B l.isEmpty) : ∃ b : Bool, b = (l.map f).isEmpty ∧ B b := ⟨l.isEmpty, by cases l <;> rfl, hB⟩
theorem VW.N7 {h : List AObj} {L : List (Option Nat)} {es : List (List AV)} (hr : aW (sI L h.length) es = es) : VW h L (.flist es) (.flist es) := .same (by simp only [ren, hr])
theorem bf (g : Nat → Nat) (xs ys : List AV) : bn g (xs ++ ys) = bn g xs ++ bn g ys := by simp only [sD, List.map_append]
theorem VWs.jX {h : List AObj} {L : List (Option Nat)} {xs ys zs : List AV} (hx : ∀ g, bn g xs = xs) (hv : VWs h L ys zs) : VWs h L (xs ++ ys) (xs ++ zs) := by
 have key : ∀ ws : List AV, bn (sI L h.length) ws = ws → VWs h L (ws ++ ys) (ws ++ zs) := by
  intro ws
  induction ws with
  | nil => intro _; exact hv
  | cons w ws ih => intro hw; simp only [bn, List.cons.injEq] at hw; exact .cons (.same hw.1) (ih hw.2)
 exact key xs (hx _)
def upd {α : Type} (l : List α) (i : Int) (v : α) : List α := l.set i.toNat v
theorem KU {α : Type} {l : List α} {n : Int} {x : α} (h : idx l n = some x) : 0 ≤ n ∧ n < (l.length : Int) ∧ l[n.toNat]? = some x := by
 unfold idx at h
 split at h
 ·rename_i h0
  have := (List.getElem?_eq_some_iff.1 h).1
  exact ⟨h0, by omega, h⟩
 ·cases h
theorem Q5 {α : Type} {l l0 : List α} {n : Int} {x : α} {z : Nat} {B : Nat → Prop} (hx : idx l n = some x) (hl : l0.length = l.length) (hB : B (n.toNat * z)) : ∃ m : Nat, (0 ≤ n ∧ n < ((l0.length : Nat) : Int) ∧ z = z) ∧ m = n.toNat * z ∧ B m := by
 obtain ⟨h1, h2, _⟩ := KU hx
 exact ⟨_, ⟨h1, by rw [hl]; exact h2, rfl⟩, rfl, hB⟩
theorem VO {α : Type} {l : List α} {f : α → List AV} {n : Int} {x : α} {z : Nat} {cs : List AV} {B : List AV → Prop} (hx : idx l n = some x) (hf : f x = cs) (hz : 0 < z) (hB : B cs) : ∃ i cs', n.toNat * z = i * z ∧ 0 < z ∧ (l.map f)[i]? = some cs' ∧ B cs' := by
 obtain ⟨_, _, h3⟩ := KU hx
 exact ⟨n.toNat, cs, rfl, hz, by rw [List.getElem?_map, h3, ← hf]; rfl, hB⟩
theorem XB {α : Type} {l : List α} {f : α → List AV} {n : Int} {x v : α} {z : Nat} {vs : List AV} {B : List (List AV) → Prop} (hx : idx l n = some x) (hv : vs = f v) (hz : 0 < z) (hB : B ((upd l n v).map f)) : ∃ i r, n.toNat * z = i * z ∧ 0 < z ∧ i < (l.map f).length ∧ r = (l.map f).set i vs ∧ B r := by
 obtain ⟨_, h2, _⟩ := KU hx
 exact ⟨n.toNat, _, rfl, hz, by rw [List.length_map]; omega, by rw [hv, upd, List.map_set], hB⟩
theorem VR {g : Nat → Nat} {l z n n' : Nat} {y : AV} (h : n = n') (h2 : ren g (.psl l z n') = y) : ren g (.psl l z n) = y := h ▸ h2
end Abs
end Go.Proofs.YtiiaccpcoclklaaGreat
namespace Go.Proofs.YtiiaccpcoclklaaGreat
namespace Abs
open Go
def Hg (a b : Str) : Bool := decide (a ≤ b)
def slices_Clone_int (_ : Nat) (p0 : List Int) : Option (List Int) := app 8 ([] : List Int) p0
def mH (_ : Nat) (p0 : List (Str × Bool)) : Option (List Str) := if p0.length * 16 ≤ 140737488355328 then some ((p0.map (·.1)).mergeSort Hg) else none
def xW (_ : Nat) : Option Bool := some true
def IU (_ : Nat) (_ : List (Str × Bool)) : Option Unit := some ()
end Abs
end Go.Proofs.YtiiaccpcoclklaaGreat
namespace Go.Proofs.YtiiaccpcoclklaaGreat
namespace Abs
open Go Go.Proofs
def Yu : TI := ⟨some 1, some false, false, false, false, false, false, some .i64, .no, [], [], some ([.int .i64 0]), some (.int .i64 0), none, none, none⟩
def Yx : TI := ⟨some 1, some false, false, true, false, false, false, none, .no, [], [], some ([.bool false]), some (.bool false), none, none, none⟩
def Yp : TI := ⟨some 1, some false, false, false, false, false, false, some .u8, .no, [], [], some ([.int .u8 0]), some (.int .u8 0), none, none, none⟩
def YC : TI := ⟨some 1, some false, false, false, true, false, false, none, .no, [], [], some ([.str []]), some (.str []), none, none, none⟩
def XZ : TI := ⟨some 1, some false, false, false, false, false, true, none, .sl (some 2), [], [], some ([.slice [] .nils]), some (.slice [] .nils), some 2, some (91, 2, 40), none⟩
def X5 : TI := ⟨some 1, some false, false, false, false, false, true, none, .sl (some 4), [], [], some ([.slice [] .nils]), some (.slice [] .nils), some 4, some (60, 4, 64), none⟩
def XE : TI := ⟨some 2, some true, false, false, false, true, false, none, .no, [some (0, 22), some (1, 23)], [some (0, 1), some (1, 1)], some ([.slice [] .nils, .slice [] .nils]), some (.agg ([.slice [] .nils, .slice [] .nils])), none, none, none⟩
def XF : TI := ⟨some 1, some false, false, false, false, false, true, none, .sl (some 3), [], [], some ([.slice [] .nils]), some (.slice [] .nils), some 3, some (28, 3, 48), none⟩
def Ya : TI := ⟨some 3, some true, false, false, false, true, false, none, .no, [some (0, 3), some (1, 9), some (2, 26)], [some (0, 1), some (1, 1), some (2, 1)], some ([.int .i64 0, .str [], .slice [] .nils]), some (.agg ([.int .i64 0, .str [], .slice [] .nils])), none, none, none⟩
def XT : TI := ⟨some 1, some false, false, false, false, false, true, none, .sl (some 7), [], [], some ([.slice [] .nils]), some (.slice [] .nils), some 7, some (31, 7, 104), none⟩
def XP : TI := ⟨some 7, some true, false, false, false, true, false, none, .no, [some (0, 3), some (1, 9), some (2, 3), some (3, 28), some (6, 29)], [some (0, 1), some (1, 1), some (2, 1), some (3, 3), some (6, 1)], some ([.int .i64 0, .str [], .int .i64 0, .int .i64 0, .str [], .slice [] .nils, .slice [] .nils]), some (.agg ([.int .i64 0, .str [], .int .i64 0, .int .i64 0, .str [], .slice [] .nils, .slice [] .nils])), none, none, none⟩
def X3 : TI := ⟨some 1, some false, false, false, false, false, true, none, .sl (some 1), [], [], some ([.slice [] .nils]), some (.slice [] .nils), some 1, some (3, 1, 8), none⟩
def X9 : TI := ⟨some 1, some false, false, false, false, false, false, some .i64, .no, [], [], some ([.int .i64 0]), some (.int .i64 0), none, none, none⟩
def Yk : TI := ⟨some 8, some true, false, false, false, true, false, none, .no, [some (0, 34), some (1, 31)], [some (0, 1), some (1, 7)], some ([.slice [] .nils, .int .i64 0, .str [], .int .i64 0, .int .i64 0, .str [], .slice [] .nils, .slice [] .nils]), some (.agg ([.slice [] .nils, .int .i64 0, .str [], .int .i64 0, .int .i64 0, .str [], .slice [] .nils, .slice [] .nils])), none, none, none⟩
def Yb : TI := ⟨some 1, some false, false, false, false, false, true, none, .sl (some 1), [], [], some ([.slice [] .nils]), some (.slice [] .nils), some 1, some (9, 1, 16), none⟩
def Ye : TI := ⟨some 4, some true, false, false, false, true, false, none, .no, [some (0, 9), some (1, 28)], [some (0, 1), some (1, 3)], some ([.str [], .int .i64 0, .str [], .slice [] .nils]), some (.agg ([.str [], .int .i64 0, .str [], .slice [] .nils])), none, none, none⟩
def XW : TI := ⟨some 8, some true, false, false, false, true, false, none, .no, [some (0, 9), some (1, 31)], [some (0, 1), some (1, 7)], some ([.str [], .int .i64 0, .str [], .int .i64 0, .int .i64 0, .str [], .slice [] .nils, .slice [] .nils]), some (.agg ([.str [], .int .i64 0, .str [], .int .i64 0, .int .i64 0, .str [], .slice [] .nils, .slice [] .nils])), none, none, none⟩
def Yo : TI := ⟨some 1, some false, false, false, false, false, true, none, .sl (some 8), [], [], some ([.slice [] .nils]), some (.slice [] .nils), some 8, some (63, 8, 120), none⟩
def Yc : TI := ⟨some 1, some false, false, false, false, false, false, none, .no, [], [], some ([.nilFunc]), some (.nilFunc), none, none, none⟩
def XV : TI := ⟨some 17, some true, false, false, false, true, false, none, .no, [some (0, 25), some (2, 31), some (9, 31), some (16, 9)], [some (0, 2), some (2, 7), some (9, 7), some (16, 1)], some ([.slice [] .nils, .slice [] .nils, .int .i64 0, .str [], .int .i64 0, .int .i64 0, .str [], .slice [] .nils, .slice [] .nils, .int .i64 0, .str [], .int .i64 0, .int .i64 0, .str [], .slice [] .nils, .slice [] .nils, .str []]), some (.agg ([.slice [] .nils, .slice [] .nils, .int .i64 0, .str [], .int .i64 0, .int .i64 0, .str [], .slice [] .nils, .slice [] .nils, .int .i64 0, .str [], .int .i64 0, .int .i64 0, .str [], .slice [] .nils, .slice [] .nils, .str []])), none, none, none⟩
def Yf : TI := ⟨some 2, some true, false, false, false, true, false, none, .no, [some (0, 9), some (1, 49)], [some (0, 1), some (1, 1)], some ([.str [], .slice [] .nils]), some (.agg ([.str [], .slice [] .nils])), none, none, none⟩
def XD : TI := ⟨some 1, some false, false, false, false, false, false, none, .no, [], [], some ([.nilFunc]), some (.nilFunc), none, none, none⟩
def Yn : TI := ⟨some 1, some false, true, false, false, false, false, none, .no, [], [], some ([.nilp]), some (.nilp), none, none, none⟩
def XC : TI := ⟨some 1, some false, false, false, false, false, false, none, .no, [], [], some ([.unk]), some (.unk), none, none, some 28⟩
def Xi : TI := ⟨some 1, some false, false, false, false, false, false, none, .no, [], [], some ([.unk]), some (.unk), none, none, some 4⟩
def WO : TI := ⟨some 1, some false, false, false, false, false, false, none, .no, [], [], some ([.nilFunc]), some (.nilFunc), none, none, none⟩
def WL : TI := ⟨some 57, some true, false, false, false, false, false, none, .arr 57 (some 1), [], [], some (List.replicate 57 (.nilFunc)), some (.agg (List.replicate 57 (.nilFunc))), none, none, none⟩
def Xw : TI := ⟨some 60, some true, false, false, false, true, false, none, .no, [some (0, 99), some (1, 100), some (2, 103), some (59, 34)], [some (0, 1), some (1, 1), some (2, 57), some (59, 1)], some ([.unk, .unk, .nilFunc, .nilFunc, .nilFunc, .nilFunc, .nilFunc, .nilFunc, .nilFunc, .nilFunc, .nilFunc, .nilFunc, .nilFunc, .nilFunc, .nilFunc, .nilFunc, .nilFunc, .nilFunc, .nilFunc, .nilFunc, .nilFunc, .nilFunc, .nilFunc, .nilFunc, .nilFunc, .nilFunc, .nilFunc, .nilFunc, .nilFunc, .nilFunc, .nilFunc, .nilFunc, .nilFunc, .nilFunc, .nilFunc, .nilFunc, .nilFunc, .nilFunc, .nilFunc, .nilFunc, .nilFunc, .nilFunc, .nilFunc, .nilFunc, .nilFunc, .nilFunc, .nilFunc, .nilFunc, .nilFunc, .nilFunc, .nilFunc, .nilFunc, .nilFunc, .nilFunc, .nilFunc, .nilFunc, .nilFunc, .nilFunc, .nilFunc, .slice [] .nils]), some (.agg ([.unk, .unk, .nilFunc, .nilFunc, .nilFunc, .nilFunc, .nilFunc, .nilFunc, .nilFunc, .nilFunc, .nilFunc, .nilFunc, .nilFunc, .nilFunc, .nilFunc, .nilFunc, .nilFunc, .nilFunc, .nilFunc, .nilFunc, .nilFunc, .nilFunc, .nilFunc, .nilFunc, .nilFunc, .nilFunc, .nilFunc, .nilFunc, .nilFunc, .nilFunc, .nilFunc, .nilFunc, .nilFunc, .nilFunc, .nilFunc, .nilFunc, .nilFunc, .nilFunc, .nilFunc, .nilFunc, .nilFunc, .nilFunc, .nilFunc, .nilFunc, .nilFunc, .nilFunc, .nilFunc, .nilFunc, .nilFunc, .nilFunc, .nilFunc, .nilFunc, .nilFunc, .nilFunc, .nilFunc, .nilFunc, .nilFunc, .nilFunc, .nilFunc, .slice [] .nils])), none, none, none⟩
def Xm : TI := ⟨some 3, some true, false, false, false, true, false, none, .no, [some (0, 3), some (1, 9), some (2, 3)], [some (0, 1), some (1, 1), some (2, 1)], some ([.int .i64 0, .str [], .int .i64 0]), some (.agg ([.int .i64 0, .str [], .int .i64 0])), none, none, none⟩
def Xx : TI := ⟨some 7, some true, false, false, false, true, false, none, .no, [some (0, 9), some (1, 116), some (4, 3), some (5, 3), some (6, 35)], [some (0, 1), some (1, 3), some (4, 1), some (5, 1), some (6, 1)], some ([.str [], .int .i64 0, .str [], .int .i64 0, .int .i64 0, .int .i64 0, .int .i64 0]), some (.agg ([.str [], .int .i64 0, .str [], .int .i64 0, .int .i64 0, .int .i64 0, .int .i64 0])), none, none, none⟩
def Xc : TI := ⟨some 3, some true, false, false, false, true, false, none, .no, [some (0, 3), some (1, 3), some (2, 3)], [some (0, 1), some (1, 1), some (2, 1)], some ([.int .i64 0, .int .i64 0, .int .i64 0]), some (.agg ([.int .i64 0, .int .i64 0, .int .i64 0])), none, none, none⟩
def WX : TI := ⟨some 1, some false, true, false, false, false, false, none, .no, [], [], some ([.nilp]), some (.nilp), none, none, none⟩
def Xl : TI := ⟨some 1, some false, false, false, false, false, false, none, .no, [], [], some ([.nilFunc]), some (.nilFunc), none, none, none⟩
def Xv : TI := ⟨some 5, some true, false, false, false, true, false, none, .no, [some (0, 9), some (1, 28), some (4, 150)], [some (0, 1), some (1, 3), some (4, 1)], some ([.str [], .int .i64 0, .str [], .slice [] .nils, .nilp]), some (.agg ([.str [], .int .i64 0, .str [], .slice [] .nils, .nilp])), none, none, none⟩
def WQ : TI := ⟨some 1, some false, false, false, false, false, false, some .u64, .no, [], [], some ([.int .u64 0]), some (.int .u64 0), none, none, none⟩
def W9 : TI := ⟨some 1, some false, true, false, false, false, false, none, .no, [], [], some ([.nilp]), some (.nilp), none, none, none⟩
def Xt : TI := ⟨some 1, some false, false, false, false, false, false, none, .no, [], [], some ([.nilFunc]), some (.nilFunc), none, none, none⟩
def WY : TI := ⟨some 1, some false, false, false, false, false, true, none, .sl (some 1), [], [], some ([.slice [] .nils]), some (.slice [] .nils), some 1, some (5, 1, 1), none⟩
def Xk : TI := ⟨some 1, some false, false, false, false, false, false, some .i64, .no, [], [], some ([.int .i64 0]), some (.int .i64 0), none, none, none⟩
def Xo : TI := ⟨some 1, some false, false, false, false, false, false, some .u32, .no, [], [], some ([.int .u32 0]), some (.int .u32 0), none, none, none⟩
def Xj : TI := ⟨some 1, some false, false, false, false, false, false, some .u64, .no, [], [], some ([.int .u64 0]), some (.int .u64 0), none, none, none⟩
def WV : TI := ⟨some 1, some false, false, false, false, false, false, some .u64, .no, [], [], some ([.int .u64 0]), some (.int .u64 0), none, none, none⟩
def tab : Tr := (.node (.node (.node (.node (.node (.node .nil 3 Yu .nil) 4 Yx .nil) 5 Yp (.node (.node .nil 9 YC .nil) 22 XZ .nil)) 23 X5 (.node (.node (.node .nil 25 XE .nil) 26 XF .nil) 28 Ya (.node .nil 29 XT .nil))) 31 XP (.node (.node (.node (.node .nil 34 X3 .nil) 35 X9 .nil) 47 Yk (.node (.node .nil 49 Yb .nil) 60 Ye .nil)) 63 XW (.node (.node (.node .nil 64 Yo .nil) 72 Yc .nil) 83 XV (.node .nil 91 Yf .nil)))) 93 XD (.node (.node (.node (.node (.node .nil 95 Yn .nil) 99 XC .nil) 100 Xi (.node (.node .nil 102 WO .nil) 103 WL .nil)) 105 Xw (.node (.node (.node .nil 116 Xm .nil) 119 Xx .nil) 147 Xc (.node .nil 150 WX .nil))) 152 Xl (.node (.node (.node (.node .nil 154 Xv .nil) 158 WQ .nil) 187 W9 (.node .nil 195 Xt .nil)) 204 WY (.node (.node (.node .nil 218 Xk .nil) 226 Xo .nil) 228 Xj (.node .nil 230 WV .nil)))))
theorem VX : tab.keys.map (TI.of Tryz.prog) = tab.vals := by kernel_rfl
noncomputable def τ (t : Nat) : TI := tab.look (TI.of Tryz.prog) t
theorem au : τ = TI.of Tryz.prog := Ws VX
theorem yh : Tryz.prog.follows .mixedOrders = true := by kernel_rfl
end Abs
end Go.Proofs.YtiiaccpcoclklaaGreat
namespace Go.Proofs.YtiiaccpcoclklaaGreat
namespace Abs
open Go
inductive Sl : List AV → List AV → Prop where
 | n : Sl [] []
 | u {y : AV} {xs ys : List AV} : Sl xs ys → Sl (.unk :: xs) (y :: ys)
 | s {x : AV} {xs ys : List AV} : Sl xs ys → Sl (x :: xs) (x :: ys)
 | e {es : List (List AV)} {t : Tag} {xs ys : List AV} : Sl xs ys → Sl (.slice es .shared :: xs) (.slice es t :: ys)
section
variable {xs ys : List AV}
theorem Sl.u2 {a b : AV} (hv : Sl xs ys) : Sl (Abs.u2 xs) (a :: b :: ys) := .u (.u hv)
theorem Sl.u4 {a b c d : AV} (hv : Sl xs ys) : Sl (Abs.u4 xs) (a :: b :: c :: d :: ys) := .u2 (.u2 hv)
theorem Sl.u8 {a0 a1 a2 a3 a4 a5 a6 a7 : AV} (hv : Sl xs ys) : Sl (Abs.u8 xs) (a0 :: a1 :: a2 :: a3 :: a4 :: a5 :: a6 :: a7 :: ys) := .u4 (.u4 hv)
theorem Sl.u16 {a0 a1 a2 a3 a4 a5 a6 a7 a8 a9 a10 a11 a12 a13 a14 a15 : AV} (hv : Sl xs ys) : Sl (Abs.u16 xs) (a0 :: a1 :: a2 :: a3 :: a4 :: a5 :: a6 :: a7 :: a8 :: a9 :: a10 :: a11 :: a12 :: a13 :: a14 :: a15 :: ys) := .u8 (.u8 hv)
end
theorem Sl.len {xs ys : List AV} (h : Sl xs ys) : xs.length = ys.length := by
 induction h with
 | n => rfl
 | u _ ih => simp [ih]
 | s _ ih => simp [ih]
 | e _ ih => simp [ih]
theorem Sl.get {xs ys : List AV} (h : Sl xs ys) {w : World} {κ : bH} {pv : eX} {v : Value} : ∀ n, Rel w κ pv (ys.getD n .unk) v → Rel w κ pv (xs.getD n .unk) v := by
 induction h with
 | n => intro n _; exact .unk _
 | u _ ih => intro n hr; cases n with
  | zero => exact .unk _
  | succ n => exact ih n hr
 | s _ ih => intro n hr; cases n with
  | zero => exact hr
  | succ n => exact ih n hr
 | e _ ih => intro n hr; cases n with
  | zero => exact Rel.share hr
  | succ n => exact ih n hr
theorem li {m : Nat} {t t' : List AV} {h : List AObj} (hs : Sl t' t) : Le m t h t' h := fun C κ a w _ s =>
 ⟨κ, s.defers, by rw [s.len]; exact hs.len.symm, fun n hn => hs.get n (s.slot n (by have := hs.len; simp only at hn ⊢; omega)), s.klen, s.kext, s.resv, s.obj, s.apart, s.own, s.bound, s.pvold, s.oldlt, s.old, s.os, s.tape, s.output, s.size, s.pvsub, s.evo⟩
inductive Ol : List AObj → List AObj → Prop where
 | n : Ol [] []
 | s {o : AObj} {xs ys : List AObj} : Ol xs ys → Ol (o :: xs) (o :: ys)
 | b {cs ds : List AV} {xs ys : List AObj} : Sl cs ds → Ol xs ys → Ol (.box cs :: xs) (.box ds :: ys)
theorem Ol.get {xs ys : List AObj} (h : Ol xs ys) : xs.length = ys.length ∧ ∀ l, obj? xs l = obj? ys l ∨ ∃ cs ds, Sl cs ds ∧ obj? xs l = .box cs ∧ obj? ys l = .box ds := by
 induction h with
 | n => exact ⟨rfl, fun l => .inl rfl⟩
 | s _ ih =>
  refine ⟨by simp [ih.1], fun l => ?_⟩
  cases l with
  | zero => exact .inl rfl
  | succ l => exact ih.2 l
 | b hs _ ih =>
  refine ⟨by simp [ih.1], fun l => ?_⟩
  cases l with
  | zero => exact .inr ⟨_, _, hs, rfl, rfl⟩
  | succ l => exact ih.2 l
theorem lo {m : Nat} {t t' : List AV} {h h' : List AObj} (hs : Sl t' t) (ho : Ol h' h) : Le m t h t' h' := fun C κ a w _ s => by
 have hg := ho.get
 have hpv : ∀ l, ni (obj? h' l) = ni (obj? h l) := fun l => by
  rcases hg.2 l with e | ⟨cs, ds, hc, e1, e2⟩
  ·rw [e]
  ·rw [e1, e2]; funext off; simp only [ni, hc.len]
 have hlive : ∀ l, live (obj? h' l) ↔ live (obj? h l) := fun l => by
  rcases hg.2 l with e | ⟨cs, ds, hc, e1, e2⟩
  ·rw [e]
  ·rw [e1, e2]; exact Iff.rfl
 have epv : aO C.aS κ h' = aO C.aS κ h := by
  funext b off
  simp only [aO, hpv]
 refine ⟨κ, s.defers, by rw [s.len]; exact hs.len.symm, fun n hn => ?_, by rw [s.klen]; exact hg.1.symm, s.kext, fun l hl => ?_, fun l b hl hv => ?_, fun l l' b h1 h2 h3 h4 => s.apart l l' b h1 h2 ((hlive l).1 h3) ((hlive l').1 h4), fun l b h1 h2 => s.own l b h1 ((hlive l).1 h2), s.bound, s.pvold, s.oldlt, s.old, s.os, s.tape, s.output, s.size, fun b o hp => s.pvsub b o (epv ▸ hp), s.evo⟩
 ·show Rel w κ (aO C.aS κ h') _ _
  rw [epv]
  exact hs.get n (s.slot n (by have := hs.len; simp only at hn ⊢; omega))
 ·refine s.resv l ?_
  rcases hg.2 l with e | ⟨cs, ds, hc, e1, e2⟩
  ·rw [← e]; exact hl
  ·simp only at hl; rw [e1] at hl; cases hl
 ·have ho := s.obj l b hl ((hlive l).1 hv)
  show kQ w κ (aO C.aS κ h') b (obj? h' l)
  rw [epv]
  rcases hg.2 l with e | ⟨cs, ds, hc, e1, e2⟩
  ·rw [e]; exact ho
  ·simp only at ho
   rw [e2] at ho
   rw [e1]
   obtain ⟨c, e, k1, k2, k3⟩ := ho
   exact ⟨c, e, k1, k2.trans hc.len.symm, fun j hj => hc.get j (k3 j (by have := hc.len; omega))⟩
section
variable {h : List AObj} {L : List (Option Nat)} {xs ys : List AV} {ls : List (Option Nat)} {os : List AObj} {l : Nat}
theorem VWs.c {x y : AV} (e : ren (sI L h.length) x = y) (hv : VWs h L xs ys) : VWs h L (x :: xs) (y :: ys) := .cons (.same e) hv
theorem VWs.u {y : AV} (hv : VWs h L xs ys) : VWs h L (.unk :: xs) (y :: ys) := .cons (.unk _) hv
theorem VWs.e {α : Type} {f : α → List AV} {t : Tag} {es : List α} (hr : ∀ (g : Nat → Nat) (l : List α), aW g (l.map f) = l.map f) (hv : VWs h L xs ys) : VWs h L (.slice (es.map f) .shared :: xs) (.slice (es.map f) t :: ys) := .cons (.share (hr _ _)) hv
theorem OWs.b {cs ds : List AV} (e : obj? h l = .box ds) (hc : VWs h L cs ds) (hv : OWs h L ls os) : OWs h L (some l :: ls) (.box cs :: os) := .old (by rw [e]; exact OW.XY hc) hv
theorem OWs.t {n : Nat} (e : obj? h l = .tip n) (hv : OWs h L ls os) : OWs h L (some l :: ls) (.tip n :: os) := .old (by rw [e]; exact .tip n) hv
theorem OWs.w {o : AObj} (e : cZ o = false) (hv : OWs h L ls os) : OWs h L (none :: ls) (o :: os) := .new e hv
end
theorem wk {m : Nat} {t t' : List AV} {h h' : List AObj} (L : List (Option Nat)) (ht : VWs h L t' t) (ho : OWs h L L h') (hL : VI m h.length L h' = true) : Le m t h t' h' := .of L (.mk' hL ht ho)
theorem AW.q {P : Program} {m : Nat} {x y : Code} {Q : QT} {t : List AV} {h : List AObj} (hw : ∀ K : List AV → List AObj → Prop, (∀ t h, AW P m y Q t h → K t h) → AW P m x (DC K Q) t h) : AW P m (.seq x y) Q t h := AW.Bu hw
theorem sj {α : Type} {x r : α} (h : some x = some r) : x = r := Option.some.inj h
end Abs
end Go.Proofs.YtiiaccpcoclklaaGreat
namespace Go.Proofs
open Go.Shelf
def Tryz.EW : Go.Shelf.Ren := ⟨fun | 7 => 105 | 10 => 185 | n => n, fun | 23 => 100 | 26 => 9 | 3 => 4 | 28 => 131 | 0 => 0 | 27 => 130 | 33 => 84 | 4 => 4 | n => n, fun | n => n⟩
theorem Tryz.Uh : Go.Proofs.SlLaysZ.n7 Tryz.prog Tryz.EW := {
 mixed := by kernel_rfl
 f7 := ⟨Tryz.f105.name, by decide, Tryz.func105.trans (congrArg some (by kernel_rfl))⟩
 f10 := ⟨Tryz.f185.name, by decide, Tryz.func185.trans (congrArg some (by kernel_rfl))⟩
 t0 := Tryz.underlying0
 a0 := Tryz.isAgg0
 z0 := Tryz.sizeOf0
 v0 := Tryz.zeroValue0
 t4 := Tryz.underlying4
 a4 := Tryz.isAgg4
 z4 := Tryz.sizeOf4
 v4 := Tryz.zeroValue4
 t23 := Tryz.underlying100
 a23 := Tryz.isAgg100
 z23 := Tryz.sizeOf100
 v23 := Tryz.zeroValue100
 t26 := Tryz.underlying9
 a26 := Tryz.isAgg9
 z26 := Tryz.sizeOf9
 v26 := Tryz.zeroValue9
 t27 := Tryz.underlying130
 a27 := Tryz.isAgg130
 z27 := Tryz.sizeOf130
 v27 := Tryz.zeroValue130
 t28 := Tryz.underlying131
 a28 := Tryz.isAgg131
 z28 := Tryz.sizeOf131
 v28 := Tryz.zeroValue131
 t33 := Tryz.underlying84
 a33 := Tryz.isAgg84
 z33 := Tryz.sizeOf84
 v33 := Tryz.zeroValue84 }
def Tryz.Ch : Go.Shelf.Ren := ⟨fun | 6 => 104 | 8 => 183 | 9 => 184 | 11 => 249 | 13 => 251 | 12 => 250 | 23 => 286 | 24 => 287 | 14 => 277 | 15 => 278 | 16 => 279 | 17 => 280 | 18 => 281 | 19 => 282 | 20 => 283 | 21 => 284 | 22 => 285 | 25 => 295 | 26 => 296 | 27 => 297 | 28 => 298 | 29 => 299 | 30 => 300 | 31 => 301 | n => n, fun | 26 => 9 | 28 => 131 | 24 => 49 | 0 => 0 | 3 => 3 | 37 => 158 | 48 => 226 | 50 => 228 | 4 => 4 | 40 => 219 | 39 => 218 | 45 => 212 | 5 => 5 | 9 => 9 | 51 => 230 | 55 => 234 | 57 => 236 | 58 => 173 | 33 => 84 | n => n, fun | n => n⟩
theorem Tryz.Qp : Go.Proofs.SlLaysZ.n6 Tryz.prog Tryz.Ch := {
 mixed := by kernel_rfl
 f6 := ⟨Tryz.f104.name, by decide, Tryz.func104.trans (congrArg some (by kernel_rfl))⟩
 f8 := ⟨Tryz.f183.name, by decide, Tryz.func183.trans (congrArg some (by kernel_rfl))⟩
 f11 := ⟨Tryz.f249.name, by decide, Tryz.func249.trans (congrArg some (by kernel_rfl))⟩
 t0 := Tryz.underlying0
 a0 := Tryz.isAgg0
 z0 := Tryz.sizeOf0
 v0 := Tryz.zeroValue0
 t24 := Tryz.underlying49
 a24 := Tryz.isAgg49
 z24 := Tryz.sizeOf49
 v24 := Tryz.zeroValue49
 t26 := Tryz.underlying9
 a26 := Tryz.isAgg9
 z26 := Tryz.sizeOf9
 v26 := Tryz.zeroValue9
 t28 := Tryz.underlying131
 a28 := Tryz.isAgg131
 z28 := Tryz.sizeOf131
 v28 := Tryz.zeroValue131
 i26 := by kernel_rfl }
def Tryz.Mt : Go.Shelf.Ren := ⟨fun | 6 => 184 | 8 => 251 | 9 => 250 | 19 => 286 | 20 => 287 | 21 => 277 | 22 => 278 | 23 => 279 | 24 => 280 | 25 => 281 | 26 => 282 | 27 => 283 | 28 => 284 | 29 => 285 | 36 => 295 | 31 => 296 | 32 => 297 | 37 => 298 | 38 => 299 | 39 => 300 | 41 => 301 | n => n, fun | 27 => 49 | 29 => 9 | 3 => 3 | 32 => 158 | 26 => 49 | 0 => 0 | 44 => 226 | 46 => 228 | 4 => 4 | 36 => 219 | 35 => 218 | 41 => 212 | 5 => 5 | 9 => 9 | 53 => 230 | 57 => 234 | 63 => 236 | 64 => 173 | n => n, fun | n => n⟩
theorem Tryz.Nn : Go.Proofs.SlLaysM.n6 Tryz.prog Tryz.Mt := {
 mixed := by kernel_rfl
 f6 := ⟨Tryz.f184.name, by decide, Tryz.func184.trans (congrArg some (by kernel_rfl))⟩
 f8 := Tryz.func251.trans (congrArg some (by kernel_rfl))
 f9 := ⟨Tryz.f250.name, by decide, Tryz.func250.trans (congrArg some (by kernel_rfl))⟩
 f19 := Tryz.func286.trans (congrArg some (by kernel_rfl))
 f20 := Tryz.func287.trans (congrArg some (by kernel_rfl))
 f21 := ⟨Tryz.f277.name, by decide, Tryz.func277.trans (congrArg some (by kernel_rfl))⟩
 f22 := ⟨Tryz.f278.name, by decide, Tryz.func278.trans (congrArg some (by kernel_rfl))⟩
 f23 := ⟨Tryz.f279.name, by decide, Tryz.func279.trans (congrArg some (by kernel_rfl))⟩
 f24 := ⟨Tryz.f280.name, by decide, Tryz.func280.trans (congrArg some (by kernel_rfl))⟩
 f25 := ⟨Tryz.f281.name, by decide, Tryz.func281.trans (congrArg some (by kernel_rfl))⟩
 f26 := ⟨Tryz.f282.name, by decide, Tryz.func282.trans (congrArg some (by kernel_rfl))⟩
 f27 := ⟨Tryz.f283.name, by decide, Tryz.func283.trans (congrArg some (by kernel_rfl))⟩
 f28 := ⟨Tryz.f284.name, by decide, Tryz.func284.trans (congrArg some (by kernel_rfl))⟩
 f29 := ⟨Tryz.f285.name, by decide, Tryz.func285.trans (congrArg some (by kernel_rfl))⟩
 f31 := Tryz.func296.trans (congrArg some (by kernel_rfl))
 f32 := Tryz.func297.trans (congrArg some (by kernel_rfl))
 f36 := ⟨Tryz.f295.name, by decide, Tryz.func295.trans (congrArg some (by kernel_rfl))⟩
 f37 := ⟨Tryz.f298.name, by decide, Tryz.func298.trans (congrArg some (by kernel_rfl))⟩
 f38 := ⟨Tryz.f299.name, by decide, Tryz.func299.trans (congrArg some (by kernel_rfl))⟩
 f39 := ⟨Tryz.f300.name, by decide, Tryz.func300.trans (congrArg some (by kernel_rfl))⟩
 f41 := ⟨Tryz.f301.name, by decide, Tryz.func301.trans (congrArg some (by kernel_rfl))⟩
 t0 := Tryz.underlying0
 a0 := Tryz.isAgg0
 z0 := Tryz.sizeOf0
 v0 := Tryz.zeroValue0
 t3 := Tryz.underlying3
 a3 := Tryz.isAgg3
 z3 := Tryz.sizeOf3
 v3 := Tryz.zeroValue3
 t4 := Tryz.underlying4
 a4 := Tryz.isAgg4
 z4 := Tryz.sizeOf4
 v4 := Tryz.zeroValue4
 t5 := Tryz.underlying5
 a5 := Tryz.isAgg5
 z5 := Tryz.sizeOf5
 v5 := Tryz.zeroValue5
 t9 := Tryz.underlying9
 a9 := Tryz.isAgg9
 z9 := Tryz.sizeOf9
 v9 := Tryz.zeroValue9
 t26 := Tryz.underlying49
 a26 := Tryz.isAgg49
 z26 := Tryz.sizeOf49
 v26 := Tryz.zeroValue49
 t27 := Tryz.underlying49
 a27 := Tryz.isAgg49
 z27 := Tryz.sizeOf49
 v27 := Tryz.zeroValue49
 t29 := Tryz.underlying9
 a29 := Tryz.isAgg9
 z29 := Tryz.sizeOf9
 v29 := Tryz.zeroValue9
 t32 := Tryz.underlying158
 a32 := Tryz.isAgg158
 z32 := Tryz.sizeOf158
 v32 := Tryz.zeroValue158
 t35 := Tryz.underlying218
 a35 := Tryz.isAgg218
 z35 := Tryz.sizeOf218
 v35 := Tryz.zeroValue218
 t36 := Tryz.underlying219
 a36 := Tryz.isAgg219
 z36 := Tryz.sizeOf219
 v36 := Tryz.zeroValue219
 t41 := Tryz.underlying212
 a41 := Tryz.isAgg212
 z41 := Tryz.sizeOf212
 v41 := Tryz.zeroValue212
 t44 := Tryz.underlying226
 a44 := Tryz.isAgg226
 z44 := Tryz.sizeOf226
 v44 := Tryz.zeroValue226
 t46 := Tryz.underlying228
 a46 := Tryz.isAgg228
 z46 := Tryz.sizeOf228
 v46 := Tryz.zeroValue228
 t53 := Tryz.underlying230
 a53 := Tryz.isAgg230
 z53 := Tryz.sizeOf230
 v53 := Tryz.zeroValue230
 t57 := Tryz.underlying234
 a57 := Tryz.isAgg234
 z57 := Tryz.sizeOf234
 v57 := Tryz.zeroValue234
 t63 := Tryz.underlying236
 a63 := Tryz.isAgg236
 z63 := Tryz.sizeOf236
 v63 := Tryz.zeroValue236
 t64 := Tryz.underlying173
 a64 := Tryz.isAgg173
 z64 := Tryz.sizeOf173
 v64 := Tryz.zeroValue173 }
end Go.Proofs
namespace Go.Proofs.YtiiaccpcoclklaaGreat
namespace Abs
open Go
def SY : Tag → List Nat
 | .tip l _ => [l]
 | .shared => []
 | .nils => []
mutual
def refs : AV → List Nat
 | .ptr l _ => [l]
 | .mapr l => [l]
 | .eptr cs => rM cs
 | .slice es t => z8 es ++ SY t
 | .agg cs => rM cs
 | .tup cs => rM cs
 | .func _ cs => rM cs
 | .psl l _ _ => [l]
 | .flist ns => z8 ns
 | .unk => []
 | .int _ _ => []
 | .bool _ => []
 | .str _ => []
 | .nilp => []
 | .nilFunc => []
def rM : List AV → List Nat
 | [] => []
 | c :: cs => refs c ++ rM cs
def z8 : List (List AV) → List Nat
 | [] => []
 | c :: cs => rM c ++ z8 cs
end
def yP : AObj → List Nat
 | .box cs => rM cs
 | .mp es => es.flatMap fun p => refs p.2
 | .arr _ es => z8 es
 | .tip _ => []
 | .dead => []
 | .res => []
mutual
theorem F4 {g h : Nat → Nat} : ∀ x : AV, (∀ l ∈ refs x, g (h l) = l) → ren g (ren h x) = x
 | .ptr l o, hx => by simp only [ren]; rw [hx l (by simp [refs])]
 | .mapr l, hx => by simp only [ren]; rw [hx l (by simp [refs])]
 | .eptr cs, hx => by simp only [ren]; rw [oK cs (by simpa [refs] using hx)]
 | .slice es t, hx => by
  simp only [refs, List.mem_append] at hx
  simp only [ren]; rw [wI es (fun l hl => hx l (.inl hl))]
  cases t with
  | tip l z => simp only [cB]; rw [hx l (.inr (by simp [SY]))]
  | shared => rfl
  | nils => rfl
 | .agg cs, hx => by simp only [ren]; rw [oK cs (by simpa [refs] using hx)]
 | .tup cs, hx => by simp only [ren]; rw [oK cs (by simpa [refs] using hx)]
 | .func f cs, hx => by simp only [ren]; rw [oK cs (by simpa [refs] using hx)]
 | .psl l z n, hx => by simp only [ren]; rw [hx l (by simp [refs])]
 | .flist ns, hx => by simp only [ren]; rw [wI ns (by simpa [refs] using hx)]
 | .unk, _ => rfl
 | .int _ _, _ => rfl
 | .bool _, _ => rfl
 | .str _, _ => rfl
 | .nilp, _ => rfl
 | .nilFunc, _ => rfl
theorem oK {g h : Nat → Nat} : ∀ cs : List AV, (∀ l ∈ rM cs, g (h l) = l) → bn g (bn h cs) = cs
 | [], _ => rfl
 | c :: cs, hx => by
  simp only [rM, List.mem_append] at hx
  simp only [bn]; rw [F4 c (fun l hl => hx l (.inl hl)), oK cs (fun l hl => hx l (.inr hl))]
theorem wI {g h : Nat → Nat} : ∀ es : List (List AV), (∀ l ∈ z8 es, g (h l) = l) → aW g (aW h es) = es
 | [], _ => rfl
 | c :: cs, hx => by
  simp only [z8, List.mem_append] at hx
  simp only [aW]; rw [oK c (fun l hl => hx l (.inl hl)), wI cs (fun l hl => hx l (.inr hl))]
end
theorem Ja {g h : Nat → Nat} (o : AObj) (hx : ∀ l ∈ yP o, g (h l) = l) : bC g (bC h o) = o := by
 cases o with
 | box cs => simp only [bC]; rw [oK cs hx]
 | mp es =>
  simp only [bC, List.map_map, AObj.mp.injEq]
  simp only [yP, List.mem_flatMap] at hx
  conv => rhs; rw [← List.map_id es]
  refine List.map_congr_left fun p hp => ?_
  simp only [Function.comp]
  rw [F4 p.2 (fun l hl => hx l ⟨p, hp, hl⟩)]; rfl
 | arr z es => simp only [bC]; rw [wI es hx]
 | tip n => rfl
 | dead => rfl
 | res => rfl
def posOf : List Nat → Nat → Nat
 | [], _ => 0
 | x :: xs, l => bif Nat.beq x l then 0 else posOf xs l + 1
theorem CU : ∀ {L : List Nat} {l : Nat}, l ∈ L → L[posOf L l]? = some l
 | x :: xs, l, h => by
  unfold posOf
  cases hb : Nat.beq x l with
  | true => have := Nat.eq_of_beq_eq_true hb; subst this; rfl
  | false =>
   simp only [cond_false, List.getElem?_cons_succ]
   refine CU ?_
   rcases List.mem_cons.1 h with rfl | h
   ·rw [Nat.beq_refl l] at hb; cases hb
   ·exact h
def has : List Nat → Nat → Bool
 | [], _ => false
 | x :: xs, l => bif Nat.beq x l then true else has xs l
theorem zQ : ∀ {L : List Nat} {l : Nat}, has L l = true → l ∈ L
 | x :: xs, l, h => by
  unfold has at h
  cases hb : Nat.beq x l with
  | true => rw [Nat.eq_of_beq_eq_true hb]; simp
  | false => rw [hb] at h; exact List.mem_cons_of_mem _ (zQ h)
def Ac : List Nat → Bool
 | [] => true
 | x :: xs => bif has xs x then false else Ac xs
theorem has_of_mem : ∀ {L : List Nat} {l : Nat}, l ∈ L → has L l = true
 | x :: xs, l, h => by
  unfold has
  cases hb : Nat.beq x l with
  | true => rfl
  | false =>
   rcases List.mem_cons.1 h with rfl | h
   ·rw [Nat.beq_refl l] at hb; cases hb
   ·exact has_of_mem h
theorem DK : ∀ {L : List Nat}, Ac L = true → L.Nodup
 | [], _ => List.nodup_nil
 | x :: xs, h => by
  unfold Ac at h
  cases hb : has xs x with
  | true => rw [hb] at h; cases h
  | false => rw [hb] at h; exact List.nodup_cons.2 ⟨fun hm => (by rw [has_of_mem hm] at hb; cases hb), DK h⟩
def reach (h : List AObj) : Nat → List Nat → List Nat → List Nat
 | 0, _, seen => seen
 | _ + 1, [], seen => seen
 | n + 1, l :: todo, seen => bif has seen l then reach h n todo seen else reach h n (yP (obj? h l) ++ todo) (seen ++ [l])
abbrev nu := Nat → List AV → List AObj → Option (AV × List AObj)
def Iy (h : List AObj) (ρ ks : List Nat) (vs : List AV) : Bool :=
 Ac (ρ ++ ks) && (ρ.all (fun l => Nat.blt l h.length) && (ks.all (fun l => cZ (obj? h l)) && (ρ.all (fun l => (yP (obj? h l)).all (has ρ)) && (rM vs).all (has ρ))))
def Lj (call : nu) (h : List AObj) (k fid : Nat) (vs : List AV) : Option (Nat × List Nat × List Wr × AV) :=
 let ρ := reach h 2000 (rM vs) []
 match call fid (bn (posOf ρ) vs) (ρ.map fun l => bC (posOf ρ) (obj? h l)) with
 | none => none
 | some (res, H') =>
  let ks := List.range' k (H'.length - ρ.length)
  bif Iy h ρ ks vs && Nat.beq H'.length (ρ ++ ks).length then some (k + ks.length, ρ ++ ks, nQ (ρ ++ ks) (H'.map (bC (nm (ρ ++ ks) h.length))), ren (nm (ρ ++ ks) h.length) res) else none
theorem Qy {ρ ks : List Nat} {big l : Nat} (h : l ∈ ρ) : nm (ρ ++ ks) big (posOf ρ l) = l := by
 have := CU h
 have hlt := (List.getElem?_eq_some_iff.1 this).1
 simp only [nm, List.getElem?_append_left hlt, this, Option.getD_some]
theorem PX {P : Program} {call : nu} (hc : ∀ f args H r, call f args H = some r → ak P f args H r.1 r.2) {s : ASt} {k fid : Nat} {vs : List AV} {k' : Nat} {ro : List Nat} {wo : List Wr} {res : AV} {dst : Option Tmp} {K : Nat → List Nat → List Wr → Prop}
  (hok : aM P fid = true) (h : Lj call s.heap k fid vs = some (k', ro, wo, res)) (hK : K k' ro (wo ++ aH dst res)) : zT P fid vs dst s k K .mk := by
 unfold Lj at h
 generalize hρ : reach s.heap 2000 (rM vs) [] = ρ at h
 dsimp only at h
 split at h
 ·cases h
 ·rename_i r H' hcall
  generalize hks : List.range' k (H'.length - ρ.length) = ks at h
  cases hb : (Iy s.heap ρ ks vs && Nat.beq H'.length (ρ ++ ks).length) with
  | false => rw [hb] at h; cases h
  | true =>
   rw [hb] at h
   simp only [cond_true, Option.some.injEq, Prod.mk.injEq] at h
   obtain ⟨rfl, rfl, rfl, rfl⟩ := h
   simp only [Iy, Bool.and_eq_true, List.all_eq_true] at hb
   obtain ⟨⟨h1, h2, h3, h4, h5⟩, h6⟩ := hb
   have hlen := Nat.eq_of_beq_eq_true h6
   refine ⟨hok, ρ, ks, bn (posOf ρ) vs, _, r, H', ⟨DK h1, by simp, fun l hl => ?_, h3, fun i l hi => ?_⟩, hlen, ?_, hc _ _ _ _ hcall, hK⟩
   ·exact Nat.le_of_ble_eq_true (h2 l hl)
   ·have hlm := List.mem_of_getElem? hi
    have e : obj? (ρ.map fun l => bC (posOf ρ) (obj? s.heap l)) i = bC (posOf ρ) (obj? s.heap l) := by
     simp only [obj?, List.getElem?_map, hi, Option.map_some, Option.getD_some]
    rw [e, Ja _ fun x hx => Qy (zQ (h4 l hlm x hx))]
   ·rw [← sD, oK _ fun x hx => Qy (zQ (h5 x hx))]
    exact SWs.refl _
noncomputable def RV {α β : Type} (l : List α) : Nat → α → (List α → β) → β :=
 List.rec (motive := fun _ => Nat → α → (List α → β) → β) (fun _ _ K => K []) (fun x xs ih n v K => Nat.rec (motive := fun _ => β) (K (v :: xs)) (fun m _ => ih m v fun ys => K (x :: ys)) n) l
noncomputable def EX {α β : Type} (l : List α) : (List α → β) → β :=
 List.rec (motive := fun _ => (List α → β) → β) (fun K => K []) (fun x _ ih K => ih fun ys => K (x :: ys)) l
noncomputable def Rt (l : List AV) : Nat → AV := List.rec (motive := fun _ => Nat → AV) (fun _ => .unk) (fun x _ ih n => Nat.rec (motive := fun _ => AV) x (fun m _ => ih m) n) l
noncomputable def Lc (l : List AObj) : Nat → AObj := List.rec (motive := fun _ => Nat → AObj) (fun _ => .dead) (fun x _ ih n => Nat.rec (motive := fun _ => AObj) x (fun m _ => ih m) n) l
theorem Ir : ∀ (l : List AV) (n : Nat), Rt l n = l.getD n .unk
 | [], _ => rfl
 | _ :: _, 0 => rfl
 | _ :: xs, n + 1 => (Ir xs n).trans (by simp [List.getD])
theorem Ik : ∀ (l : List AObj) (n : Nat), Lc l n = obj? l n
 | [], _ => rfl
 | _ :: _, 0 => rfl
 | _ :: xs, n + 1 => (Ik xs n).trans (by simp [obj?])
noncomputable def KW (t : List AV) : Operand → AV
 | .tmp n => Rt t n
 | .const v => ofConst v
 | .func f => .func f []
 | .global _ => .unk
theorem Nz (t : List AV) : KW t = fE t := by funext x; cases x <;> first | rfl | exact Ir _ _
noncomputable def KT (ops : Array Oper) (t : List AV) : Option (Nat × Bool) → Option Bool
 | none => some true
 | some (j, want) => match (ops[j]?).bind (·.dst) with
  | none => none
  | some d => match Rt t d with
   | .bool b => some (b == want)
   | .tup [] => some false
   | _ => none
theorem QD (ops : Array Oper) (t : List AV) (o : Oper) : KT ops t o.guard = kD ops t o := by
 unfold KT kD
 cases o.guard with
 | none => rfl
 | some p => simp only [Ir]; rfl
def OD (P : Program) (k : Nat) (o : Oper) (ρ : Operand → AV) (σ : Nat → AObj) : Option (List Nat × List Wr) :=
 match o.op with
 | .move x => some ([], aH o.dst (ρ x))
 | .assign x => some ([], aH o.dst (ρ x))
 | .binOp op t x y _ => (FE P op t (ρ x) (ρ y)).elim none fun v => some ([], aH o.dst v)
 | _ => cK P k o ρ σ
theorem Rs (P : Program) (k : Nat) (o : Oper) (ρ : Operand → AV) (σ : Nat → AObj) : OD P k o ρ σ = cK P k o ρ σ := by
 unfold OD
 split
 ·rename_i x h; simp only [cK, h, aP]
 ·rename_i x h; simp only [cK, h, aP]
 ·rename_i op t x y t2 h
  simp only [cK, h, aP]
  cases FE P op t (ρ x) (ρ y) <;> rfl
 ·rfl
def Vq {β : Type} (K : Nat → β) : Nat → β
 | 0 => K 0
 | n + 1 => K (n + 1)
def X4 {β : Type} (K : Int → β) : Int → β
 | .ofNat n => K (.ofNat n)
 | .negSucc n => K (.negSucc n)
def Xp {β : Type} (K : Bool → β) : Bool → β
 | true => K true
 | false => K false
noncomputable def VE {β : Type} (K : AV → β) : AV → β
 | .agg cs => EX cs fun cs => K (.agg cs)
 | .eptr cs => EX cs fun cs => K (.eptr cs)
 | .tup cs => EX cs fun cs => K (.tup cs)
 | .func f cs => EX cs fun cs => K (.func f cs)
 | .int k n => X4 (fun n => K (.int k n)) n
 | .bool b => Xp (fun b => K (.bool b)) b
 | .str s => EX s fun s => K (.str s)
 | .slice es t => EX es fun es => K (.slice es t)
 | .unk => K .unk
 | .nilp => K .nilp
 | .ptr l o => K (.ptr l o)
 | .mapr l => K (.mapr l)
 | .nilFunc => K .nilFunc
 | .psl l z n => K (.psl l z n)
 | .flist ns => K (.flist ns)
noncomputable def Vm {β : Type} (K : AObj → β) : AObj → β
 | .box cs => EX cs fun cs => K (.box cs)
 | .tip n => K (.tip n)
 | .mp es => EX es fun es => K (.mp es)
 | .dead => K .dead
 | .res => K .res
 | .arr z es => EX es fun es => K (.arr z es)
noncomputable def Jv {β : Type} : List Wr → List AV → List AObj → (List AV → List AObj → β) → β
 | [], t, h, K => K t h
 | .slot n v :: ws, t, h, K => VE (fun v => RV t n v fun t => Jv ws t h K) v
 | .obj n o :: ws, t, h, K => Vm (fun o => RV h n o fun h => Jv ws t h K) o
theorem HZ {α β : Type} : ∀ (l : List α) (n : Nat) (v : α) (K : List α → β), RV l n v K = K (l.set n v)
 | [], _, _, _ => rfl
 | _ :: _, 0, _, _ => rfl
 | x :: xs, n + 1, v, K => (HZ xs n v fun ys => K (x :: ys)).trans rfl
theorem KA {α β : Type} : ∀ (l : List α) (K : List α → β), EX l K = K l
 | [], _ => rfl
 | x :: xs, K => KA xs fun ys => K (x :: ys)
theorem UK {β : Type} (K : Nat → β) (n : Nat) : Vq K n = K n := by cases n <;> rfl
theorem VK {β : Type} (K : AV → β) (v : AV) : VE K v = K v := by
 cases v <;> simp only [VE, KA]
 ·rename_i k n; cases n <;> rfl
 ·rename_i b; cases b <;> rfl
theorem VT {β : Type} (K : AObj → β) (o : AObj) : Vm K o = K o := by cases o <;> simp only [Vm, KA]
theorem Dk {β : Type} : ∀ (ws : List Wr) (t : List AV) (h : List AObj) (K : List AV → List AObj → β), Jv ws t h K = K (ASt.wr ⟨t, h⟩ ws).tmps (ASt.wr ⟨t, h⟩ ws).heap
 | [], _, _, _ => rfl
 | .slot n v :: ws, t, h, K => by simp only [Jv, VK, HZ]; rw [Dk ws]; rfl
 | .obj n v :: ws, t, h, K => by simp only [Jv, VT, HZ]; rw [Dk ws]; rfl
def need (big : List Nat) : List Oper → Nat
 | [] => 0
 | o :: l => (match qY o.op with
  | some (.func f, _) => (bif has big f then 40 else 3)
  | some _ => 3
  | none => oF o.op) + need big l
noncomputable def Rl (P : Program) (call : nu) (ok : Nat → Bool) (ops : Array Oper) (o : Oper) (go : Nat → List Eff → List AV → List AObj → Option (List Eff × ASt)) (k : Nat) (es : List Eff) (t : List AV) (h : List AObj) : Option (List Eff × ASt) :=
 match KT ops t o.guard with
  | none => none
  | some false => Jv (aH o.dst (.tup [])) t h (go k (⟨fI ops o, [], aH o.dst (.tup [])⟩ :: es))
  | some true => match qY o.op with
   | some (f, args) => match KW t f with
    | .func fid caps => bif ok fid then (match Lj call h k fid (args.toList.map (KW t) ++ caps) with
     | some (k', ro, wo, res) => Jv (wo ++ aH o.dst res) t h (go k' (⟨fI ops o, ro, wo ++ aH o.dst res⟩ :: es))
     | none => none) else none
    | _ => none
   | none => match OD P k o (KW t) (Lc h) with
    | some (rd, ws) => Jv ws t h (go (k + oF o.op) (⟨fI ops o, rd, ws⟩ :: es))
    | none => none
noncomputable def Ov (P : Program) (call : nu) (ok : Nat → Bool) (ops : Array Oper) (l : List Oper) : Nat → List Eff → List AV → List AObj → Option (List Eff × ASt) :=
 List.rec (motive := fun _ => Nat → List Eff → List AV → List AObj → Option (List Eff × ASt)) (fun _ es t h => some (es.reverse, ⟨t, h⟩)) (fun o _ ih => Rl P call ok ops o ih) l
theorem QO (P : Program) (call : nu) (ok : Nat → Bool) (ops : Array Oper) (o : Oper) (l : List Oper) (k : Nat) (es : List Eff) (t : List AV) (h : List AObj) : Ov P call ok ops (o :: l) k es t h = Rl P call ok ops o (Ov P call ok ops l) k es t h := rfl
theorem ND {P : Program} {call : nu} {ok : Nat → Bool} {ops : Array Oper} (hc : ∀ f args H r, call f args H = some r → ak P f args H r.1 r.2) (hok : ∀ f, ok f = true → aM P f = true) {K : List Eff → ASt → Prop} :
  ∀ (l : List Oper) (k : Nat) (es : List Eff) (s : ASt) (es' : List Eff) (s' : ASt), Ov P call ok ops l k es s.tmps s.heap = some (es', s') → K es' s' → yL P ops l k es s K := by
 intro l
 induction l with
 | nil =>
  intro k es s es' s' h hK
  have h : some (es.reverse, s) = some (es', s') := h
  simp only [Option.some.injEq, Prod.mk.injEq] at h
  obtain ⟨rfl, rfl⟩ := h
  exact hK
 | cons o l ih =>
  intro k es s es' s' h hK
  rw [QO] at h
  unfold Rl at h
  rw [QD, Nz, show Lc s.heap = obj? s.heap from funext (Ik _), Rs] at h
  split at h
  ·cases h
  ·rename_i hw
   rw [Dk] at h
   exact ⟨false, hw, fun e => (by cases e), fun _ => ih _ _ _ _ _ h hK⟩
  ·rename_i hw
   refine ⟨true, hw, fun _ => ?_, fun e => (by cases e)⟩
   split at h
   ·rename_i f args hcall
    split at h
    ·rename_i fid caps hf
     cases hb : ok fid with
     | false => rw [hb] at h; cases h
     | true =>
      rw [hb] at h
      simp only [cond_true] at h
      split at h
      ·rename_i k' ro wo res hen
       rw [hcall]
       rw [Dk] at h
       exact ⟨fid, caps, hf, PX hc (hok _ hb) hen (ih _ _ _ _ _ h hK)⟩
      ·cases h
    ·cases h
   ·rename_i hcall
    rw [hcall]
    split at h
    ·rename_i rd ws hh
     rw [Dk] at h
     exact ⟨rd, ws, hh, ih _ _ _ _ _ h hK⟩
    ·cases h
def OU (o : AObj) : List AObj → List AObj
 | [] => bif cZ o then [] else [o]
 | x :: xs => o :: x :: xs
noncomputable def trim (l : List AObj) : List AObj := List.rec (motive := fun _ => List AObj) [] (fun o _ ih => OU o ih) l
theorem Js : ∀ H : List AObj, ∃ n, H = trim H ++ List.replicate n .res
 | [] => ⟨0, rfl⟩
 | o :: os => by
  obtain ⟨n, hn⟩ := Js os
  show ∃ n, o :: os = OU o (trim os) ++ List.replicate n .res
  unfold OU
  split
  ·rename_i e
   rw [e] at hn
   cases ho : cZ o with
   | true =>
    have : o = .res := by cases o <;> simp [cZ] at ho ⊢
    subst this
    exact ⟨n + 1, by rw [hn]; rfl⟩
   | false => exact ⟨n, by rw [hn]; rfl⟩
  ·rename_i x xs e
   rw [e] at hn
   exact ⟨n, by rw [hn]; rfl⟩
theorem Sim.trim {C : Ctx} {κ : bH} {s : ASt} {a : Act} {w : World} (h : Sim C κ s a w) : ∃ κ', Sim C κ' { s with heap := Abs.trim s.heap } a w := by
 obtain ⟨n, hn⟩ := Js s.heap
 generalize Abs.trim s.heap = H at hn
 have hat : ∀ l, at? (κ.take H.length) l = at? κ l := fun l => by
  by_cases hl : l < H.length
  ·unfold at?; rw [List.getElem?_take, if_pos hl]
  ·have e1 : at? (κ.take H.length) l = none := at?_none_of_le (by simp; omega)
   rw [e1]
   by_cases h2 : l < s.heap.length
   ·refine (h.resv l ?_).symm
    simp only [obj?, hn]
    rw [List.getElem?_append_right (by omega), List.getElem?_replicate]
    rw [hn, List.length_append, List.length_replicate] at h2
    rw [if_pos (by omega)]; rfl
   ·exact (at?_none_of_le (by rw [h.klen]; omega)).symm
 have hob : ∀ l b, at? κ l = some b → obj? H l = obj? s.heap l := fun l b hb => by
  by_cases hl : l < H.length
  ·simp only [obj?, hn, List.getElem?_append_left hl]
  ·rw [← hat, at?_none_of_le (by simp; omega)] at hb; cases hb
 refine ⟨κ.take H.length, ?_⟩
 refine h.step (κ' := κ.take H.length) (H' := H) (Evo.refl _ _) (fun l b hb => by rw [hat]; exact hb) (by rw [List.length_take, h.klen, hn]; simp) ?_ ?_ ?_ ?_ ?_ (fun _ _ => rfl) rfl rfl rfl
 ·rintro b o (hb | ⟨l, h1, h2⟩) _
  ·exact .inl hb
  ·rw [hat] at h1; rw [hob l b h1] at h2; exact .inr ⟨l, h1, h2⟩
 ·intro l b h1 h2
  rw [hat] at h1
  exact .inl ⟨h1, hob l b h1, rfl⟩
 ·intro l l' b h1 h2 h3 h4
  rw [hat] at h1 h2; rw [hob l b h1] at h3; rw [hob l' b h2] at h4
  exact h.apart l l' b h1 h2 h3 h4
 ·intro l b h1; rw [hat] at h1; exact h.bound l b h1
 ·intro l h1
  rw [hat]
  by_cases hl : l < H.length
  ·refine h.resv l ?_
   rw [← h1]; simp only [obj?, hn, List.getElem?_append_left hl]
  ·rw [← hat]; exact at?_none_of_le (by simp; omega)
def Gh (hint : List (Nat × Nat × Nat)) (h : List AObj) (l : Nat) : List AObj :=
 match obj? h l with
 | .box cs => match hint.find? (fun p => Nat.beq p.1 cs.length) with
  | some (_, i, z) => (match cs[i]? with
   | some (.slice [] .nils) => h.set l (.box (cs.set i (.psl h.length z 0))) ++ [.arr z []]
   | _ => h)
  | none => h
 | _ => h
theorem Sim.Gh {C : Ctx} {κ : bH} {s : ASt} {a : Act} {w : World} (h : Sim C κ s a w) (hint : List (Nat × Nat × Nat)) (l : Nat) : ∃ κ', Sim C κ' { s with heap := Abs.Gh hint s.heap l } a w := by
 unfold Abs.Gh
 split
 ·rename_i cs ho
  split
  ·rename_i i z _
   split
   ·rename_i hi
    have hll : l < s.heap.length := by
     apply Classical.byContradiction; intro hn
     simp only [obj?, List.getElem?_eq_none (Nat.le_of_not_lt hn)] at ho; cases ho
    let H' := s.heap.set l (.box (cs.set i (.psl s.heap.length z 0))) ++ [AObj.arr z []]
    have hat : ∀ x, at? (κ ++ [none]) x = at? κ x := fun x => by
     unfold at?
     by_cases hx : x < κ.length
     ·rw [List.getElem?_append_left hx]
     ·rw [List.getElem?_append_right (Nat.le_of_not_lt hx), List.getElem?_eq_none (Nat.le_of_not_lt hx)]
      cases hxx : x - κ.length <;> rfl
    have hlt : ∀ x b, at? κ x = some b → x < s.heap.length := fun x b hb => by rw [← h.klen]; exact lt_of_at? hb
    have hob : ∀ x, x < s.heap.length → x ≠ l → obj? H' x = obj? s.heap x := fun x hx hne => by
     simp only [obj?, H', List.getElem?_append_left (show x < (s.heap.set l _).length by simpa using hx), List.getElem?_set_ne (Ne.symm hne)]
    have hol : obj? H' l = .box (cs.set i (.psl s.heap.length z 0)) := by
     simp only [obj?, H', List.getElem?_append_left (show l < (s.heap.set l _).length by simpa using hll), List.getElem?_set_self hll, Option.getD_some]
    have hlv : ∀ x b, at? κ x = some b → live (obj? H' x) → live (obj? s.heap x) := fun x b hb hl => by
     by_cases e : x = l
     ·subst e; rw [ho]; trivial
     ·rw [hob x (hlt x b hb) e] at hl; exact hl
    have hp : ∀ b o, aO C.aS (κ ++ [none]) H' b o → b < w.heap.size → aO C.aS κ s.heap b o := by
     rintro b o (hb | ⟨x, h1, h2⟩) _
     ·exact .inl hb
     ·rw [hat] at h1
      refine .inr ⟨x, h1, ?_⟩
      by_cases e : x = l
      ·subst e; rw [ho]; trivial
      ·rw [hob x (hlt x b h1) e] at h2; exact h2
    refine ⟨κ ++ [none], ?_⟩
    refine h.step (κ' := κ ++ [none]) (H' := H') (Evo.refl _ _) (fun x b hb => by rw [hat]; exact hb) (by simp [H', h.klen]) hp ?_ ?_ ?_ ?_ (fun _ _ => rfl) rfl rfl rfl
    ·intro x b h1 h2
     rw [hat] at h1
     by_cases e : x = l
     ·subst e
      refine .inr ⟨h.bound x b h1, h.own x b h1 (by rw [ho]; trivial), ?_⟩
      rw [hol]
      have hr := h.obj x b h1 (by rw [ho]; trivial)
      rw [ho] at hr
      obtain ⟨c, el, g1, g2, g3⟩ := hr
      refine ⟨c, el, g1, by simp [g2], fun j hj => ?_⟩
      simp only [List.length_set] at hj
      have hg := (g3 j hj).mono (κ' := κ ++ [none]) (Evo.refl _ _) (fun y b hb => by rw [hat]; exact hb) hp
      by_cases ej : i = j
      ·subst ej
       rw [iX hj]
       rw [List.getD, hi, Option.getD_some] at hg
       generalize c.getD i undef = u at hg
       cases hg with
       | slice b' off sz y q1 q2 q3 q3' q4 q5 q6 gt => exact .psl (Nat.zero_le _) (by omega) ⟨rfl, .inl gt⟩
      ·rw [jP ej]; exact hg
     ·exact .inl ⟨h1, hob x (hlt x b h1) e, rfl⟩
    ·intro x y b h1 h2 h3 h4
     rw [hat] at h1 h2
     exact h.apart x y b h1 h2 (hlv x b h1 h3) (hlv y b h2 h4)
    ·intro x b h1; rw [hat] at h1; exact h.bound x b h1
    ·intro x h1
     rw [hat]
     by_cases hx : x < s.heap.length
     ·by_cases e : x = l
      ·subst e; rw [hol] at h1; cases h1
      ·rw [hob x hx e] at h1; exact h.resv x h1
     ·exact at?_none_of_le (by rw [h.klen]; omega)
   ·exact ⟨κ, h⟩
  ·exact ⟨κ, h⟩
 ·exact ⟨κ, h⟩
def EA (hint : List (Nat × Nat × Nat)) : List Nat → List AObj → List AObj
 | [], h => h
 | l :: ls, h => EA hint ls (Gh hint h l)
theorem Sim.EA {C : Ctx} {a : Act} {w : World} (hint : List (Nat × Nat × Nat)) : ∀ (ls : List Nat) {κ : bH} {s : ASt}, Sim C κ s a w → ∃ κ', Sim C κ' { s with heap := Abs.EA hint ls s.heap } a w
 | [], κ, s, h => ⟨κ, h⟩
 | l :: ls, κ, s, h => by
  obtain ⟨κ1, h1⟩ := h.Gh hint l
  exact Sim.EA hint ls h1
noncomputable def tidy (hint : List (Nat × Nat × Nat)) (n : Nat) (s : ASt) : ASt :=
 let h := trim s.heap
 ⟨s.tmps, EA hint (List.range' n (h.length - n)) h⟩
theorem eB.tidy {P : Program} {c : Code} {Q : Exit → ASt → Prop} {s : ASt} (hint : List (Nat × Nat × Nat)) (n : Nat) (h : eB P c (fun e s' => Q e (Abs.tidy hint n s')) s) : eB P c Q s := fun C κ a w hs =>
 wp_mono (h C κ a w hs) fun _ _ _ ⟨s', κ', h1, h2⟩ => by
  obtain ⟨κ1, g1⟩ := h2.trim
  obtain ⟨κ2, g2⟩ := g1.EA hint (List.range' n ((Abs.trim s'.heap).length - n))
  exact ⟨_, κ2, h1, g2⟩
noncomputable def GZ (P : Program) (call : nu) (ok : Nat → Bool) (hint : List (Nat × Nat × Nat)) (big : List Nat) (go : Code → ASt → Option (Exit × ASt)) (c : Code) (s : ASt) : Option (Exit × ASt) :=
 match c with
  | .skip => some (.normal, s)
  | .ret => some (.ret, s)
  | .exit id => some (.exit id, s)
  | .seq x y => match go x s with
   | some (.normal, s') => go y s'
   | r => r
  | .cond c x y => match KW s.tmps c with
   | .bool true => go x s
   | .bool false => go y s
   | _ => none
  | .block id c => match go c s with
   | some (.exit id', s') => bif Nat.beq id' id then some (.normal, s') else some (.exit id', s')
   | r => r
  | .loop c => match go c s with
   | some (.normal, s') => go (.loop c) s'
   | r => r
  | .region _ ops draw => Vq (fun m => match Ov P call ok ops ops.toList s.heap.length [] s.tmps (s.heap ++ List.replicate m .res) with
   | some (es, s') => bif !draw || sJ ops.toList es then some (.normal, bif Nat.beq m 0 then s' else tidy hint s.heap.length s') else none
   | none => none) (need big ops.toList)
  | _ => none
noncomputable def Ey (P : Program) (call : nu) (ok : Nat → Bool) (hint : List (Nat × Nat × Nat)) (big : List Nat) (n : Nat) : Code → ASt → Option (Exit × ASt) :=
 Nat.rec (motive := fun _ => Code → ASt → Option (Exit × ASt)) (fun _ _ => none) (fun _ ih => GZ P call ok hint big ih) n
theorem G7 (P : Program) (call : nu) (ok : Nat → Bool) (hint : List (Nat × Nat × Nat)) (big : List Nat) (c : Code) (s : ASt) : Ey P call ok hint big 0 c s = none := rfl
theorem Gx (P : Program) (call : nu) (ok : Nat → Bool) (hint : List (Nat × Nat × Nat)) (big : List Nat) (n : Nat) (c : Code) (s : ASt) : Ey P call ok hint big (n + 1) c s = GZ P call ok hint big (Ey P call ok hint big n) c s := rfl
theorem KS {P : Program} {call : nu} {ok : Nat → Bool} {hint : List (Nat × Nat × Nat)} {big : List Nat} (hm : P.follows .mixedOrders = true) (hc : ∀ f args H r, call f args H = some r → ak P f args H r.1 r.2) (hok : ∀ f, ok f = true → aM P f = true) :
  ∀ (n : Nat) (c : Code) (s : ASt) (e : Exit) (s' : ASt) (Q : Exit → ASt → Prop), Ey P call ok hint big n c s = some (e, s') → Q e s' → eB P c Q s := by
 intro n
 induction n using Nat.strongRecOn with
 | _ n ih =>
  intro c s e s' Q h hQ
  cases n with
  | zero => rw [G7] at h; cases h
  | succ n =>
   have ih1 := ih n (Nat.lt_succ_self n)
   rw [Gx] at h
   have h0 := h
   unfold GZ at h
   rw [Nz] at h
   split at h
   ·cases h; exact .skip hQ
   ·cases h; exact .ret hQ
   ·cases h; exact .exit hQ
   ·rename_i x y
    split at h
    ·rename_i s1 hx
     exact .seq (ih1 _ _ _ _ _ hx (ih1 _ _ _ _ _ h hQ))
    ·rename_i hne
     refine .seq (ih1 _ _ _ _ _ h ?_)
     cases e with
     | normal => exact (hne _ h).elim
     | exit id => exact hQ
     | goto l => exact hQ
     | ret => exact hQ
     | panic c => exact hQ
     | outgrown => exact hQ
   ·rename_i cd x y
    split at h
    ·rename_i hb
     exact .cond hb (fun _ => ih1 _ _ _ _ _ h hQ) (fun e => by cases e)
    ·rename_i hb
     exact .cond hb (fun e => by cases e) (fun _ => ih1 _ _ _ _ _ h hQ)
    ·cases h
   ·rename_i id c
    split at h
    ·rename_i id' s1 hx
     refine .block (ih1 _ _ _ _ _ hx ?_)
     simp only [yB]
     cases hb : Nat.beq id' id with
     | true =>
      rw [hb] at h; cases h
      rw [if_pos (Nat.eq_of_beq_eq_true hb)]; exact hQ
     | false =>
      rw [hb] at h; cases h
      rw [if_neg (fun e => by rw [e, Nat.beq_refl id] at hb; cases hb)]; exact hQ
    ·rename_i hne
     refine .block (ih1 _ _ _ _ _ h ?_)
     cases e with
     | exit id => exact (hne _ _ h).elim
     | normal => exact hQ
     | goto l => exact hQ
     | ret => exact hQ
     | panic c => exact hQ
     | outgrown => exact hQ
   ·rename_i c
    refine eB.loop (fun m s => m ≤ n + 1 ∧ Ey P call ok hint big m (.loop c) s = some (e, s')) (n := n + 1) ⟨Nat.le_refl _, h0⟩ ?_
    rintro m s ⟨hle, hr⟩
    cases m with
    | zero => rw [G7] at hr; cases hr
    | succ m =>
     have ih2 := ih m (by omega)
     rw [Gx] at hr
     unfold GZ at hr
     dsimp only at hr
     split at hr
     ·rename_i s1 hx
      exact ih2 _ _ _ _ _ hx ⟨m, Nat.lt_succ_self m, by omega, hr⟩
     ·rename_i hne
      refine ih2 _ _ _ _ _ hr ?_
      cases e with
      | normal => exact (hne _ hr).elim
      | exit id => exact hQ
      | goto l => exact hQ
      | ret => exact hQ
      | panic c => exact hQ
      | outgrown => exact hQ
   ·rename_i id ops draw
    rw [UK] at h
    generalize need big ops.toList = m at h
    split at h
    ·rename_i es s1 hx
     cases hb : (!draw || sJ ops.toList es) with
     | false => rw [hb] at h; cases h
     | true =>
      rw [hb] at h
      simp only [cond_true, Option.some.injEq, Prod.mk.injEq] at h
      obtain ⟨rfl, hs1⟩ := h
      have key : ∀ Q' : Exit → ASt → Prop, Q' .normal s1 → eB P (.region id ops draw) Q' s := fun Q' hQ' => by
       have eops : ops = ops.toList.toArray := by simp
       rw [eops] at hx ⊢
       simp only [List.toList_toArray] at hx
       cases draw with
       | true => exact eB.Yd m hm (ND hc hok _ _ _ (s.reserve m) _ _ hx ⟨by simpa using hb, hQ'⟩)
       | false =>
        have := ND (K := fun _ s' => Q' .normal s') hc hok _ _ _ (s.reserve m) _ _ hx hQ'
        obtain ⟨es', s2, g1, g2⟩ := E9 _ _ _ _ _ this
        exact eB.region m g1.steps g2
      cases hm0 : Nat.beq m 0 with
      | true => rw [hm0] at hs1; simp only [cond_true] at hs1; subst hs1; exact key Q hQ
      | false =>
       rw [hm0] at hs1; simp only [cond_false] at hs1; subst hs1
       exact eB.tidy hint s.heap.length (key _ hQ)
    ·cases h
   ·cases h
def Gd (P : Program) (rs : List ResultVar) (m : Nat) (s : ASt) : Option (AV × List AObj) :=
 match sV P s rs with
 | none => none
 | some xs =>
  let v := zo false xs
  let L := reach s.heap 2000 (refs v ++ (List.range m).flatMap fun l => yP (obj? s.heap l)) (List.range m)
  bif Ac L && ((List.range m).all (fun i => match L[i]? with | some l => Nat.beq l i | none => false) && (L.all (fun l => Nat.blt l s.heap.length) && ((refs v).all (has L) && L.all (fun l => (yP (obj? s.heap l)).all (has L)))))
  then some (ren (posOf L) v, L.map fun l => bC (posOf L) (obj? s.heap l)) else none
theorem Jb {P : Program} {rs : List ResultVar} {H : List AObj} {s : ASt} {res : AV} {H' : List AObj} (h : Gd P rs H.length s = some (res, H')) : ∃ L, CZ P rs false L H res H' s := by
 unfold Gd at h
 split at h
 ·cases h
 ·rename_i xs hxs
  dsimp only at h
  generalize reach s.heap 2000 (refs (zo false xs) ++ (List.range H.length).flatMap fun l => yP (obj? s.heap l)) (List.range H.length) = L at h
  cases hb : (Ac L && ((List.range H.length).all (fun i => match L[i]? with | some l => Nat.beq l i | none => false) && (L.all (fun l => Nat.blt l s.heap.length) && ((refs (zo false xs)).all (has L) && L.all (fun l => (yP (obj? s.heap l)).all (has L)))))) with
  | false => rw [hb] at h; cases h
  | true =>
   rw [hb] at h
   simp only [cond_true, Option.some.injEq, Prod.mk.injEq] at h
   obtain ⟨rfl, rfl⟩ := h
   simp only [Bool.and_eq_true, List.all_eq_true, List.mem_range] at hb
   obtain ⟨h1, h2, h3, h4, h5⟩ := hb
   have hL : ∀ i, i < H.length → L[i]? = some i := fun i hi => by
    have := h2 i hi
    split at this
    ·rename_i l hl; rw [hl, Nat.eq_of_beq_eq_true this]
    ·cases this
   have hnm : ∀ l, l ∈ L → nm L s.heap.length (posOf L l) = l := fun l hl => by simp only [nm, CU hl, Option.getD_some]
   refine ⟨L, xs, hxs, ?_, DK h1, by simp, ?_, hL, fun l hl => ?_, fun i l hi => ?_⟩
   ·rw [F4 _ fun x hx => hnm x (zQ (h4 x hx))]
   ·cases hn : H.length with
    | zero => exact Nat.zero_le _
    | succ n => have := (List.getElem?_eq_some_iff.1 (hL n (by omega))).1; omega
   ·exact Nat.le_of_ble_eq_true (h3 l hl)
   ·have e : obj? (L.map fun l => bC (posOf L) (obj? s.heap l)) i = bC (posOf L) (obj? s.heap l) := by
     simp only [obj?, List.getElem?_map, hi, Option.map_some, Option.getD_some]
    rw [e, Ja _ fun x hx => hnm x (zQ (h5 l (List.mem_of_getElem? hi) x hx))]
noncomputable def Ht (P : Program) (E : nu) (ok : Nat → Bool) (hint : List (Nat × Nat × Nat)) (big : List Nat) : Nat → nu
 | 0, _, _, _ => none
 | n + 1, f, args, H => match E f args H with
  | some r => some r
  | none => match P.funcs[f]? with
   | none => none
   | some fn => match fn.body with
    | none => none
    | some c => bif Nat.ble args.length fn.ntmps then (match Ey P (Ht P E ok hint big n) ok hint big 100000 c ⟨args ++ List.replicate (fn.ntmps - args.length) (.tup []), H⟩ with
     | some (.ret, s) => Gd P fn.results.toList H.length s
     | some (.normal, s) => Gd P fn.results.toList H.length s
     | _ => none) else none
theorem RU {P : Program} {E : nu} {ok : Nat → Bool} {hint : List (Nat × Nat × Nat)} {big : List Nat} (hm : P.follows .mixedOrders = true) (hE : ∀ f args H r, E f args H = some r → ak P f args H r.1 r.2) (hok : ∀ f, ok f = true → aM P f = true) :
  ∀ (n f : Nat) (args : List AV) (H : List AObj) (r : AV × List AObj), Ht P E ok hint big n f args H = some r → ak P f args H r.1 r.2 := by
 intro n
 induction n with
 | zero => intro f args H r h; simp [Ht] at h
 | succ n ih =>
  intro f args H r h
  unfold Ht at h
  split at h
  ·rename_i r' hr
   cases h; exact hE _ _ _ _ hr
  ·split at h
   ·cases h
   ·rename_i fn hf
    split at h
    ·cases h
    ·rename_i c hb
     cases hl : Nat.ble args.length fn.ntmps with
     | false => rw [hl] at h; cases h
     | true =>
      rw [hl] at h
      simp only [cond_true] at h
      split at h
      ·rename_i s hx
       obtain ⟨L, hL⟩ := Jb h
       exact E5 false L hf hb (Nat.le_of_ble_eq_true hl) (KS hm ih hok _ _ _ _ _ _ hx hL)
      ·rename_i s hx
       obtain ⟨L, hL⟩ := Jb h
       exact E5 false L hf hb (Nat.le_of_ble_eq_true hl) (KS hm ih hok _ _ _ _ _ _ hx hL)
      ·cases h
end Abs
end Go.Proofs.YtiiaccpcoclklaaGreat

/-
  Laws for walks that go along with a plain function: starts, ends, calls, loops, elements, appends. Conditions: none; lemmas over any program.
-/
import Derived.Test.YtiiaccpcoclklaaGreatProg
import Derived.KernelRfl
import Derived.Shelf.SlGeneric
import Derived.Shelf.SlIter.Nil
import Derived.Shelf.SortM.Plain
import Derived.Shelf.SortM.SortNone
import Derived.Ground.GgzProg
import Derived.Ground.SlgmProg
import Derived.Test.YtiiaccpcoclklaaGreatCAbs23xf1c8fe
import Derived.Test.YtiiaccpcoclklaaGreatCAbs31x1d7b21
set_option linter.unusedSimpArgs false
set_option linter.unusedVariables false
namespace Go.Proofs.YtiiaccpcoclklaaGreat
namespace Abs
open Go
theorem ob {α β : Type} {x : Option α} {k : α → Option β} {r : β} (h : x.bind k = some r) : ∃ a, x = some a ∧ k a = some r := by
 cases x with
 | none => cases h
 | some a => exact ⟨a, rfl, h⟩
inductive LR (σ ρ : Type) where
 | nx (s : σ)
 | rt (r : ρ)
def LR.on {σ ρ : Type} (k : σ → Option ρ) : LR σ ρ → Option ρ
 | .nx s => k s
 | .rt r => some r
@[reducible] def LR.el {σ ρ β : Type} (k : σ → β) (j : ρ → β) : LR σ ρ → β
 | .nx s => k s
 | .rt r => j r
def idx {α : Type} (l : List α) (i : Int) : Option α := if 0 ≤ i then l[i.toNat]? else none
def app {α : Type} (b : Nat) (l ys : List α) : Option (List α) := if (l.length + ys.length) * b ≤ 140737488355328 ∧ l.length + ys.length ≤ 140737488355328 then some (l ++ ys) else none
def vE (s : List UInt8) (i : Int) : Option Int := if 0 ≤ i ∧ i < s.length then some ((s.getD i.toNat 0).toNat : Int) else none
def scat (a b : List UInt8) : Option (List UInt8) := if a.length + b.length ≤ 9223372036854775807 then some (a ++ b) else none
def ny {α : Type} (s : List α) (lo hi : Int) : Option (List α) := if 0 ≤ lo ∧ lo ≤ hi ∧ hi ≤ s.length then some ((s.drop lo.toNat).take (hi.toNat - lo.toNat)) else none
theorem bI {n : Int} (h1 : -9223372036854775808 ≤ n) (h2 : n ≤ 9223372036854775807) : n = IntKind.wrap .i64 n := by
 simp only [IntKind.wrap, IntKind.signed, IntKind.bits]; simp; omega
theorem dK {n : Int} (h : VF (.int .i64 n)) : -9223372036854775808 ≤ n ∧ n ≤ 9223372036854775807 := h
theorem fU {α : Type} {f : α → List AV} {l : List α} {t : Tag} (h : VF (.slice (l.map f) t)) : (l.length : Int) ≤ 9223372036854775807 := by
 have : (l.map f).length ≤ 9223372036854775807 := h
 rw [List.length_map] at this; omega
theorem vfs {s : List UInt8} (h : VF (.str s)) : (s.length : Int) ≤ 9223372036854775807 := by
 have : s.length ≤ 9223372036854775807 := h
 omega
theorem aG {α : Type} {c : Bool} {X Y : Option α} {r : α} {A B : Prop} (h : _root_.cond c X Y = some r) (h1 : c = true → X = some r → A) (h2 : c = false → Y = some r → B) : iG c A B := by
 cases c
 ·exact h2 rfl h
 ·exact h1 rfl h
theorem AW.aB {α : Type} {P : Program} {m : Nat} {c : Operand} {x y : Code} {Q : QT} {t : List AV} {h : List AObj} {b : Bool} {X Y : Option α} {r : α} (hc : iw t c = .bool b) (hh : _root_.cond b X Y = some r)
  (h1 : b = true → X = some r → AW P m x Q t h) (h2 : b = false → Y = some r → AW P m y Q t h) : AW P m (.cond c x y) Q t h :=
 AW.cond hc (fun e => h1 e (by subst e; exact hh)) (fun e => h2 e (by subst e; exact hh))
theorem aI {α : Type} {l : List α} {f : α → List AV} {x : α} {i : Int} {sz : Nat} {B : List AV → Prop} {cs : List AV} (hx : idx l i = some x) (hc : f x = cs) (hz : cs.length = sz) (hk : B cs) : ∃ c, (l.map f)[i.toNat]? = some c ∧ 0 ≤ i ∧ c.length = sz ∧ B c := by
 unfold idx at hx
 split at hx
 ·rename_i h0
  exact ⟨cs, by rw [List.getElem?_map, hx, ← hc]; rfl, h0, hz, hk⟩
 ·cases hx
theorem bB {α : Type} {l : List α} {f : α → List AV} {K : Int → Prop} (h : K l.length) : ∃ n, n = ((l.map f).length : Int) ∧ K n := ⟨l.length, by rw [List.length_map], h⟩
theorem z8 {s : List UInt8} {i x : Int} {B : Int → Prop} (hx : vE s i = some x) (hk : B x) : ∃ x : Int, (0 ≤ i ∧ i < s.length) ∧ x = (s.getD i.toNat 0).toNat ∧ B x := by
 unfold vE at hx
 split at hx
 ·rename_i h0; cases hx; exact ⟨_, h0, rfl, hk⟩
 ·cases hx
theorem cat_of {a b x : List UInt8} {B : List UInt8 → Prop} (hx : scat a b = some x) (hk : B x) : ∃ r, a.length + b.length ≤ 9223372036854775807 ∧ r = a ++ b ∧ B r := by
 unfold scat at hx
 split at hx
 ·rename_i h0; cases hx; exact ⟨_, h0, rfl, hk⟩
 ·cases hx
inductive Bd : Option AV → Int → Int → Prop where
 | none (d : Int) : Bd none d d
 | int (k : IntKind) (n d : Int) : Bd (some (.int k n)) n d
theorem Pe {s x : List UInt8} {lo hi : Option AV} {a b : Int} {B : List UInt8 → Prop} (hx : ny s a b = some x) (ha : Bd lo a 0) (hb : Bd hi b s.length) (hk : B x) : ∃ r, (∃ l h, eY hi s.length s.length = some h ∧ eY lo 0 h = some l ∧ r = (s.drop l).take (h - l)) ∧ B r := by
 unfold ny at hx
 split at hx
 ·rename_i h0
  obtain ⟨h1, h2, h3⟩ := h0
  cases hx
  refine ⟨_, ⟨a.toNat, b.toNat, ?_, ?_, rfl⟩, hk⟩
  ·cases hb with
   | none => simp [eY]
   | int k n => simp [eY]; omega
  ·cases ha with
   | none => simp [eY]
   | int k n => simp [eY]; omega
 ·cases hx
theorem ajz {α : Type} {l x : List α} {f : α → List AV} {sz : Nat} {lo hi : Option AV} {a b : Int} {B : List (List AV) → Prop} (hx : ny l a b = some x) (ha : Bd lo a 0) (hb : Bd hi b l.length) (hf : ∀ x, dW sz (f x) = true) (hk : B (x.map f)) :
  ∃ r, (∃ i h, eY hi (l.map f).length (l.map f).length = some h ∧ eY lo 0 h = some i ∧ (i < (l.map f).length → ((l.map f).getD i []).length = sz) ∧ r = ((l.map f).drop i).take (h - i)) ∧ B r := by
 unfold ny at hx
 split at hx
 ·rename_i h0
  obtain ⟨h1, h2, h3⟩ := h0
  cases hx
  refine ⟨_, ⟨a.toNat, b.toNat, ?_, ?_, ?_, ?_⟩, hk⟩
  ·cases hb with
   | none => simp [eY]
   | int k n => simp [eY]; omega
  ·cases ha with
   | none => simp [eY]
   | int k n => simp [eY]; omega
  ·intro hi
   rw [List.length_map] at hi
   have := hf l[a.toNat]
   simp only [dW, Bool.and_eq_true, beq_iff_eq] at this
   simp only [List.getD, List.getElem?_map, List.getElem?_eq_getElem hi, Option.map_some, Option.getD_some]
   exact this.1
  ·rw [List.map_take, List.map_drop]
 ·cases hx
theorem adC {α : Type} {l ys r : List α} {b : Nat} (h : app b l ys = some r) : (l.length + ys.length) * b ≤ 140737488355328 ∧ l.length + ys.length ≤ 140737488355328 ∧ r = l ++ ys := by
 unfold app at h
 split at h
 ·rename_i h0; cases h; exact ⟨h0.1, h0.2, rfl⟩
 ·cases h
theorem WH {α : Type} {f : α → List AV} {sz : Nat} (hf : ∀ x, dW sz (f x) = true) (l : List α) : (l.map f).all (dW sz) = true := by
 simp [List.all_eq_true, hf]
theorem gN {α : Type} {l ys r : List α} {f : α → List AV} {b sz n : Nat} {es es' : List (List AV)} {K : List (List AV) → Nat → Prop} (h : app b l ys = some r) (hf : ∀ x, dW sz (f x) = true) (he : es = l.map f) (he' : es' = ys.map f) (hn : n = l.length * sz)
  (hK : K (r.map f) (r.length * sz)) : ai1 n es es' sz b (EsK (es ++ es') fun r => ∃ n, n = (es ++ es').length * sz ∧ K r n) := by
 obtain ⟨h1, h2, rfl⟩ := adC h
 subst he; subst he'
 refine ⟨⟨by rw [List.length_map]; exact hn, by simp only [List.length_map]; exact h1, by simp only [List.length_map]; exact h2, WH hf _, WH hf _⟩, (l ++ ys).map f, by simp, (l ++ ys).length * sz, by simp, hK⟩
abbrev u2 (l : List AV) : List AV := .unk :: .unk :: l
abbrev u4 (l : List AV) : List AV := u2 (u2 l)
abbrev u8 (l : List AV) : List AV := u4 (u4 l)
abbrev u16 (l : List AV) : List AV := u8 (u8 l)
abbrev u32 (l : List AV) : List AV := u16 (u16 l)
abbrev u64 (l : List AV) : List AV := u32 (u32 l)
section
variable {h : List AObj} {L : List (Option Nat)} {xs ys : List AV}
theorem VWs.u2 {a b : AV} (hv : VWs h L xs ys) : VWs h L (Abs.u2 xs) (a :: b :: ys) := .cons (.unk _) (.cons (.unk _) hv)
theorem VWs.u4 {a0 a1 a2 a3 : AV} (hv : VWs h L xs ys) : VWs h L (Abs.u4 xs) (a0 :: a1 :: a2 :: a3 :: ys) := .u2 (.u2 hv)
theorem VWs.u8 {a0 a1 a2 a3 a4 a5 a6 a7 : AV} (hv : VWs h L xs ys) : VWs h L (Abs.u8 xs) (a0 :: a1 :: a2 :: a3 :: a4 :: a5 :: a6 :: a7 :: ys) := .u4 (.u4 hv)
theorem VWs.u16 {a0 a1 a2 a3 a4 a5 a6 a7 a8 a9 a10 a11 a12 a13 a14 a15 : AV} (hv : VWs h L xs ys) : VWs h L (Abs.u16 xs) (a0 :: a1 :: a2 :: a3 :: a4 :: a5 :: a6 :: a7 :: a8 :: a9 :: a10 :: a11 :: a12 :: a13 :: a14 :: a15 :: ys) := .u8 (.u8 hv)
theorem VWs.u32 {a0 a1 a2 a3 a4 a5 a6 a7 a8 a9 a10 a11 a12 a13 a14 a15 a16 a17 a18 a19 a20 a21 a22 a23 a24 a25 a26 a27 a28 a29 a30 a31 : AV} (hv : VWs h L xs ys) : VWs h L (Abs.u32 xs) (a0 :: a1 :: a2 :: a3 :: a4 :: a5 :: a6 :: a7 :: a8 :: a9 :: a10 :: a11 :: a12 :: a13 :: a14 :: a15 :: a16 :: a17 :: a18 :: a19 :: a20 :: a21 :: a22 :: a23 :: a24 :: a25 :: a26 :: a27 :: a28 :: a29 :: a30 :: a31 :: ys) := .u16 (.u16 hv)
theorem VWs.u64 {a0 a1 a2 a3 a4 a5 a6 a7 a8 a9 a10 a11 a12 a13 a14 a15 a16 a17 a18 a19 a20 a21 a22 a23 a24 a25 a26 a27 a28 a29 a30 a31 a32 a33 a34 a35 a36 a37 a38 a39 a40 a41 a42 a43 a44 a45 a46 a47 a48 a49 a50 a51 a52 a53 a54 a55 a56 a57 a58 a59 a60 a61 a62 a63 : AV} (hv : VWs h L xs ys) : VWs h L (Abs.u64 xs) (a0 :: a1 :: a2 :: a3 :: a4 :: a5 :: a6 :: a7 :: a8 :: a9 :: a10 :: a11 :: a12 :: a13 :: a14 :: a15 :: a16 :: a17 :: a18 :: a19 :: a20 :: a21 :: a22 :: a23 :: a24 :: a25 :: a26 :: a27 :: a28 :: a29 :: a30 :: a31 :: a32 :: a33 :: a34 :: a35 :: a36 :: a37 :: a38 :: a39 :: a40 :: a41 :: a42 :: a43 :: a44 :: a45 :: a46 :: a47 :: a48 :: a49 :: a50 :: a51 :: a52 :: a53 :: a54 :: a55 :: a56 :: a57 :: a58 :: a59 :: a60 :: a61 :: a62 :: a63 :: ys) := .u32 (.u32 hv)
end
theorem ah {P : Program} {f : Nat} {fn : Func} {c : Code} {args : List AV} {H H' : List AObj} {res : AV} (wk : Bool) (hf : P.funcs[f]? = some fn) (hb : fn.body = some c) (hlen : args.length ≤ fn.ntmps)
  (h : ∀ Q : QT, (∀ e t h, aml P fn.results.toList wk H res H' e t h → Q e t h) → ∀ t, af8 fn.ntmps args (fun u => t = u) → AW P H.length c Q t H) : aA P f args H res H' := by
 refine agB wk hf hb hlen ?_
 exact h _ (fun _ _ _ h => h) _ (by unfold af8; rw [Gb])
theorem aj {P : Program} {τ : Nat → TI} {rs : List ResultVar} {wk : Bool} {res : AV} {t : List AV} {h : List AObj} (hτ : τ = TI.of P) (hr : ∀ g, ren g res = res) (hq : resT τ t h rs fun xs => Q8 (H7 wk xs) fun v => Ends v res) : abE P rs wk [] res [] t h := by
 subst hτ
 obtain ⟨xs, h1, h2⟩ := Vg _ _ hq
 rw [Jv] at h2
 exact .inl ⟨[], xs, h1, by rw [hr]; exact h2, by simp, rfl, by simp, fun i hi => (by cases hi), fun l hl => (by cases hl), fun i l hi => by simp at hi⟩
inductive RetOs (g : Nat → Nat) (h : List AObj) : List Nat → List AObj → Prop where
 | nil : RetOs g h [] []
 | cons {l : Nat} {o : AObj} {ls : List Nat} {os : List AObj} : cK g o = obj? h l → RetOs g h ls os → RetOs g h (l :: ls) (o :: os)
theorem RetOs.len {g : Nat → Nat} {h : List AObj} {ls : List Nat} {os : List AObj} (hv : RetOs g h ls os) : os.length = ls.length := by
 induction hv with
 | nil => rfl
 | cons _ _ ih => simp [ih]
theorem RetOs.get {g : Nat → Nat} {h : List AObj} {ls : List Nat} {os : List AObj} (hv : RetOs g h ls os) : ∀ i l, ls[i]? = some l → obj? h l = cK g (obj? os i) := by
 induction hv with
 | nil => intro i l hi; simp at hi
 | cons h1 _ ih => intro i l hi; cases i with
  | zero => simp at hi; subst hi; exact h1.symm
  | succ i => exact ih i l (by simpa using hi)
def ajr (n m : Nat) (L : List Nat) : Bool := decide L.Nodup && decide (n ≤ L.length) && (List.range n).all (fun i => L[i]? == some i) && L.all (fun l => decide (l < m))
theorem bG {P : Program} {τ : Nat → TI} {rs : List ResultVar} {wk : Bool} {H H' : List AObj} {res : AV} {t : List AV} {h : List AObj} (hτ : τ = TI.of P) (L : List Nat) (hL : ajr H.length h.length L = true) (hO : RetOs (nm L h.length) h L H')
  (hq : resT τ t h rs fun xs => Q8 (H7 wk xs) fun v => Ends v (ren (nm L h.length) res)) : ∃ L, Mv P rs wk L H res H' ⟨t, h⟩ := by
 subst hτ
 obtain ⟨xs, h1, h2⟩ := Vg _ _ hq
 rw [Jv] at h2
 simp only [ajr, Bool.and_eq_true, List.all_eq_true, decide_eq_true_eq] at hL
 obtain ⟨⟨⟨q1, q2⟩, q3⟩, q4⟩ := hL
 exact ⟨L, xs, h1, h2, q1, hO.len, q2, fun i hi => by simpa using q3 i (by simpa using hi), q4, hO.get⟩
theorem dz {P : Program} {rs : List ResultVar} {wk : Bool} {H H' : List AObj} {res : AV} {t : List AV} {h : List AObj} (t' : List AV) (h' : List AObj) (hw : Le H.length t h t' h') (hq : ∃ L, Mv P rs wk L H res H' ⟨t', h'⟩) : abE P rs wk H res H' t h := .inr ⟨t', h', hw, hq⟩
theorem aA.args {P : Program} {f : Nat} {args args' : List AV} {H H' : List AObj} {res : AV} (hc : aA P f args H res H') (hs : SWs args' args) : aA P f args' H res H' :=
 fun κ bq w vs hen hl hr => hc κ bq w vs hen (hl.trans hs.len) fun j hj => (hs.get j).rel (hr j (by rw [hs.len]; exact hj))
inductive PassO (g : Nat → Nat) (h : List AObj) : List Nat → List AObj → Prop where
 | nil : PassO g h [] []
 | cons {l : Nat} {o : AObj} {ls : List Nat} {os : List AObj} : cK g o = obj? h l → PassO g h ls os → PassO g h (l :: ls) (o :: os)
theorem PassO.len {g : Nat → Nat} {h : List AObj} {ls : List Nat} {os : List AObj} (hv : PassO g h ls os) : os.length = ls.length := by
 induction hv with
 | nil => rfl
 | cons _ _ ih => simp [ih]
theorem PassO.get {g : Nat → Nat} {h : List AObj} {ls : List Nat} {os : List AObj} (hv : PassO g h ls os) : ∀ i l, ls[i]? = some l → obj? h l = cK g (obj? os i) := by
 induction hv with
 | nil => intro i l hi; simp at hi
 | cons h1 _ ih => intro i l hi; cases i with
  | zero => simp at hi; subst hi; exact h1.symm
  | succ i => exact ih i l (by simpa using hi)
def ag2 (h : List AObj) (ρ ks : List Nat) (n : Nat) : Bool := decide (ρ ++ ks).Nodup && ρ.all (fun l => decide (l < h.length)) && ks.all (fun l => dY (obj? h l)) && decide (n = (ρ ++ ks).length)
def Kt (g : Nat → Nat) : List AObj → List AObj
 | [] => []
 | o :: os => cK g o :: Kt g os
theorem ZJ (g : Nat → Nat) : ∀ os, Kt g os = os.map (cK g)
 | [] => rfl
 | o :: os => by simp [Kt, ZJ g os]
theorem bK {g : Nat → Nat} {o o' : AObj} {os os' : List AObj} (h1 : cK g o = o') (h2 : Kt g os = os') : Kt g (o :: os) = o' :: os' := by simp only [Kt, h1, h2]
theorem bU {P : Program} {f : Nat} {args : List AV} {dst : Option Tmp} {t : List AV} {h : List AObj} {k : Nat} {K : Nat → List Nat → List Wr → Prop} (ρ ks : List Nat) (aargs an : List AV) {H H' : List AObj} {res rn : AV} {Hn : List AObj}
  (hc : aA P f aargs H res H') (hok : au P f = true) (hp : ag2 h ρ ks H'.length = true) (hO : PassO (nm (ρ ++ ks) h.length) h ρ H) (ha : bR (nm (ρ ++ ks) h.length) aargs = an) (hs : SWs args an)
  (hr : ren (nm (ρ ++ ks) h.length) res = rn) (hH : Kt (nm (ρ ++ ks) h.length) H' = Hn) (hK : K (k + ks.length) (ρ ++ ks) (tN (ρ ++ ks) Hn ++ aS dst rn)) : ACallU P f args dst t h k K := by
 simp only [ag2, Bool.and_eq_true, List.all_eq_true, decide_eq_true_eq] at hp
 obtain ⟨⟨⟨q1, q2⟩, q3⟩, q4⟩ := hp
 refine ⟨⟨hok, ρ, ks, aargs, H, res, H', ⟨q1, hO.len, q2, q3, hO.get⟩, q4, by rw [← zJ, ha]; exact hs, hc, ?_⟩⟩
 rw [hr, ← ZJ, hH]; exact hK
theorem ak {P : Program} {f : Nat} {args : List AV} {dst : Option Tmp} {t : List AV} {h : List AObj} {k : Nat} {K : Nat → List Nat → List Wr → Prop} {aargs : List AV} {res : AV}
  (hc : aA P f aargs [] res []) (hok : au P f = true) (hs : SWs args aargs) (ha : ∀ g, bR g aargs = aargs) (hr : ∀ g, ren g res = res) (hK : K k [] (aS dst res)) : ACallU P f args dst t h k K := by
 refine ⟨⟨hok, [], [], aargs, [], res, [], ⟨by simp, rfl, fun l hl => (by cases hl), fun l hl => (by cases hl), fun i l hi => by simp at hi⟩, rfl, by rw [← zJ, ha]; exact hs, hc, ?_⟩⟩
 simp only [List.append_nil, List.length_nil, Nat.add_zero, List.map_nil, tN, List.nil_append, hr]
 exact hK
theorem AW.loopS {σ ρ : Type} {P : Program} {m : Nat} {c : Code} {Q : QT} {t : List AV} {h : List AObj} (L : Nat → σ → Option ρ) (tT : σ → List AV) (tH : σ → List AObj) {out : ρ} {n : Nat} {s0 : σ} (h0 : L n s0 = some out) (hz : ∀ s, L 0 s = none)
  (hw0 : Le m t h (tT s0) (tH s0))
  (round : ∀ n s, L (n + 1) s = some out → ∀ K : List AV → List AObj → Prop, (∀ t' h' s', L n s' = some out → Le m t' h' (tT s') (tH s') → K t' h') → AW P m c (Nb K Q) (tT s) (tH s)) : AW P m (.loop c) Q t h := by
 refine AW.loop (fun n t h => ∃ s, L n s = some out ∧ Le m t h (tT s) (tH s)) (n := n) ⟨s0, h0, hw0⟩ ?_
 rintro n t h ⟨s, hs, hw⟩
 refine AW.le hw ?_
 cases n with
 | zero => rw [hz] at hs; cases hs
 | succ n => exact round n s hs _ fun t' h' s' g1 g2 => ⟨n, by omega, s', g1, g2⟩
end Abs
end Go.Proofs.YtiiaccpcoclklaaGreat
namespace Go.Proofs.YtiiaccpcoclklaaGreat
namespace Abs
open Go
structure Carrier where
 name : Str
 elems : List Str
structure Decl where
 name : Str
 ty : Ty
structure Env where
 carriers : List Carrier
 names : List Decl
def encI (n : Int) : List AV := [.int .i64 n]
def encS (s : Str) : List AV := [.str s]
def Pg (n : Int) : List AV := [.int .u8 n]
def toByte (n : Int) : UInt8 := UInt8.ofNat n.toNat
theorem bytesA_map : ∀ l : List Int, zh (l.map Pg) = some (l.map toByte)
 | [] => rfl
 | n :: l => by simp only [List.map_cons, zh, Pg]; rw [bytesA_map l]; rfl
theorem bytes_of {l : List Int} {B : List UInt8 → Prop} (h : B (l.map toByte)) : ∃ bs, zh (l.map Pg) = some bs ∧ B bs := ⟨_, bytesA_map l, h⟩
def bQ (x : Carrier) : List AV := [.str x.name, .slice (x.elems.map encS) .shared]
def bD (x : Decl) : List AV := [.str x.name, .int .i64 x.ty.kind, .str x.ty.name, .slice (x.ty.kids.map aF) .shared]
theorem zY {α : Type} {f : α → List AV} (hf : ∀ g x, bR g (f x) = f x) (g : Nat → Nat) (l : List α) : bE g (l.map f) = l.map f := by
 rw [Gi, List.map_map]
 exact List.map_congr_left fun x _ => hf g x
theorem aQ (g : Nat → Nat) (l : List Int) : bE g (l.map encI) = l.map encI := zY (fun _ _ => rfl) g l
theorem bT (g : Nat → Nat) (l : List Int) : bE g (l.map Pg) = l.map Pg := zY (fun _ _ => rfl) g l
theorem bf (g : Nat → Nat) (l : List Str) : bE g (l.map encS) = l.map encS := zY (fun _ _ => rfl) g l
theorem aD (g : Nat → Nat) (l : List Ty) : bE g (l.map aF) = l.map aF := aeN g l
theorem aM (g : Nat → Nat) (l : List Tm) : bE g (l.map aO) = l.map aO := akP g l
theorem aK (g : Nat → Nat) (l : List Carrier) : bE g (l.map bQ) = l.map bQ := zY (fun g x => by simp only [bQ, bR, ren, dO, bf]) g l
theorem aN (g : Nat → Nat) (l : List Decl) : bE g (l.map bD) = l.map bD := zY (fun g x => by simp only [bD, bR, ren, dO, aD]) g l
theorem alO (g : Nat → Nat) (n : Int) : bR g (encI n) = encI n := rfl
theorem alu (g : Nat → Nat) (n : Str) : bR g (encS n) = encS n := rfl
theorem akq (g : Nat → Nat) (n : Int) : bR g (Pg n) = Pg n := rfl
theorem aa0 (g : Nat → Nat) (x : Carrier) : bR g (bQ x) = bQ x := by simp only [bQ, bR, ren, dO, bf]
theorem agx (g : Nat → Nat) (x : Decl) : bR g (bD x) = bD x := by simp only [bD, bR, ren, dO, aD]
theorem aeT (n : Int) : dW 1 (encI n) = true := rfl
theorem zW (n : Str) : dW 1 (encS n) = true := rfl
theorem aaJ (n : Ty) : dW 3 (aF n) = true := by rw [aL]; rfl
theorem aaC (n : Tm) : dW 7 (aO n) = true := by rw [aR]; rfl
def eP {α : Type} (m : List (Str × α)) (k : Str) : Option α := (m.find? fun p => p.1 == k).map (·.2)
def jN {α : Type} (m : List (Str × α)) (k : Str) (v : α) : List (Str × α) :=
 match m with
 | [] => [(k, v)]
 | p :: r => if p.1 == k then (k, v) :: r else p :: jN r k v
def xC {α : Type} (m : List (Str × α)) (k : Str) (v : α) : Option (List (Str × α)) := if m.length < 140737488355328 then some (jN m k v) else none
@[reducible] def Zb {α β : Type} (o : Option α) (Y : β) (X : α → β) : β := match o with | some v => X v | none => Y
theorem abz {α : Type} (f : α → AV) : ∀ (m : List (Str × α)) (k : Str), qK (m.map fun p => (p.1, f p.2)) k = (eP m k).map f
 | [], k => rfl
 | p :: m, k => by
  have ih := abz f m k
  unfold qK eP at *
  simp only [List.map_cons, List.find?_cons]
  cases h : (p.1 == k)
  ·exact ih
  ·rfl
theorem aeb {α : Type} (f : α → AV) : ∀ (m : List (Str × α)) (k : Str) (v : α), Aw (m.map fun p => (p.1, f p.2)) k (f v) = (jN m k v).map fun p => (p.1, f p.2)
 | [], k, v => rfl
 | p :: m, k, v => by
  simp only [List.map_cons, Aw, jN]
  split
  ·rfl
  ·rw [aeb f m k v]; rfl
theorem XA {α β : Type} {m : List (Str × α)} {k : Str} {f : α → AV} {A : AV → Prop} {B : Prop} {X : α → Option β} {Y : Option β} {r : β} (h : Zb (eP m k) Y X = some r)
  (h1 : ∀ x, eP m k = some x → X x = some r → A (f x)) (h2 : eP m k = none → Y = some r → B) : (∀ v, qK (m.map fun p => (p.1, f p.2)) k = some v → A v) ∧ (qK (m.map fun p => (p.1, f p.2)) k = none → B) := by
 rw [abz]
 cases hm : eP m k with
 | none => rw [hm] at h; exact ⟨fun v hv => (by cases hv), fun _ => h2 hm h⟩
 | some x => rw [hm] at h; exact ⟨fun v hv => (by cases hv; exact h1 x hm h), fun hv => (by cases hv)⟩
theorem Il {α : Type} {m r : List (Str × α)} {k : Str} {f : α → AV} {v : α} {u : AV} {B : List (List UInt8 × AV) → Prop} (h : xC m k v = some r) (hu : u = f v) (hB : B (r.map fun p => (p.1, f p.2))) :
  ∃ es, (m.map fun p => (p.1, f p.2)).length < 140737488355328 ∧ es = Aw (m.map fun p => (p.1, f p.2)) k u ∧ B es := by
 unfold xC at h
 split at h
 ·rename_i hl; cases h
  exact ⟨_, by rw [List.length_map]; exact hl, by rw [hu, aeb], hB⟩
 ·cases h
theorem dB {α : Type} {f : α → AV} (hf : ∀ g x, ren g (f x) = f x) (g : Nat → Nat) (m : List (Str × α)) : (m.map fun p => (p.1, f p.2)).map (fun p => (p.1, ren g p.2)) = m.map fun p => (p.1, f p.2) := by
 rw [List.map_map]
 exact List.map_congr_left fun p _ => by simp only [Function.comp, hf]
theorem bJ {α : Type} (l : List α) : l = l.take l.length := by simp
theorem XF {α : Type} {l l' ys r : List α} {f : α → List AV} {b sz : Nat} {K : List (List AV) → Nat → Prop} (h : app b l' ys = some r) (hp : l' = l.take l'.length) (hf : ∀ x, dW sz (f x) = true) (hK : K (r.map f) r.length) :
  (l'.length ≤ (l.map f).length ∧ (l'.length + (ys.map f).length) * b ≤ 140737488355328 ∧ l'.length + (ys.map f).length ≤ 140737488355328 ∧ ((l.map f).all (dW sz) = true) ∧ ((ys.map f).all (dW sz) = true)) ∧ ∃ r m, r = (l.map f).take l'.length ++ ys.map f ∧ m = r.length ∧ K r m := by
 obtain ⟨h1, h2, rfl⟩ := adC h
 have hle : l'.length ≤ l.length := by
  have := congrArg List.length hp
  rw [List.length_take] at this; omega
 refine ⟨⟨by simpa using hle, by simpa using h1, by simpa using h2, WH hf _, WH hf _⟩, (l' ++ ys).map f, (l' ++ ys).length, ?_, by simp, hK⟩
 rw [← List.map_take, ← hp, List.map_append]
theorem alh {α : Type} {l x : List α} {hi : Int} {k : IntKind} {B : Nat → Prop} (hx : ny l 0 hi = some x) (hB : B x.length) : ∃ m, eY (some (.int k hi)) l.length l.length = some m ∧ B m := by
 unfold ny at hx
 split at hx
 ·rename_i h0
  obtain ⟨_, h2, h3⟩ := h0
  cases hx
  refine ⟨_, ?_, hB⟩
  simp only [eY]
  rw [if_pos ⟨by omega, h3⟩]
  simp; omega
 ·cases hx
theorem aiz {α : Type} {l l' x : List α} {hi : Int} (hx : ny l' 0 hi = some x) (hp : l' = l.take l'.length) : x = l.take x.length := by
 unfold ny at hx
 split at hx
 ·rename_i h0
  cases hx
  have hle : l'.length ≤ l.length := by
   have := congrArg List.length hp
   rw [List.length_take] at this; omega
  simp only [Int.toNat_zero, List.drop_zero, Nat.sub_zero, List.length_take]
  rw [hp, List.take_take]
  simp only [List.length_take]
  congr 1; omega
 ·cases hx
theorem acs {α : Type} {f : α → List AV} {e e0 : List α} {g : Nat → Nat} (hr : ∀ g (l : List α), bE g (l.map f) = l.map f) (hp : e = e0.take e.length) : bE g (e.map f) = (e0.map f).take e.length := by
 rw [hr, ← List.map_take, ← hp]
theorem VW.Bw {α : Type} {f : α → List AV} {e e0 : List α} {h : List AObj} {L : List (Option Nat)} {l z : Nat} (hr : ∀ g (l : List α), bE g (l.map f) = l.map f) (hp : e = e0.take e.length) (ho : obj? h l = .arr z (e0.map f)) (hn : L.contains (some l) = false) : VW h L (.slice (e.map f) .shared) (.psl l z e.length) := by
 have hle : e.length ≤ e0.length := by
  have := congrArg List.length hp
  rw [List.length_take] at this; omega
 exact .frzP ho (fun hm => by simp [hm] at hn) (by simpa using hle) (acs hr hp)
theorem OW.arr' {α : Type} {f : α → List AV} {e e0 : List α} {h : List AObj} {L : List (Option Nat)} {z : Nat} (hr : ∀ g (l : List α), bE g (l.map f) = l.map f) (hp : e = e0.take e.length) : OW h L (.arr z (e.map f)) (.arr z (e0.map f)) := .arr (acs hr hp)
theorem bS {α : Type} {c : Bool} {X Y : Option α} {r : α} (h : cond c X Y = some r) : (c = true ∧ X = some r) ∨ (c = false ∧ Y = some r) := by
 cases c
 ·exact .inr ⟨rfl, h⟩
 ·exact .inl ⟨rfl, h⟩
theorem dJ {n q : Int} {len o sz : Nat} {B : Nat → Prop} (hc : (n == q) = true) (hq : 0 ≤ q ∧ q < (len : Int)) (hB : B (o + q.toNat * sz)) : ∃ m : Nat, (0 ≤ n ∧ n < (len : Int)) ∧ m = o + n.toNat * sz ∧ B m := by
 have e : n = q := by simpa using hc
 subst e
 exact ⟨_, hq, rfl, hB⟩
def unc {α : Type} : List α → Option (α × List α)
 | [] => none
 | x :: r => some (x, r)
theorem Yf {α : Type} {l : List α} {f : α → List AV} {x : α × List α} {cells : List AV} {B : List AV → Prop} (hx : unc l = some x) (hc : cells = f x.1 ++ [.flist (x.2.map f)]) (hB : B cells) : ∃ cs r cells, l.map f = cs :: r ∧ cells = cs ++ [AV.flist r] ∧ B cells := by
 cases l with
 | nil => cases hx
 | cons y r => cases hx; exact ⟨_, _, cells, rfl, hc, hB⟩
theorem alU {α : Type} {l : List α} {f : α → List AV} {B : Bool → Prop} (hB : B l.isEmpty) : ∃ b : Bool, b = (l.map f).isEmpty ∧ B b := ⟨l.isEmpty, by cases l <;> rfl, hB⟩
theorem VW.flS {h : List AObj} {L : List (Option Nat)} {es : List (List AV)} (hr : bE (zZ L h.length) es = es) : VW h L (.flist es) (.flist es) := .same (by simp only [ren, hr])
theorem bP (g : Nat → Nat) (xs ys : List AV) : bR g (xs ++ ys) = bR g xs ++ bR g ys := by simp only [zJ, List.map_append]
theorem VWs.mP {h : List AObj} {L : List (Option Nat)} {xs ys zs : List AV} (hx : ∀ g, bR g xs = xs) (hv : VWs h L ys zs) : VWs h L (xs ++ ys) (xs ++ zs) := by
 have key : ∀ ws : List AV, bR (zZ L h.length) ws = ws → VWs h L (ws ++ ys) (ws ++ zs) := by
  intro ws
  induction ws with
  | nil => intro _; exact hv
  | cons w ws ih => intro hw; simp only [bR, List.cons.injEq] at hw; exact .cons (.same hw.1) (ih hw.2)
 exact key xs (hx _)
def upd {α : Type} (l : List α) (i : Int) (v : α) : List α := l.set i.toNat v
theorem idx_in {α : Type} {l : List α} {n : Int} {x : α} (h : idx l n = some x) : 0 ≤ n ∧ n < (l.length : Int) ∧ l[n.toNat]? = some x := by
 unfold idx at h
 split at h
 ·rename_i h0
  have := (List.getElem?_eq_some_iff.1 h).1
  exact ⟨h0, by omega, h⟩
 ·cases h
theorem ixp {α : Type} {l l0 : List α} {n : Int} {x : α} {z : Nat} {B : Nat → Prop} (hx : idx l n = some x) (hl : l0.length = l.length) (hB : B (n.toNat * z)) : ∃ m : Nat, (0 ≤ n ∧ n < ((l0.length : Nat) : Int) ∧ z = z) ∧ m = n.toNat * z ∧ B m := by
 obtain ⟨h1, h2, _⟩ := idx_in hx
 exact ⟨_, ⟨h1, by rw [hl]; exact h2, rfl⟩, rfl, hB⟩
theorem stp {α : Type} {l : List α} {f : α → List AV} {n : Int} {x v : α} {z : Nat} {vs : List AV} {B : List (List AV) → Prop} (hx : idx l n = some x) (hv : vs = f v) (hz : 0 < z) (hB : B ((upd l n v).map f)) : ∃ i r, n.toNat * z = i * z ∧ 0 < z ∧ i < (l.map f).length ∧ r = (l.map f).set i vs ∧ B r := by
 obtain ⟨_, h2, _⟩ := idx_in hx
 exact ⟨n.toNat, _, rfl, hz, by rw [List.length_map]; omega, by rw [hv, upd, List.map_set], hB⟩
theorem VW.frzL {h : List AObj} {L : List (Option Nat)} {x : AV} {l z n n' : Nat} (e : n = n') (hv : VW h L x (.psl l z n')) : VW h L x (.psl l z n) := e ▸ hv
end Abs
end Go.Proofs.YtiiaccpcoclklaaGreat
namespace Go.Proofs.YtiiaccpcoclklaaGreat
namespace Abs
open Go
def AO (a b : Str) : Bool := decide (a ≤ b)
def slices_Clone_int (_ : Nat) (p0 : List Int) : Option (List Int) := app 8 ([] : List Int) p0
def qJ (_ : Nat) (p0 : List (Str × Bool)) : Option (List Str) := if p0.length * 16 ≤ 140737488355328 then some ((p0.map (·.1)).mergeSort AO) else none
def gu (_ : Nat) : Option Bool := some true
def XB (_ : Nat) (_ : List (Str × Bool)) : Option Unit := some ()
end Abs
end Go.Proofs.YtiiaccpcoclklaaGreat
namespace Go.Proofs.YtiiaccpcoclklaaGreat
namespace Abs
open Go Go.Proofs
def ti3 : TI := ⟨some 1, some false, false, false, false, false, false, some .i64, .no, [], [], some ([.int .i64 0]), some (.int .i64 0), none, none, none⟩
def ti4 : TI := ⟨some 1, some false, false, true, false, false, false, none, .no, [], [], some ([.bool false]), some (.bool false), none, none, none⟩
def ti5 : TI := ⟨some 1, some false, false, false, false, false, false, some .u8, .no, [], [], some ([.int .u8 0]), some (.int .u8 0), none, none, none⟩
def ti9 : TI := ⟨some 1, some false, false, false, true, false, false, none, .no, [], [], some ([.str []]), some (.str []), none, none, none⟩
def anR : TI := ⟨some 1, some false, false, false, false, false, true, none, .sl (some 2), [], [], some ([.slice [] .nils]), some (.slice [] .nils), some 2, some (91, 2, 40), none⟩
def anQ : TI := ⟨some 1, some false, false, false, false, false, true, none, .sl (some 4), [], [], some ([.slice [] .nils]), some (.slice [] .nils), some 4, some (60, 4, 64), none⟩
def anU : TI := ⟨some 2, some true, false, false, false, true, false, none, .no, [some (0, 22), some (1, 23)], [some (0, 1), some (1, 1)], some ([.slice [] .nils, .slice [] .nils]), some (.agg ([.slice [] .nils, .slice [] .nils])), none, none, none⟩
def anW : TI := ⟨some 1, some false, false, false, false, false, true, none, .sl (some 3), [], [], some ([.slice [] .nils]), some (.slice [] .nils), some 3, some (28, 3, 48), none⟩
def anZ : TI := ⟨some 3, some true, false, false, false, true, false, none, .no, [some (0, 3), some (1, 9), some (2, 26)], [some (0, 1), some (1, 1), some (2, 1)], some ([.int .i64 0, .str [], .slice [] .nils]), some (.agg ([.int .i64 0, .str [], .slice [] .nils])), none, none, none⟩
def anN : TI := ⟨some 1, some false, false, false, false, false, true, none, .sl (some 7), [], [], some ([.slice [] .nils]), some (.slice [] .nils), some 7, some (31, 7, 104), none⟩
def anw : TI := ⟨some 7, some true, false, false, false, true, false, none, .no, [some (0, 3), some (1, 9), some (2, 3), some (3, 28), some (6, 29)], [some (0, 1), some (1, 1), some (2, 1), some (3, 3), some (6, 1)], some ([.int .i64 0, .str [], .int .i64 0, .int .i64 0, .str [], .slice [] .nils, .slice [] .nils]), some (.agg ([.int .i64 0, .str [], .int .i64 0, .int .i64 0, .str [], .slice [] .nils, .slice [] .nils])), none, none, none⟩
def an7 : TI := ⟨some 1, some false, false, false, false, false, true, none, .sl (some 1), [], [], some ([.slice [] .nils]), some (.slice [] .nils), some 1, some (3, 1, 8), none⟩
def anJ : TI := ⟨some 1, some false, false, false, false, false, false, some .i64, .no, [], [], some ([.int .i64 0]), some (.int .i64 0), none, none, none⟩
def anu : TI := ⟨some 8, some true, false, false, false, true, false, none, .no, [some (0, 34), some (1, 31)], [some (0, 1), some (1, 7)], some ([.slice [] .nils, .int .i64 0, .str [], .int .i64 0, .int .i64 0, .str [], .slice [] .nils, .slice [] .nils]), some (.agg ([.slice [] .nils, .int .i64 0, .str [], .int .i64 0, .int .i64 0, .str [], .slice [] .nils, .slice [] .nils])), none, none, none⟩
def anB : TI := ⟨some 1, some false, false, false, false, false, true, none, .sl (some 1), [], [], some ([.slice [] .nils]), some (.slice [] .nils), some 1, some (9, 1, 16), none⟩
def an2 : TI := ⟨some 4, some true, false, false, false, true, false, none, .no, [some (0, 9), some (1, 28)], [some (0, 1), some (1, 3)], some ([.str [], .int .i64 0, .str [], .slice [] .nils]), some (.agg ([.str [], .int .i64 0, .str [], .slice [] .nils])), none, none, none⟩
def anO : TI := ⟨some 8, some true, false, false, false, true, false, none, .no, [some (0, 9), some (1, 31)], [some (0, 1), some (1, 7)], some ([.str [], .int .i64 0, .str [], .int .i64 0, .int .i64 0, .str [], .slice [] .nils, .slice [] .nils]), some (.agg ([.str [], .int .i64 0, .str [], .int .i64 0, .int .i64 0, .str [], .slice [] .nils, .slice [] .nils])), none, none, none⟩
def anX : TI := ⟨some 1, some false, false, false, false, false, true, none, .sl (some 8), [], [], some ([.slice [] .nils]), some (.slice [] .nils), some 8, some (63, 8, 120), none⟩
def anI : TI := ⟨some 1, some false, false, false, false, false, false, none, .no, [], [], some ([.nilFunc]), some (.nilFunc), none, none, none⟩
def an5 : TI := ⟨some 17, some true, false, false, false, true, false, none, .no, [some (0, 25), some (2, 31), some (9, 31), some (16, 9)], [some (0, 2), some (2, 7), some (9, 7), some (16, 1)], some ([.slice [] .nils, .slice [] .nils, .int .i64 0, .str [], .int .i64 0, .int .i64 0, .str [], .slice [] .nils, .slice [] .nils, .int .i64 0, .str [], .int .i64 0, .int .i64 0, .str [], .slice [] .nils, .slice [] .nils, .str []]), some (.agg ([.slice [] .nils, .slice [] .nils, .int .i64 0, .str [], .int .i64 0, .int .i64 0, .str [], .slice [] .nils, .slice [] .nils, .int .i64 0, .str [], .int .i64 0, .int .i64 0, .str [], .slice [] .nils, .slice [] .nils, .str []])), none, none, none⟩
def anL : TI := ⟨some 2, some true, false, false, false, true, false, none, .no, [some (0, 9), some (1, 49)], [some (0, 1), some (1, 1)], some ([.str [], .slice [] .nils]), some (.agg ([.str [], .slice [] .nils])), none, none, none⟩
def anz : TI := ⟨some 1, some false, false, false, false, false, false, none, .no, [], [], some ([.nilFunc]), some (.nilFunc), none, none, none⟩
def anE : TI := ⟨some 1, some false, true, false, false, false, false, none, .no, [], [], some ([.nilp]), some (.nilp), none, none, none⟩
def anK : TI := ⟨some 1, some false, false, false, false, false, false, none, .no, [], [], some ([.unk]), some (.unk), none, none, some 28⟩
def am9 : TI := ⟨some 1, some false, false, false, false, false, false, none, .no, [], [], some ([.unk]), some (.unk), none, none, some 4⟩
def anh : TI := ⟨some 1, some false, false, false, false, false, false, none, .no, [], [], some ([.nilFunc]), some (.nilFunc), none, none, none⟩
def amZ : TI := ⟨some 57, some true, false, false, false, false, false, none, .arr 57 (some 1), [], [], some (List.replicate 57 (.nilFunc)), some (.agg (List.replicate 57 (.nilFunc))), none, none, none⟩
def am5 : TI := ⟨some 60, some true, false, false, false, true, false, none, .no, [some (0, 99), some (1, 100), some (2, 103), some (59, 34)], [some (0, 1), some (1, 1), some (2, 57), some (59, 1)], some ([.unk, .unk, .nilFunc, .nilFunc, .nilFunc, .nilFunc, .nilFunc, .nilFunc, .nilFunc, .nilFunc, .nilFunc, .nilFunc, .nilFunc, .nilFunc, .nilFunc, .nilFunc, .nilFunc, .nilFunc, .nilFunc, .nilFunc, .nilFunc, .nilFunc, .nilFunc, .nilFunc, .nilFunc, .nilFunc, .nilFunc, .nilFunc, .nilFunc, .nilFunc, .nilFunc, .nilFunc, .nilFunc, .nilFunc, .nilFunc, .nilFunc, .nilFunc, .nilFunc, .nilFunc, .nilFunc, .nilFunc, .nilFunc, .nilFunc, .nilFunc, .nilFunc, .nilFunc, .nilFunc, .nilFunc, .nilFunc, .nilFunc, .nilFunc, .nilFunc, .nilFunc, .nilFunc, .nilFunc, .nilFunc, .nilFunc, .nilFunc, .nilFunc, .slice [] .nils]), some (.agg ([.unk, .unk, .nilFunc, .nilFunc, .nilFunc, .nilFunc, .nilFunc, .nilFunc, .nilFunc, .nilFunc, .nilFunc, .nilFunc, .nilFunc, .nilFunc, .nilFunc, .nilFunc, .nilFunc, .nilFunc, .nilFunc, .nilFunc, .nilFunc, .nilFunc, .nilFunc, .nilFunc, .nilFunc, .nilFunc, .nilFunc, .nilFunc, .nilFunc, .nilFunc, .nilFunc, .nilFunc, .nilFunc, .nilFunc, .nilFunc, .nilFunc, .nilFunc, .nilFunc, .nilFunc, .nilFunc, .nilFunc, .nilFunc, .nilFunc, .nilFunc, .nilFunc, .nilFunc, .nilFunc, .nilFunc, .nilFunc, .nilFunc, .nilFunc, .nilFunc, .nilFunc, .nilFunc, .nilFunc, .nilFunc, .nilFunc, .nilFunc, .nilFunc, .slice [] .nils])), none, none, none⟩
def amN : TI := ⟨some 3, some true, false, false, false, true, false, none, .no, [some (0, 3), some (1, 9), some (2, 3)], [some (0, 1), some (1, 1), some (2, 1)], some ([.int .i64 0, .str [], .int .i64 0]), some (.agg ([.int .i64 0, .str [], .int .i64 0])), none, none, none⟩
def amP : TI := ⟨some 7, some true, false, false, false, true, false, none, .no, [some (0, 9), some (1, 116), some (4, 3), some (5, 3), some (6, 35)], [some (0, 1), some (1, 3), some (4, 1), some (5, 1), some (6, 1)], some ([.str [], .int .i64 0, .str [], .int .i64 0, .int .i64 0, .int .i64 0, .int .i64 0]), some (.agg ([.str [], .int .i64 0, .str [], .int .i64 0, .int .i64 0, .int .i64 0, .int .i64 0])), none, none, none⟩
def amV : TI := ⟨some 3, some true, false, false, false, true, false, none, .no, [some (0, 3), some (1, 3), some (2, 3)], [some (0, 1), some (1, 1), some (2, 1)], some ([.int .i64 0, .int .i64 0, .int .i64 0]), some (.agg ([.int .i64 0, .int .i64 0, .int .i64 0])), none, none, none⟩
def am7 : TI := ⟨some 1, some false, true, false, false, false, false, none, .no, [], [], some ([.nilp]), some (.nilp), none, none, none⟩
def am3 : TI := ⟨some 1, some false, false, false, false, false, false, none, .no, [], [], some ([.nilFunc]), some (.nilFunc), none, none, none⟩
def am8 : TI := ⟨some 5, some true, false, false, false, true, false, none, .no, [some (0, 9), some (1, 28), some (4, 150)], [some (0, 1), some (1, 3), some (4, 1)], some ([.str [], .int .i64 0, .str [], .slice [] .nils, .nilp]), some (.agg ([.str [], .int .i64 0, .str [], .slice [] .nils, .nilp])), none, none, none⟩
def anj : TI := ⟨some 1, some false, false, false, false, false, false, some .u64, .no, [], [], some ([.int .u64 0]), some (.int .u64 0), none, none, none⟩
def amS : TI := ⟨some 1, some false, true, false, false, false, false, none, .no, [], [], some ([.nilp]), some (.nilp), none, none, none⟩
def am1 : TI := ⟨some 1, some false, false, false, false, false, false, none, .no, [], [], some ([.nilFunc]), some (.nilFunc), none, none, none⟩
def anl : TI := ⟨some 1, some false, false, false, false, false, true, none, .sl (some 1), [], [], some ([.slice [] .nils]), some (.slice [] .nils), some 1, some (5, 1, 1), none⟩
def am6 : TI := ⟨some 1, some false, false, false, false, false, false, some .i64, .no, [], [], some ([.int .i64 0]), some (.int .i64 0), none, none, none⟩
def amM : TI := ⟨some 1, some false, false, false, false, false, false, some .u32, .no, [], [], some ([.int .u32 0]), some (.int .u32 0), none, none, none⟩
def ana : TI := ⟨some 1, some false, false, false, false, false, false, some .u64, .no, [], [], some ([.int .u64 0]), some (.int .u64 0), none, none, none⟩
def amT : TI := ⟨some 1, some false, false, false, false, false, false, some .u64, .no, [], [], some ([.int .u64 0]), some (.int .u64 0), none, none, none⟩
def tab : Tr := (.node (.node (.node (.node (.node (.node .nil 3 ti3 .nil) 4 ti4 .nil) 5 ti5 (.node (.node .nil 9 ti9 .nil) 22 anR .nil)) 23 anQ (.node (.node (.node .nil 25 anU .nil) 26 anW .nil) 28 anZ (.node .nil 29 anN .nil))) 31 anw (.node (.node (.node (.node .nil 34 an7 .nil) 35 anJ .nil) 47 anu (.node (.node .nil 49 anB .nil) 60 an2 .nil)) 63 anO (.node (.node (.node .nil 64 anX .nil) 72 anI .nil) 83 an5 (.node .nil 91 anL .nil)))) 93 anz (.node (.node (.node (.node (.node .nil 95 anE .nil) 99 anK .nil) 100 am9 (.node (.node .nil 102 anh .nil) 103 amZ .nil)) 105 am5 (.node (.node (.node .nil 116 amN .nil) 119 amP .nil) 147 amV (.node .nil 150 am7 .nil))) 152 am3 (.node (.node (.node (.node .nil 154 am8 .nil) 158 anj .nil) 187 amS (.node .nil 195 am1 .nil)) 204 anl (.node (.node (.node .nil 218 am6 .nil) 226 amM .nil) 228 ana (.node .nil 230 amT .nil)))))
theorem ams : tab.keys.map (TI.of Tryz.prog) = tab.vals := by kernel_rfl
noncomputable def τ (t : Nat) : TI := tab.look (TI.of Tryz.prog) t
theorem aC : τ = TI.of Tryz.prog := alD ams
theorem rR : Tryz.prog.follows .mixedOrders = true := by kernel_rfl
end Abs
end Go.Proofs.YtiiaccpcoclklaaGreat
namespace Go.Proofs.YtiiaccpcoclklaaGreat
namespace Abs
open Go
inductive Sl : List AV → List AV → Prop where
 | n : Sl [] []
 | u {y : AV} {xs ys : List AV} : Sl xs ys → Sl (.unk :: xs) (y :: ys)
 | s {x : AV} {xs ys : List AV} : Sl xs ys → Sl (x :: xs) (x :: ys)
 | e {es : List (List AV)} {t : Tag} {xs ys : List AV} : Sl xs ys → Sl (.slice es .shared :: xs) (.slice es t :: ys)
section
variable {xs ys : List AV}
theorem Sl.u2 {a b : AV} (hv : Sl xs ys) : Sl (Abs.u2 xs) (a :: b :: ys) := .u (.u hv)
theorem Sl.u4 {a b c d : AV} (hv : Sl xs ys) : Sl (Abs.u4 xs) (a :: b :: c :: d :: ys) := .u2 (.u2 hv)
theorem Sl.u8 {a0 a1 a2 a3 a4 a5 a6 a7 : AV} (hv : Sl xs ys) : Sl (Abs.u8 xs) (a0 :: a1 :: a2 :: a3 :: a4 :: a5 :: a6 :: a7 :: ys) := .u4 (.u4 hv)
theorem Sl.u16 {a0 a1 a2 a3 a4 a5 a6 a7 a8 a9 a10 a11 a12 a13 a14 a15 : AV} (hv : Sl xs ys) : Sl (Abs.u16 xs) (a0 :: a1 :: a2 :: a3 :: a4 :: a5 :: a6 :: a7 :: a8 :: a9 :: a10 :: a11 :: a12 :: a13 :: a14 :: a15 :: ys) := .u8 (.u8 hv)
end
theorem Sl.len {xs ys : List AV} (h : Sl xs ys) : xs.length = ys.length := by
 induction h with
 | n => rfl
 | u _ ih => simp [ih]
 | s _ ih => simp [ih]
 | e _ ih => simp [ih]
theorem Sl.get {xs ys : List AV} (h : Sl xs ys) {w : World} {κ : cB} {pv : fZ} {v : Value} : ∀ n, Rel w κ pv (ys.getD n .unk) v → Rel w κ pv (xs.getD n .unk) v := by
 induction h with
 | n => intro n _; exact .unk _
 | u _ ih => intro n hr; cases n with
  | zero => exact .unk _
  | succ n => exact ih n hr
 | s _ ih => intro n hr; cases n with
  | zero => exact hr
  | succ n => exact ih n hr
 | e _ ih => intro n hr; cases n with
  | zero => exact Rel.share hr
  | succ n => exact ih n hr
theorem li {m : Nat} {t t' : List AV} {h : List AObj} (hs : Sl t' t) : Le m t h t' h := fun C κ a w _ s =>
 ⟨κ, s.defers, by rw [s.len]; exact hs.len.symm, fun n hn => hs.get n (s.slot n (by have := hs.len; simp only at hn ⊢; omega)), s.klen, s.kext, s.resv, s.obj, s.apart, s.own, s.bound, s.pvold, s.oldlt, s.old, s.os, s.tape, s.output, s.size, s.pvsub, s.evo⟩
inductive Ol : List AObj → List AObj → Prop where
 | n : Ol [] []
 | s {o : AObj} {xs ys : List AObj} : Ol xs ys → Ol (o :: xs) (o :: ys)
 | b {cs ds : List AV} {xs ys : List AObj} : Sl cs ds → Ol xs ys → Ol (.box cs :: xs) (.box ds :: ys)
theorem Ol.get {xs ys : List AObj} (h : Ol xs ys) : xs.length = ys.length ∧ ∀ l, obj? xs l = obj? ys l ∨ ∃ cs ds, Sl cs ds ∧ obj? xs l = .box cs ∧ obj? ys l = .box ds := by
 induction h with
 | n => exact ⟨rfl, fun l => .inl rfl⟩
 | s _ ih =>
  refine ⟨by simp [ih.1], fun l => ?_⟩
  cases l with
  | zero => exact .inl rfl
  | succ l => exact ih.2 l
 | b hs _ ih =>
  refine ⟨by simp [ih.1], fun l => ?_⟩
  cases l with
  | zero => exact .inr ⟨_, _, hs, rfl, rfl⟩
  | succ l => exact ih.2 l
theorem lo {m : Nat} {t t' : List AV} {h h' : List AObj} (hs : Sl t' t) (ho : Ol h' h) : Le m t h t' h' := fun C κ a w _ s => by
 have hg := ho.get
 have hpv : ∀ l, rU (obj? h' l) = rU (obj? h l) := fun l => by
  rcases hg.2 l with e | ⟨cs, ds, hc, e1, e2⟩
  ·rw [e]
  ·rw [e1, e2]; funext off; simp only [rU, hc.len]
 have hlive : ∀ l, live (obj? h' l) ↔ live (obj? h l) := fun l => by
  rcases hg.2 l with e | ⟨cs, ds, hc, e1, e2⟩
  ·rw [e]
  ·rw [e1, e2]; exact Iff.rfl
 have epv : aX C.bq κ h' = aX C.bq κ h := by
  funext b off
  simp only [aX, hpv]
 refine ⟨κ, s.defers, by rw [s.len]; exact hs.len.symm, fun n hn => ?_, by rw [s.klen]; exact hg.1.symm, s.kext, fun l hl => ?_, fun l b hl hv => ?_, fun l l' b h1 h2 h3 h4 => s.apart l l' b h1 h2 ((hlive l).1 h3) ((hlive l').1 h4), fun l b h1 h2 => s.own l b h1 ((hlive l).1 h2), s.bound, s.pvold, s.oldlt, s.old, s.os, s.tape, s.output, s.size, fun b o hp => s.pvsub b o (epv ▸ hp), s.evo⟩
 ·show Rel w κ (aX C.bq κ h') _ _
  rw [epv]
  exact hs.get n (s.slot n (by have := hs.len; simp only at hn ⊢; omega))
 ·refine s.resv l ?_
  rcases hg.2 l with e | ⟨cs, ds, hc, e1, e2⟩
  ·rw [← e]; exact hl
  ·simp only at hl; rw [e1] at hl; cases hl
 ·have ho := s.obj l b hl ((hlive l).1 hv)
  show og w κ (aX C.bq κ h') b (obj? h' l)
  rw [epv]
  rcases hg.2 l with e | ⟨cs, ds, hc, e1, e2⟩
  ·rw [e]; exact ho
  ·simp only at ho
   rw [e2] at ho
   rw [e1]
   obtain ⟨c, e, k1, k2, k3⟩ := ho
   exact ⟨c, e, k1, k2.trans hc.len.symm, fun j hj => hc.get j (k3 j (by have := hc.len; omega))⟩
section
variable {h : List AObj} {L : List (Option Nat)} {xs ys : List AV} {ls : List (Option Nat)} {os : List AObj} {l : Nat}
theorem VWs.c {x y : AV} (e : ren (zZ L h.length) x = y) (hv : VWs h L xs ys) : VWs h L (x :: xs) (y :: ys) := .cons (.same e) hv
theorem VWs.u {y : AV} (hv : VWs h L xs ys) : VWs h L (.unk :: xs) (y :: ys) := .cons (.unk _) hv
theorem VWs.e {α : Type} {f : α → List AV} {t : Tag} {es : List α} (hr : ∀ (g : Nat → Nat) (l : List α), bE g (l.map f) = l.map f) (hv : VWs h L xs ys) : VWs h L (.slice (es.map f) .shared :: xs) (.slice (es.map f) t :: ys) := .cons (.share (hr _ _)) hv
theorem OWs.b {cs ds : List AV} (e : obj? h l = .box ds) (hc : VWs h L cs ds) (hv : OWs h L ls os) : OWs h L (some l :: ls) (.box cs :: os) := .old (by rw [e]; exact OW.ail hc) hv
theorem OWs.t {n : Nat} (e : obj? h l = .tip n) (hv : OWs h L ls os) : OWs h L (some l :: ls) (.tip n :: os) := .old (by rw [e]; exact .tip n) hv
theorem OWs.w {o : AObj} (e : dY o = false) (hv : OWs h L ls os) : OWs h L (none :: ls) (o :: os) := .new e hv
end
theorem wk {m : Nat} {t t' : List AV} {h h' : List AObj} (L : List (Option Nat)) (ht : VWs h L t' t) (ho : OWs h L L h') (hL : okL m h.length L h' = true) : Le m t h t' h' := .of L (.mk' hL ht ho)
theorem AW.q {P : Program} {m : Nat} {x y : Code} {Q : QT} {t : List AV} {h : List AObj} (hw : ∀ K : List AV → List AObj → Prop, (∀ t h, AW P m y Q t h → K t h) → AW P m x (Nb K Q) t h) : AW P m (.seq x y) Q t h := AW.wQ hw
theorem sj {α : Type} {x r : α} (h : some x = some r) : x = r := Option.some.inj h
end Abs
end Go.Proofs.YtiiaccpcoclklaaGreat
namespace Go.Proofs
open Go.Shelf
def Tryz.Rv : Go.Shelf.Ren := ⟨fun | 7 => 105 | 10 => 185 | n => n, fun | 23 => 100 | 26 => 9 | 3 => 4 | 28 => 131 | 0 => 0 | 27 => 130 | 33 => 84 | 4 => 4 | n => n, fun | n => n⟩
theorem Tryz.akl : Go.Proofs.SlLaysZ.n7 Tryz.prog Tryz.Rv := {
 mixed := by kernel_rfl
 f7 := ⟨Tryz.f105.name, by decide, Tryz.func105.trans (congrArg some (by kernel_rfl))⟩
 f10 := ⟨Tryz.f185.name, by decide, Tryz.func185.trans (congrArg some (by kernel_rfl))⟩
 t0 := Tryz.underlying0
 a0 := Tryz.isAgg0
 z0 := Tryz.sizeOf0
 v0 := Tryz.zeroValue0
 t4 := Tryz.underlying4
 a4 := Tryz.isAgg4
 z4 := Tryz.sizeOf4
 v4 := Tryz.zeroValue4
 t23 := Tryz.underlying100
 a23 := Tryz.isAgg100
 z23 := Tryz.sizeOf100
 v23 := Tryz.zeroValue100
 t26 := Tryz.underlying9
 a26 := Tryz.isAgg9
 z26 := Tryz.sizeOf9
 v26 := Tryz.zeroValue9
 t27 := Tryz.underlying130
 a27 := Tryz.isAgg130
 z27 := Tryz.sizeOf130
 v27 := Tryz.zeroValue130
 t28 := Tryz.underlying131
 a28 := Tryz.isAgg131
 z28 := Tryz.sizeOf131
 v28 := Tryz.zeroValue131
 t33 := Tryz.underlying84
 a33 := Tryz.isAgg84
 z33 := Tryz.sizeOf84
 v33 := Tryz.zeroValue84 }
def Tryz.Lb : Go.Shelf.Ren := ⟨fun | 6 => 104 | 8 => 183 | 9 => 184 | 11 => 249 | 13 => 251 | 12 => 250 | 23 => 286 | 24 => 287 | 14 => 277 | 15 => 278 | 16 => 279 | 17 => 280 | 18 => 281 | 19 => 282 | 20 => 283 | 21 => 284 | 22 => 285 | 25 => 295 | 26 => 296 | 27 => 297 | 28 => 298 | 29 => 299 | 30 => 300 | 31 => 301 | n => n, fun | 26 => 9 | 28 => 131 | 24 => 49 | 0 => 0 | 3 => 3 | 37 => 158 | 48 => 226 | 50 => 228 | 4 => 4 | 40 => 219 | 39 => 218 | 45 => 212 | 5 => 5 | 9 => 9 | 51 => 230 | 55 => 234 | 57 => 236 | 58 => 173 | 33 => 84 | n => n, fun | n => n⟩
theorem Tryz.agC : Go.Proofs.SlLaysZ.n6 Tryz.prog Tryz.Lb := {
 mixed := by kernel_rfl
 f6 := ⟨Tryz.f104.name, by decide, Tryz.func104.trans (congrArg some (by kernel_rfl))⟩
 f8 := ⟨Tryz.f183.name, by decide, Tryz.func183.trans (congrArg some (by kernel_rfl))⟩
 f11 := ⟨Tryz.f249.name, by decide, Tryz.func249.trans (congrArg some (by kernel_rfl))⟩
 t0 := Tryz.underlying0
 a0 := Tryz.isAgg0
 z0 := Tryz.sizeOf0
 v0 := Tryz.zeroValue0
 t24 := Tryz.underlying49
 a24 := Tryz.isAgg49
 z24 := Tryz.sizeOf49
 v24 := Tryz.zeroValue49
 t26 := Tryz.underlying9
 a26 := Tryz.isAgg9
 z26 := Tryz.sizeOf9
 v26 := Tryz.zeroValue9
 t28 := Tryz.underlying131
 a28 := Tryz.isAgg131
 z28 := Tryz.sizeOf131
 v28 := Tryz.zeroValue131
 i26 := by kernel_rfl }
def Tryz.ac2 : Go.Shelf.Ren := ⟨fun | 6 => 184 | 8 => 251 | 9 => 250 | 19 => 286 | 20 => 287 | 21 => 277 | 22 => 278 | 23 => 279 | 24 => 280 | 25 => 281 | 26 => 282 | 27 => 283 | 28 => 284 | 29 => 285 | 36 => 295 | 31 => 296 | 32 => 297 | 37 => 298 | 38 => 299 | 39 => 300 | 41 => 301 | n => n, fun | 27 => 49 | 29 => 9 | 3 => 3 | 32 => 158 | 26 => 49 | 0 => 0 | 44 => 226 | 46 => 228 | 4 => 4 | 36 => 219 | 35 => 218 | 41 => 212 | 5 => 5 | 9 => 9 | 53 => 230 | 57 => 234 | 63 => 236 | 64 => 173 | n => n, fun | n => n⟩
theorem Tryz.adp : Go.Proofs.SlLaysM.n6 Tryz.prog Tryz.ac2 := {
 mixed := by kernel_rfl
 f6 := ⟨Tryz.f184.name, by decide, Tryz.func184.trans (congrArg some (by kernel_rfl))⟩
 f8 := Tryz.func251.trans (congrArg some (by kernel_rfl))
 f9 := ⟨Tryz.f250.name, by decide, Tryz.func250.trans (congrArg some (by kernel_rfl))⟩
 f19 := Tryz.func286.trans (congrArg some (by kernel_rfl))
 f20 := Tryz.func287.trans (congrArg some (by kernel_rfl))
 f21 := ⟨Tryz.f277.name, by decide, Tryz.func277.trans (congrArg some (by kernel_rfl))⟩
 f22 := ⟨Tryz.f278.name, by decide, Tryz.func278.trans (congrArg some (by kernel_rfl))⟩
 f23 := ⟨Tryz.f279.name, by decide, Tryz.func279.trans (congrArg some (by kernel_rfl))⟩
 f24 := ⟨Tryz.f280.name, by decide, Tryz.func280.trans (congrArg some (by kernel_rfl))⟩
 f25 := ⟨Tryz.f281.name, by decide, Tryz.func281.trans (congrArg some (by kernel_rfl))⟩
 f26 := ⟨Tryz.f282.name, by decide, Tryz.func282.trans (congrArg some (by kernel_rfl))⟩
 f27 := ⟨Tryz.f283.name, by decide, Tryz.func283.trans (congrArg some (by kernel_rfl))⟩
 f28 := ⟨Tryz.f284.name, by decide, Tryz.func284.trans (congrArg some (by kernel_rfl))⟩
 f29 := ⟨Tryz.f285.name, by decide, Tryz.func285.trans (congrArg some (by kernel_rfl))⟩
 f31 := Tryz.func296.trans (congrArg some (by kernel_rfl))
 f32 := Tryz.func297.trans (congrArg some (by kernel_rfl))
 f36 := ⟨Tryz.f295.name, by decide, Tryz.func295.trans (congrArg some (by kernel_rfl))⟩
 f37 := ⟨Tryz.f298.name, by decide, Tryz.func298.trans (congrArg some (by kernel_rfl))⟩
 f38 := ⟨Tryz.f299.name, by decide, Tryz.func299.trans (congrArg some (by kernel_rfl))⟩
 f39 := ⟨Tryz.f300.name, by decide, Tryz.func300.trans (congrArg some (by kernel_rfl))⟩
 f41 := ⟨Tryz.f301.name, by decide, Tryz.func301.trans (congrArg some (by kernel_rfl))⟩
 t0 := Tryz.underlying0
 a0 := Tryz.isAgg0
 z0 := Tryz.sizeOf0
 v0 := Tryz.zeroValue0
 t3 := Tryz.underlying3
 a3 := Tryz.isAgg3
 z3 := Tryz.sizeOf3
 v3 := Tryz.zeroValue3
 t4 := Tryz.underlying4
 a4 := Tryz.isAgg4
 z4 := Tryz.sizeOf4
 v4 := Tryz.zeroValue4
 t5 := Tryz.underlying5
 a5 := Tryz.isAgg5
 z5 := Tryz.sizeOf5
 v5 := Tryz.zeroValue5
 t9 := Tryz.underlying9
 a9 := Tryz.isAgg9
 z9 := Tryz.sizeOf9
 v9 := Tryz.zeroValue9
 t26 := Tryz.underlying49
 a26 := Tryz.isAgg49
 z26 := Tryz.sizeOf49
 v26 := Tryz.zeroValue49
 t27 := Tryz.underlying49
 a27 := Tryz.isAgg49
 z27 := Tryz.sizeOf49
 v27 := Tryz.zeroValue49
 t29 := Tryz.underlying9
 a29 := Tryz.isAgg9
 z29 := Tryz.sizeOf9
 v29 := Tryz.zeroValue9
 t32 := Tryz.underlying158
 a32 := Tryz.isAgg158
 z32 := Tryz.sizeOf158
 v32 := Tryz.zeroValue158
 t35 := Tryz.underlying218
 a35 := Tryz.isAgg218
 z35 := Tryz.sizeOf218
 v35 := Tryz.zeroValue218
 t36 := Tryz.underlying219
 a36 := Tryz.isAgg219
 z36 := Tryz.sizeOf219
 v36 := Tryz.zeroValue219
 t41 := Tryz.underlying212
 a41 := Tryz.isAgg212
 z41 := Tryz.sizeOf212
 v41 := Tryz.zeroValue212
 t44 := Tryz.underlying226
 a44 := Tryz.isAgg226
 z44 := Tryz.sizeOf226
 v44 := Tryz.zeroValue226
 t46 := Tryz.underlying228
 a46 := Tryz.isAgg228
 z46 := Tryz.sizeOf228
 v46 := Tryz.zeroValue228
 t53 := Tryz.underlying230
 a53 := Tryz.isAgg230
 z53 := Tryz.sizeOf230
 v53 := Tryz.zeroValue230
 t57 := Tryz.underlying234
 a57 := Tryz.isAgg234
 z57 := Tryz.sizeOf234
 v57 := Tryz.zeroValue234
 t63 := Tryz.underlying236
 a63 := Tryz.isAgg236
 z63 := Tryz.sizeOf236
 v63 := Tryz.zeroValue236
 t64 := Tryz.underlying173
 a64 := Tryz.isAgg173
 z64 := Tryz.sizeOf173
 v64 := Tryz.zeroValue173 }
end Go.Proofs
namespace Go.Proofs.YtiiaccpcoclklaaGreat
namespace Abs
open Go
def ajw : Tag → List Nat
 | .tip l _ => [l]
 | .shared => []
 | .nils => []
mutual
def refs : AV → List Nat
 | .ptr l _ => [l]
 | .mapr l => [l]
 | .eptr cs => zy cs
 | .slice es t => IU es ++ ajw t
 | .agg cs => zy cs
 | .aZ cs => zy cs
 | .func _ cs => zy cs
 | .psl l _ _ => [l]
 | .flist ns => IU ns
 | .unk => []
 | .int _ _ => []
 | .bool _ => []
 | .str _ => []
 | .nilp => []
 | .nilFunc => []
def zy : List AV → List Nat
 | [] => []
 | c :: cs => refs c ++ zy cs
def IU : List (List AV) → List Nat
 | [] => []
 | c :: cs => zy c ++ IU cs
end
def Ga : AObj → List Nat
 | .box cs => zy cs
 | .mp es => es.flatMap fun p => refs p.2
 | .arr _ es => IU es
 | .tip _ => []
 | .dead => []
 | .res => []
mutual
theorem SL {g h : Nat → Nat} : ∀ x : AV, (∀ l ∈ refs x, g (h l) = l) → ren g (ren h x) = x
 | .ptr l o, hx => by simp only [ren]; rw [hx l (by simp [refs])]
 | .mapr l, hx => by simp only [ren]; rw [hx l (by simp [refs])]
 | .eptr cs, hx => by simp only [ren]; rw [vw cs (by simpa [refs] using hx)]
 | .slice es t, hx => by
  simp only [refs, List.mem_append] at hx
  simp only [ren]; rw [En es (fun l hl => hx l (.inl hl))]
  cases t with
  | tip l z => simp only [dO]; rw [hx l (.inr (by simp [ajw]))]
  | shared => rfl
  | nils => rfl
 | .agg cs, hx => by simp only [ren]; rw [vw cs (by simpa [refs] using hx)]
 | .aZ cs, hx => by simp only [ren]; rw [vw cs (by simpa [refs] using hx)]
 | .func f cs, hx => by simp only [ren]; rw [vw cs (by simpa [refs] using hx)]
 | .psl l z n, hx => by simp only [ren]; rw [hx l (by simp [refs])]
 | .flist ns, hx => by simp only [ren]; rw [En ns (by simpa [refs] using hx)]
 | .unk, _ => rfl
 | .int _ _, _ => rfl
 | .bool _, _ => rfl
 | .str _, _ => rfl
 | .nilp, _ => rfl
 | .nilFunc, _ => rfl
theorem vw {g h : Nat → Nat} : ∀ cs : List AV, (∀ l ∈ zy cs, g (h l) = l) → bR g (bR h cs) = cs
 | [], _ => rfl
 | c :: cs, hx => by
  simp only [zy, List.mem_append] at hx
  simp only [bR]; rw [SL c (fun l hl => hx l (.inl hl)), vw cs (fun l hl => hx l (.inr hl))]
theorem En {g h : Nat → Nat} : ∀ es : List (List AV), (∀ l ∈ IU es, g (h l) = l) → bE g (bE h es) = es
 | [], _ => rfl
 | c :: cs, hx => by
  simp only [IU, List.mem_append] at hx
  simp only [bE]; rw [vw c (fun l hl => hx l (.inl hl)), En cs (fun l hl => hx l (.inr hl))]
end
theorem Zg {g h : Nat → Nat} (o : AObj) (hx : ∀ l ∈ Ga o, g (h l) = l) : cK g (cK h o) = o := by
 cases o with
 | box cs => simp only [cK]; rw [vw cs hx]
 | mp es =>
  simp only [cK, List.map_map, AObj.mp.injEq]
  simp only [Ga, List.mem_flatMap] at hx
  conv => rhs; rw [← List.map_id es]
  refine List.map_congr_left fun p hp => ?_
  simp only [Function.comp]
  rw [SL p.2 (fun l hl => hx l ⟨p, hp, hl⟩)]; rfl
 | arr z es => simp only [cK]; rw [En es hx]
 | tip n => rfl
 | dead => rfl
 | res => rfl
def posOf : List Nat → Nat → Nat
 | [], _ => 0
 | x :: xs, l => bif Nat.beq x l then 0 else posOf xs l + 1
theorem NR : ∀ {L : List Nat} {l : Nat}, l ∈ L → L[posOf L l]? = some l
 | x :: xs, l, h => by
  unfold posOf
  cases hb : Nat.beq x l with
  | true => have := Nat.eq_of_beq_eq_true hb; subst this; rfl
  | false =>
   simp only [cond_false, List.getElem?_cons_succ]
   refine NR ?_
   rcases List.mem_cons.1 h with rfl | h
   ·rw [Nat.beq_refl l] at hb; cases hb
   ·exact h
def has : List Nat → Nat → Bool
 | [], _ => false
 | x :: xs, l => bif Nat.beq x l then true else has xs l
theorem JC : ∀ {L : List Nat} {l : Nat}, has L l = true → l ∈ L
 | x :: xs, l, h => by
  unfold has at h
  cases hb : Nat.beq x l with
  | true => rw [Nat.eq_of_beq_eq_true hb]; simp
  | false => rw [hb] at h; exact List.mem_cons_of_mem _ (JC h)
def JF : List Nat → Bool
 | [] => true
 | x :: xs => bif has xs x then false else JF xs
theorem has_of_mem : ∀ {L : List Nat} {l : Nat}, l ∈ L → has L l = true
 | x :: xs, l, h => by
  unfold has
  cases hb : Nat.beq x l with
  | true => rfl
  | false =>
   rcases List.mem_cons.1 h with rfl | h
   ·rw [Nat.beq_refl l] at hb; cases hb
   ·exact has_of_mem h
theorem Og : ∀ {L : List Nat}, JF L = true → L.Nodup
 | [], _ => List.nodup_nil
 | x :: xs, h => by
  unfold JF at h
  cases hb : has xs x with
  | true => rw [hb] at h; cases h
  | false => rw [hb] at h; exact List.nodup_cons.2 ⟨fun hm => (by rw [has_of_mem hm] at hb; cases hb), Og h⟩
def reach (h : List AObj) : Nat → List Nat → List Nat → List Nat
 | 0, _, seen => seen
 | _ + 1, [], seen => seen
 | n + 1, l :: todo, seen => bif has seen l then reach h n todo seen else reach h n (Ga (obj? h l) ++ todo) (seen ++ [l])
abbrev rV := Nat → List AV → List AObj → Option (AV × List AObj)
def WX (h : List AObj) (ρ ks : List Nat) (vs : List AV) : Bool :=
 JF (ρ ++ ks) && (ρ.all (fun l => Nat.blt l h.length) && (ks.all (fun l => dY (obj? h l)) && (ρ.all (fun l => (Ga (obj? h l)).all (has ρ)) && (zy vs).all (has ρ))))
def aaL (call : rV) (h : List AObj) (k fid : Nat) (vs : List AV) : Option (Nat × List Nat × List Wr × AV) :=
 let ρ := reach h 2000 (zy vs) []
 match call fid (bR (posOf ρ) vs) (ρ.map fun l => cK (posOf ρ) (obj? h l)) with
 | none => none
 | some (res, H') =>
  let ks := List.range' k (H'.length - ρ.length)
  bif WX h ρ ks vs && Nat.beq H'.length (ρ ++ ks).length then some (k + ks.length, ρ ++ ks, tN (ρ ++ ks) (H'.map (cK (nm (ρ ++ ks) h.length))), ren (nm (ρ ++ ks) h.length) res) else none
theorem agm {ρ ks : List Nat} {big l : Nat} (h : l ∈ ρ) : nm (ρ ++ ks) big (posOf ρ l) = l := by
 have := NR h
 have hlt := (List.getElem?_eq_some_iff.1 this).1
 simp only [nm, List.getElem?_append_left hlt, this, Option.getD_some]
theorem agR {P : Program} {call : rV} (hc : ∀ f args H r, call f args H = some r → aA P f args H r.1 r.2) {s : ASt} {k fid : Nat} {vs : List AV} {k' : Nat} {ro : List Nat} {wo : List Wr} {res : AV} {dst : Option Tmp} {K : Nat → List Nat → List Wr → Prop}
  (hok : au P fid = true) (h : aaL call s.heap k fid vs = some (k', ro, wo, res)) (hK : K k' ro (wo ++ aS dst res)) : IE P fid vs dst s k K .mk := by
 unfold aaL at h
 generalize hρ : reach s.heap 2000 (zy vs) [] = ρ at h
 dsimp only at h
 split at h
 ·cases h
 ·rename_i r H' hcall
  generalize hks : List.range' k (H'.length - ρ.length) = ks at h
  cases hb : (WX s.heap ρ ks vs && Nat.beq H'.length (ρ ++ ks).length) with
  | false => rw [hb] at h; cases h
  | true =>
   rw [hb] at h
   simp only [cond_true, Option.some.injEq, Prod.mk.injEq] at h
   obtain ⟨rfl, rfl, rfl, rfl⟩ := h
   simp only [WX, Bool.and_eq_true, List.all_eq_true] at hb
   obtain ⟨⟨h1, h2, h3, h4, h5⟩, h6⟩ := hb
   have hlen := Nat.eq_of_beq_eq_true h6
   refine ⟨hok, ρ, ks, bR (posOf ρ) vs, _, r, H', ⟨Og h1, by simp, fun l hl => ?_, h3, fun i l hi => ?_⟩, hlen, ?_, hc _ _ _ _ hcall, hK⟩
   ·exact Nat.le_of_ble_eq_true (h2 l hl)
   ·have hlm := List.mem_of_getElem? hi
    have e : obj? (ρ.map fun l => cK (posOf ρ) (obj? s.heap l)) i = cK (posOf ρ) (obj? s.heap l) := by
     simp only [obj?, List.getElem?_map, hi, Option.map_some, Option.getD_some]
    rw [e, Zg _ fun x hx => agm (JC (h4 l hlm x hx))]
   ·rw [← zJ, vw _ fun x hx => agm (JC (h5 x hx))]
    exact SWs.refl _
noncomputable def aie {α β : Type} (l : List α) : Nat → α → (List α → β) → β :=
 List.rec (motive := fun _ => Nat → α → (List α → β) → β) (fun _ _ K => K []) (fun x xs ih n v K => Nat.rec (motive := fun _ => β) (K (v :: xs)) (fun m _ => ih m v fun ys => K (x :: ys)) n) l
noncomputable def Q7 {α β : Type} (l : List α) : (List α → β) → β :=
 List.rec (motive := fun _ => (List α → β) → β) (fun K => K []) (fun x _ ih K => ih fun ys => K (x :: ys)) l
noncomputable def ah9 (l : List AV) : Nat → AV := List.rec (motive := fun _ => Nat → AV) (fun _ => .unk) (fun x _ ih n => Nat.rec (motive := fun _ => AV) x (fun m _ => ih m) n) l
noncomputable def ach (l : List AObj) : Nat → AObj := List.rec (motive := fun _ => Nat → AObj) (fun _ => .dead) (fun x _ ih n => Nat.rec (motive := fun _ => AObj) x (fun m _ => ih m) n) l
theorem YM : ∀ (l : List AV) (n : Nat), ah9 l n = l.getD n .unk
 | [], _ => rfl
 | _ :: _, 0 => rfl
 | _ :: xs, n + 1 => (YM xs n).trans (by simp [List.getD])
theorem Y3 : ∀ (l : List AObj) (n : Nat), ach l n = obj? l n
 | [], _ => rfl
 | _ :: _, 0 => rfl
 | _ :: xs, n + 1 => (Y3 xs n).trans (by simp [obj?])
noncomputable def aco (t : List AV) : Operand → AV
 | .tmp n => ah9 t n
 | .const v => ofConst v
 | .func f => .func f []
 | .global _ => .unk
theorem adI (t : List AV) : aco t = iw t := by funext x; cases x <;> first | rfl | exact YM _ _
noncomputable def aa8 (ops : Array Oper) (t : List AV) : Option (Nat × Bool) → Option Bool
 | none => some true
 | some (j, want) => match (ops[j]?).bind (·.dst) with
  | none => none
  | some d => match ah9 t d with
   | .bool b => some (b == want)
   | .aZ [] => some false
   | _ => none
theorem ahW (ops : Array Oper) (t : List AV) (o : Oper) : aa8 ops t o.guard = nM ops t o := by
 unfold aa8 nM
 cases o.guard with
 | none => rfl
 | some p => simp only [YM]; rfl
def afV (P : Program) (k : Nat) (o : Oper) (ρ : Operand → AV) (σ : Nat → AObj) : Option (List Nat × List Wr) :=
 match o.op with
 | .move x => some ([], aS o.dst (ρ x))
 | .assign x => some ([], aS o.dst (ρ x))
 | .binOp op t x y _ => (Nr P op t (ρ x) (ρ y)).elim none fun v => some ([], aS o.dst v)
 | _ => dA P k o ρ σ
theorem aiJ (P : Program) (k : Nat) (o : Oper) (ρ : Operand → AV) (σ : Nat → AObj) : afV P k o ρ σ = dA P k o ρ σ := by
 unfold afV
 split
 ·rename_i x h; simp only [dA, h, aV]
 ·rename_i x h; simp only [dA, h, aV]
 ·rename_i op t x y t2 h
  simp only [dA, h, aV]
  cases Nr P op t (ρ x) (ρ y) <;> rfl
 ·rfl
def amj {β : Type} (K : Nat → β) : Nat → β
 | 0 => K 0
 | n + 1 => K (n + 1)
def anM {β : Type} (K : Int → β) : Int → β
 | .ofNat n => K (.ofNat n)
 | .negSucc n => K (.negSucc n)
def am0 {β : Type} (K : Bool → β) : Bool → β
 | true => K true
 | false => K false
noncomputable def fVS {β : Type} (K : AV → β) : AV → β
 | .agg cs => Q7 cs fun cs => K (.agg cs)
 | .eptr cs => Q7 cs fun cs => K (.eptr cs)
 | .aZ cs => Q7 cs fun cs => K (.aZ cs)
 | .func f cs => Q7 cs fun cs => K (.func f cs)
 | .int k n => anM (fun n => K (.int k n)) n
 | .bool b => am0 (fun b => K (.bool b)) b
 | .str s => Q7 s fun s => K (.str s)
 | .slice es t => Q7 es fun es => K (.slice es t)
 | .unk => K .unk
 | .nilp => K .nilp
 | .ptr l o => K (.ptr l o)
 | .mapr l => K (.mapr l)
 | .nilFunc => K .nilFunc
 | .psl l z n => K (.psl l z n)
 | .flist ns => K (.flist ns)
noncomputable def fOS {β : Type} (K : AObj → β) : AObj → β
 | .box cs => Q7 cs fun cs => K (.box cs)
 | .tip n => K (.tip n)
 | .mp es => Q7 es fun es => K (.mp es)
 | .dead => K .dead
 | .res => K .res
 | .arr z es => Q7 es fun es => K (.arr z es)
noncomputable def Zd {β : Type} : List Wr → List AV → List AObj → (List AV → List AObj → β) → β
 | [], t, h, K => K t h
 | .slot n v :: ws, t, h, K => fVS (fun v => aie t n v fun t => Zd ws t h K) v
 | .obj n o :: ws, t, h, K => fOS (fun o => aie h n o fun h => Zd ws t h K) o
theorem YO {α β : Type} : ∀ (l : List α) (n : Nat) (v : α) (K : List α → β), aie l n v K = K (l.set n v)
 | [], _, _, _ => rfl
 | _ :: _, 0, _, _ => rfl
 | x :: xs, n + 1, v, K => (YO xs n v fun ys => K (x :: ys)).trans rfl
theorem ab7 {α β : Type} : ∀ (l : List α) (K : List α → β), Q7 l K = K l
 | [], _ => rfl
 | x :: xs, K => ab7 xs fun ys => K (x :: ys)
theorem ako {β : Type} (K : Nat → β) (n : Nat) : amj K n = K n := by cases n <;> rfl
theorem al3 {β : Type} (K : AV → β) (v : AV) : fVS K v = K v := by
 cases v <;> simp only [fVS, ab7]
 ·rename_i k n; cases n <;> rfl
 ·rename_i b; cases b <;> rfl
theorem alV {β : Type} (K : AObj → β) (o : AObj) : fOS K o = K o := by cases o <;> simp only [fOS, ab7]
theorem Ns {β : Type} : ∀ (ws : List Wr) (t : List AV) (h : List AObj) (K : List AV → List AObj → β), Zd ws t h K = K (ASt.wr ⟨t, h⟩ ws).tmps (ASt.wr ⟨t, h⟩ ws).heap
 | [], _, _, _ => rfl
 | .slot n v :: ws, t, h, K => by simp only [Zd, al3, YO]; rw [Ns ws]; rfl
 | .obj n v :: ws, t, h, K => by simp only [Zd, alV, YO]; rw [Ns ws]; rfl
def need (big : List Nat) : List Oper → Nat
 | [] => 0
 | o :: l => (match vR o.op with
  | some (.func f, _) => (bif has big f then 40 else 3)
  | some _ => 3
  | none => qY o.op) + need big l
noncomputable def ai8 (P : Program) (call : rV) (ok : Nat → Bool) (ops : Array Oper) (o : Oper) (go : Nat → List Eff → List AV → List AObj → Option (List Eff × ASt)) (k : Nat) (es : List Eff) (t : List AV) (h : List AObj) : Option (List Eff × ASt) :=
 match aa8 ops t o.guard with
  | none => none
  | some false => Zd (aS o.dst (.aZ [])) t h (go k (⟨iK ops o, [], aS o.dst (.aZ [])⟩ :: es))
  | some true => match vR o.op with
   | some (f, args) => match aco t f with
    | .func fid caps => bif ok fid then (match aaL call h k fid (args.toList.map (aco t) ++ caps) with
     | some (k', ro, wo, res) => Zd (wo ++ aS o.dst res) t h (go k' (⟨iK ops o, ro, wo ++ aS o.dst res⟩ :: es))
     | none => none) else none
    | _ => none
   | none => match afV P k o (aco t) (ach h) with
    | some (rd, ws) => Zd ws t h (go (k + qY o.op) (⟨iK ops o, rd, ws⟩ :: es))
    | none => none
noncomputable def aeR (P : Program) (call : rV) (ok : Nat → Bool) (ops : Array Oper) (l : List Oper) : Nat → List Eff → List AV → List AObj → Option (List Eff × ASt) :=
 List.rec (motive := fun _ => Nat → List Eff → List AV → List AObj → Option (List Eff × ASt)) (fun _ es t h => some (es.reverse, ⟨t, h⟩)) (fun o _ ih => ai8 P call ok ops o ih) l
theorem agr (P : Program) (call : rV) (ok : Nat → Bool) (ops : Array Oper) (o : Oper) (l : List Oper) (k : Nat) (es : List Eff) (t : List AV) (h : List AObj) : aeR P call ok ops (o :: l) k es t h = ai8 P call ok ops o (aeR P call ok ops l) k es t h := rfl
theorem ael {P : Program} {call : rV} {ok : Nat → Bool} {ops : Array Oper} (hc : ∀ f args H r, call f args H = some r → aA P f args H r.1 r.2) (hok : ∀ f, ok f = true → au P f = true) {K : List Eff → ASt → Prop} :
  ∀ (l : List Oper) (k : Nat) (es : List Eff) (s : ASt) (es' : List Eff) (s' : ASt), aeR P call ok ops l k es s.tmps s.heap = some (es', s') → K es' s' → F5 P ops l k es s K := by
 intro l
 induction l with
 | nil =>
  intro k es s es' s' h hK
  have h : some (es.reverse, s) = some (es', s') := h
  simp only [Option.some.injEq, Prod.mk.injEq] at h
  obtain ⟨rfl, rfl⟩ := h
  exact hK
 | cons o l ih =>
  intro k es s es' s' h hK
  rw [agr] at h
  unfold ai8 at h
  rw [ahW, adI, show ach s.heap = obj? s.heap from funext (Y3 _), aiJ] at h
  split at h
  ·cases h
  ·rename_i hw
   rw [Ns] at h
   exact ⟨false, hw, fun e => (by cases e), fun _ => ih _ _ _ _ _ h hK⟩
  ·rename_i hw
   refine ⟨true, hw, fun _ => ?_, fun e => (by cases e)⟩
   split at h
   ·rename_i f args hcall
    split at h
    ·rename_i fid caps hf
     cases hb : ok fid with
     | false => rw [hb] at h; cases h
     | true =>
      rw [hb] at h
      simp only [cond_true] at h
      split at h
      ·rename_i k' ro wo res hen
       rw [hcall]
       rw [Ns] at h
       exact ⟨fid, caps, hf, agR hc (hok _ hb) hen (ih _ _ _ _ _ h hK)⟩
      ·cases h
    ·cases h
   ·rename_i hcall
    rw [hcall]
    split at h
    ·rename_i rd ws hh
     rw [Ns] at h
     exact ⟨rd, ws, hh, ih _ _ _ _ _ h hK⟩
    ·cases h
def aft (o : AObj) : List AObj → List AObj
 | [] => bif dY o then [] else [o]
 | x :: xs => o :: x :: xs
noncomputable def trim (l : List AObj) : List AObj := List.rec (motive := fun _ => List AObj) [] (fun o _ ih => aft o ih) l
theorem Zy : ∀ H : List AObj, ∃ n, H = trim H ++ List.replicate n .res
 | [] => ⟨0, rfl⟩
 | o :: os => by
  obtain ⟨n, hn⟩ := Zy os
  show ∃ n, o :: os = aft o (trim os) ++ List.replicate n .res
  unfold aft
  split
  ·rename_i e
   rw [e] at hn
   cases ho : dY o with
   | true =>
    have : o = .res := by cases o <;> simp [dY] at ho ⊢
    subst this
    exact ⟨n + 1, by rw [hn]; rfl⟩
   | false => exact ⟨n, by rw [hn]; rfl⟩
  ·rename_i x xs e
   rw [e] at hn
   exact ⟨n, by rw [hn]; rfl⟩
theorem Sim.trim {C : Ctx} {κ : cB} {s : ASt} {a : Act} {w : World} (h : Sim C κ s a w) : ∃ κ', Sim C κ' { s with heap := Abs.trim s.heap } a w := by
 obtain ⟨n, hn⟩ := Zy s.heap
 generalize Abs.trim s.heap = H at hn
 have hat : ∀ l, at? (κ.take H.length) l = at? κ l := fun l => by
  by_cases hl : l < H.length
  ·unfold at?; rw [List.getElem?_take, if_pos hl]
  ·have e1 : at? (κ.take H.length) l = none := at?_none_of_le (by simp; omega)
   rw [e1]
   by_cases h2 : l < s.heap.length
   ·refine (h.resv l ?_).symm
    simp only [obj?, hn]
    rw [List.getElem?_append_right (by omega), List.getElem?_replicate]
    rw [hn, List.length_append, List.length_replicate] at h2
    rw [if_pos (by omega)]; rfl
   ·exact (at?_none_of_le (by rw [h.klen]; omega)).symm
 have hob : ∀ l b, at? κ l = some b → obj? H l = obj? s.heap l := fun l b hb => by
  by_cases hl : l < H.length
  ·simp only [obj?, hn, List.getElem?_append_left hl]
  ·rw [← hat, at?_none_of_le (by simp; omega)] at hb; cases hb
 refine ⟨κ.take H.length, ?_⟩
 refine h.step (κ' := κ.take H.length) (H' := H) (Evo.refl _ _) (fun l b hb => by rw [hat]; exact hb) (by rw [List.length_take, h.klen, hn]; simp) ?_ ?_ ?_ ?_ ?_ (fun _ _ => rfl) rfl rfl rfl
 ·rintro b o (hb | ⟨l, h1, h2⟩) _
  ·exact .inl hb
  ·rw [hat] at h1; rw [hob l b h1] at h2; exact .inr ⟨l, h1, h2⟩
 ·intro l b h1 h2
  rw [hat] at h1
  exact .inl ⟨h1, hob l b h1, rfl⟩
 ·intro l l' b h1 h2 h3 h4
  rw [hat] at h1 h2; rw [hob l b h1] at h3; rw [hob l' b h2] at h4
  exact h.apart l l' b h1 h2 h3 h4
 ·intro l b h1; rw [hat] at h1; exact h.bound l b h1
 ·intro l h1
  rw [hat]
  by_cases hl : l < H.length
  ·refine h.resv l ?_
   rw [← h1]; simp only [obj?, hn, List.getElem?_append_left hl]
  ·rw [← hat]; exact at?_none_of_le (by simp; omega)
def WC (hint : List (Nat × Nat × Nat)) (h : List AObj) (l : Nat) : List AObj :=
 match obj? h l with
 | .box cs => match hint.find? (fun p => Nat.beq p.1 cs.length) with
  | some (_, i, z) => (match cs[i]? with
   | some (.slice [] .nils) => h.set l (.box (cs.set i (.psl h.length z 0))) ++ [.arr z []]
   | _ => h)
  | none => h
 | _ => h
theorem Sim.WC {C : Ctx} {κ : cB} {s : ASt} {a : Act} {w : World} (h : Sim C κ s a w) (hint : List (Nat × Nat × Nat)) (l : Nat) : ∃ κ', Sim C κ' { s with heap := Abs.WC hint s.heap l } a w := by
 unfold Abs.WC
 split
 ·rename_i cs ho
  split
  ·rename_i i z _
   split
   ·rename_i hi
    have hll : l < s.heap.length := by
     apply Classical.byContradiction; intro hn
     simp only [obj?, List.getElem?_eq_none (Nat.le_of_not_lt hn)] at ho; cases ho
    let H' := s.heap.set l (.box (cs.set i (.psl s.heap.length z 0))) ++ [AObj.arr z []]
    have hat : ∀ x, at? (κ ++ [none]) x = at? κ x := fun x => by
     unfold at?
     by_cases hx : x < κ.length
     ·rw [List.getElem?_append_left hx]
     ·rw [List.getElem?_append_right (Nat.le_of_not_lt hx), List.getElem?_eq_none (Nat.le_of_not_lt hx)]
      cases hxx : x - κ.length <;> rfl
    have hlt : ∀ x b, at? κ x = some b → x < s.heap.length := fun x b hb => by rw [← h.klen]; exact lt_of_at? hb
    have hob : ∀ x, x < s.heap.length → x ≠ l → obj? H' x = obj? s.heap x := fun x hx hne => by
     simp only [obj?, H', List.getElem?_append_left (show x < (s.heap.set l _).length by simpa using hx), List.getElem?_set_ne (Ne.symm hne)]
    have hol : obj? H' l = .box (cs.set i (.psl s.heap.length z 0)) := by
     simp only [obj?, H', List.getElem?_append_left (show l < (s.heap.set l _).length by simpa using hll), List.getElem?_set_self hll, Option.getD_some]
    have hlv : ∀ x b, at? κ x = some b → live (obj? H' x) → live (obj? s.heap x) := fun x b hb hl => by
     by_cases e : x = l
     ·subst e; rw [ho]; trivial
     ·rw [hob x (hlt x b hb) e] at hl; exact hl
    have hp : ∀ b o, aX C.bq (κ ++ [none]) H' b o → b < w.heap.size → aX C.bq κ s.heap b o := by
     rintro b o (hb | ⟨x, h1, h2⟩) _
     ·exact .inl hb
     ·rw [hat] at h1
      refine .inr ⟨x, h1, ?_⟩
      by_cases e : x = l
      ·subst e; rw [ho]; trivial
      ·rw [hob x (hlt x b h1) e] at h2; exact h2
    refine ⟨κ ++ [none], ?_⟩
    refine h.step (κ' := κ ++ [none]) (H' := H') (Evo.refl _ _) (fun x b hb => by rw [hat]; exact hb) (by simp [H', h.klen]) hp ?_ ?_ ?_ ?_ (fun _ _ => rfl) rfl rfl rfl
    ·intro x b h1 h2
     rw [hat] at h1
     by_cases e : x = l
     ·subst e
      refine .inr ⟨h.bound x b h1, h.own x b h1 (by rw [ho]; trivial), ?_⟩
      rw [hol]
      have hr := h.obj x b h1 (by rw [ho]; trivial)
      rw [ho] at hr
      obtain ⟨c, el, g1, g2, g3⟩ := hr
      refine ⟨c, el, g1, by simp [g2], fun j hj => ?_⟩
      simp only [List.length_set] at hj
      have hg := (g3 j hj).mono (κ' := κ ++ [none]) (Evo.refl _ _) (fun y b hb => by rw [hat]; exact hb) hp
      by_cases ej : i = j
      ·subst ej
       rw [kQ hj]
       rw [List.getD, hi, Option.getD_some] at hg
       generalize c.getD i undef = u at hg
       cases hg with
       | slice b' off sz y q1 q2 q3 q3' q4 q5 q6 gt => exact .psl (Nat.zero_le _) (by omega) ⟨rfl, .inl gt⟩
      ·rw [mE ej]; exact hg
     ·exact .inl ⟨h1, hob x (hlt x b h1) e, rfl⟩
    ·intro x y b h1 h2 h3 h4
     rw [hat] at h1 h2
     exact h.apart x y b h1 h2 (hlv x b h1 h3) (hlv y b h2 h4)
    ·intro x b h1; rw [hat] at h1; exact h.bound x b h1
    ·intro x h1
     rw [hat]
     by_cases hx : x < s.heap.length
     ·by_cases e : x = l
      ·subst e; rw [hol] at h1; cases h1
      ·rw [hob x hx e] at h1; exact h.resv x h1
     ·exact at?_none_of_le (by rw [h.klen]; omega)
   ·exact ⟨κ, h⟩
  ·exact ⟨κ, h⟩
 ·exact ⟨κ, h⟩
def OQ (hint : List (Nat × Nat × Nat)) : List Nat → List AObj → List AObj
 | [], h => h
 | l :: ls, h => OQ hint ls (WC hint h l)
theorem Sim.OQ {C : Ctx} {a : Act} {w : World} (hint : List (Nat × Nat × Nat)) : ∀ (ls : List Nat) {κ : cB} {s : ASt}, Sim C κ s a w → ∃ κ', Sim C κ' { s with heap := Abs.OQ hint ls s.heap } a w
 | [], κ, s, h => ⟨κ, h⟩
 | l :: ls, κ, s, h => by
  obtain ⟨κ1, h1⟩ := h.WC hint l
  exact Sim.OQ hint ls h1
noncomputable def tidy (hint : List (Nat × Nat × Nat)) (n : Nat) (s : ASt) : ASt :=
 let h := trim s.heap
 ⟨s.tmps, OQ hint (List.range' n (h.length - n)) h⟩
theorem gK.tidy {P : Program} {c : Code} {Q : Exit → ASt → Prop} {s : ASt} (hint : List (Nat × Nat × Nat)) (n : Nat) (h : gK P c (fun e s' => Q e (Abs.tidy hint n s')) s) : gK P c Q s := fun C κ a w hs =>
 wp_mono (h C κ a w hs) fun _ _ _ ⟨s', κ', h1, h2⟩ => by
  obtain ⟨κ1, g1⟩ := h2.trim
  obtain ⟨κ2, g2⟩ := g1.OQ hint (List.range' n ((Abs.trim s'.heap).length - n))
  exact ⟨_, κ2, h1, g2⟩
noncomputable def Vj (P : Program) (call : rV) (ok : Nat → Bool) (hint : List (Nat × Nat × Nat)) (big : List Nat) (go : Code → ASt → Option (Exit × ASt)) (c : Code) (s : ASt) : Option (Exit × ASt) :=
 match c with
  | .skip => some (.normal, s)
  | .ret => some (.ret, s)
  | .exit id => some (.exit id, s)
  | .seq x y => match go x s with
   | some (.normal, s') => go y s'
   | r => r
  | .cond c x y => match aco s.tmps c with
   | .bool true => go x s
   | .bool false => go y s
   | _ => none
  | .block id c => match go c s with
   | some (.exit id', s') => bif Nat.beq id' id then some (.normal, s') else some (.exit id', s')
   | r => r
  | .loop c => match go c s with
   | some (.normal, s') => go (.loop c) s'
   | r => r
  | .region _ ops draw => amj (fun m => match aeR P call ok ops ops.toList s.heap.length [] s.tmps (s.heap ++ List.replicate m .res) with
   | some (es, s') => bif !draw || Ap ops.toList es then some (.normal, bif Nat.beq m 0 then s' else tidy hint s.heap.length s') else none
   | none => none) (need big ops.toList)
  | _ => none
noncomputable def O9 (P : Program) (call : rV) (ok : Nat → Bool) (hint : List (Nat × Nat × Nat)) (big : List Nat) (n : Nat) : Code → ASt → Option (Exit × ASt) :=
 Nat.rec (motive := fun _ => Code → ASt → Option (Exit × ASt)) (fun _ _ => none) (fun _ ih => Vj P call ok hint big ih) n
theorem VP (P : Program) (call : rV) (ok : Nat → Bool) (hint : List (Nat × Nat × Nat)) (big : List Nat) (c : Code) (s : ASt) : O9 P call ok hint big 0 c s = none := rfl
theorem Wv (P : Program) (call : rV) (ok : Nat → Bool) (hint : List (Nat × Nat × Nat)) (big : List Nat) (n : Nat) (c : Code) (s : ASt) : O9 P call ok hint big (n + 1) c s = Vj P call ok hint big (O9 P call ok hint big n) c s := rfl
theorem abg {P : Program} {call : rV} {ok : Nat → Bool} {hint : List (Nat × Nat × Nat)} {big : List Nat} (hm : P.follows .mixedOrders = true) (hc : ∀ f args H r, call f args H = some r → aA P f args H r.1 r.2) (hok : ∀ f, ok f = true → au P f = true) :
  ∀ (n : Nat) (c : Code) (s : ASt) (e : Exit) (s' : ASt) (Q : Exit → ASt → Prop), O9 P call ok hint big n c s = some (e, s') → Q e s' → gK P c Q s := by
 intro n
 induction n using Nat.strongRecOn with
 | _ n ih =>
  intro c s e s' Q h hQ
  cases n with
  | zero => rw [VP] at h; cases h
  | succ n =>
   have ih1 := ih n (Nat.lt_succ_self n)
   rw [Wv] at h
   have h0 := h
   unfold Vj at h
   rw [adI] at h
   split at h
   ·cases h; exact .skip hQ
   ·cases h; exact .ret hQ
   ·cases h; exact .exit hQ
   ·rename_i x y
    split at h
    ·rename_i s1 hx
     exact .seq (ih1 _ _ _ _ _ hx (ih1 _ _ _ _ _ h hQ))
    ·rename_i hne
     refine .seq (ih1 _ _ _ _ _ h ?_)
     cases e with
     | normal => exact (hne _ h).elim
     | exit id => exact hQ
     | goto l => exact hQ
     | ret => exact hQ
     | panic c => exact hQ
     | outgrown => exact hQ
   ·rename_i cd x y
    split at h
    ·rename_i hb
     exact .cond hb (fun _ => ih1 _ _ _ _ _ h hQ) (fun e => by cases e)
    ·rename_i hb
     exact .cond hb (fun e => by cases e) (fun _ => ih1 _ _ _ _ _ h hQ)
    ·cases h
   ·rename_i id c
    split at h
    ·rename_i id' s1 hx
     refine .block (ih1 _ _ _ _ _ hx ?_)
     simp only [ER]
     cases hb : Nat.beq id' id with
     | true =>
      rw [hb] at h; cases h
      rw [if_pos (Nat.eq_of_beq_eq_true hb)]; exact hQ
     | false =>
      rw [hb] at h; cases h
      rw [if_neg (fun e => by rw [e, Nat.beq_refl id] at hb; cases hb)]; exact hQ
    ·rename_i hne
     refine .block (ih1 _ _ _ _ _ h ?_)
     cases e with
     | exit id => exact (hne _ _ h).elim
     | normal => exact hQ
     | goto l => exact hQ
     | ret => exact hQ
     | panic c => exact hQ
     | outgrown => exact hQ
   ·rename_i c
    refine gK.loop (fun m s => m ≤ n + 1 ∧ O9 P call ok hint big m (.loop c) s = some (e, s')) (n := n + 1) ⟨Nat.le_refl _, h0⟩ ?_
    rintro m s ⟨hle, hr⟩
    cases m with
    | zero => rw [VP] at hr; cases hr
    | succ m =>
     have ih2 := ih m (by omega)
     rw [Wv] at hr
     unfold Vj at hr
     dsimp only at hr
     split at hr
     ·rename_i s1 hx
      exact ih2 _ _ _ _ _ hx ⟨m, Nat.lt_succ_self m, by omega, hr⟩
     ·rename_i hne
      refine ih2 _ _ _ _ _ hr ?_
      cases e with
      | normal => exact (hne _ hr).elim
      | exit id => exact hQ
      | goto l => exact hQ
      | ret => exact hQ
      | panic c => exact hQ
      | outgrown => exact hQ
   ·rename_i id ops draw
    rw [ako] at h
    generalize need big ops.toList = m at h
    split at h
    ·rename_i es s1 hx
     cases hb : (!draw || Ap ops.toList es) with
     | false => rw [hb] at h; cases h
     | true =>
      rw [hb] at h
      simp only [cond_true, Option.some.injEq, Prod.mk.injEq] at h
      obtain ⟨rfl, hs1⟩ := h
      have key : ∀ Q' : Exit → ASt → Prop, Q' .normal s1 → gK P (.region id ops draw) Q' s := fun Q' hQ' => by
       have eops : ops = ops.toList.toArray := by simp
       rw [eops] at hx ⊢
       simp only [List.toList_toArray] at hx
       cases draw with
       | true => exact gK.an3 m hm (ael hc hok _ _ _ (s.reserve m) _ _ hx ⟨by simpa using hb, hQ'⟩)
       | false =>
        have := ael (K := fun _ s' => Q' .normal s') hc hok _ _ _ (s.reserve m) _ _ hx hQ'
        obtain ⟨es', s2, g1, g2⟩ := Rp _ _ _ _ _ this
        exact gK.region m g1.steps g2
      cases hm0 : Nat.beq m 0 with
      | true => rw [hm0] at hs1; simp only [cond_true] at hs1; subst hs1; exact key Q hQ
      | false =>
       rw [hm0] at hs1; simp only [cond_false] at hs1; subst hs1
       exact gK.tidy hint s.heap.length (key _ hQ)
    ·cases h
   ·cases h
def TN (P : Program) (rs : List ResultVar) (m : Nat) (s : ASt) : Option (AV × List AObj) :=
 match A8 P s rs with
 | none => none
 | some xs =>
  let v := H7 false xs
  let L := reach s.heap 2000 (refs v ++ (List.range m).flatMap fun l => Ga (obj? s.heap l)) (List.range m)
  bif JF L && ((List.range m).all (fun i => match L[i]? with | some l => Nat.beq l i | none => false) && (L.all (fun l => Nat.blt l s.heap.length) && ((refs v).all (has L) && L.all (fun l => (Ga (obj? s.heap l)).all (has L)))))
  then some (ren (posOf L) v, L.map fun l => cK (posOf L) (obj? s.heap l)) else none
theorem Zu {P : Program} {rs : List ResultVar} {H : List AObj} {s : ASt} {res : AV} {H' : List AObj} (h : TN P rs H.length s = some (res, H')) : ∃ L, Mv P rs false L H res H' s := by
 unfold TN at h
 split at h
 ·cases h
 ·rename_i xs hxs
  dsimp only at h
  generalize reach s.heap 2000 (refs (H7 false xs) ++ (List.range H.length).flatMap fun l => Ga (obj? s.heap l)) (List.range H.length) = L at h
  cases hb : (JF L && ((List.range H.length).all (fun i => match L[i]? with | some l => Nat.beq l i | none => false) && (L.all (fun l => Nat.blt l s.heap.length) && ((refs (H7 false xs)).all (has L) && L.all (fun l => (Ga (obj? s.heap l)).all (has L)))))) with
  | false => rw [hb] at h; cases h
  | true =>
   rw [hb] at h
   simp only [cond_true, Option.some.injEq, Prod.mk.injEq] at h
   obtain ⟨rfl, rfl⟩ := h
   simp only [Bool.and_eq_true, List.all_eq_true, List.mem_range] at hb
   obtain ⟨h1, h2, h3, h4, h5⟩ := hb
   have hL : ∀ i, i < H.length → L[i]? = some i := fun i hi => by
    have := h2 i hi
    split at this
    ·rename_i l hl; rw [hl, Nat.eq_of_beq_eq_true this]
    ·cases this
   have hnm : ∀ l, l ∈ L → nm L s.heap.length (posOf L l) = l := fun l hl => by simp only [nm, NR hl, Option.getD_some]
   refine ⟨L, xs, hxs, ?_, Og h1, by simp, ?_, hL, fun l hl => ?_, fun i l hi => ?_⟩
   ·rw [SL _ fun x hx => hnm x (JC (h4 x hx))]
   ·cases hn : H.length with
    | zero => exact Nat.zero_le _
    | succ n => have := (List.getElem?_eq_some_iff.1 (hL n (by omega))).1; omega
   ·exact Nat.le_of_ble_eq_true (h3 l hl)
   ·have e : obj? (L.map fun l => cK (posOf L) (obj? s.heap l)) i = cK (posOf L) (obj? s.heap l) := by
     simp only [obj?, List.getElem?_map, hi, Option.map_some, Option.getD_some]
    rw [e, Zg _ fun x hx => hnm x (JC (h5 l (List.mem_of_getElem? hi) x hx))]
noncomputable def Uw (P : Program) (E : rV) (ok : Nat → Bool) (hint : List (Nat × Nat × Nat)) (big : List Nat) : Nat → rV
 | 0, _, _, _ => none
 | n + 1, f, args, H => match E f args H with
  | some r => some r
  | none => match P.funcs[f]? with
   | none => none
   | some fn => match fn.body with
    | none => none
    | some c => bif Nat.ble args.length fn.ntmps then (match O9 P (Uw P E ok hint big n) ok hint big 100000 c ⟨args ++ List.replicate (fn.ntmps - args.length) (.aZ []), H⟩ with
     | some (.ret, s) => TN P fn.results.toList H.length s
     | some (.normal, s) => TN P fn.results.toList H.length s
     | _ => none) else none
theorem aiP {P : Program} {E : rV} {ok : Nat → Bool} {hint : List (Nat × Nat × Nat)} {big : List Nat} (hm : P.follows .mixedOrders = true) (hE : ∀ f args H r, E f args H = some r → aA P f args H r.1 r.2) (hok : ∀ f, ok f = true → au P f = true) :
  ∀ (n f : Nat) (args : List AV) (H : List AObj) (r : AV × List AObj), Uw P E ok hint big n f args H = some r → aA P f args H r.1 r.2 := by
 intro n
 induction n with
 | zero => intro f args H r h; simp [Uw] at h
 | succ n ih =>
  intro f args H r h
  unfold Uw at h
  split at h
  ·rename_i r' hr
   cases h; exact hE _ _ _ _ hr
  ·split at h
   ·cases h
   ·rename_i fn hf
    split at h
    ·cases h
    ·rename_i c hb
     cases hl : Nat.ble args.length fn.ntmps with
     | false => rw [hl] at h; cases h
     | true =>
      rw [hl] at h
      simp only [cond_true] at h
      split at h
      ·rename_i s hx
       obtain ⟨L, hL⟩ := Zu h
       exact Rc false L hf hb (Nat.le_of_ble_eq_true hl) (abg hm ih hok _ _ _ _ _ _ hx hL)
      ·rename_i s hx
       obtain ⟨L, hL⟩ := Zu h
       exact Rc false L hf hb (Nat.le_of_ble_eq_true hl) (abg hm ih hok _ _ _ _ _ _ hx hL)
      ·cases h
end Abs
end Go.Proofs.YtiiaccpcoclklaaGreat

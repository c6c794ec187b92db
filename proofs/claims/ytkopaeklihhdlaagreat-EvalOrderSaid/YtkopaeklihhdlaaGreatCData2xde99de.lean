/-
  More of the program's data as plain structures, and as abstract values. Conditions: none; definitions and lemmas.
-/
import Derived.Lib.Bytealg
import Derived.Test.YtkopaeklihhdlaaGreatCAbs32x403b8c
set_option linter.unusedSimpArgs false
set_option linter.unusedVariables false
namespace Go.Proofs.YtkopaeklihhdlaaGreat
namespace Abs
open Go
structure Carrier where
 name : Str
 elems : List Str
structure Decl where
 name : Str
 ty : Ty
structure Env where
 carriers : List Carrier
 names : List Decl
def encI (n : Int) : List AV := [.int .i64 n]
def encS (s : Str) : List AV := [.str s]
def Ac (n : Int) : List AV := [.int .u8 n]
def aj (x : Carrier) : List AV := [.str x.name, .slice (x.elems.map encS) .shared]
def aC (x : Decl) : List AV := [.str x.name, .int .i64 x.ty.kind, .str x.ty.name, .slice (x.ty.kids.map aG) .shared]
theorem ug {α : Type} {f : α → List AV} (hf : ∀ g x, bn g (f x) = f x) (g : Nat → Nat) (l : List α) : aV g (l.map f) = l.map f := by
 rw [zK, List.map_map]
 exact List.map_congr_left fun x _ => hf g x
theorem bD (g : Nat → Nat) (l : List Int) : aV g (l.map encI) = l.map encI := ug (fun _ _ => rfl) g l
theorem bL (g : Nat → Nat) (l : List Int) : aV g (l.map Ac) = l.map Ac := ug (fun _ _ => rfl) g l
theorem bq (g : Nat → Nat) (l : List Str) : aV g (l.map encS) = l.map encS := ug (fun _ _ => rfl) g l
theorem bC (g : Nat → Nat) (l : List Ty) : aV g (l.map aG) = l.map aG := ZA g l
theorem bM (g : Nat → Nat) (l : List Tm) : aV g (l.map qj) = l.map qj := ZL g l
theorem aH (g : Nat → Nat) (l : List Carrier) : aV g (l.map aj) = l.map aj := ug (fun g x => by simp only [aj, bn, ren, cK, bq]) g l
theorem aO (g : Nat → Nat) (l : List Decl) : aV g (l.map aC) = l.map aC := ug (fun g x => by simp only [aC, bn, ren, cK, bC]) g l
theorem ab5 (g : Nat → Nat) (n : Int) : bn g (encI n) = encI n := rfl
theorem abe (g : Nat → Nat) (n : Str) : bn g (encS n) = encS n := rfl
theorem ZV (g : Nat → Nat) (n : Int) : bn g (Ac n) = Ac n := rfl
theorem Pv (g : Nat → Nat) (x : Carrier) : bn g (aj x) = aj x := by simp only [aj, bn, ren, cK, bq]
theorem XD (g : Nat → Nat) (x : Decl) : bn g (aC x) = aC x := by simp only [aC, bn, ren, cK, bC]
@[reducible] def Na {α β : Type} (o : Option α) (Y : β) (X : α → β) : β := match o with | some v => X v | none => Y
theorem kR {α : Type} (l : List α) : l = l.take l.length := by simp
theorem Un {α : Type} {l l' ys r : List α} {f : α → List AV} {b sz : Nat} {K : List (List AV) → Nat → Prop} (h : app b l' ys = some r) (hp : l' = l.take l'.length) (hf : ∀ x, bQ sz (f x) = true) (hK : K (r.map f) r.length) :
  (l'.length ≤ (l.map f).length ∧ (l'.length + (ys.map f).length) * b ≤ 140737488355328 ∧ l'.length + (ys.map f).length ≤ 140737488355328 ∧ ((l.map f).all (bQ sz) = true) ∧ ((ys.map f).all (bQ sz) = true)) ∧ ∃ r m, r = (l.map f).take l'.length ++ ys.map f ∧ m = r.length ∧ K r m := by
 obtain ⟨h1, h2, rfl⟩ := Lv h
 have hle : l'.length ≤ l.length := by
  have := congrArg List.length hp
  rw [List.length_take] at this; omega
 refine ⟨⟨by simpa using hle, by simpa using h1, by simpa using h2, Ed hf _, Ed hf _⟩, (l' ++ ys).map f, (l' ++ ys).length, ?_, by simp, hK⟩
 rw [← List.map_take, ← hp, List.map_append]
theorem QX {α : Type} {f : α → List AV} {e e0 : List α} {g : Nat → Nat} (hr : ∀ g (l : List α), aV g (l.map f) = l.map f) (hp : e = e0.take e.length) : aV g (e.map f) = (e0.map f).take e.length := by
 rw [hr, ← List.map_take, ← hp]
theorem VW.U0 {α : Type} {f : α → List AV} {e e0 : List α} {h : List AObj} {L : List (Option Nat)} {l z : Nat} (hr : ∀ g (l : List α), aV g (l.map f) = l.map f) (hp : e = e0.take e.length) (ho : obj? h l = .arr z (e0.map f)) (hn : L.contains (some l) = false) : VW h L (.slice (e.map f) .shared) (.psl l z e.length) := by
 have hle : e.length ≤ e0.length := by
  have := congrArg List.length hp
  rw [List.length_take] at this; omega
 exact .frzP ho (fun hm => by simp [hm] at hn) (by simpa using hle) (QX hr hp)
theorem OW.arr' {α : Type} {f : α → List AV} {e e0 : List α} {h : List AObj} {L : List (Option Nat)} {z : Nat} (hr : ∀ g (l : List α), aV g (l.map f) = l.map f) (hp : e = e0.take e.length) : OW h L (.arr z (e.map f)) (.arr z (e0.map f)) := .arr (QX hr hp)
theorem bE (g : Nat → Nat) (xs ys : List AV) : bn g (xs ++ ys) = bn g xs ++ bn g ys := by simp only [tq, List.map_append]
def upd {α : Type} (l : List α) (i : Int) (v : α) : List α := l.set i.toNat v
theorem Pq {α : Type} {l : List α} {n : Int} {x : α} (h : idx l n = some x) : 0 ≤ n ∧ n < (l.length : Int) ∧ l[n.toNat]? = some x := by
 unfold idx at h
 split at h
 ·rename_i h0
  have := (List.getElem?_eq_some_iff.1 h).1
  exact ⟨h0, by omega, h⟩
 ·cases h
theorem ixp {α : Type} {l l0 : List α} {n : Int} {x : α} {z : Nat} {B : Nat → Prop} (hx : idx l n = some x) (hl : l0.length = l.length) (hB : B (n.toNat * z)) : ∃ m : Nat, (0 ≤ n ∧ n < ((l0.length : Nat) : Int) ∧ z = z) ∧ m = n.toNat * z ∧ B m := by
 obtain ⟨h1, h2, _⟩ := Pq hx
 exact ⟨_, ⟨h1, by rw [hl]; exact h2, rfl⟩, rfl, hB⟩
theorem ldp {α : Type} {l : List α} {f : α → List AV} {n : Int} {x : α} {z : Nat} {cs : List AV} {B : List AV → Prop} (hx : idx l n = some x) (hf : f x = cs) (hz : 0 < z) (hB : B cs) : ∃ i cs', n.toNat * z = i * z ∧ 0 < z ∧ (l.map f)[i]? = some cs' ∧ B cs' := by
 obtain ⟨_, _, h3⟩ := Pq hx
 exact ⟨n.toNat, cs, rfl, hz, by rw [List.getElem?_map, h3, ← hf]; rfl, hB⟩
theorem stp {α : Type} {l : List α} {f : α → List AV} {n : Int} {x v : α} {z : Nat} {vs : List AV} {B : List (List AV) → Prop} (hx : idx l n = some x) (hv : vs = f v) (hz : 0 < z) (hB : B ((upd l n v).map f)) : ∃ i r, n.toNat * z = i * z ∧ 0 < z ∧ i < (l.map f).length ∧ r = (l.map f).set i vs ∧ B r := by
 obtain ⟨_, h2, _⟩ := Pq hx
 exact ⟨n.toNat, _, rfl, hz, by rw [List.length_map]; omega, by rw [hv, upd, List.map_set], hB⟩
theorem abx {g : Nat → Nat} {l z n n' : Nat} {y : AV} (h : n = n') (h2 : ren g (.psl l z n') = y) : ren g (.psl l z n) = y := h ▸ h2
def C8 (a b : Str) : Bool := decide (a ≤ b)
inductive Val where
 | mk (kind : Int) (n : Int) (name : Str) (kids : List Val)
def Val.kind : Val → Int | .mk k _ _ _ => k
def Val.n : Val → Int | .mk _ n _ _ => n
def Val.name : Val → Str | .mk _ _ s _ => s
def Val.kids : Val → List Val | .mk _ _ _ ks => ks
mutual
def ah : Val → List AV
 | .mk k n s ks => [.int .i64 k, .int .i64 n, .str s, .slice (tO ks) .shared]
def tO : List Val → List (List AV)
 | [] => []
 | t :: ts => ah t :: tO ts
end
theorem Af : ∀ ts, tO ts = ts.map ah
 | [] => rfl
 | t :: ts => by simp [tO, Af ts]
theorem bf (t : Val) : ah t = [.int .i64 t.kind, .int .i64 t.n, .str t.name, .slice (t.kids.map ah) .shared] := by
 cases t; simp [ah, Af, Val.kind, Val.n, Val.name, Val.kids]
mutual
theorem xX (g : Nat → Nat) : ∀ t, bn g (ah t) = ah t
 | .mk k n s ks => by simp only [ah, bn, ren, cK, Az g ks]
theorem Az (g : Nat → Nat) : ∀ ts, aV g (tO ts) = tO ts
 | [] => rfl
 | t :: ts => by simp only [tO, aV, xX g t, Az g ts]
end
theorem aN (g : Nat → Nat) (ts : List Val) : aV g (ts.map ah) = ts.map ah := by rw [← Af]; exact Az g ts
theorem oF (n : Val) : bQ 4 (ah n) = true := by rw [bf]; rfl
def strings_Compare (_ : Nat) (a b : Str) : Option Int := some (Lib.compareBytes a b)
def qC (_ : Nat) : Option Bool := some true
end Abs
end Go.Proofs.YtkopaeklihhdlaaGreat

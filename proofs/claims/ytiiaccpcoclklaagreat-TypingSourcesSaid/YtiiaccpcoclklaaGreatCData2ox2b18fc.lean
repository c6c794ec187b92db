/-
  More of the program's data as plain structures, and as abstract values. Conditions: none; definitions and lemmas.
-/
import Derived.Test.YtiiaccpcoclklaaGreatProg
import Derived.KernelRfl
import Derived.Shelf.SlGeneric
import Derived.Shelf.SlIter.Nil
import Derived.Shelf.SortM.Plain
import Derived.Shelf.SortM.SortNone
import Derived.Ground.GgzProg
import Derived.Ground.SlgmProg
import Derived.Test.YtiiaccpcoclklaaGreatCAbs34ox78c85b
set_option linter.unusedSimpArgs false
set_option linter.unusedVariables false
namespace Go.Proofs.YtiiaccpcoclklaaGreat
namespace Abs
open Go
structure Carrier where
 name : Str
 elems : List Str
structure Decl where
 name : Str
 ty : Ty
structure Env where
 carriers : List Carrier
 names : List Decl
def encI (n : Int) : List AV := [.int .i64 n]
def encS (s : Str) : List AV := [.str s]
def IC (n : Int) : List AV := [.int .u8 n]
def toByte (n : Int) : UInt8 := UInt8.ofNat n.toNat
theorem abh : ∀ l : List Int, zU (l.map IC) = some (l.map toByte)
 | [] => rfl
 | n :: l => by simp only [List.map_cons, zU, IC]; rw [abh l]; rfl
theorem ahy {l : List Int} {B : List UInt8 → Prop} (h : B (l.map toByte)) : ∃ bs, zU (l.map IC) = some bs ∧ B bs := ⟨_, abh l, h⟩
def aL (x : Carrier) : List AV := [.str x.name, .slice (x.elems.map encS) .shared]
def aO (x : Decl) : List AV := [.str x.name, .int .i64 x.ty.kind, .str x.ty.name, .slice (x.ty.kids.map aI) .shared]
theorem Dp {α : Type} {f : α → List AV} (hf : ∀ g x, bS g (f x) = f x) (g : Nat → Nat) (l : List α) : bK g (l.map f) = l.map f := by
 rw [Mq, List.map_map]
 exact List.map_congr_left fun x _ => hf g x
theorem aQ (g : Nat → Nat) (l : List Int) : bK g (l.map encI) = l.map encI := Dp (fun _ _ => rfl) g l
theorem bQ (g : Nat → Nat) (l : List Int) : bK g (l.map IC) = l.map IC := Dp (fun _ _ => rfl) g l
theorem aY (g : Nat → Nat) (l : List Str) : bK g (l.map encS) = l.map encS := Dp (fun _ _ => rfl) g l
theorem aA (g : Nat → Nat) (l : List Ty) : bK g (l.map aI) = l.map aI := akF g l
theorem aK (g : Nat → Nat) (l : List Tm) : bK g (l.map aN) = l.map aN := asC g l
theorem au (g : Nat → Nat) (l : List Carrier) : bK g (l.map aL) = l.map aL := Dp (fun g x => by simp only [aL, bS, ren, dM, aY]) g l
theorem aF (g : Nat → Nat) (l : List Decl) : bK g (l.map aO) = l.map aO := Dp (fun g x => by simp only [aO, bS, ren, dM, aA]) g l
theorem atr (g : Nat → Nat) (n : Int) : bS g (encI n) = encI n := rfl
theorem atQ (g : Nat → Nat) (n : Str) : bS g (encS n) = encS n := rfl
theorem as1 (g : Nat → Nat) (n : Int) : bS g (IC n) = IC n := rfl
theorem aiV (g : Nat → Nat) (x : Carrier) : bS g (aL x) = aL x := by simp only [aL, bS, ren, dM, aY]
theorem ao2 (g : Nat → Nat) (x : Decl) : bS g (aO x) = aO x := by simp only [aO, bS, ren, dM, aA]
theorem amJ (n : Int) : eY 1 (encI n) = true := rfl
theorem zN (n : Str) : eY 1 (encS n) = true := rfl
theorem ahv (n : Ty) : eY 3 (aI n) = true := by rw [aR]; rfl
theorem Qs (n : Tm) : eY 7 (aN n) = true := by rw [aS]; rfl
def gq {α : Type} (m : List (Str × α)) (k : Str) : Option α := (m.find? fun p => p.1 == k).map (·.2)
def mR {α : Type} (m : List (Str × α)) (k : Str) (v : α) : List (Str × α) :=
 match m with
 | [] => [(k, v)]
 | p :: r => if p.1 == k then (k, v) :: r else p :: mR r k v
def CJ {α : Type} (m : List (Str × α)) (k : Str) (v : α) : Option (List (Str × α)) := if m.length < 140737488355328 then some (mR m k v) else none
@[reducible] def mel {α β : Type} (o : Option α) (Y : β) (X : α → β) : β := match o with | some v => X v | none => Y
theorem ahA {α : Type} (f : α → AV) : ∀ (m : List (Str × α)) (k : Str), wm (m.map fun p => (p.1, f p.2)) k = (gq m k).map f
 | [], k => rfl
 | p :: m, k => by
  have ih := ahA f m k
  unfold wm gq at *
  simp only [List.map_cons, List.find?_cons]
  cases h : (p.1 == k)
  ·exact ih
  ·rfl
theorem akX {α : Type} (f : α → AV) : ∀ (m : List (Str × α)) (k : Str) (v : α), GJ (m.map fun p => (p.1, f p.2)) k (f v) = (mR m k v).map fun p => (p.1, f p.2)
 | [], k, v => rfl
 | p :: m, k, v => by
  simp only [List.map_cons, GJ, mR]
  split
  ·rfl
  ·rw [akX f m k v]; rfl
theorem Vf {α β : Type} {m : List (Str × α)} {k : Str} {f : α → AV} {A : AV → Prop} {B : Prop} {X : α → Option β} {Y : Option β} {r : β} (h : mel (gq m k) Y X = some r)
  (h1 : ∀ x, gq m k = some x → X x = some r → A (f x)) (h2 : gq m k = none → Y = some r → B) : (∀ v, wm (m.map fun p => (p.1, f p.2)) k = some v → A v) ∧ (wm (m.map fun p => (p.1, f p.2)) k = none → B) := by
 rw [ahA]
 cases hm : gq m k with
 | none => rw [hm] at h; exact ⟨fun v hv => (by cases hv), fun _ => h2 hm h⟩
 | some x => rw [hm] at h; exact ⟨fun v hv => (by cases hv; exact h1 x hm h), fun hv => (by cases hv)⟩
theorem Oh {α : Type} {m r : List (Str × α)} {k : Str} {f : α → AV} {v : α} {u : AV} {B : List (List UInt8 × AV) → Prop} (h : CJ m k v = some r) (hu : u = f v) (hB : B (r.map fun p => (p.1, f p.2))) :
  ∃ es, (m.map fun p => (p.1, f p.2)).length < 140737488355328 ∧ es = GJ (m.map fun p => (p.1, f p.2)) k u ∧ B es := by
 unfold CJ at h
 split at h
 ·rename_i hl; cases h
  exact ⟨_, by rw [List.length_map]; exact hl, by rw [hu, akX], hB⟩
 ·cases h
theorem eu {α : Type} {f : α → AV} (hf : ∀ g x, ren g (f x) = f x) (g : Nat → Nat) (m : List (Str × α)) : (m.map fun p => (p.1, f p.2)).map (fun p => (p.1, ren g p.2)) = m.map fun p => (p.1, f p.2) := by
 rw [List.map_map]
 exact List.map_congr_left fun p _ => by simp only [Function.comp, hf]
theorem aT {α : Type} (l : List α) : l = l.take l.length := by simp
theorem Vo {α : Type} {l l' ys r : List α} {f : α → List AV} {b sz : Nat} {K : List (List AV) → Nat → Prop} (h : app b l' ys = some r) (hp : l' = l.take l'.length) (hf : ∀ x, eY sz (f x) = true) (hK : K (r.map f) r.length) :
  (l'.length ≤ (l.map f).length ∧ (l'.length + (ys.map f).length) * b ≤ 140737488355328 ∧ l'.length + (ys.map f).length ≤ 140737488355328 ∧ ((l.map f).all (eY sz) = true) ∧ ((ys.map f).all (eY sz) = true)) ∧ ∃ r m, r = (l.map f).take l'.length ++ ys.map f ∧ m = r.length ∧ K r m := by
 obtain ⟨h1, h2, rfl⟩ := aeL h
 have hle : l'.length ≤ l.length := by
  have := congrArg List.length hp
  rw [List.length_take] at this; omega
 refine ⟨⟨by simpa using hle, by simpa using h1, by simpa using h2, Sr hf _, Sr hf _⟩, (l' ++ ys).map f, (l' ++ ys).length, ?_, by simp, hK⟩
 rw [← List.map_take, ← hp, List.map_append]
theorem as7 {α : Type} {l x : List α} {hi : Int} {k : IntKind} {B : Nat → Prop} (hx : iX l 0 hi = some x) (hB : B x.length) : ∃ m, gQ (some (.int k hi)) l.length l.length = some m ∧ B m := by
 unfold iX at hx
 split at hx
 ·rename_i h0
  obtain ⟨_, h2, h3⟩ := h0
  cases hx
  refine ⟨_, ?_, hB⟩
  simp only [gQ]
  rw [if_pos ⟨by omega, h3⟩]
  simp; omega
 ·cases hx
theorem ap5 {α : Type} {l l' x : List α} {hi : Int} (hx : iX l' 0 hi = some x) (hp : l' = l.take l'.length) : x = l.take x.length := by
 unfold iX at hx
 split at hx
 ·rename_i h0
  cases hx
  have hle : l'.length ≤ l.length := by
   have := congrArg List.length hp
   rw [List.length_take] at this; omega
  simp only [Int.toNat_zero, List.drop_zero, Nat.sub_zero, List.length_take]
  rw [hp, List.take_take]
  simp only [List.length_take]
  congr 1; omega
 ·cases hx
theorem ahW {α : Type} {f : α → List AV} {e e0 : List α} {g : Nat → Nat} (hr : ∀ g (l : List α), bK g (l.map f) = l.map f) (hp : e = e0.take e.length) : bK g (e.map f) = (e0.map f).take e.length := by
 rw [hr, ← List.map_take, ← hp]
theorem VW.Gf {α : Type} {f : α → List AV} {e e0 : List α} {h : List AObj} {L : List (Option Nat)} {l z : Nat} (hr : ∀ g (l : List α), bK g (l.map f) = l.map f) (hp : e = e0.take e.length) (ho : obj? h l = .arr z (e0.map f)) (hn : L.contains (some l) = false) : VW h L (.slice (e.map f) .shared) (.psl l z e.length) := by
 have hle : e.length ≤ e0.length := by
  have := congrArg List.length hp
  rw [List.length_take] at this; omega
 exact .frzP ho (fun hm => by simp [hm] at hn) (by simpa using hle) (ahW hr hp)
theorem OW.arr' {α : Type} {f : α → List AV} {e e0 : List α} {h : List AObj} {L : List (Option Nat)} {z : Nat} (hr : ∀ g (l : List α), bK g (l.map f) = l.map f) (hp : e = e0.take e.length) : OW h L (.arr z (e.map f)) (.arr z (e0.map f)) := .arr (ahW hr hp)
theorem dw {α : Type} {c : Bool} {X Y : Option α} {r : α} (h : cond c X Y = some r) : (c = true ∧ X = some r) ∨ (c = false ∧ Y = some r) := by
 cases c
 ·exact .inr ⟨rfl, h⟩
 ·exact .inl ⟨rfl, h⟩
theorem eZ {n q : Int} {len o sz : Nat} {B : Nat → Prop} (hc : (n == q) = true) (hq : 0 ≤ q ∧ q < (len : Int)) (hB : B (o + q.toNat * sz)) : ∃ m : Nat, (0 ≤ n ∧ n < (len : Int)) ∧ m = o + n.toNat * sz ∧ B m := by
 have e : n = q := by simpa using hc
 subst e
 exact ⟨_, hq, rfl, hB⟩
def unc {α : Type} : List α → Option (α × List α)
 | [] => none
 | x :: r => some (x, r)
theorem aeA {α : Type} {l : List α} {f : α → List AV} {x : α × List α} {cells : List AV} {B : List AV → Prop} (hx : unc l = some x) (hc : cells = f x.1 ++ [.flist (x.2.map f)]) (hB : B cells) : ∃ cs r cells, l.map f = cs :: r ∧ cells = cs ++ [AV.flist r] ∧ B cells := by
 cases l with
 | nil => cases hx
 | cons y r => cases hx; exact ⟨_, _, cells, rfl, hc, hB⟩
theorem atI {α : Type} {l : List α} {f : α → List AV} {B : Bool → Prop} (hB : B l.isEmpty) : ∃ b : Bool, b = (l.map f).isEmpty ∧ B b := ⟨l.isEmpty, by cases l <;> rfl, hB⟩
theorem VW.flS {h : List AObj} {L : List (Option Nat)} {es : List (List AV)} (hr : bK (vT L h.length) es = es) : VW h L (.flist es) (.flist es) := .same (by simp only [ren, hr])
theorem bO (g : Nat → Nat) (xs ys : List AV) : bS g (xs ++ ys) = bS g xs ++ bS g ys := by simp only [Fa, List.map_append]
theorem VWs.dO {h : List AObj} {L : List (Option Nat)} {xs ys zs : List AV} (hx : ∀ g, bS g xs = xs) (hv : VWs h L ys zs) : VWs h L (xs ++ ys) (xs ++ zs) := by
 have key : ∀ ws : List AV, bS (vT L h.length) ws = ws → VWs h L (ws ++ ys) (ws ++ zs) := by
  intro ws
  induction ws with
  | nil => intro _; exact hv
  | cons w ws ih => intro hw; simp only [bS, List.cons.injEq] at hw; exact .cons (.same hw.1) (ih hw.2)
 exact key xs (hx _)
def Gt (a b : Str) : Bool := decide (a ≤ b)
def slices_Clone_int (_ : Nat) (p0 : List Int) : Option (List Int) := app 8 ([] : List Int) p0
def vZ (_ : Nat) (p0 : List (Str × Bool)) : Option (List Str) := if p0.length * 16 ≤ 140737488355328 then some ((p0.map (·.1)).mergeSort Gt) else none
def dh (_ : Nat) : Option Bool := some true
def afv (_ : Nat) (_ : List (Str × Bool)) : Option Unit := some ()
end Abs
end Go.Proofs.YtiiaccpcoclklaaGreat
namespace Go.Proofs.YtiiaccpcoclklaaGreat
namespace Abs
open Go Go.Proofs
def ti3 : TI := ⟨some 1, some false, false, false, false, false, false, some .i64, .no, [], [], some ([.int .i64 0]), some (.int .i64 0), none, none, none⟩
def ti4 : TI := ⟨some 1, some false, false, true, false, false, false, none, .no, [], [], some ([.bool false]), some (.bool false), none, none, none⟩
def ti5 : TI := ⟨some 1, some false, false, false, false, false, false, some .u8, .no, [], [], some ([.int .u8 0]), some (.int .u8 0), none, none, none⟩
def ti9 : TI := ⟨some 1, some false, false, false, true, false, false, none, .no, [], [], some ([.str []]), some (.str []), none, none, none⟩
def av6 : TI := ⟨some 1, some false, false, false, false, false, true, none, .sl (some 2), [], [], some ([.slice [] .nils]), some (.slice [] .nils), some 2, some (91, 2, 40), none⟩
def awe : TI := ⟨some 1, some false, false, false, false, false, true, none, .sl (some 4), [], [], some ([.slice [] .nils]), some (.slice [] .nils), some 4, some (60, 4, 64), none⟩
def awl : TI := ⟨some 2, some true, false, false, false, true, false, none, .no, [some (0, 22), some (1, 23)], [some (0, 1), some (1, 1)], some ([.slice [] .nils, .slice [] .nils]), some (.agg ([.slice [] .nils, .slice [] .nils])), none, none, none⟩
def awi : TI := ⟨some 1, some false, false, false, false, false, true, none, .sl (some 3), [], [], some ([.slice [] .nils]), some (.slice [] .nils), some 3, some (28, 3, 48), none⟩
def avS : TI := ⟨some 3, some true, false, false, false, true, false, none, .no, [some (0, 3), some (1, 9), some (2, 26)], [some (0, 1), some (1, 1), some (2, 1)], some ([.int .i64 0, .str [], .slice [] .nils]), some (.agg ([.int .i64 0, .str [], .slice [] .nils])), none, none, none⟩
def awd : TI := ⟨some 1, some false, false, false, false, false, true, none, .sl (some 7), [], [], some ([.slice [] .nils]), some (.slice [] .nils), some 7, some (31, 7, 104), none⟩
def avK : TI := ⟨some 7, some true, false, false, false, true, false, none, .no, [some (0, 3), some (1, 9), some (2, 3), some (3, 28), some (6, 29)], [some (0, 1), some (1, 1), some (2, 1), some (3, 3), some (6, 1)], some ([.int .i64 0, .str [], .int .i64 0, .int .i64 0, .str [], .slice [] .nils, .slice [] .nils]), some (.agg ([.int .i64 0, .str [], .int .i64 0, .int .i64 0, .str [], .slice [] .nils, .slice [] .nils])), none, none, none⟩
def avD : TI := ⟨some 1, some false, false, false, false, false, true, none, .sl (some 1), [], [], some ([.slice [] .nils]), some (.slice [] .nils), some 1, some (3, 1, 8), none⟩
def av8 : TI := ⟨some 1, some false, false, false, false, false, false, some .i64, .no, [], [], some ([.int .i64 0]), some (.int .i64 0), none, none, none⟩
def avY : TI := ⟨some 8, some true, false, false, false, true, false, none, .no, [some (0, 34), some (1, 31)], [some (0, 1), some (1, 7)], some ([.slice [] .nils, .int .i64 0, .str [], .int .i64 0, .int .i64 0, .str [], .slice [] .nils, .slice [] .nils]), some (.agg ([.slice [] .nils, .int .i64 0, .str [], .int .i64 0, .int .i64 0, .str [], .slice [] .nils, .slice [] .nils])), none, none, none⟩
def avO : TI := ⟨some 1, some false, false, false, false, false, true, none, .sl (some 1), [], [], some ([.slice [] .nils]), some (.slice [] .nils), some 1, some (9, 1, 16), none⟩
def av7 : TI := ⟨some 4, some true, false, false, false, true, false, none, .no, [some (0, 9), some (1, 28)], [some (0, 1), some (1, 3)], some ([.str [], .int .i64 0, .str [], .slice [] .nils]), some (.agg ([.str [], .int .i64 0, .str [], .slice [] .nils])), none, none, none⟩
def avN : TI := ⟨some 8, some true, false, false, false, true, false, none, .no, [some (0, 9), some (1, 31)], [some (0, 1), some (1, 7)], some ([.str [], .int .i64 0, .str [], .int .i64 0, .int .i64 0, .str [], .slice [] .nils, .slice [] .nils]), some (.agg ([.str [], .int .i64 0, .str [], .int .i64 0, .int .i64 0, .str [], .slice [] .nils, .slice [] .nils])), none, none, none⟩
def avT : TI := ⟨some 1, some false, false, false, false, false, true, none, .sl (some 8), [], [], some ([.slice [] .nils]), some (.slice [] .nils), some 8, some (63, 8, 120), none⟩
def av3 : TI := ⟨some 1, some false, false, false, false, false, false, none, .no, [], [], some ([.nilFunc]), some (.nilFunc), none, none, none⟩
def avC : TI := ⟨some 17, some true, false, false, false, true, false, none, .no, [some (0, 25), some (2, 31), some (9, 31), some (16, 9)], [some (0, 2), some (2, 7), some (9, 7), some (16, 1)], some ([.slice [] .nils, .slice [] .nils, .int .i64 0, .str [], .int .i64 0, .int .i64 0, .str [], .slice [] .nils, .slice [] .nils, .int .i64 0, .str [], .int .i64 0, .int .i64 0, .str [], .slice [] .nils, .slice [] .nils, .str []]), some (.agg ([.slice [] .nils, .slice [] .nils, .int .i64 0, .str [], .int .i64 0, .int .i64 0, .str [], .slice [] .nils, .slice [] .nils, .int .i64 0, .str [], .int .i64 0, .int .i64 0, .str [], .slice [] .nils, .slice [] .nils, .str []])), none, none, none⟩
def awn : TI := ⟨some 2, some true, false, false, false, true, false, none, .no, [some (0, 9), some (1, 49)], [some (0, 1), some (1, 1)], some ([.str [], .slice [] .nils]), some (.agg ([.str [], .slice [] .nils])), none, none, none⟩
def avR : TI := ⟨some 1, some false, false, false, false, false, false, none, .no, [], [], some ([.nilFunc]), some (.nilFunc), none, none, none⟩
def avM : TI := ⟨some 1, some false, true, false, false, false, false, none, .no, [], [], some ([.nilp]), some (.nilp), none, none, none⟩
def awf : TI := ⟨some 1, some false, false, false, false, false, false, none, .no, [], [], some ([.unk]), some (.unk), none, none, some 28⟩
def auI : TI := ⟨some 1, some false, false, false, false, false, false, none, .no, [], [], some ([.unk]), some (.unk), none, none, some 4⟩
def avm : TI := ⟨some 1, some false, false, false, false, false, false, none, .no, [], [], some ([.nilFunc]), some (.nilFunc), none, none, none⟩
def avb : TI := ⟨some 57, some true, false, false, false, false, false, none, .arr 57 (some 1), [], [], some (List.replicate 57 (.nilFunc)), some (.agg (List.replicate 57 (.nilFunc))), none, none, none⟩
def avr : TI := ⟨some 60, some true, false, false, false, true, false, none, .no, [some (0, 99), some (1, 100), some (2, 103), some (59, 34)], [some (0, 1), some (1, 1), some (2, 57), some (59, 1)], some ([.unk, .unk, .nilFunc, .nilFunc, .nilFunc, .nilFunc, .nilFunc, .nilFunc, .nilFunc, .nilFunc, .nilFunc, .nilFunc, .nilFunc, .nilFunc, .nilFunc, .nilFunc, .nilFunc, .nilFunc, .nilFunc, .nilFunc, .nilFunc, .nilFunc, .nilFunc, .nilFunc, .nilFunc, .nilFunc, .nilFunc, .nilFunc, .nilFunc, .nilFunc, .nilFunc, .nilFunc, .nilFunc, .nilFunc, .nilFunc, .nilFunc, .nilFunc, .nilFunc, .nilFunc, .nilFunc, .nilFunc, .nilFunc, .nilFunc, .nilFunc, .nilFunc, .nilFunc, .nilFunc, .nilFunc, .nilFunc, .nilFunc, .nilFunc, .nilFunc, .nilFunc, .nilFunc, .nilFunc, .nilFunc, .nilFunc, .nilFunc, .nilFunc, .slice [] .nils]), some (.agg ([.unk, .unk, .nilFunc, .nilFunc, .nilFunc, .nilFunc, .nilFunc, .nilFunc, .nilFunc, .nilFunc, .nilFunc, .nilFunc, .nilFunc, .nilFunc, .nilFunc, .nilFunc, .nilFunc, .nilFunc, .nilFunc, .nilFunc, .nilFunc, .nilFunc, .nilFunc, .nilFunc, .nilFunc, .nilFunc, .nilFunc, .nilFunc, .nilFunc, .nilFunc, .nilFunc, .nilFunc, .nilFunc, .nilFunc, .nilFunc, .nilFunc, .nilFunc, .nilFunc, .nilFunc, .nilFunc, .nilFunc, .nilFunc, .nilFunc, .nilFunc, .nilFunc, .nilFunc, .nilFunc, .nilFunc, .nilFunc, .nilFunc, .nilFunc, .nilFunc, .nilFunc, .nilFunc, .nilFunc, .nilFunc, .nilFunc, .nilFunc, .nilFunc, .slice [] .nils])), none, none, none⟩
def avn : TI := ⟨some 3, some true, false, false, false, true, false, none, .no, [some (0, 3), some (1, 9), some (2, 3)], [some (0, 1), some (1, 1), some (2, 1)], some ([.int .i64 0, .str [], .int .i64 0]), some (.agg ([.int .i64 0, .str [], .int .i64 0])), none, none, none⟩
def avk : TI := ⟨some 7, some true, false, false, false, true, false, none, .no, [some (0, 9), some (1, 116), some (4, 3), some (5, 3), some (6, 35)], [some (0, 1), some (1, 3), some (4, 1), some (5, 1), some (6, 1)], some ([.str [], .int .i64 0, .str [], .int .i64 0, .int .i64 0, .int .i64 0, .int .i64 0]), some (.agg ([.str [], .int .i64 0, .str [], .int .i64 0, .int .i64 0, .int .i64 0, .int .i64 0])), none, none, none⟩
def au9 : TI := ⟨some 3, some true, false, false, false, true, false, none, .no, [some (0, 3), some (1, 3), some (2, 3)], [some (0, 1), some (1, 1), some (2, 1)], some ([.int .i64 0, .int .i64 0, .int .i64 0]), some (.agg ([.int .i64 0, .int .i64 0, .int .i64 0])), none, none, none⟩
def au2 : TI := ⟨some 1, some false, true, false, false, false, false, none, .no, [], [], some ([.nilp]), some (.nilp), none, none, none⟩
def auZ : TI := ⟨some 1, some false, false, false, false, false, false, none, .no, [], [], some ([.nilFunc]), some (.nilFunc), none, none, none⟩
def auK : TI := ⟨some 5, some true, false, false, false, true, false, none, .no, [some (0, 9), some (1, 28), some (4, 150)], [some (0, 1), some (1, 3), some (4, 1)], some ([.str [], .int .i64 0, .str [], .slice [] .nils, .nilp]), some (.agg ([.str [], .int .i64 0, .str [], .slice [] .nils, .nilp])), none, none, none⟩
def au3 : TI := ⟨some 1, some false, false, false, false, false, false, some .u64, .no, [], [], some ([.int .u64 0]), some (.int .u64 0), none, none, none⟩
def auY : TI := ⟨some 1, some false, true, false, false, false, false, none, .no, [], [], some ([.nilp]), some (.nilp), none, none, none⟩
def auF : TI := ⟨some 1, some false, false, false, false, false, false, none, .no, [], [], some ([.nilFunc]), some (.nilFunc), none, none, none⟩
def auH : TI := ⟨some 1, some false, false, false, false, false, true, none, .sl (some 1), [], [], some ([.slice [] .nils]), some (.slice [] .nils), some 1, some (5, 1, 1), none⟩
def avw : TI := ⟨some 1, some false, false, false, false, false, false, some .i64, .no, [], [], some ([.int .i64 0]), some (.int .i64 0), none, none, none⟩
def avo : TI := ⟨some 1, some false, false, false, false, false, false, some .u32, .no, [], [], some ([.int .u32 0]), some (.int .u32 0), none, none, none⟩
def auW : TI := ⟨some 1, some false, false, false, false, false, false, some .u64, .no, [], [], some ([.int .u64 0]), some (.int .u64 0), none, none, none⟩
def avi : TI := ⟨some 1, some false, false, false, false, false, false, some .u64, .no, [], [], some ([.int .u64 0]), some (.int .u64 0), none, none, none⟩
def tab : Tr := (.node (.node (.node (.node (.node (.node .nil 3 ti3 .nil) 4 ti4 .nil) 5 ti5 (.node (.node .nil 9 ti9 .nil) 22 av6 .nil)) 23 awe (.node (.node (.node .nil 25 awl .nil) 26 awi .nil) 28 avS (.node .nil 29 awd .nil))) 31 avK (.node (.node (.node (.node .nil 34 avD .nil) 35 av8 .nil) 47 avY (.node (.node .nil 49 avO .nil) 60 av7 .nil)) 63 avN (.node (.node (.node .nil 64 avT .nil) 72 av3 .nil) 83 avC (.node .nil 91 awn .nil)))) 93 avR (.node (.node (.node (.node (.node .nil 95 avM .nil) 99 awf .nil) 100 auI (.node (.node .nil 102 avm .nil) 103 avb .nil)) 105 avr (.node (.node (.node .nil 116 avn .nil) 119 avk .nil) 147 au9 (.node .nil 150 au2 .nil))) 152 auZ (.node (.node (.node (.node .nil 154 auK .nil) 158 au3 .nil) 187 auY (.node .nil 195 auF .nil)) 204 auH (.node (.node (.node .nil 218 avw .nil) 226 avo .nil) 228 auW (.node .nil 230 avi .nil)))))
theorem at5 : tab.keys.map (TI.of Tryz.prog) = tab.vals := by kernel_rfl
noncomputable def τ (t : Nat) : TI := tab.look (TI.of Tryz.prog) t
theorem dJ : τ = TI.of Tryz.prog := atX at5
theorem qY : Tryz.prog.follows .mixedOrders = true := by kernel_rfl
end Abs
end Go.Proofs.YtiiaccpcoclklaaGreat
namespace Go.Proofs.YtiiaccpcoclklaaGreat
namespace Abs
open Go
inductive Sl : List AV → List AV → Prop where
 | n : Sl [] []
 | u {y : AV} {xs ys : List AV} : Sl xs ys → Sl (.unk :: xs) (y :: ys)
 | s {x : AV} {xs ys : List AV} : Sl xs ys → Sl (x :: xs) (x :: ys)
 | e {es : List (List AV)} {t : Tag} {xs ys : List AV} : Sl xs ys → Sl (.slice es .shared :: xs) (.slice es t :: ys)
section
variable {xs ys : List AV}
theorem Sl.u2 {a b : AV} (hv : Sl xs ys) : Sl (Abs.u2 xs) (a :: b :: ys) := .u (.u hv)
theorem Sl.u4 {a b c d : AV} (hv : Sl xs ys) : Sl (Abs.u4 xs) (a :: b :: c :: d :: ys) := .u2 (.u2 hv)
theorem Sl.u8 {a0 a1 a2 a3 a4 a5 a6 a7 : AV} (hv : Sl xs ys) : Sl (Abs.u8 xs) (a0 :: a1 :: a2 :: a3 :: a4 :: a5 :: a6 :: a7 :: ys) := .u4 (.u4 hv)
theorem Sl.u16 {a0 a1 a2 a3 a4 a5 a6 a7 a8 a9 a10 a11 a12 a13 a14 a15 : AV} (hv : Sl xs ys) : Sl (Abs.u16 xs) (a0 :: a1 :: a2 :: a3 :: a4 :: a5 :: a6 :: a7 :: a8 :: a9 :: a10 :: a11 :: a12 :: a13 :: a14 :: a15 :: ys) := .u8 (.u8 hv)
end
theorem Sl.len {xs ys : List AV} (h : Sl xs ys) : xs.length = ys.length := by
 induction h with
 | n => rfl
 | u _ ih => simp [ih]
 | s _ ih => simp [ih]
 | e _ ih => simp [ih]
theorem Sl.get {xs ys : List AV} (h : Sl xs ys) {w : World} {κ : dL} {pv : iT} {v : Value} : ∀ n, Rel w κ pv (ys.getD n .unk) v → Rel w κ pv (xs.getD n .unk) v := by
 induction h with
 | n => intro n _; exact .unk _
 | u _ ih => intro n hr; cases n with
  | zero => exact .unk _
  | succ n => exact ih n hr
 | s _ ih => intro n hr; cases n with
  | zero => exact hr
  | succ n => exact ih n hr
 | e _ ih => intro n hr; cases n with
  | zero => exact Rel.share hr
  | succ n => exact ih n hr
theorem li {m : Nat} {t t' : List AV} {h : List AObj} (hs : Sl t' t) : Le m t h t' h := fun C κ a w _ s =>
 ⟨κ, s.defers, by rw [s.len]; exact hs.len.symm, fun n hn => hs.get n (s.slot n (by have := hs.len; simp only at hn ⊢; omega)), s.klen, s.kext, s.resv, s.obj, s.apart, s.own, s.bound, s.pvold, s.oldlt, s.old, s.os, s.tape, s.output, s.size, s.pvsub, s.evo⟩
inductive Ol : List AObj → List AObj → Prop where
 | n : Ol [] []
 | s {o : AObj} {xs ys : List AObj} : Ol xs ys → Ol (o :: xs) (o :: ys)
 | b {cs ds : List AV} {xs ys : List AObj} : Sl cs ds → Ol xs ys → Ol (.box cs :: xs) (.box ds :: ys)
theorem Ol.get {xs ys : List AObj} (h : Ol xs ys) : xs.length = ys.length ∧ ∀ l, obj? xs l = obj? ys l ∨ ∃ cs ds, Sl cs ds ∧ obj? xs l = .box cs ∧ obj? ys l = .box ds := by
 induction h with
 | n => exact ⟨rfl, fun l => .inl rfl⟩
 | s _ ih =>
  refine ⟨by simp [ih.1], fun l => ?_⟩
  cases l with
  | zero => exact .inl rfl
  | succ l => exact ih.2 l
 | b hs _ ih =>
  refine ⟨by simp [ih.1], fun l => ?_⟩
  cases l with
  | zero => exact .inr ⟨_, _, hs, rfl, rfl⟩
  | succ l => exact ih.2 l
theorem lo {m : Nat} {t t' : List AV} {h h' : List AObj} (hs : Sl t' t) (ho : Ol h' h) : Le m t h t' h' := fun C κ a w _ s => by
 have hg := ho.get
 have hpv : ∀ l, xH (obj? h' l) = xH (obj? h l) := fun l => by
  rcases hg.2 l with e | ⟨cs, ds, hc, e1, e2⟩
  ·rw [e]
  ·rw [e1, e2]; funext off; simp only [xH, hc.len]
 have hlive : ∀ l, live (obj? h' l) ↔ live (obj? h l) := fun l => by
  rcases hg.2 l with e | ⟨cs, ds, hc, e1, e2⟩
  ·rw [e]
  ·rw [e1, e2]; exact Iff.rfl
 have epv : bB C.bH κ h' = bB C.bH κ h := by
  funext b off
  simp only [bB, hpv]
 refine ⟨κ, s.defers, by rw [s.len]; exact hs.len.symm, fun n hn => ?_, by rw [s.klen]; exact hg.1.symm, s.kext, fun l hl => ?_, fun l b hl hv => ?_, fun l l' b h1 h2 h3 h4 => s.apart l l' b h1 h2 ((hlive l).1 h3) ((hlive l').1 h4), fun l b h1 h2 => s.own l b h1 ((hlive l).1 h2), s.bound, s.pvold, s.oldlt, s.old, s.os, s.tape, s.output, s.size, fun b o hp => s.pvsub b o (epv ▸ hp), s.evo⟩
 ·show Rel w κ (bB C.bH κ h') _ _
  rw [epv]
  exact hs.get n (s.slot n (by have := hs.len; simp only at hn ⊢; omega))
 ·refine s.resv l ?_
  rcases hg.2 l with e | ⟨cs, ds, hc, e1, e2⟩
  ·rw [← e]; exact hl
  ·simp only at hl; rw [e1] at hl; cases hl
 ·have ho := s.obj l b hl ((hlive l).1 hv)
  show sP w κ (bB C.bH κ h') b (obj? h' l)
  rw [epv]
  rcases hg.2 l with e | ⟨cs, ds, hc, e1, e2⟩
  ·rw [e]; exact ho
  ·simp only at ho
   rw [e2] at ho
   rw [e1]
   obtain ⟨c, e, k1, k2, k3⟩ := ho
   exact ⟨c, e, k1, k2.trans hc.len.symm, fun j hj => hc.get j (k3 j (by have := hc.len; omega))⟩
section
variable {h : List AObj} {L : List (Option Nat)} {xs ys : List AV} {ls : List (Option Nat)} {os : List AObj} {l : Nat}
theorem VWs.c {x y : AV} (e : ren (vT L h.length) x = y) (hv : VWs h L xs ys) : VWs h L (x :: xs) (y :: ys) := .cons (.same e) hv
theorem VWs.c2 {x x1 y y1 : AV} (hv : VWs h L xs ys) (e : ren (vT L h.length) x = y := by rfl) (e1 : ren (vT L h.length) x1 = y1 := by rfl) : VWs h L (x :: x1 :: xs) (y :: y1 :: ys) := .c e (.c e1 hv)
theorem VWs.c4 {x x1 x2 x3 y y1 y2 y3 : AV} (hv : VWs h L xs ys) (e : ren (vT L h.length) x = y := by rfl) (e1 : ren (vT L h.length) x1 = y1 := by rfl) (e2 : ren (vT L h.length) x2 = y2 := by rfl) (e3 : ren (vT L h.length) x3 = y3 := by rfl) : VWs h L (x :: x1 :: x2 :: x3 :: xs) (y :: y1 :: y2 :: y3 :: ys) := .c2 (.c2 hv e2 e3) e e1
theorem VWs.c7 {x x1 x2 x3 x4 x5 x6 y y1 y2 y3 y4 y5 y6 : AV} (hv : VWs h L xs ys) (e : ren (vT L h.length) x = y := by rfl) (e1 : ren (vT L h.length) x1 = y1 := by rfl) (e2 : ren (vT L h.length) x2 = y2 := by rfl) (e3 : ren (vT L h.length) x3 = y3 := by rfl) (e4 : ren (vT L h.length) x4 = y4 := by rfl) (e5 : ren (vT L h.length) x5 = y5 := by rfl) (e6 : ren (vT L h.length) x6 = y6 := by rfl) : VWs h L (x :: x1 :: x2 :: x3 :: x4 :: x5 :: x6 :: xs) (y :: y1 :: y2 :: y3 :: y4 :: y5 :: y6 :: ys) := .c4 (.c2 (.c e6 hv) e4 e5) e e1 e2 e3
theorem VWs.u {y : AV} (hv : VWs h L xs ys) : VWs h L (.unk :: xs) (y :: ys) := .cons (.unk _) hv
theorem VWs.e {α : Type} {f : α → List AV} {t : Tag} {es : List α} (hr : ∀ (g : Nat → Nat) (l : List α), bK g (l.map f) = l.map f) (hv : VWs h L xs ys) : VWs h L (.slice (es.map f) .shared :: xs) (.slice (es.map f) t :: ys) := .cons (.share (hr _ _)) hv
theorem OWs.b {cs ds : List AV} (e : obj? h l = .box ds) (hc : VWs h L cs ds) (hv : OWs h L ls os) : OWs h L (some l :: ls) (.box cs :: os) := .old (by rw [e]; exact OW.ap4 hc) hv
theorem OWs.t {n : Nat} (e : obj? h l = .tip n) (hv : OWs h L ls os) : OWs h L (some l :: ls) (.tip n :: os) := .old (by rw [e]; exact .tip n) hv
theorem OWs.w {o : AObj} (e : fF o = false) (hv : OWs h L ls os) : OWs h L (none :: ls) (o :: os) := .new e hv
end
theorem wk {m : Nat} {t t' : List AV} {h h' : List AObj} (L : List (Option Nat)) (ht : VWs h L t' t) (ho : OWs h L L h') (hL : okL m h.length L h' = true) : Le m t h t' h' := .of L (.mk' hL ht ho)
theorem AW.q {P : Program} {m : Nat} {x y : Code} {Q : QT} {t : List AV} {h : List AObj} (hw : ∀ K : List AV → List AObj → Prop, (∀ t h, AW P m y Q t h → K t h) → AW P m x (TF K Q) t h) : AW P m (.seq x y) Q t h := AW.xw hw
theorem sj {α : Type} {x r : α} (h : some x = some r) : x = r := Option.some.inj h
end Abs
end Go.Proofs.YtiiaccpcoclklaaGreat
namespace Go.Proofs
open Go.Shelf
def Tryz.Yg : Go.Shelf.Ren := ⟨fun | 7 => 105 | 10 => 185 | n => n, fun | 23 => 100 | 26 => 9 | 3 => 4 | 28 => 131 | 0 => 0 | 27 => 130 | 33 => 84 | 4 => 4 | n => n, fun | n => n⟩
theorem Tryz.asS : Go.Proofs.SlLaysZ.n7 Tryz.prog Tryz.Yg := {
 mixed := by kernel_rfl
 f7 := ⟨Tryz.f105.name, by decide, Tryz.func105.trans (congrArg some (by kernel_rfl))⟩
 f10 := ⟨Tryz.f185.name, by decide, Tryz.func185.trans (congrArg some (by kernel_rfl))⟩
 t0 := Tryz.underlying0
 a0 := Tryz.isAgg0
 z0 := Tryz.sizeOf0
 v0 := Tryz.zeroValue0
 t4 := Tryz.underlying4
 a4 := Tryz.isAgg4
 z4 := Tryz.sizeOf4
 v4 := Tryz.zeroValue4
 t23 := Tryz.underlying100
 a23 := Tryz.isAgg100
 z23 := Tryz.sizeOf100
 v23 := Tryz.zeroValue100
 t26 := Tryz.underlying9
 a26 := Tryz.isAgg9
 z26 := Tryz.sizeOf9
 v26 := Tryz.zeroValue9
 t27 := Tryz.underlying130
 a27 := Tryz.isAgg130
 z27 := Tryz.sizeOf130
 v27 := Tryz.zeroValue130
 t28 := Tryz.underlying131
 a28 := Tryz.isAgg131
 z28 := Tryz.sizeOf131
 v28 := Tryz.zeroValue131
 t33 := Tryz.underlying84
 a33 := Tryz.isAgg84
 z33 := Tryz.sizeOf84
 v33 := Tryz.zeroValue84 }
def Tryz.Ro : Go.Shelf.Ren := ⟨fun | 6 => 104 | 8 => 183 | 9 => 184 | 11 => 249 | 13 => 251 | 12 => 250 | 23 => 286 | 24 => 287 | 14 => 277 | 15 => 278 | 16 => 279 | 17 => 280 | 18 => 281 | 19 => 282 | 20 => 283 | 21 => 284 | 22 => 285 | 25 => 295 | 26 => 296 | 27 => 297 | 28 => 298 | 29 => 299 | 30 => 300 | 31 => 301 | n => n, fun | 26 => 9 | 28 => 131 | 24 => 49 | 0 => 0 | 3 => 3 | 37 => 158 | 48 => 226 | 50 => 228 | 4 => 4 | 40 => 219 | 39 => 218 | 45 => 212 | 5 => 5 | 9 => 9 | 51 => 230 | 55 => 234 | 57 => 236 | 58 => 173 | 33 => 84 | n => n, fun | n => n⟩
theorem Tryz.anZ : Go.Proofs.SlLaysZ.n6 Tryz.prog Tryz.Ro := {
 mixed := by kernel_rfl
 f6 := ⟨Tryz.f104.name, by decide, Tryz.func104.trans (congrArg some (by kernel_rfl))⟩
 f8 := ⟨Tryz.f183.name, by decide, Tryz.func183.trans (congrArg some (by kernel_rfl))⟩
 f11 := ⟨Tryz.f249.name, by decide, Tryz.func249.trans (congrArg some (by kernel_rfl))⟩
 t0 := Tryz.underlying0
 a0 := Tryz.isAgg0
 z0 := Tryz.sizeOf0
 v0 := Tryz.zeroValue0
 t24 := Tryz.underlying49
 a24 := Tryz.isAgg49
 z24 := Tryz.sizeOf49
 v24 := Tryz.zeroValue49
 t26 := Tryz.underlying9
 a26 := Tryz.isAgg9
 z26 := Tryz.sizeOf9
 v26 := Tryz.zeroValue9
 t28 := Tryz.underlying131
 a28 := Tryz.isAgg131
 z28 := Tryz.sizeOf131
 v28 := Tryz.zeroValue131
 i26 := by kernel_rfl }
def Tryz.akr : Go.Shelf.Ren := ⟨fun | 6 => 184 | 8 => 251 | 9 => 250 | 19 => 286 | 20 => 287 | 21 => 277 | 22 => 278 | 23 => 279 | 24 => 280 | 25 => 281 | 26 => 282 | 27 => 283 | 28 => 284 | 29 => 285 | 36 => 295 | 31 => 296 | 32 => 297 | 37 => 298 | 38 => 299 | 39 => 300 | 41 => 301 | n => n, fun | 27 => 49 | 29 => 9 | 3 => 3 | 32 => 158 | 26 => 49 | 0 => 0 | 44 => 226 | 46 => 228 | 4 => 4 | 36 => 219 | 35 => 218 | 41 => 212 | 5 => 5 | 9 => 9 | 53 => 230 | 57 => 234 | 63 => 236 | 64 => 173 | n => n, fun | n => n⟩
theorem Tryz.akZ : Go.Proofs.SlLaysM.n6 Tryz.prog Tryz.akr := {
 mixed := by kernel_rfl
 f6 := ⟨Tryz.f184.name, by decide, Tryz.func184.trans (congrArg some (by kernel_rfl))⟩
 f8 := Tryz.func251.trans (congrArg some (by kernel_rfl))
 f9 := ⟨Tryz.f250.name, by decide, Tryz.func250.trans (congrArg some (by kernel_rfl))⟩
 f19 := Tryz.func286.trans (congrArg some (by kernel_rfl))
 f20 := Tryz.func287.trans (congrArg some (by kernel_rfl))
 f21 := ⟨Tryz.f277.name, by decide, Tryz.func277.trans (congrArg some (by kernel_rfl))⟩
 f22 := ⟨Tryz.f278.name, by decide, Tryz.func278.trans (congrArg some (by kernel_rfl))⟩
 f23 := ⟨Tryz.f279.name, by decide, Tryz.func279.trans (congrArg some (by kernel_rfl))⟩
 f24 := ⟨Tryz.f280.name, by decide, Tryz.func280.trans (congrArg some (by kernel_rfl))⟩
 f25 := ⟨Tryz.f281.name, by decide, Tryz.func281.trans (congrArg some (by kernel_rfl))⟩
 f26 := ⟨Tryz.f282.name, by decide, Tryz.func282.trans (congrArg some (by kernel_rfl))⟩
 f27 := ⟨Tryz.f283.name, by decide, Tryz.func283.trans (congrArg some (by kernel_rfl))⟩
 f28 := ⟨Tryz.f284.name, by decide, Tryz.func284.trans (congrArg some (by kernel_rfl))⟩
 f29 := ⟨Tryz.f285.name, by decide, Tryz.func285.trans (congrArg some (by kernel_rfl))⟩
 f31 := Tryz.func296.trans (congrArg some (by kernel_rfl))
 f32 := Tryz.func297.trans (congrArg some (by kernel_rfl))
 f36 := ⟨Tryz.f295.name, by decide, Tryz.func295.trans (congrArg some (by kernel_rfl))⟩
 f37 := ⟨Tryz.f298.name, by decide, Tryz.func298.trans (congrArg some (by kernel_rfl))⟩
 f38 := ⟨Tryz.f299.name, by decide, Tryz.func299.trans (congrArg some (by kernel_rfl))⟩
 f39 := ⟨Tryz.f300.name, by decide, Tryz.func300.trans (congrArg some (by kernel_rfl))⟩
 f41 := ⟨Tryz.f301.name, by decide, Tryz.func301.trans (congrArg some (by kernel_rfl))⟩
 t0 := Tryz.underlying0
 a0 := Tryz.isAgg0
 z0 := Tryz.sizeOf0
 v0 := Tryz.zeroValue0
 t3 := Tryz.underlying3
 a3 := Tryz.isAgg3
 z3 := Tryz.sizeOf3
 v3 := Tryz.zeroValue3
 t4 := Tryz.underlying4
 a4 := Tryz.isAgg4
 z4 := Tryz.sizeOf4
 v4 := Tryz.zeroValue4
 t5 := Tryz.underlying5
 a5 := Tryz.isAgg5
 z5 := Tryz.sizeOf5
 v5 := Tryz.zeroValue5
 t9 := Tryz.underlying9
 a9 := Tryz.isAgg9
 z9 := Tryz.sizeOf9
 v9 := Tryz.zeroValue9
 t26 := Tryz.underlying49
 a26 := Tryz.isAgg49
 z26 := Tryz.sizeOf49
 v26 := Tryz.zeroValue49
 t27 := Tryz.underlying49
 a27 := Tryz.isAgg49
 z27 := Tryz.sizeOf49
 v27 := Tryz.zeroValue49
 t29 := Tryz.underlying9
 a29 := Tryz.isAgg9
 z29 := Tryz.sizeOf9
 v29 := Tryz.zeroValue9
 t32 := Tryz.underlying158
 a32 := Tryz.isAgg158
 z32 := Tryz.sizeOf158
 v32 := Tryz.zeroValue158
 t35 := Tryz.underlying218
 a35 := Tryz.isAgg218
 z35 := Tryz.sizeOf218
 v35 := Tryz.zeroValue218
 t36 := Tryz.underlying219
 a36 := Tryz.isAgg219
 z36 := Tryz.sizeOf219
 v36 := Tryz.zeroValue219
 t41 := Tryz.underlying212
 a41 := Tryz.isAgg212
 z41 := Tryz.sizeOf212
 v41 := Tryz.zeroValue212
 t44 := Tryz.underlying226
 a44 := Tryz.isAgg226
 z44 := Tryz.sizeOf226
 v44 := Tryz.zeroValue226
 t46 := Tryz.underlying228
 a46 := Tryz.isAgg228
 z46 := Tryz.sizeOf228
 v46 := Tryz.zeroValue228
 t53 := Tryz.underlying230
 a53 := Tryz.isAgg230
 z53 := Tryz.sizeOf230
 v53 := Tryz.zeroValue230
 t57 := Tryz.underlying234
 a57 := Tryz.isAgg234
 z57 := Tryz.sizeOf234
 v57 := Tryz.zeroValue234
 t63 := Tryz.underlying236
 a63 := Tryz.isAgg236
 z63 := Tryz.sizeOf236
 v63 := Tryz.zeroValue236
 t64 := Tryz.underlying173
 a64 := Tryz.isAgg173
 z64 := Tryz.sizeOf173
 v64 := Tryz.zeroValue173 }
end Go.Proofs
namespace Go.Proofs.YtiiaccpcoclklaaGreat
namespace Abs
open Go
def arw : Tag → List Nat
 | .tip l _ => [l]
 | .shared => []
 | .nils => []
mutual
def refs : AV → List Nat
 | .ptr l _ => [l]
 | .mapr l => [l]
 | .eptr cs => ES cs
 | .slice es t => Ot es ++ arw t
 | .agg cs => ES cs
 | .aW cs => ES cs
 | .func _ cs => ES cs
 | .psl l _ _ => [l]
 | .flist ns => Ot ns
 | .unk => []
 | .int _ _ => []
 | .bool _ => []
 | .str _ => []
 | .nilp => []
 | .nilFunc => []
def ES : List AV → List Nat
 | [] => []
 | c :: cs => refs c ++ ES cs
def Ot : List (List AV) → List Nat
 | [] => []
 | c :: cs => ES c ++ Ot cs
end
def Me : AObj → List Nat
 | .box cs => ES cs
 | .mp es => es.flatMap fun p => refs p.2
 | .arr _ es => Ot es
 | .tip _ => []
 | .dead => []
 | .res => []
mutual
theorem Zv {g h : Nat → Nat} : ∀ x : AV, (∀ l ∈ refs x, g (h l) = l) → ren g (ren h x) = x
 | .ptr l o, hx => by simp only [ren]; rw [hx l (by simp [refs])]
 | .mapr l, hx => by simp only [ren]; rw [hx l (by simp [refs])]
 | .eptr cs, hx => by simp only [ren]; rw [Af cs (by simpa [refs] using hx)]
 | .slice es t, hx => by
  simp only [refs, List.mem_append] at hx
  simp only [ren]; rw [J7 es (fun l hl => hx l (.inl hl))]
  cases t with
  | tip l z => simp only [dM]; rw [hx l (.inr (by simp [arw]))]
  | shared => rfl
  | nils => rfl
 | .agg cs, hx => by simp only [ren]; rw [Af cs (by simpa [refs] using hx)]
 | .aW cs, hx => by simp only [ren]; rw [Af cs (by simpa [refs] using hx)]
 | .func f cs, hx => by simp only [ren]; rw [Af cs (by simpa [refs] using hx)]
 | .psl l z n, hx => by simp only [ren]; rw [hx l (by simp [refs])]
 | .flist ns, hx => by simp only [ren]; rw [J7 ns (by simpa [refs] using hx)]
 | .unk, _ => rfl
 | .int _ _, _ => rfl
 | .bool _, _ => rfl
 | .str _, _ => rfl
 | .nilp, _ => rfl
 | .nilFunc, _ => rfl
theorem Af {g h : Nat → Nat} : ∀ cs : List AV, (∀ l ∈ ES cs, g (h l) = l) → bS g (bS h cs) = cs
 | [], _ => rfl
 | c :: cs, hx => by
  simp only [ES, List.mem_append] at hx
  simp only [bS]; rw [Zv c (fun l hl => hx l (.inl hl)), Af cs (fun l hl => hx l (.inr hl))]
theorem J7 {g h : Nat → Nat} : ∀ es : List (List AV), (∀ l ∈ Ot es, g (h l) = l) → bK g (bK h es) = es
 | [], _ => rfl
 | c :: cs, hx => by
  simp only [Ot, List.mem_append] at hx
  simp only [bK]; rw [Af c (fun l hl => hx l (.inl hl)), J7 cs (fun l hl => hx l (.inr hl))]
end
theorem agw {g h : Nat → Nat} (o : AObj) (hx : ∀ l ∈ Me o, g (h l) = l) : dx g (dx h o) = o := by
 cases o with
 | box cs => simp only [dx]; rw [Af cs hx]
 | mp es =>
  simp only [dx, List.map_map, AObj.mp.injEq]
  simp only [Me, List.mem_flatMap] at hx
  conv => rhs; rw [← List.map_id es]
  refine List.map_congr_left fun p hp => ?_
  simp only [Function.comp]
  rw [Zv p.2 (fun l hl => hx l ⟨p, hp, hl⟩)]; rfl
 | arr z es => simp only [dx]; rw [J7 es hx]
 | tip n => rfl
 | dead => rfl
 | res => rfl
def posOf : List Nat → Nat → Nat
 | [], _ => 0
 | x :: xs, l => bif Nat.beq x l then 0 else posOf xs l + 1
theorem TP : ∀ {L : List Nat} {l : Nat}, l ∈ L → L[posOf L l]? = some l
 | x :: xs, l, h => by
  unfold posOf
  cases hb : Nat.beq x l with
  | true => have := Nat.eq_of_beq_eq_true hb; subst this; rfl
  | false =>
   simp only [cond_false, List.getElem?_cons_succ]
   refine TP ?_
   rcases List.mem_cons.1 h with rfl | h
   ·rw [Nat.beq_refl l] at hb; cases hb
   ·exact h
def has : List Nat → Nat → Bool
 | [], _ => false
 | x :: xs, l => bif Nat.beq x l then true else has xs l
theorem OQ : ∀ {L : List Nat} {l : Nat}, has L l = true → l ∈ L
 | x :: xs, l, h => by
  unfold has at h
  cases hb : Nat.beq x l with
  | true => rw [Nat.eq_of_beq_eq_true hb]; simp
  | false => rw [hb] at h; exact List.mem_cons_of_mem _ (OQ h)
def Ou : List Nat → Bool
 | [] => true
 | x :: xs => bif has xs x then false else Ou xs
theorem has_of_mem : ∀ {L : List Nat} {l : Nat}, l ∈ L → has L l = true
 | x :: xs, l, h => by
  unfold has
  cases hb : Nat.beq x l with
  | true => rfl
  | false =>
   rcases List.mem_cons.1 h with rfl | h
   ·rw [Nat.beq_refl l] at hb; cases hb
   ·exact has_of_mem h
theorem SX : ∀ {L : List Nat}, Ou L = true → L.Nodup
 | [], _ => List.nodup_nil
 | x :: xs, h => by
  unfold Ou at h
  cases hb : has xs x with
  | true => rw [hb] at h; cases h
  | false => rw [hb] at h; exact List.nodup_cons.2 ⟨fun hm => (by rw [has_of_mem hm] at hb; cases hb), SX h⟩
def reach (h : List AObj) : Nat → List Nat → List Nat → List Nat
 | 0, _, seen => seen
 | _ + 1, [], seen => seen
 | n + 1, l :: todo, seen => bif has seen l then reach h n todo seen else reach h n (Me (obj? h l) ++ todo) (seen ++ [l])
abbrev xE := Nat → List AV → List AObj → Option (AV × List AObj)
def afA (h : List AObj) (ρ ks : List Nat) (vs : List AV) : Bool :=
 Ou (ρ ++ ks) && (ρ.all (fun l => Nat.blt l h.length) && (ks.all (fun l => fF (obj? h l)) && (ρ.all (fun l => (Me (obj? h l)).all (has ρ)) && (ES vs).all (has ρ))))
def aiv (call : xE) (h : List AObj) (k fid : Nat) (vs : List AV) : Option (Nat × List Nat × List Wr × AV) :=
 let ρ := reach h 2000 (ES vs) []
 match call fid (bS (posOf ρ) vs) (ρ.map fun l => dx (posOf ρ) (obj? h l)) with
 | none => none
 | some (res, H') =>
  let ks := List.range' k (H'.length - ρ.length)
  bif afA h ρ ks vs && Nat.beq H'.length (ρ ++ ks).length then some (k + ks.length, ρ ++ ks, wS (ρ ++ ks) (H'.map (dx (nm (ρ ++ ks) h.length))), ren (nm (ρ ++ ks) h.length) res) else none
theorem aoG {ρ ks : List Nat} {big l : Nat} (h : l ∈ ρ) : nm (ρ ++ ks) big (posOf ρ l) = l := by
 have := TP h
 have hlt := (List.getElem?_eq_some_iff.1 this).1
 simp only [nm, List.getElem?_append_left hlt, this, Option.getD_some]
theorem aoJ {P : Program} {call : xE} (hc : ∀ f args H r, call f args H = some r → aB P f args H r.1 r.2) {s : ASt} {k fid : Nat} {vs : List AV} {k' : Nat} {ro : List Nat} {wo : List Wr} {res : AV} {dst : Option Tmp} {K : Nat → List Nat → List Wr → Prop}
  (hok : aC P fid = true) (h : aiv call s.heap k fid vs = some (k', ro, wo, res)) (hK : K k' ro (wo ++ aX dst res)) : Gu P fid vs dst s k K .mk := by
 unfold aiv at h
 generalize hρ : reach s.heap 2000 (ES vs) [] = ρ at h
 dsimp only at h
 split at h
 ·cases h
 ·rename_i r H' hcall
  generalize hks : List.range' k (H'.length - ρ.length) = ks at h
  cases hb : (afA s.heap ρ ks vs && Nat.beq H'.length (ρ ++ ks).length) with
  | false => rw [hb] at h; cases h
  | true =>
   rw [hb] at h
   simp only [cond_true, Option.some.injEq, Prod.mk.injEq] at h
   obtain ⟨rfl, rfl, rfl, rfl⟩ := h
   simp only [afA, Bool.and_eq_true, List.all_eq_true] at hb
   obtain ⟨⟨h1, h2, h3, h4, h5⟩, h6⟩ := hb
   have hlen := Nat.eq_of_beq_eq_true h6
   refine ⟨hok, ρ, ks, bS (posOf ρ) vs, _, r, H', ⟨SX h1, by simp, fun l hl => ?_, h3, fun i l hi => ?_⟩, hlen, ?_, hc _ _ _ _ hcall, hK⟩
   ·exact Nat.le_of_ble_eq_true (h2 l hl)
   ·have hlm := List.mem_of_getElem? hi
    have e : obj? (ρ.map fun l => dx (posOf ρ) (obj? s.heap l)) i = dx (posOf ρ) (obj? s.heap l) := by
     simp only [obj?, List.getElem?_map, hi, Option.map_some, Option.getD_some]
    rw [e, agw _ fun x hx => aoG (OQ (h4 l hlm x hx))]
   ·rw [← Fa, Af _ fun x hx => aoG (OQ (h5 x hx))]
    exact SWs.refl _
noncomputable def ap2 {α β : Type} (l : List α) : Nat → α → (List α → β) → β :=
 List.rec (motive := fun _ => Nat → α → (List α → β) → β) (fun _ _ K => K []) (fun x xs ih n v K => Nat.rec (motive := fun _ => β) (K (v :: xs)) (fun m _ => ih m v fun ys => K (x :: ys)) n) l
noncomputable def Yt {α β : Type} (l : List α) : (List α → β) → β :=
 List.rec (motive := fun _ => (List α → β) → β) (fun K => K []) (fun x _ ih K => ih fun ys => K (x :: ys)) l
noncomputable def aqE (l : List AV) : Nat → AV := List.rec (motive := fun _ => Nat → AV) (fun _ => .unk) (fun x _ ih n => Nat.rec (motive := fun _ => AV) x (fun m _ => ih m) n) l
noncomputable def ahG (l : List AObj) : Nat → AObj := List.rec (motive := fun _ => Nat → AObj) (fun _ => .dead) (fun x _ ih n => Nat.rec (motive := fun _ => AObj) x (fun m _ => ih m) n) l
theorem afm : ∀ (l : List AV) (n : Nat), aqE l n = l.getD n .unk
 | [], _ => rfl
 | _ :: _, 0 => rfl
 | _ :: xs, n + 1 => (afm xs n).trans (by simp [List.getD])
theorem ad9 : ∀ (l : List AObj) (n : Nat), ahG l n = obj? l n
 | [], _ => rfl
 | _ :: _, 0 => rfl
 | _ :: xs, n + 1 => (ad9 xs n).trans (by simp [obj?])
noncomputable def ai1 (t : List AV) : Operand → AV
 | .tmp n => aqE t n
 | .const v => ofConst v
 | .func f => .func f []
 | .global _ => .unk
theorem akW (t : List AV) : ai1 t = gT t := by funext x; cases x <;> first | rfl | exact afm _ _
noncomputable def ajA (ops : Array Oper) (t : List AV) : Option (Nat × Bool) → Option Bool
 | none => some true
 | some (j, want) => match (ops[j]?).bind (·.dst) with
  | none => none
  | some d => match aqE t d with
   | .bool b => some (b == want)
   | .aW [] => some false
   | _ => none
theorem anu (ops : Array Oper) (t : List AV) (o : Oper) : ajA ops t o.guard = lK ops t o := by
 unfold ajA lK
 cases o.guard with
 | none => rfl
 | some p => simp only [afm]; rfl
def am6 (P : Program) (k : Nat) (o : Oper) (ρ : Operand → AV) (σ : Nat → AObj) : Option (List Nat × List Wr) :=
 match o.op with
 | .move x => some ([], aX o.dst (ρ x))
 | .assign x => some ([], aX o.dst (ρ x))
 | .binOp op t x y _ => (N8 P op t (ρ x) (ρ y)).elim none fun v => some ([], aX o.dst v)
 | _ => bP P k o ρ σ
theorem aqa (P : Program) (k : Nat) (o : Oper) (ρ : Operand → AV) (σ : Nat → AObj) : am6 P k o ρ σ = bP P k o ρ σ := by
 unfold am6
 split
 ·rename_i x h; simp only [bP, h, bf]
 ·rename_i x h; simp only [bP, h, bf]
 ·rename_i op t x y t2 h
  simp only [bP, h, bf]
  cases N8 P op t (ρ x) (ρ y) <;> rfl
 ·rfl
def att {β : Type} (K : Nat → β) : Nat → β
 | 0 => K 0
 | n + 1 => K (n + 1)
def av2 {β : Type} (K : Int → β) : Int → β
 | .ofNat n => K (.ofNat n)
 | .negSucc n => K (.negSucc n)
def avg {β : Type} (K : Bool → β) : Bool → β
 | true => K true
 | false => K false
noncomputable def fVS {β : Type} (K : AV → β) : AV → β
 | .agg cs => Yt cs fun cs => K (.agg cs)
 | .eptr cs => Yt cs fun cs => K (.eptr cs)
 | .aW cs => Yt cs fun cs => K (.aW cs)
 | .func f cs => Yt cs fun cs => K (.func f cs)
 | .int k n => av2 (fun n => K (.int k n)) n
 | .bool b => avg (fun b => K (.bool b)) b
 | .str s => Yt s fun s => K (.str s)
 | .slice es t => Yt es fun es => K (.slice es t)
 | .unk => K .unk
 | .nilp => K .nilp
 | .ptr l o => K (.ptr l o)
 | .mapr l => K (.mapr l)
 | .nilFunc => K .nilFunc
 | .psl l z n => K (.psl l z n)
 | .flist ns => K (.flist ns)
noncomputable def fOS {β : Type} (K : AObj → β) : AObj → β
 | .box cs => Yt cs fun cs => K (.box cs)
 | .tip n => K (.tip n)
 | .mp es => Yt es fun es => K (.mp es)
 | .dead => K .dead
 | .res => K .res
 | .arr z es => Yt es fun es => K (.arr z es)
noncomputable def wrS {β : Type} : List Wr → List AV → List AObj → (List AV → List AObj → β) → β
 | [], t, h, K => K t h
 | .slot n v :: ws, t, h, K => fVS (fun v => ap2 t n v fun t => wrS ws t h K) v
 | .obj n o :: ws, t, h, K => fOS (fun o => ap2 h n o fun h => wrS ws t h K) o
theorem adR {α β : Type} : ∀ (l : List α) (n : Nat) (v : α) (K : List α → β), ap2 l n v K = K (l.set n v)
 | [], _, _, _ => rfl
 | _ :: _, 0, _, _ => rfl
 | x :: xs, n + 1, v, K => (adR xs n v fun ys => K (x :: ys)).trans rfl
theorem aiG {α β : Type} : ∀ (l : List α) (K : List α → β), Yt l K = K l
 | [], _ => rfl
 | x :: xs, K => aiG xs fun ys => K (x :: ys)
theorem asH {β : Type} (K : Nat → β) (n : Nat) : att K n = K n := by cases n <;> rfl
theorem atd {β : Type} (K : AV → β) (v : AV) : fVS K v = K v := by
 cases v <;> simp only [fVS, aiG]
 ·rename_i k n; cases n <;> rfl
 ·rename_i b; cases b <;> rfl
theorem ato {β : Type} (K : AObj → β) (o : AObj) : fOS K o = K o := by cases o <;> simp only [fOS, aiG]
theorem Ue {β : Type} : ∀ (ws : List Wr) (t : List AV) (h : List AObj) (K : List AV → List AObj → β), wrS ws t h K = K (ASt.wr ⟨t, h⟩ ws).tmps (ASt.wr ⟨t, h⟩ ws).heap
 | [], _, _, _ => rfl
 | .slot n v :: ws, t, h, K => by simp only [wrS, atd, adR]; rw [Ue ws]; rfl
 | .obj n v :: ws, t, h, K => by simp only [wrS, ato, adR]; rw [Ue ws]; rfl
def need (big : List Nat) : List Oper → Nat
 | [] => 0
 | o :: l => (match qQ o.op with
  | some (.func f, _) => (bif has big f then 40 else 3)
  | some _ => 3
  | none => nu o.op) + need big l
noncomputable def aqu (P : Program) (call : xE) (ok : Nat → Bool) (ops : Array Oper) (o : Oper) (go : Nat → List Eff → List AV → List AObj → Option (List Eff × ASt)) (k : Nat) (es : List Eff) (t : List AV) (h : List AObj) : Option (List Eff × ASt) :=
 match ajA ops t o.guard with
  | none => none
  | some false => wrS (aX o.dst (.aW [])) t h (go k (⟨fT ops o, [], aX o.dst (.aW [])⟩ :: es))
  | some true => match qQ o.op with
   | some (f, args) => match ai1 t f with
    | .func fid caps => bif ok fid then (match aiv call h k fid (args.toList.map (ai1 t) ++ caps) with
     | some (k', ro, wo, res) => wrS (wo ++ aX o.dst res) t h (go k' (⟨fT ops o, ro, wo ++ aX o.dst res⟩ :: es))
     | none => none) else none
    | _ => none
   | none => match am6 P k o (ai1 t) (ahG h) with
    | some (rd, ws) => wrS ws t h (go (k + nu o.op) (⟨fT ops o, rd, ws⟩ :: es))
    | none => none
noncomputable def amX (P : Program) (call : xE) (ok : Nat → Bool) (ops : Array Oper) (l : List Oper) : Nat → List Eff → List AV → List AObj → Option (List Eff × ASt) :=
 List.rec (motive := fun _ => Nat → List Eff → List AV → List AObj → Option (List Eff × ASt)) (fun _ es t h => some (es.reverse, ⟨t, h⟩)) (fun o _ ih => aqu P call ok ops o ih) l
theorem anA (P : Program) (call : xE) (ok : Nat → Bool) (ops : Array Oper) (o : Oper) (l : List Oper) (k : Nat) (es : List Eff) (t : List AV) (h : List AObj) : amX P call ok ops (o :: l) k es t h = aqu P call ok ops o (amX P call ok ops l) k es t h := rfl
theorem als {P : Program} {call : xE} {ok : Nat → Bool} {ops : Array Oper} (hc : ∀ f args H r, call f args H = some r → aB P f args H r.1 r.2) (hok : ∀ f, ok f = true → aC P f = true) {K : List Eff → ASt → Prop} :
  ∀ (l : List Oper) (k : Nat) (es : List Eff) (s : ASt) (es' : List Eff) (s' : ASt), amX P call ok ops l k es s.tmps s.heap = some (es', s') → K es' s' → BS P ops l k es s K := by
 intro l
 induction l with
 | nil =>
  intro k es s es' s' h hK
  have h : some (es.reverse, s) = some (es', s') := h
  simp only [Option.some.injEq, Prod.mk.injEq] at h
  obtain ⟨rfl, rfl⟩ := h
  exact hK
 | cons o l ih =>
  intro k es s es' s' h hK
  rw [anA] at h
  unfold aqu at h
  rw [anu, akW, show ahG s.heap = obj? s.heap from funext (ad9 _), aqa] at h
  split at h
  ·cases h
  ·rename_i hw
   rw [Ue] at h
   exact ⟨false, hw, fun e => (by cases e), fun _ => ih _ _ _ _ _ h hK⟩
  ·rename_i hw
   refine ⟨true, hw, fun _ => ?_, fun e => (by cases e)⟩
   split at h
   ·rename_i f args hcall
    split at h
    ·rename_i fid caps hf
     cases hb : ok fid with
     | false => rw [hb] at h; cases h
     | true =>
      rw [hb] at h
      simp only [cond_true] at h
      split at h
      ·rename_i k' ro wo res hen
       rw [hcall]
       rw [Ue] at h
       exact ⟨fid, caps, hf, aoJ hc (hok _ hb) hen (ih _ _ _ _ _ h hK)⟩
      ·cases h
    ·cases h
   ·rename_i hcall
    rw [hcall]
    split at h
    ·rename_i rd ws hh
     rw [Ue] at h
     exact ⟨rd, ws, hh, ih _ _ _ _ _ h hK⟩
    ·cases h
def alO (o : AObj) : List AObj → List AObj
 | [] => bif fF o then [] else [o]
 | x :: xs => o :: x :: xs
noncomputable def trim (l : List AObj) : List AObj := List.rec (motive := fun _ => List AObj) [] (fun o _ ih => alO o ih) l
theorem af0 : ∀ H : List AObj, ∃ n, H = trim H ++ List.replicate n .res
 | [] => ⟨0, rfl⟩
 | o :: os => by
  obtain ⟨n, hn⟩ := af0 os
  show ∃ n, o :: os = alO o (trim os) ++ List.replicate n .res
  unfold alO
  split
  ·rename_i e
   rw [e] at hn
   cases ho : fF o with
   | true =>
    have : o = .res := by cases o <;> simp [fF] at ho ⊢
    subst this
    exact ⟨n + 1, by rw [hn]; rfl⟩
   | false => exact ⟨n, by rw [hn]; rfl⟩
  ·rename_i x xs e
   rw [e] at hn
   exact ⟨n, by rw [hn]; rfl⟩
theorem Sim.trim {C : Ctx} {κ : dL} {s : ASt} {a : Act} {w : World} (h : Sim C κ s a w) : ∃ κ', Sim C κ' { s with heap := Abs.trim s.heap } a w := by
 obtain ⟨n, hn⟩ := af0 s.heap
 generalize Abs.trim s.heap = H at hn
 have hat : ∀ l, at? (κ.take H.length) l = at? κ l := fun l => by
  by_cases hl : l < H.length
  ·unfold at?; rw [List.getElem?_take, if_pos hl]
  ·have e1 : at? (κ.take H.length) l = none := at?_none_of_le (by simp; omega)
   rw [e1]
   by_cases h2 : l < s.heap.length
   ·refine (h.resv l ?_).symm
    simp only [obj?, hn]
    rw [List.getElem?_append_right (by omega), List.getElem?_replicate]
    rw [hn, List.length_append, List.length_replicate] at h2
    rw [if_pos (by omega)]; rfl
   ·exact (at?_none_of_le (by rw [h.klen]; omega)).symm
 have hob : ∀ l b, at? κ l = some b → obj? H l = obj? s.heap l := fun l b hb => by
  by_cases hl : l < H.length
  ·simp only [obj?, hn, List.getElem?_append_left hl]
  ·rw [← hat, at?_none_of_le (by simp; omega)] at hb; cases hb
 refine ⟨κ.take H.length, ?_⟩
 refine h.step (κ' := κ.take H.length) (H' := H) (Evo.refl _ _) (fun l b hb => by rw [hat]; exact hb) (by rw [List.length_take, h.klen, hn]; simp) ?_ ?_ ?_ ?_ ?_ (fun _ _ => rfl) rfl rfl rfl
 ·rintro b o (hb | ⟨l, h1, h2⟩) _
  ·exact .inl hb
  ·rw [hat] at h1; rw [hob l b h1] at h2; exact .inr ⟨l, h1, h2⟩
 ·intro l b h1 h2
  rw [hat] at h1
  exact .inl ⟨h1, hob l b h1, rfl⟩
 ·intro l l' b h1 h2 h3 h4
  rw [hat] at h1 h2; rw [hob l b h1] at h3; rw [hob l' b h2] at h4
  exact h.apart l l' b h1 h2 h3 h4
 ·intro l b h1; rw [hat] at h1; exact h.bound l b h1
 ·intro l h1
  rw [hat]
  by_cases hl : l < H.length
  ·refine h.resv l ?_
   rw [← h1]; simp only [obj?, hn, List.getElem?_append_left hl]
  ·rw [← hat]; exact at?_none_of_le (by simp; omega)
def aaw (hint : List (Nat × Nat × Nat)) (h : List AObj) (l : Nat) : List AObj :=
 match obj? h l with
 | .box cs => match hint.find? (fun p => Nat.beq p.1 cs.length) with
  | some (_, i, z) => (match cs[i]? with
   | some (.slice [] .nils) => h.set l (.box (cs.set i (.psl h.length z 0))) ++ [.arr z []]
   | _ => h)
  | none => h
 | _ => h
theorem Sim.aaw {C : Ctx} {κ : dL} {s : ASt} {a : Act} {w : World} (h : Sim C κ s a w) (hint : List (Nat × Nat × Nat)) (l : Nat) : ∃ κ', Sim C κ' { s with heap := Abs.aaw hint s.heap l } a w := by
 unfold Abs.aaw
 split
 ·rename_i cs ho
  split
  ·rename_i i z _
   split
   ·rename_i hi
    have hll : l < s.heap.length := by
     apply Classical.byContradiction; intro hn
     simp only [obj?, List.getElem?_eq_none (Nat.le_of_not_lt hn)] at ho; cases ho
    let H' := s.heap.set l (.box (cs.set i (.psl s.heap.length z 0))) ++ [AObj.arr z []]
    have hat : ∀ x, at? (κ ++ [none]) x = at? κ x := fun x => by
     unfold at?
     by_cases hx : x < κ.length
     ·rw [List.getElem?_append_left hx]
     ·rw [List.getElem?_append_right (Nat.le_of_not_lt hx), List.getElem?_eq_none (Nat.le_of_not_lt hx)]
      cases hxx : x - κ.length <;> rfl
    have hlt : ∀ x b, at? κ x = some b → x < s.heap.length := fun x b hb => by rw [← h.klen]; exact lt_of_at? hb
    have hob : ∀ x, x < s.heap.length → x ≠ l → obj? H' x = obj? s.heap x := fun x hx hne => by
     simp only [obj?, H', List.getElem?_append_left (show x < (s.heap.set l _).length by simpa using hx), List.getElem?_set_ne (Ne.symm hne)]
    have hol : obj? H' l = .box (cs.set i (.psl s.heap.length z 0)) := by
     simp only [obj?, H', List.getElem?_append_left (show l < (s.heap.set l _).length by simpa using hll), List.getElem?_set_self hll, Option.getD_some]
    have hlv : ∀ x b, at? κ x = some b → live (obj? H' x) → live (obj? s.heap x) := fun x b hb hl => by
     by_cases e : x = l
     ·subst e; rw [ho]; trivial
     ·rw [hob x (hlt x b hb) e] at hl; exact hl
    have hp : ∀ b o, bB C.bH (κ ++ [none]) H' b o → b < w.heap.size → bB C.bH κ s.heap b o := by
     rintro b o (hb | ⟨x, h1, h2⟩) _
     ·exact .inl hb
     ·rw [hat] at h1
      refine .inr ⟨x, h1, ?_⟩
      by_cases e : x = l
      ·subst e; rw [ho]; trivial
      ·rw [hob x (hlt x b h1) e] at h2; exact h2
    refine ⟨κ ++ [none], ?_⟩
    refine h.step (κ' := κ ++ [none]) (H' := H') (Evo.refl _ _) (fun x b hb => by rw [hat]; exact hb) (by simp [H', h.klen]) hp ?_ ?_ ?_ ?_ (fun _ _ => rfl) rfl rfl rfl
    ·intro x b h1 h2
     rw [hat] at h1
     by_cases e : x = l
     ·subst e
      refine .inr ⟨h.bound x b h1, h.own x b h1 (by rw [ho]; trivial), ?_⟩
      rw [hol]
      have hr := h.obj x b h1 (by rw [ho]; trivial)
      rw [ho] at hr
      obtain ⟨c, el, g1, g2, g3⟩ := hr
      refine ⟨c, el, g1, by simp [g2], fun j hj => ?_⟩
      simp only [List.length_set] at hj
      have hg := (g3 j hj).mono (κ' := κ ++ [none]) (Evo.refl _ _) (fun y b hb => by rw [hat]; exact hb) hp
      by_cases ej : i = j
      ·subst ej
       rw [og hj]
       rw [List.getD, hi, Option.getD_some] at hg
       generalize c.getD i undef = u at hg
       cases hg with
       | slice b' off sz y q1 q2 q3 q3' q4 q5 q6 gt => exact .psl (Nat.zero_le _) (by omega) ⟨rfl, .inl gt⟩
      ·rw [qC ej]; exact hg
     ·exact .inl ⟨h1, hob x (hlt x b h1) e, rfl⟩
    ·intro x y b h1 h2 h3 h4
     rw [hat] at h1 h2
     exact h.apart x y b h1 h2 (hlv x b h1 h3) (hlv y b h2 h4)
    ·intro x b h1; rw [hat] at h1; exact h.bound x b h1
    ·intro x h1
     rw [hat]
     by_cases hx : x < s.heap.length
     ·by_cases e : x = l
      ·subst e; rw [hol] at h1; cases h1
      ·rw [hob x hx e] at h1; exact h.resv x h1
     ·exact at?_none_of_le (by rw [h.klen]; omega)
   ·exact ⟨κ, h⟩
  ·exact ⟨κ, h⟩
 ·exact ⟨κ, h⟩
def Vr (hint : List (Nat × Nat × Nat)) : List Nat → List AObj → List AObj
 | [], h => h
 | l :: ls, h => Vr hint ls (aaw hint h l)
theorem Sim.Vr {C : Ctx} {a : Act} {w : World} (hint : List (Nat × Nat × Nat)) : ∀ (ls : List Nat) {κ : dL} {s : ASt}, Sim C κ s a w → ∃ κ', Sim C κ' { s with heap := Abs.Vr hint ls s.heap } a w
 | [], κ, s, h => ⟨κ, h⟩
 | l :: ls, κ, s, h => by
  obtain ⟨κ1, h1⟩ := h.aaw hint l
  exact Sim.Vr hint ls h1
noncomputable def tidy (hint : List (Nat × Nat × Nat)) (n : Nat) (s : ASt) : ASt :=
 let h := trim s.heap
 ⟨s.tmps, Vr hint (List.range' n (h.length - n)) h⟩
theorem fU.tidy {P : Program} {c : Code} {Q : Exit → ASt → Prop} {s : ASt} (hint : List (Nat × Nat × Nat)) (n : Nat) (h : fU P c (fun e s' => Q e (Abs.tidy hint n s')) s) : fU P c Q s := fun C κ a w hs =>
 wp_mono (h C κ a w hs) fun _ _ _ ⟨s', κ', h1, h2⟩ => by
  obtain ⟨κ1, g1⟩ := h2.trim
  obtain ⟨κ2, g2⟩ := g1.Vr hint (List.range' n ((Abs.trim s'.heap).length - n))
  exact ⟨_, κ2, h1, g2⟩
noncomputable def acK (P : Program) (call : xE) (ok : Nat → Bool) (hint : List (Nat × Nat × Nat)) (big : List Nat) (go : Code → ASt → Option (Exit × ASt)) (c : Code) (s : ASt) : Option (Exit × ASt) :=
 match c with
  | .skip => some (.normal, s)
  | .ret => some (.ret, s)
  | .exit id => some (.exit id, s)
  | .seq x y => match go x s with
   | some (.normal, s') => go y s'
   | r => r
  | .cond c x y => match ai1 s.tmps c with
   | .bool true => go x s
   | .bool false => go y s
   | _ => none
  | .block id c => match go c s with
   | some (.exit id', s') => bif Nat.beq id' id then some (.normal, s') else some (.exit id', s')
   | r => r
  | .loop c => match go c s with
   | some (.normal, s') => go (.loop c) s'
   | r => r
  | .region _ ops draw => att (fun m => match amX P call ok ops ops.toList s.heap.length [] s.tmps (s.heap ++ List.replicate m .res) with
   | some (es, s') => bif !draw || xJ ops.toList es then some (.normal, bif Nat.beq m 0 then s' else tidy hint s.heap.length s') else none
   | none => none) (need big ops.toList)
  | _ => none
noncomputable def Vb (P : Program) (call : xE) (ok : Nat → Bool) (hint : List (Nat × Nat × Nat)) (big : List Nat) (n : Nat) : Code → ASt → Option (Exit × ASt) :=
 Nat.rec (motive := fun _ => Code → ASt → Option (Exit × ASt)) (fun _ _ => none) (fun _ ih => acK P call ok hint big ih) n
theorem aaN (P : Program) (call : xE) (ok : Nat → Bool) (hint : List (Nat × Nat × Nat)) (big : List Nat) (c : Code) (s : ASt) : Vb P call ok hint big 0 c s = none := rfl
theorem aaC (P : Program) (call : xE) (ok : Nat → Bool) (hint : List (Nat × Nat × Nat)) (big : List Nat) (n : Nat) (c : Code) (s : ASt) : Vb P call ok hint big (n + 1) c s = acK P call ok hint big (Vb P call ok hint big n) c s := rfl
theorem aiq {P : Program} {call : xE} {ok : Nat → Bool} {hint : List (Nat × Nat × Nat)} {big : List Nat} (hm : P.follows .mixedOrders = true) (hc : ∀ f args H r, call f args H = some r → aB P f args H r.1 r.2) (hok : ∀ f, ok f = true → aC P f = true) :
  ∀ (n : Nat) (c : Code) (s : ASt) (e : Exit) (s' : ASt) (Q : Exit → ASt → Prop), Vb P call ok hint big n c s = some (e, s') → Q e s' → fU P c Q s := by
 intro n
 induction n using Nat.strongRecOn with
 | _ n ih =>
  intro c s e s' Q h hQ
  cases n with
  | zero => rw [aaN] at h; cases h
  | succ n =>
   have ih1 := ih n (Nat.lt_succ_self n)
   rw [aaC] at h
   have h0 := h
   unfold acK at h
   rw [akW] at h
   split at h
   ·cases h; exact .skip hQ
   ·cases h; exact .ret hQ
   ·cases h; exact .exit hQ
   ·rename_i x y
    split at h
    ·rename_i s1 hx
     exact .seq (ih1 _ _ _ _ _ hx (ih1 _ _ _ _ _ h hQ))
    ·rename_i hne
     refine .seq (ih1 _ _ _ _ _ h ?_)
     cases e with
     | normal => exact (hne _ h).elim
     | exit id => exact hQ
     | goto l => exact hQ
     | ret => exact hQ
     | panic c => exact hQ
     | outgrown => exact hQ
   ·rename_i cd x y
    split at h
    ·rename_i hb
     exact .cond hb (fun _ => ih1 _ _ _ _ _ h hQ) (fun e => by cases e)
    ·rename_i hb
     exact .cond hb (fun e => by cases e) (fun _ => ih1 _ _ _ _ _ h hQ)
    ·cases h
   ·rename_i id c
    split at h
    ·rename_i id' s1 hx
     refine .block (ih1 _ _ _ _ _ hx ?_)
     simp only [CQ]
     cases hb : Nat.beq id' id with
     | true =>
      rw [hb] at h; cases h
      rw [if_pos (Nat.eq_of_beq_eq_true hb)]; exact hQ
     | false =>
      rw [hb] at h; cases h
      rw [if_neg (fun e => by rw [e, Nat.beq_refl id] at hb; cases hb)]; exact hQ
    ·rename_i hne
     refine .block (ih1 _ _ _ _ _ h ?_)
     cases e with
     | exit id => exact (hne _ _ h).elim
     | normal => exact hQ
     | goto l => exact hQ
     | ret => exact hQ
     | panic c => exact hQ
     | outgrown => exact hQ
   ·rename_i c
    refine fU.loop (fun m s => m ≤ n + 1 ∧ Vb P call ok hint big m (.loop c) s = some (e, s')) (n := n + 1) ⟨Nat.le_refl _, h0⟩ ?_
    rintro m s ⟨hle, hr⟩
    cases m with
    | zero => rw [aaN] at hr; cases hr
    | succ m =>
     have ih2 := ih m (by omega)
     rw [aaC] at hr
     unfold acK at hr
     dsimp only at hr
     split at hr
     ·rename_i s1 hx
      exact ih2 _ _ _ _ _ hx ⟨m, Nat.lt_succ_self m, by omega, hr⟩
     ·rename_i hne
      refine ih2 _ _ _ _ _ hr ?_
      cases e with
      | normal => exact (hne _ hr).elim
      | exit id => exact hQ
      | goto l => exact hQ
      | ret => exact hQ
      | panic c => exact hQ
      | outgrown => exact hQ
   ·rename_i id ops draw
    rw [asH] at h
    generalize need big ops.toList = m at h
    split at h
    ·rename_i es s1 hx
     cases hb : (!draw || xJ ops.toList es) with
     | false => rw [hb] at h; cases h
     | true =>
      rw [hb] at h
      simp only [cond_true, Option.some.injEq, Prod.mk.injEq] at h
      obtain ⟨rfl, hs1⟩ := h
      have key : ∀ Q' : Exit → ASt → Prop, Q' .normal s1 → fU P (.region id ops draw) Q' s := fun Q' hQ' => by
       have eops : ops = ops.toList.toArray := by simp
       rw [eops] at hx ⊢
       simp only [List.toList_toArray] at hx
       cases draw with
       | true => exact fU.auu m hm (als hc hok _ _ _ (s.reserve m) _ _ hx ⟨by simpa using hb, hQ'⟩)
       | false =>
        have := als (K := fun _ s' => Q' .normal s') hc hok _ _ _ (s.reserve m) _ _ hx hQ'
        obtain ⟨es', s2, g1, g2⟩ := X4 _ _ _ _ _ this
        exact fU.region m g1.steps g2
      cases hm0 : Nat.beq m 0 with
      | true => rw [hm0] at hs1; simp only [cond_true] at hs1; subst hs1; exact key Q hQ
      | false =>
       rw [hm0] at hs1; simp only [cond_false] at hs1; subst hs1
       exact fU.tidy hint s.heap.length (key _ hQ)
    ·cases h
   ·cases h
def acM (P : Program) (rs : List ResultVar) (m : Nat) (s : ASt) : Option (AV × List AObj) :=
 match DY P s rs with
 | none => none
 | some xs =>
  let v := D7 false xs
  let L := reach s.heap 2000 (refs v ++ (List.range m).flatMap fun l => Me (obj? s.heap l)) (List.range m)
  bif Ou L && ((List.range m).all (fun i => match L[i]? with | some l => Nat.beq l i | none => false) && (L.all (fun l => Nat.blt l s.heap.length) && ((refs v).all (has L) && L.all (fun l => (Me (obj? s.heap l)).all (has L)))))
  then some (ren (posOf L) v, L.map fun l => dx (posOf L) (obj? s.heap l)) else none
theorem agC {P : Program} {rs : List ResultVar} {H : List AObj} {s : ASt} {res : AV} {H' : List AObj} (h : acM P rs H.length s = some (res, H')) : ∃ L, Qu P rs false L H res H' s := by
 unfold acM at h
 split at h
 ·cases h
 ·rename_i xs hxs
  dsimp only at h
  generalize reach s.heap 2000 (refs (D7 false xs) ++ (List.range H.length).flatMap fun l => Me (obj? s.heap l)) (List.range H.length) = L at h
  cases hb : (Ou L && ((List.range H.length).all (fun i => match L[i]? with | some l => Nat.beq l i | none => false) && (L.all (fun l => Nat.blt l s.heap.length) && ((refs (D7 false xs)).all (has L) && L.all (fun l => (Me (obj? s.heap l)).all (has L)))))) with
  | false => rw [hb] at h; cases h
  | true =>
   rw [hb] at h
   simp only [cond_true, Option.some.injEq, Prod.mk.injEq] at h
   obtain ⟨rfl, rfl⟩ := h
   simp only [Bool.and_eq_true, List.all_eq_true, List.mem_range] at hb
   obtain ⟨h1, h2, h3, h4, h5⟩ := hb
   have hL : ∀ i, i < H.length → L[i]? = some i := fun i hi => by
    have := h2 i hi
    split at this
    ·rename_i l hl; rw [hl, Nat.eq_of_beq_eq_true this]
    ·cases this
   have hnm : ∀ l, l ∈ L → nm L s.heap.length (posOf L l) = l := fun l hl => by simp only [nm, TP hl, Option.getD_some]
   refine ⟨L, xs, hxs, ?_, SX h1, by simp, ?_, hL, fun l hl => ?_, fun i l hi => ?_⟩
   ·rw [Zv _ fun x hx => hnm x (OQ (h4 x hx))]
   ·cases hn : H.length with
    | zero => exact Nat.zero_le _
    | succ n => have := (List.getElem?_eq_some_iff.1 (hL n (by omega))).1; omega
   ·exact Nat.le_of_ble_eq_true (h3 l hl)
   ·have e : obj? (L.map fun l => dx (posOf L) (obj? s.heap l)) i = dx (posOf L) (obj? s.heap l) := by
     simp only [obj?, List.getElem?_map, hi, Option.map_some, Option.getD_some]
    rw [e, agw _ fun x hx => hnm x (OQ (h5 l (List.mem_of_getElem? hi) x hx))]
noncomputable def ac7 (P : Program) (E : xE) (ok : Nat → Bool) (hint : List (Nat × Nat × Nat)) (big : List Nat) : Nat → xE
 | 0, _, _, _ => none
 | n + 1, f, args, H => match E f args H with
  | some r => some r
  | none => match P.funcs[f]? with
   | none => none
   | some fn => match fn.body with
    | none => none
    | some c => bif Nat.ble args.length fn.ntmps then (match Vb P (ac7 P E ok hint big n) ok hint big 100000 c ⟨args ++ List.replicate (fn.ntmps - args.length) (.aW []), H⟩ with
     | some (.ret, s) => acM P fn.results.toList H.length s
     | some (.normal, s) => acM P fn.results.toList H.length s
     | _ => none) else none
theorem aqc {P : Program} {E : xE} {ok : Nat → Bool} {hint : List (Nat × Nat × Nat)} {big : List Nat} (hm : P.follows .mixedOrders = true) (hE : ∀ f args H r, E f args H = some r → aB P f args H r.1 r.2) (hok : ∀ f, ok f = true → aC P f = true) :
  ∀ (n f : Nat) (args : List AV) (H : List AObj) (r : AV × List AObj), ac7 P E ok hint big n f args H = some r → aB P f args H r.1 r.2 := by
 intro n
 induction n with
 | zero => intro f args H r h; simp [ac7] at h
 | succ n ih =>
  intro f args H r h
  unfold ac7 at h
  split at h
  ·rename_i r' hr
   cases h; exact hE _ _ _ _ hr
  ·split at h
   ·cases h
   ·rename_i fn hf
    split at h
    ·cases h
    ·rename_i c hb
     cases hl : Nat.ble args.length fn.ntmps with
     | false => rw [hl] at h; cases h
     | true =>
      rw [hl] at h
      simp only [cond_true] at h
      split at h
      ·rename_i s hx
       obtain ⟨L, hL⟩ := agC h
       exact Nb false L hf hb (Nat.le_of_ble_eq_true hl) (aiq hm ih hok _ _ _ _ _ _ hx hL)
      ·rename_i s hx
       obtain ⟨L, hL⟩ := agC h
       exact Nb false L hf hb (Nat.le_of_ble_eq_true hl) (aiq hm ih hok _ _ _ _ _ _ hx hL)
      ·cases h
end Abs
end Go.Proofs.YtiiaccpcoclklaaGreat
namespace Go.Proofs.YtiiaccpcoclklaaGreat
namespace Abs
open Go Go.Proofs Go.RowKit Go.Maps Go.Sort Go.Shelf
theorem apH (m : Nat) : AnyZ.SortsIn Tryz.prog Tryz.Ro Fence.wide m :=
 ⟨fun blk off cap ss W hH hblk hsz => callsIn_wide.2 (AnyM.slices_Sort_string Tryz.akZ blk off cap ss W hH hblk hsz),
  fun p cap W => callsIn_wide.2 (AnyM.slices_Sort_string_none Tryz.akZ p cap W)⟩
set_option maxHeartbeats 1000000 in
theorem amk (b bm nn : Nat) (D0 : DataW Unit) (R : Value → Option (DataW Unit × List MemPlace)) (w : World) (hbm : bm < w.heap.size) (hc : w.cell? ⟨bm, 0, none⟩ = some (.map (some b))) (hown : w.ownsMap Tryz.prog 9 R b nn D0) (hmax : Maps.size D0 ≤ maxLen) (hbytes : Maps.size D0 * 16 ≤ 140737488355328) :
  CallsIn Fence.wide 5 Tryz.prog 104 #[.func (.func 185) #[] #[.pointer (some ⟨bm, 0, none⟩)]] w fun e w' => ∃ (v : Value) (ss : List (List UInt8)), e = .returned v ∧ ss.Perm (strKeys D0) ∧
   w'.ownsRow w.heap.size 9 1 v ss.length ((ss.mergeSort (fun x y => decide (x ≤ y))).map encStr) ∧ (v = .slice none 0 0 ↔ ss = []) ∧ Below w.heap.size w w' := by
 have hseq : SeqGives Fence.wide 2 Tryz.prog 185 #[.pointer (some ⟨bm, 0, none⟩)] encStr (fun ss => ss.Perm (strKeys D0)) (Maps.size D0) w :=
  AnyZ.keys_gives (ρ := Tryz.Yg) { Tryz.asS with } Fence.wide _ trivial rfl (by omega) bm b nn D0 _ hbm hc hown
 exact AnyZ.sorted_in Tryz.anZ Fence.wide 5 trivial trivial trivial trivial rfl (by omega) (apH _) (enters_of Tryz.func184 (by kernel_rfl) rfl) 185 #[.pointer (some ⟨bm, 0, none⟩)] trivial (enters_of Tryz.func185 (by kernel_rfl) rfl) _ _ hmax hbytes _ hseq
theorem Leave.same {κ : dL} {bH : iT} {H : List AObj} {w w' : World} (he : Entry κ bH H w) (hb : Go.RowKit.Below w.heap.size w w') : Leave κ κ bH H H w w' := by
 have hcell : ∀ b off u, w.cell? ⟨b, off, none⟩ = some u → w'.cell? ⟨b, off, none⟩ = some u := fun b off u hc => by
  have hlt := lt_of_cell hc
  simp only [World.cell?, hb.block b hlt] at hc ⊢
  exact hc
 have hevo : Evo (bB bH κ H) w w' := ⟨hb.size, fun b off u _ hc => hcell b off u hc, fun b c e z hx => ⟨c, by rw [hb.block b (Array.getElem?_eq_some_iff.1 hx).1]; exact hx, rfl⟩⟩
 exact ⟨he.klen, Nat.le_refl _, iL.refl _, he.resv, fun l b h1 h2 => (he.obj l b h1 h2).mono (hb.block b (he.bound l b h1)) hevo (iL.refl _) (fun _ _ h _ => h),
  fun l b h1 h2 => .inr ⟨l, h1, h2⟩, he.apart, fun l b h1 => Nat.lt_of_lt_of_le (he.bound l b h1) hb.size, fun b hlt _ => hb.block b hlt, hevo, fun _ _ h _ => h, hb.os, hb.tape, hb.output⟩
theorem ar5 {κ : dL} {bH : iT} {H : List AObj} {w : World} (he : Entry κ bH H w) {b o : Nat} (h : bB bH κ H b o) : b < w.heap.size := by
 rcases h with h | ⟨l, h1, _⟩
 ·exact he.pvlt b o h
 ·exact he.bound l b h1
theorem SQ (H : List AObj) (p m : Nat) (es : List (List UInt8 × AV)) (hp : obj? H p = .box [.mapr m]) (hm : obj? H m = .mp es) (hb16 : es.length * 16 ≤ 140737488355328) :
  aB Tryz.prog 104 [.func 185 [.ptr p 0]] H (.slice (((es.map (·.1)).mergeSort Gt).map encS) .shared) H := by
 intro κ bH w vs hen hlen hr
 have h0 := hr 0 (by simp)
 match vs, hlen with
 | [v], _ =>
 simp only [List.getD, List.getElem?_cons_zero, Option.getD_some] at h0
 obtain ⟨cs, rfl, hcl, hcr⟩ := h0.Qd
 match cs, hcl with
 | [cp], _ =>
 have h1 := hcr 0 (by simp)
 simp only [List.getD, List.getElem?_cons_zero, Option.getD_some] at h1
 obtain ⟨bm, rfl, hbm⟩ := h1.BL
 have ho := hen.obj p bm hbm (by rw [hp]; trivial)
 rw [hp] at ho
 obtain ⟨c, el, g1, g2, g3⟩ := ho
 have h2 := g3 0 (by simp)
 simp only [List.getD, List.getElem?_cons_zero, Option.getD_some] at h2
 have hcell : w.cell? ⟨bm, 0, none⟩ = some (c.getD 0 undef) := by
  have : 0 < c.size := by rw [g2]; simp
  simp [World.cell?, g1, Array.getD, this]
 generalize c.getD 0 undef = cv at h2 hcell
 cases h2 with
 | @mapr _ b hb =>
 have hmo := hen.obj m b hb (by rw [hm]; trivial)
 rw [hm] at hmo
 obtain ⟨ms, clock, k1, k2, k3, k4⟩ := hmo
 have k31 : es.length ≤ 140737488355328 := by have := k3.1; rwa [List.length_map] at this
 have hk9 : Tryz.prog.underlying 9 = some .string := by kernel_rfl
 let R : Value → Option (DataW Unit × List MemPlace) := fun _ => some (.lit (.bool true), [])
 have hkeys : ∀ j, (hj : j < ms.size) → keyOf Tryz.prog 9 ms[j].key = some (.string (es.getD j ([], .unk)).1) := fun j hj => by
  have h5 := (k4 j (by omega)).1
  have e : ms.getD j default = ms[j] := by simp [Array.getD, hj]
  rw [e] at h5
  rw [h5, Go.WideMaps.keyOf_string_mk hk9]
  have hmem : (es.getD j ([], .unk)).1 ∈ es.map (·.1) := by
   have hj' : j < es.length := by omega
   rw [List.getD, List.getElem?_eq_getElem hj', Option.getD_some]
   exact List.mem_map.2 ⟨_, List.getElem_mem _, rfl⟩
  have := k3.2.2 _ hmem
  simpa [ByteArray.size, maxLen] using this
 have hrd : ∀ j, (hj : j < ms.size) → WideElems.rd Tryz.prog 9 R ms[j] = some (.string (es.getD j ([], .unk)).1, .lit (.bool true)) := fun j hj => by
  simp only [WideElems.rd, hkeys j hj, Option.bind_some, R, Option.map_some]
 have hown : w.ownsMap Tryz.prog 9 R b es.length (.map ((ms.toList.map (WideElems.rg Tryz.prog 9 R)).foldr DataW.insert [])) := by
  refine ⟨ms, clock, k1, ⟨?_, k3.2.1, fun x hx => ?_⟩, by omega, rfl⟩
  ·simp only [maxLen]; omega
  ·obtain ⟨j, hj, rfl⟩ := List.getElem_of_mem hx
   simp only [Array.length_toList] at hj
   exact ⟨_, by simpa using hrd j hj⟩
 have hperm : (strKeys (.map ((ms.toList.map (WideElems.rg Tryz.prog 9 R)).foldr DataW.insert []))).Perm (es.map (·.1)) := by
  simp only [strKeys]
  refine ((WideShapes.sorted_perm _).map _).trans ?_
  have e : (ms.toList.map (WideElems.rg Tryz.prog 9 R)).map (fun p => strOf p.1) = es.map (·.1) := by
   apply List.ext_getElem
   ·simp [k2]
   ·intro j h1 h2
    simp only [List.length_map, Array.length_toList] at h1 h2
    simp only [List.getElem_map, Array.getElem_toList]
    rw [WideElems.rg_of (hrd j h1)]
    simp [strOf, List.getD, List.getElem?_eq_getElem h2]
  rw [e]
 have hsz : Maps.size (H := Unit) (.map ((ms.toList.map (WideElems.rg Tryz.prog 9 R)).foldr DataW.insert [])) = es.length := by
  rw [size_eq, DataW.length_sorted]; simp [k2]
 have hcall := callsIn_wide.1 (amk b bm es.length _ R w (hen.bound p bm hbm) hcell hown (by rw [hsz]; simp only [maxLen]; omega) (by rw [hsz]; exact hb16))
 refine hcall.mono ?_
 rintro e w' ⟨v, ss, rfl, hss, hrow, _, hbel⟩
 refine ⟨v, κ, rfl, Leave.same hen hbel, ?_⟩
 have hsort : ss.mergeSort (fun x y => decide (x ≤ y)) = (es.map (·.1)).mergeSort Gt := mergeSort_of_perm (hss.trans hperm)
 rw [hsort] at hrow
 generalize hL : (es.map (·.1)).mergeSort Gt = L at hrow
 have hLl : L.length = es.length := by rw [← hL]; simp
 have hssl : ss.length = es.length := by have := (hss.trans hperm).length_eq; simpa using this
 have hLk : ∀ x ∈ L, x.length ≤ 9223372036854775807 := fun x hx => k3.2.2 x (by rw [← hL] at hx; exact (List.mergeSort_perm _ _).mem_iff.1 hx)
 obtain ⟨hrl, hrow⟩ := hrow
 rcases hrow with ⟨rfl, hz⟩ | ⟨g, cap, cur, rfl, hbase, hg, hcap, _, hcur, htake⟩
 ·have : L = [] := List.length_eq_zero_iff.1 (by omega)
  subst this
  have := Rel.slice (w := w') (κ := κ) (pv := bB bH κ H) (es := []) (tag := .shared) (a := none) (cap := 0) 0 0 1 (fun _ _ => undef) (fun i h => by cases h) (fun h => (h rfl).elim) (Nat.le_refl _) (by simp) (fun i j h => by cases h) (fun i j h => by cases h) (fun i j h => by cases h) trivial
  simpa using this
 ·have hgi : ∀ i, i < L.length → w'.cell? ⟨g, 0 + (i * 1 + 0), none⟩ = some (encStr (L.getD i [])) := fun i hi => by
   have hcs : i < cur.size := by omega
   have e1 : cur[i] = encStr (L.getD i []) := by
    have : (cur.toList.take (ss.length * 1))[i]? = some (encStr (L.getD i [])) := by
     rw [htake, List.getElem?_map, List.getElem?_eq_getElem hi]
     simp [List.getD, List.getElem?_eq_getElem hi]
    rw [List.getElem?_take, if_pos (by omega)] at this
    simpa [hcs] using this
   have e0 : 0 + (i * 1 + 0) = i := by omega
   rw [e0]
   simp [World.cell?, hg, hcs, e1]
  have hlen2 : (L.map encS).length = es.length := by simp [hLl]
  have := Rel.slice (w := w') (κ := κ) (pv := bB bH κ H) (es := L.map encS) (tag := .shared) (a := some ⟨g, 0, none⟩) (cap := cap) g 0 1 (fun i _ => encStr (L.getD i []))
   (fun i hi => by simp only [List.length_map] at hi; simp [List.getD, List.getElem?_eq_getElem hi, encS]) (fun _ => rfl) (by omega) (by omega)
   (fun i j _ _ hpv => by have := ar5 hen hpv; omega)
   (fun i j hi hj => by
    simp only [List.length_map] at hi
    have hj0 : j = 0 := by omega
    subst hj0
    exact hgi i hi)
   (fun i j hi hj => by
    simp only [List.length_map] at hi
    have hj0 : j = 0 := by omega
    subst hj0
    have e : ((L.map encS).getD i []).getD 0 .unk = .str (L.getD i []) := by simp [List.getD, List.getElem?_eq_getElem hi, encS]
    rw [e]
    refine .str (hLk _ ?_)
    rw [List.getD, List.getElem?_eq_getElem hi]; exact List.getElem_mem _) trivial
  rw [hlen2] at this
  rw [hssl]
  exact this
end Abs
end Go.Proofs.YtiiaccpcoclklaaGreat
namespace Go.Proofs.YtiiaccpcoclklaaGreat
namespace Abs
open Go
def eqT : Tag → Tag → Bool
 | .shared, .shared => true
 | .nils, .nils => true
 | .tip l z, .tip l' z' => Nat.beq l l' && Nat.beq z z'
 | _, _ => false
def eqB : List UInt8 → List UInt8 → Bool
 | [], [] => true
 | a :: s, b :: t => Nat.beq a.toNat b.toNat && eqB s t
 | _, _ => false
mutual
def I6 : AV → AV → Bool
 | .unk, .unk => true
 | .int k n, .int k' n' => decide (k = k') && decide (n = n')
 | .bool b, .bool b' => b == b'
 | .str s, .str s' => eqB s s'
 | .nilp, .nilp => true
 | .ptr l o, .ptr l' o' => Nat.beq l l' && Nat.beq o o'
 | .slice es t, .slice es' t' => eqT t t' && aib es es'
 | .agg cs, .agg cs' => Tp cs cs'
 | .aW cs, .aW cs' => Tp cs cs'
 | .func f cs, .func f' cs' => Nat.beq f f' && Tp cs cs'
 | .mapr l, .mapr l' => Nat.beq l l'
 | .nilFunc, .nilFunc => true
 | _, _ => false
def Tp : List AV → List AV → Bool
 | [], [] => true
 | c :: cs, c' :: cs' => I6 c c' && Tp cs cs'
 | _, _ => false
def aib : List (List AV) → List (List AV) → Bool
 | [], [] => true
 | c :: cs, c' :: cs' => Tp c c' && aib cs cs'
 | _, _ => false
end
def eqO : AObj → AObj → Bool
 | .box cs, .box cs' => Tp cs cs'
 | .tip n, .tip n' => Nat.beq n n'
 | .dead, .dead => true
 | _, _ => false
def adP : List AObj → List AObj → Bool
 | [], [] => true
 | c :: cs, c' :: cs' => eqO c c' && adP cs cs'
 | _, _ => false
theorem aut {x y : Tag} (h : eqT x y = true) : x = y := by
 cases x <;> cases y <;> simp only [eqT, Bool.and_eq_true, Bool.false_eq_true] at h
 ·rfl
 ·rfl
 ·rw [Nat.eq_of_beq_eq_true h.1, Nat.eq_of_beq_eq_true h.2]
theorem aps : ∀ {x y : List UInt8}, eqB x y = true → x = y
 | [], [], _ => rfl
 | a :: s, b :: t, h => by
  simp only [eqB, Bool.and_eq_true] at h
  rw [aps h.2, UInt8.toNat_inj.1 (Nat.eq_of_beq_eq_true h.1)]
mutual
theorem auv : ∀ {x y : AV}, I6 x y = true → x = y
 | .unk, y, h => by cases y <;> simp [I6] at h ⊢
 | .int k n, y, h => by cases y <;> simp [I6] at h ⊢; exact h
 | .bool b, y, h => by cases y <;> simp [I6] at h ⊢; exact h
 | .str s, y, h => by cases y <;> simp only [I6, Bool.false_eq_true] at h; rw [aps h]
 | .nilp, y, h => by cases y <;> simp [I6] at h ⊢
 | .ptr l o, y, h => by
  cases y <;> simp only [I6, Bool.false_eq_true, Bool.and_eq_true] at h
  rw [Nat.eq_of_beq_eq_true h.1, Nat.eq_of_beq_eq_true h.2]
 | .slice es t, y, h => by
  cases y <;> simp only [I6, Bool.false_eq_true, Bool.and_eq_true] at h
  rw [aut h.1, ali h.2]
 | .agg cs, y, h => by cases y <;> simp only [I6, Bool.false_eq_true] at h; rw [LM h]
 | .aW cs, y, h => by cases y <;> simp only [I6, Bool.false_eq_true] at h; rw [LM h]
 | .func f cs, y, h => by
  cases y <;> simp only [I6, Bool.false_eq_true, Bool.and_eq_true] at h
  rw [Nat.eq_of_beq_eq_true h.1, LM h.2]
 | .mapr l, y, h => by cases y <;> simp only [I6, Bool.false_eq_true] at h; rw [Nat.eq_of_beq_eq_true h]
 | .nilFunc, y, h => by cases y <;> simp [I6] at h ⊢
 | .eptr _, y, h => by cases y <;> simp [I6] at h
 | .psl _ _ _, y, h => by cases y <;> simp [I6] at h
 | .flist _, y, h => by cases y <;> simp [I6] at h
theorem LM : ∀ {x y : List AV}, Tp x y = true → x = y
 | [], y, h => by cases y <;> simp [Tp] at h ⊢
 | c :: cs, y, h => by
  cases y <;> simp only [Tp, Bool.false_eq_true, Bool.and_eq_true] at h
  rw [auv h.1, LM h.2]
theorem ali : ∀ {x y : List (List AV)}, aib x y = true → x = y
 | [], y, h => by cases y <;> simp [aib] at h ⊢
 | c :: cs, y, h => by
  cases y <;> simp only [aib, Bool.false_eq_true, Bool.and_eq_true] at h
  rw [LM h.1, ali h.2]
end
theorem atL {x y : AObj} (h : eqO x y = true) : x = y := by
 cases x <;> cases y <;> simp only [eqO, Bool.false_eq_true] at h
 ·rw [LM h]
 ·rw [Nat.eq_of_beq_eq_true h]
 ·rfl
theorem akS : ∀ {x y : List AObj}, adP x y = true → x = y
 | [], y, h => by cases y <;> simp [adP] at h ⊢
 | c :: cs, y, h => by
  cases y <;> simp only [adP, Bool.false_eq_true, Bool.and_eq_true] at h
  rw [atL h.1, akS h.2]
structure Known where
 f : Nat
 args : List AV
 H : List AObj
 res : AV
 H' : List AObj
def known : List Known → xE → xE
 | [], E, f, args, H => E f args H
 | e :: m, E, f, args, H => bif Nat.beq e.f f && (Tp e.args args && adP e.H H) then some (e.res, e.H') else known m E f args H
theorem ajl {P : Program} {E : xE} (hE : ∀ f args H r, E f args H = some r → aB P f args H r.1 r.2) : ∀ (m : List Known), (∀ e ∈ m, aB P e.f e.args e.H e.res e.H') → ∀ f args H r, known m E f args H = some r → aB P f args H r.1 r.2
 | [], _, f, args, H, r, h => hE f args H r h
 | e :: m, hm, f, args, H, r, h => by
  unfold known at h
  cases hb : (Nat.beq e.f f && (Tp e.args args && adP e.H H)) with
  | false => rw [hb] at h; exact ajl hE m (fun e he => hm e (List.mem_cons_of_mem _ he)) f args H r h
  | true =>
   rw [hb] at h
   simp only [cond_true, Option.some.injEq] at h
   subst h
   simp only [Bool.and_eq_true] at hb
   have := hm e (by simp)
   rw [Nat.eq_of_beq_eq_true hb.1, LM hb.2.1, akS hb.2.2] at this
   exact this
end Abs
end Go.Proofs.YtiiaccpcoclklaaGreat
namespace Go.Proofs.YtiiaccpcoclklaaGreat
namespace Abs
open Go Go.Proofs
noncomputable def arI (H : List AObj) : AObj → Option (AV × List AObj)
 | .mp es => bif Nat.ble (es.length * 16) 140737488355328 then some (.slice (((es.map (·.1)).mergeSort Gt).map encS) .shared, H) else none
 | _ => none
noncomputable def aru (H : List AObj) : AObj → Option (AV × List AObj)
 | .box [.mapr m] => arI H (ahG H m)
 | _ => none
noncomputable def arA (H : List AObj) : List AV → Option (AV × List AObj)
 | [.func g [.ptr p o]] => bif Nat.beq g 185 && Nat.beq o 0 then aru H (ahG H p) else none
 | _ => none
noncomputable def amn : xE := fun f args H => bif Nat.beq f 104 then arA H args else none
theorem aqM : ∀ f args H r, amn f args H = some r → aB Tryz.prog f args H r.1 r.2 := by
 intro f args H r h
 unfold amn at h
 cases hf : Nat.beq f 104 with
 | false => rw [hf] at h; cases h
 | true =>
  rw [hf] at h
  simp only [cond_true] at h
  rw [Nat.eq_of_beq_eq_true hf]
  unfold arA at h
  split at h
  ·rename_i g p o
   cases hb : (Nat.beq g 185 && Nat.beq o 0) with
   | false => rw [hb] at h; cases h
   | true =>
    rw [hb] at h
    simp only [cond_true] at h
    simp only [Bool.and_eq_true] at hb
    rw [Nat.eq_of_beq_eq_true hb.1, Nat.eq_of_beq_eq_true hb.2]
    unfold aru at h
    split at h
    ·rename_i m hp
     unfold arI at h
     split at h
     ·rename_i es hm
      cases hl : Nat.ble (es.length * 16) 140737488355328 with
      | false => rw [hl] at h; cases h
      | true =>
       rw [hl] at h
       simp only [cond_true, Option.some.injEq] at h
       subst h
       rw [ad9] at hp hm
       exact SQ H p m es hp hm (Nat.le_of_ble_eq_true hl)
     ·cases h
    ·cases h
  ·cases h
def okB (f : Nat) : Bool := Nat.blt 1 f && Nat.blt f 302
theorem ar6 : ((List.range 302).all fun f => !(Nat.blt 1 f) || aC Tryz.prog f) = true := by kernel_rfl
theorem atf : ∀ f, okB f = true → aC Tryz.prog f = true := by
 intro f h
 simp only [okB, Bool.and_eq_true] at h
 have := List.all_eq_true.1 ar6 f (List.mem_range.2 (Nat.le_of_ble_eq_true h.2))
 simpa [h.1] using this
noncomputable def runK (m : List Known) (f : Nat) (args : List AV) (H : List AObj) : Option (AV × List AObj) := ac7 Tryz.prog (known m amn) okB [(60, 59, 1)] [67, 131] 200 f args H
theorem adC {m : List Known} (hm : ∀ e ∈ m, aB Tryz.prog e.f e.args e.H e.res e.H') {f : Nat} {args : List AV} {H : List AObj} {r : AV} {H' : List AObj} (h : runK m f args H = some (r, H')) : aB Tryz.prog f args H r H' :=
 aqc qY (ajl aqM m hm) atf _ _ _ _ _ h
end Abs
end Go.Proofs.YtiiaccpcoclklaaGreat

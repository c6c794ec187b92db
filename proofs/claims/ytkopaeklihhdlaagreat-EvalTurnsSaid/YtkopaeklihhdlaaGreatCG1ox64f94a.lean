/-
  From what the claim's form reads of an argument to the abstract values: a datum of the program's types that can be read stands for a plain tree. Conditions: none; lemmas over any program, then at the program's types.
-/
import Derived.Test.YtkopaeklihhdlaaGreatRows
import Derived.Deep.Slices
import Derived.Deep.Strs
import Derived.ProofKit
import Derived.Below
import Derived.Carry
import Derived.SizedLaws
import Derived.Test.YtkopaeklihhdlaaGreatCMDox63a8b8
import Derived.Test.YtkopaeklihhdlaaGreatCP61ox61802c
set_option linter.unusedSimpArgs false
set_option linter.unusedVariables false
namespace Go.Proofs.YtkopaeklihhdlaaGreat
namespace Abs
open Go Go.Proofs Go.Deep
def gF (w : World) (κ : bA) (pv : bN) (xs : List AV) (cs : List Value) : Prop := cs.length = xs.length ∧ ∀ j, j < xs.length → Rel w κ pv (xs.getD j .unk) (cs.getD j undef)
theorem gF.one {w : World} {κ : bA} {pv : bN} {x : AV} {v : Value} (h : Rel w κ pv x v) : gF w κ pv [x] [v] := ⟨rfl, fun j hj => by
 have : j = 0 := by simp at hj; omega
 subst this; exact h⟩
theorem gF.app {w : World} {κ : bA} {pv : bN} {xs ys : List AV} {cs ds : List Value} (h : gF w κ pv xs cs) (k : gF w κ pv ys ds) : gF w κ pv (xs ++ ys) (cs ++ ds) := by
 refine ⟨by simp [h.1, k.1], fun j hj => ?_⟩
 by_cases hx : j < xs.length
 ·have e1 : (xs ++ ys).getD j .unk = xs.getD j .unk := by simp [List.getD, List.getElem?_append_left hx]
  have e2 : (cs ++ ds).getD j undef = cs.getD j undef := by simp [List.getD, List.getElem?_append_left (show j < cs.length by rw [h.1]; exact hx)]
  rw [e1, e2]; exact h.2 j hx
 ·have e1 : (xs ++ ys).getD j .unk = ys.getD (j - xs.length) .unk := by simp [List.getD, List.getElem?_append_right (Nat.le_of_not_lt hx)]
  have e2 : (cs ++ ds).getD j undef = ds.getD (j - xs.length) undef := by simp [List.getD, List.getElem?_append_right (show cs.length ≤ j by rw [h.1]; omega), h.1]
  rw [e1, e2]; exact k.2 _ (by simp at hj; omega)
theorem gF.split {w : World} {κ : bA} {pv : bN} {xs ys : List AV} {cs : List Value} (hl : cs.length = xs.length + ys.length) (h : gF w κ pv xs (cs.take xs.length)) (k : gF w κ pv ys ((cs.drop xs.length).take ys.length)) : gF w κ pv (xs ++ ys) cs := by
 have := h.app k
 have e : cs.take xs.length ++ (cs.drop xs.length).take ys.length = cs := by
  rw [List.take_of_length_le (l := cs.drop xs.length) (by simp; omega), List.take_append_drop]
 rwa [e] at this
section
variable {H : Type} {enc : TypeId × Value → H} {P : Program} {w : World} {base : Nat} {spare : Nat → Bool} {held : Bool} {κ : bA} {pv : bN}
def Reads (enc : TypeId × Value → H) (P : Program) (w : World) (base : Nat) (spare : Nat → Bool) (held : Bool) (κ : bA) (pv : bN) {α : Type} (t : TypeId) (f : α → List AV) (fuel : Nat) : Prop :=
 ∀ cs x, DataW.trod enc P w base spare held fuel t cs = some x → ∃ a : α, gF w κ pv (f a) cs
theorem qX {t : TypeId} (ht : P.underlying t = some (.int .i64)) (fuel : Nat) : Reads enc P w base spare held κ pv t encI fuel := fun cs x h => by
 obtain ⟨n, rfl, _, hw⟩ := DataW.trod_int ht h
 refine ⟨n, gF.one (.int ?_)⟩
 simpa [Lit.wf, qb] using hw
theorem tJ {t : TypeId} (ht : P.underlying t = some .string) (fuel : Nat) : Reads enc P w base spare held κ pv t encS fuel := fun cs x h => by
 obtain ⟨s, rfl, _, hw⟩ := DataW.trod_string ht h
 refine ⟨s.data.toList, gF.one ?_⟩
 have := Rel.str (w := w) (κ := κ) (pv := pv) (s := s.data.toList) (by
  have : s.data.size ≤ maxLen := hw
  simpa [maxLen] using this)
 simpa using this
theorem pW {α : Type} [Inhabited α] {t e : TypeId} {f : α → List AV} {sz : Nat} (ht : P.underlying t = some (.slice e)) (hc : P.cellsOf e = sz) (hsz : 0 < sz) (hf : ∀ a, (f a).length = sz) (hpv : ∀ b o, ¬ pv b o) {fuel : Nat}
  (he : ∀ n, n < fuel → Reads enc P w base spare held κ pv e f n) : Reads enc P w base spare held κ pv t (fun l : List α => [.slice (l.map f) .shared]) fuel := fun cs x h => by
 rcases DataW.trod_slice ht h with ⟨rfl, _⟩ | ⟨a, len, cap, elems, rest, m, rfl, rfl, _, _, hcap, hmax, hel, hget0, _, _⟩
 ·refine ⟨[], gF.one ?_⟩
  exact .slice (es := []) (tag := .shared) (a := none) (cap := 0) 0 0 sz (fun _ _ => undef) (fun i h => by cases h) (fun h => (h rfl).elim) (Nat.zero_le _) (by simp) (fun i j h => by cases h) (fun i j h => by cases h) (fun i j h => by cases h) trivial
 ·have hget : ∀ i, i < len → ∃ v : List Value × α, w.cells? base (a.add (i * sz)) sz = some v.1 ∧ gF w κ pv (f v.2) v.1 := fun i hi => by
   have h1 := hget0 i hi
   rw [List.getElem?_eq_getElem (by omega), hc] at h1
   obtain ⟨cs', h2, h3⟩ := Option.bind_eq_some_iff.1 h1
   obtain ⟨y, hy⟩ := he m (Nat.lt_succ_self m) cs' _ h3
   exact ⟨(cs', y), h2, hy⟩
  obtain ⟨V, hV⟩ := choose_lt hget
  refine ⟨(List.range len).map fun i => (V i).2, gF.one ?_⟩
  have hlen : (((List.range len).map fun i => (V i).2).map f).length = len := by simp
  have hgetD : ∀ i, i < len → (((List.range len).map fun i => (V i).2).map f).getD i [] = f (V i).2 := fun i hi => by
   simp [List.getD, List.getElem?_map, List.getElem?_range hi]
  have hcell : ∀ i j, i < len → j < sz → w.cell? ((a.add (i * sz)).add j) = some ((V i).1.getD j undef) := fun i j hi hj => by
   obtain ⟨_, h2, h3⟩ := World.cells?_some (hV i hi).1
   rw [h3 j hj, List.getD, List.getElem?_eq_getElem (by omega)]
   rfl
  have hspot : 0 < len → a.spot = none := fun h0 => by
   have := World.cell?_spot (hcell 0 0 h0 hsz)
   simpa [Addr.add] using this
  have hadd : ∀ i j : Nat, a.spot = none → (a.add i).add j = ⟨a.block, a.off + (i + j), none⟩ := fun i j hs => by
   obtain ⟨b, o, s⟩ := a
   simp only at hs
   subst hs
   unfold Addr.add
   by_cases hi : i = 0
   ·subst hi
    by_cases hj : j = 0
    ·subst hj; simp
    ·simp [hj]
   ·by_cases hj : j = 0
    ·subst hj; simp [hi]
    ·simp [hi, hj]; omega
  have key := Rel.slice (w := w) (κ := κ) (pv := pv) (es := ((List.range len).map fun i => (V i).2).map f) (tag := .shared) (a := some a) (cap := cap) a.block a.off sz (fun i j => (V i).1.getD j undef)
   (fun i hi => by rw [hlen] at hi; rw [hgetD i hi, hf]) (fun hne => by
    have h0 : 0 < len := by
     apply Nat.pos_of_ne_zero
     intro h0
     apply hne
     rw [h0]; rfl
    rw [← hspot h0]) (by rw [hlen]; exact hcap) (by rw [hlen]; simp only [maxLen] at hmax; omega)
   (fun i j _ _ => hpv _ _) (fun i j hi hj => by
    rw [hlen] at hi
    have h1 := hcell i j hi hj
    rw [hadd _ _ (hspot (by omega))] at h1
    exact h1)
   (fun i j hi hj => by
    rw [hlen] at hi
    rw [hgetD i hi]
    exact (hV i hi).2.2 j (by rw [hf]; exact hj)) trivial
  rw [hlen] at key
  exact key
end
instance : Inhabited Ty := ⟨.mk 0 [] []⟩
instance : Inhabited Carrier := ⟨⟨[], []⟩⟩
instance : Inhabited Decl := ⟨⟨[], .mk 0 [] []⟩⟩
theorem laidOut : laidOutB Tryz.prog = true := by kernel_rfl
theorem Vf : Tryz.prog.cellsOf 9 = 1 := by kernel_rfl
theorem aaM : Tryz.prog.cellsOf 34 = 3 := by kernel_rfl
theorem ahK : Tryz.prog.cellsOf 71 = 2 := by kernel_rfl
theorem ahe : Tryz.prog.cellsOf 74 = 4 := by kernel_rfl
theorem agI : Tryz.prog.cellsOf 25 = 2 := by kernel_rfl
theorem Rp : Tryz.prog.cellsOf 3 = 1 := by kernel_rfl
theorem akd : Tryz.prog.cellsOf 32 = 1 := by kernel_rfl
theorem ajE : Tryz.prog.cellsOf 69 = 1 := by kernel_rfl
theorem aj1 : Tryz.prog.cellsOf 22 = 1 := by kernel_rfl
theorem ajt : Tryz.prog.cellsOf 23 = 1 := by kernel_rfl
end Abs
end Go.Proofs.YtkopaeklihhdlaaGreat
namespace Go.Proofs.YtkopaeklihhdlaaGreat
namespace Abs
open Go Go.Proofs Go.Deep Go.WideShapes
section
variable {H : Type} {enc : TypeId × Value → H} {w : World} {base : Nat} {spare : Nat → Bool} {held : Bool} {κ : bA} {pv : bN}
theorem kW {α : Type} {xs : List α} {i n : Nat} (h : xs.length = n) (hi : i < n) : ∃ y, xs[i]? = some y := ⟨xs[i]'(by omega), List.getElem?_eq_getElem (by omega)⟩
theorem acv (t : Ty) : (aH t).length = 3 := by rw [fC]; rfl
set_option maxRecDepth 100000 in
theorem Vy (hpv : ∀ b o, ¬ pv b o) (fuel : Nat) : Reads enc Tryz.prog w base spare held κ pv 34 aH fuel := by
 induction fuel using Nat.strongRecOn with
 | _ fuel ih =>
  intro cs x h
  obtain ⟨xs, n, rfl, _, hl, hlen, hf⟩ := DataW.trod_struct Tryz.underlying34 h
  rw [aaM] at hl
  match cs, hl with
  | [c0, c1, c2], _ =>
   obtain ⟨y0, e0⟩ := kW (i := 0) hlen (by decide)
   obtain ⟨y1, e1⟩ := kW (i := 1) hlen (by decide)
   obtain ⟨y2, e2⟩ := kW (i := 2) hlen (by decide)
   have h0 := hf 0 _ rfl
   have h1 := hf 1 _ rfl
   have h2 := hf 2 _ rfl
   simp only [e0, Rp, List.drop_zero, List.take_succ_cons, List.take_zero] at h0
   simp only [e1, Vf, List.drop_succ_cons, List.drop_zero, List.take_succ_cons, List.take_zero] at h1
   simp only [e2, akd, List.drop_succ_cons, List.drop_zero, List.take_succ_cons, List.take_zero] at h2
   obtain ⟨k, hk⟩ := qX (κ := κ) (pv := pv) Tryz.underlying3 n _ _ h0
   obtain ⟨nm, hn⟩ := tJ (κ := κ) (pv := pv) Tryz.underlying9 n _ _ h1
   obtain ⟨ks, hks⟩ := pW (f := aH) Tryz.underlying32 aaM (by decide) acv hpv (fun m hm => ih m (by omega)) _ _ h2
   refine ⟨.mk k nm ks, ?_⟩
   have := hk.app (hn.app hks)
   rw [fC]
   exact this
set_option maxRecDepth 100000 in
theorem aaS (hpv : ∀ b o, ¬ pv b o) (fuel : Nat) : Reads enc Tryz.prog w base spare held κ pv 69 (fun l : List Str => [.slice (l.map encS) .shared]) fuel :=
 pW (f := encS) Tryz.underlying69 Vf (by decide) (fun _ => rfl) hpv (fun m _ => tJ Tryz.underlying9 m)
set_option maxRecDepth 100000 in
theorem SK (hpv : ∀ b o, ¬ pv b o) (fuel : Nat) : Reads enc Tryz.prog w base spare held κ pv 71 aj fuel := by
 intro cs x h
 obtain ⟨xs, n, rfl, _, hl, hlen, hf⟩ := DataW.trod_struct Tryz.underlying71 h
 rw [ahK] at hl
 match cs, hl with
 | [c0, c1], _ =>
  obtain ⟨y0, e0⟩ := kW (i := 0) hlen (by decide)
  obtain ⟨y1, e1⟩ := kW (i := 1) hlen (by decide)
  have h0 := hf 0 _ rfl
  have h1 := hf 1 _ rfl
  simp only [e0, Vf, List.drop_zero, List.take_succ_cons, List.take_zero] at h0
  simp only [e1, ajE, List.drop_succ_cons, List.drop_zero, List.take_succ_cons, List.take_zero] at h1
  obtain ⟨nm, hn⟩ := tJ (κ := κ) (pv := pv) Tryz.underlying9 n _ _ h0
  obtain ⟨es, hes⟩ := aaS hpv n _ _ h1
  exact ⟨⟨nm, es⟩, hn.app hes⟩
set_option maxRecDepth 100000 in
theorem aaf (hpv : ∀ b o, ¬ pv b o) (fuel : Nat) : Reads enc Tryz.prog w base spare held κ pv 74 ak fuel := by
 intro cs x h
 obtain ⟨xs, n, rfl, _, hl, hlen, hf⟩ := DataW.trod_struct Tryz.underlying74 h
 rw [ahe] at hl
 match cs, hl with
 | [c0, c1, c2, c3], _ =>
  obtain ⟨y0, e0⟩ := kW (i := 0) hlen (by decide)
  obtain ⟨y1, e1⟩ := kW (i := 1) hlen (by decide)
  have h0 := hf 0 _ rfl
  have h1 := hf 1 _ rfl
  simp only [e0, Vf, List.drop_zero, List.take_succ_cons, List.take_zero] at h0
  simp only [e1, aaM, List.drop_succ_cons, List.drop_zero, List.take_succ_cons, List.take_zero] at h1
  obtain ⟨nm, hn⟩ := tJ (κ := κ) (pv := pv) Tryz.underlying9 n _ _ h0
  obtain ⟨t, ht⟩ := Vy hpv n _ _ h1
  refine ⟨⟨nm, t⟩, ?_⟩
  have := hn.app ht
  rw [fC] at this
  exact this
def MJ (e : Env) : List AV := [.slice (e.carriers.map aj) .shared, .slice (e.names.map ak) .shared]
set_option maxRecDepth 100000 in
theorem aco (hpv : ∀ b o, ¬ pv b o) (fuel : Nat) : Reads enc Tryz.prog w base spare held κ pv 25 MJ fuel := by
 intro cs x h
 obtain ⟨xs, n, rfl, _, hl, hlen, hf⟩ := DataW.trod_struct Tryz.underlying25 h
 rw [agI] at hl
 match cs, hl with
 | [c0, c1], _ =>
  obtain ⟨y0, e0⟩ := kW (i := 0) hlen (by decide)
  obtain ⟨y1, e1⟩ := kW (i := 1) hlen (by decide)
  have h0 := hf 0 _ rfl
  have h1 := hf 1 _ rfl
  simp only [e0, aj1, List.drop_zero, List.take_succ_cons, List.take_zero] at h0
  simp only [e1, ajt, List.drop_succ_cons, List.drop_zero, List.take_succ_cons, List.take_zero] at h1
  obtain ⟨cs, hcs⟩ := pW (f := aj) Tryz.underlying22 ahK (by decide) (fun _ => rfl) hpv (fun m _ => SK hpv m) _ _ h0
  obtain ⟨ds, hds⟩ := pW (f := ak) Tryz.underlying23 ahe (by decide) (fun _ => rfl) hpv (fun m _ => aaf hpv m) _ _ h1
  exact ⟨⟨cs, ds⟩, hcs.app hds⟩
set_option maxRecDepth 100000 in
theorem tO {α : Type} {r : Reach} {b0 : Nat} {t : TypeId} {fs : Array Field} {f : α → List AV} {v : Value} {d : DataW H} {p : List MemPlace} (hs : Tryz.prog.underlying t = some (.struct fs)) (hv : Value.okWide Tryz.prog w r b0 t v)
  (h : DataW.Trod enc Tryz.prog w base spare held t v d p) (hr : ∀ fuel, Reads enc Tryz.prog w base spare held κ pv t f fuel) : ∃ a : α, Rel w κ pv (.agg (f a)) v := by
 obtain ⟨cs, rfl, hsz⟩ := okWide_struct hs hv
 obtain ⟨fuel, hf⟩ := h
 obtain ⟨a, h1, h2⟩ := hr fuel _ _ hf
 simp only [Value.cells] at h1 h2
 refine ⟨a, ?_⟩
 have := Rel.agg (w := w) (κ := κ) (pv := pv) h1 h2
 simpa using this
end
set_option maxRecDepth 100000 in
theorem agm (w : World) : Entry [] (fun _ _ => False) [] w :=
 ⟨rfl, fun l _ => rfl, fun l b h => by simp [at?] at h, fun l l' b h => by simp [at?] at h, fun l b h => by simp [at?] at h, fun _ _ h => h.elim, fun _ _ _ h => h.elim⟩
set_option maxRecDepth 100000 in
theorem aO : ∀ b o, ¬ aP (fun _ _ => False) [] [] b o := fun b o h => by
 rcases h with h | ⟨l, h, _⟩
 ·exact h
 ·simp [at?] at h
set_option maxRecDepth 100000 in
theorem BP {f : Nat} {args : List AV} {vs : List Value} {w : World} (h : aA Tryz.prog f args [] (.bool true) []) (hl : vs.length = args.length)
  (hr : ∀ j, j < args.length → Rel w [] (aP (fun _ _ => False) [] []) (args.getD j .unk) (vs.getD j undef)) :
  Calls Tryz.prog f vs.toArray w fun e w' => e = .returned (.bool true) ∧ Go.RowKit.Below w.heap.size w w' := by
 refine (h [] (fun _ _ => False) w vs (agm w) hl hr).mono fun e w' ⟨v, κ', he, hL, hv⟩ => ?_
 cases hv
 exact ⟨he, hL.os, hL.tape, hL.output, hL.pY.size, fun k hk => hL.kept k hk fun l h => by simp [at?] at h⟩
end Abs
end Go.Proofs.YtkopaeklihhdlaaGreat
namespace Go.Proofs.YtkopaeklihhdlaaGreat
namespace Abs
open Go Go.Proofs Go.Deep Go.WideShapes
instance : Inhabited Val := ⟨.mk 0 0 [] []⟩
theorem LG : Tryz.prog.cellsOf 31 = 4 := by kernel_rfl
theorem ac5 : Tryz.prog.cellsOf 27 = 1 := by kernel_rfl
theorem Z8 : Tryz.prog.cellsOf 26 = 1 := by kernel_rfl
theorem ajS : Tryz.prog.cellsOf 29 = 4 := by kernel_rfl
theorem uW (t : Val) : (ah t).length = 4 := by rw [aX]; rfl
section
variable {H : Type} {enc : TypeId × Value → H} {w : World} {base : Nat} {spare : Nat → Bool} {held : Bool} {κ : bA} {pv : bN}
set_option maxRecDepth 100000 in
theorem I7 (hpv : ∀ b o, ¬ pv b o) (fuel : Nat) : Reads enc Tryz.prog w base spare held κ pv 31 ah fuel := by
 induction fuel using Nat.strongRecOn with
 | _ fuel ih =>
  intro cs x h
  obtain ⟨xs, n, rfl, _, hl, hlen, hf⟩ := DataW.trod_struct Tryz.underlying31 h
  rw [LG] at hl
  match cs, hl with
  | [c0, c1, c2, c3], _ =>
   obtain ⟨y0, e0⟩ := kW (i := 0) hlen (by decide)
   obtain ⟨y1, e1⟩ := kW (i := 1) hlen (by decide)
   obtain ⟨y2, e2⟩ := kW (i := 2) hlen (by decide)
   obtain ⟨y3, e3⟩ := kW (i := 3) hlen (by decide)
   have h0 := hf 0 _ rfl
   have h1 := hf 1 _ rfl
   have h2 := hf 2 _ rfl
   have h3 := hf 3 _ rfl
   simp only [e0, Rp, List.drop_zero, List.take_succ_cons, List.take_zero] at h0
   simp only [e1, Rp, List.drop_succ_cons, List.drop_zero, List.take_succ_cons, List.take_zero] at h1
   simp only [e2, Vf, List.drop_succ_cons, List.drop_zero, List.take_succ_cons, List.take_zero] at h2
   simp only [e3, ac5, List.drop_succ_cons, List.drop_zero, List.take_succ_cons, List.take_zero] at h3
   obtain ⟨k, hk⟩ := qX (κ := κ) (pv := pv) Tryz.underlying3 n _ _ h0
   obtain ⟨m, hm⟩ := qX (κ := κ) (pv := pv) Tryz.underlying3 n _ _ h1
   obtain ⟨nm, hn⟩ := tJ (κ := κ) (pv := pv) Tryz.underlying9 n _ _ h2
   obtain ⟨ks, hks⟩ := pW (f := ah) Tryz.underlying27 LG (by decide) uW hpv (fun m hm => ih m (by omega)) _ _ h3
   refine ⟨.mk k m nm ks, ?_⟩
   have := hk.app (hm.app (hn.app hks))
   rw [aX]
   exact this
set_option maxRecDepth 100000 in
theorem XK (hpv : ∀ b o, ¬ pv b o) (fuel : Nat) : Reads enc Tryz.prog w base spare held κ pv 27 (fun l : List Val => [.slice (l.map ah) .shared]) fuel :=
 pW (f := ah) Tryz.underlying27 LG (by decide) uW hpv (fun m _ => I7 hpv m)
set_option maxRecDepth 100000 in
theorem zk (hpv : ∀ b o, ¬ pv b o) (fuel : Nat) : Reads enc Tryz.prog w base spare held κ pv 26 (fun l : List Int => [.slice (l.map encI) .shared]) fuel :=
 pW (f := encI) Tryz.underlying26 Rp (by decide) (fun _ => rfl) hpv (fun m _ => qX Tryz.underlying3 m)
set_option maxRecDepth 100000 in
theorem Da (hpv : ∀ b o, ¬ pv b o) (fuel : Nat) : Reads enc Tryz.prog w base spare held κ pv 29 gB fuel := by
 intro cs x h
 obtain ⟨xs, n, rfl, _, hl, hlen, hf⟩ := DataW.trod_struct Tryz.underlying29 h
 rw [ajS] at hl
 match cs, hl with
 | [c0, c1, c2, c3], _ =>
  obtain ⟨y0, e0⟩ := kW (i := 0) hlen (by decide)
  obtain ⟨y1, e1⟩ := kW (i := 1) hlen (by decide)
  obtain ⟨y2, e2⟩ := kW (i := 2) hlen (by decide)
  have h0 := hf 0 _ rfl
  have h1 := hf 1 _ rfl
  have h2 := hf 2 _ rfl
  simp only [e0, agI, List.drop_zero, List.take_succ_cons, List.take_zero] at h0
  simp only [e1, Z8, List.drop_succ_cons, List.drop_zero, List.take_succ_cons, List.take_zero] at h1
  simp only [e2, ac5, List.drop_succ_cons, List.drop_zero, List.take_succ_cons, List.take_zero] at h2
  obtain ⟨env, henv⟩ := aco (κ := κ) hpv n _ _ h0
  obtain ⟨sz, hsz⟩ := zk (κ := κ) hpv n _ _ h1
  obtain ⟨vs, hvs⟩ := XK (κ := κ) hpv n _ _ h2
  exact ⟨⟨env, sz, vs⟩, henv.app (hsz.app hvs)⟩
end
theorem UE : ∀ {ts : List Val}, (∀ t ∈ ts, dw t) → CP ts
 | [], _ => trivial
 | t :: ts, h => by
  simp only [CP]
  exact ⟨h t (List.mem_cons_self ..), UE fun u hu => h u (List.mem_cons_of_mem _ hu)⟩
theorem Nh {w : World} {κ : bA} {pv : bN} {ts : List Val} {u : Value} (ih : ∀ t ∈ ts, ∀ f : Nat → Value, (∀ j, j < 4 → Rel w κ pv ((ah t).getD j .unk) (f j)) → dw t) (h : Rel w κ pv (.slice (ts.map ah) .shared) u) : ts.length ≤ 9223372036854775807 ∧ ∀ t ∈ ts, dw t := by
 cases h with
 | slice b off sz f h1 h2 h3 h3' h4 h5 h6 _ =>
  refine ⟨by simpa using h3', fun t ht => ?_⟩
  obtain ⟨i, hi, rfl⟩ := List.mem_iff_getElem.1 ht
  have hi' : i < (ts.map ah).length := by simpa using hi
  have eg : (ts.map ah).getD i [] = ah ts[i] := by simp [List.getD, List.getElem?_map, List.getElem?_eq_getElem hi]
  have hsz := h1 i hi'
  rw [eg, uW] at hsz
  refine ih _ (List.getElem_mem hi) (f i) fun j hj => ?_
  have := h6 i j hi' (by omega)
  rw [eg] at this
  exact this
theorem Hu {w : World} {κ : bA} {pv : bN} : ∀ t : Val, ∀ f : Nat → Value, (∀ j, j < 4 → Rel w κ pv ((ah t).getD j .unk) (f j)) → dw t := Val.ind fun k n s ks ih f h => by
 have h3 := h 3 (by decide)
 rw [aX] at h3
 have := Nh ih h3
 simp only [dw]
 exact ⟨this.1, UE this.2⟩
theorem uE {t : Val} {w : World} {κ : bA} {pv : bN} {v : Value} (h : Rel w κ pv (.agg (ah t)) v) : dw t := by
 cases h with
 | @agg _ vs hl hj => exact Hu t (fun j => vs.getD j undef) fun j h => hj j (by rw [uW]; exact h)
theorem J7 {ts : List Val} {w : World} {κ : bA} {pv : bN} {v : Value} (h : Rel w κ pv (.slice (ts.map ah) .shared) v) : ts.length ≤ 9223372036854775807 ∧ ∀ t ∈ ts, dw t := Nh (fun t _ f hf => Hu t f hf) h
theorem XM {env : Env} {w : World} {κ : bA} {pv : bN} {u : Value} (h1 : Rel w κ pv (.slice (env.names.map ak) .shared) u) : ∀ d ∈ env.names, d.name.length ≤ 9223372036854775807 := by
 intro d hd
 obtain ⟨i, hi, rfl⟩ := List.mem_iff_getElem.1 hd
 cases h1 with
 | slice b off sz f h1 h2 h3 h3' h4 h5 h6 _ =>
  have hi' : i < (env.names.map ak).length := by simpa using hi
  have eg : (env.names.map ak).getD i [] = ak env.names[i] := by simp [List.getD, List.getElem?_map, List.getElem?_eq_getElem hi]
  have hsz := h1 i hi'
  rw [eg] at hsz
  have hz : sz = 4 := hsz.symm
  have := h6 i 0 hi' (by omega)
  rw [eg] at this
  have e2 : (ak env.names[i]).getD 0 .unk = .str env.names[i].name := rfl
  rw [e2] at this
  generalize f i 0 = g at this
  cases this
  assumption
theorem Dm {x : S_api_World} {w : World} {κ : bA} {pv : bN} {v : Value} (h : Rel w κ pv (.agg (gB x)) v) : (∀ d ∈ x.env.names, d.name.length ≤ 9223372036854775807) ∧ ∀ v ∈ x.values, dw v := by
 cases h with
 | @agg _ vs hl hj => exact ⟨XM (hj 1 (by simp [gB])), (J7 (hj 3 (by simp [gB]))).2⟩
end Abs
end Go.Proofs.YtkopaeklihhdlaaGreat
namespace Go.Proofs.YtkopaeklihhdlaaGreat
namespace Abs
open Go Go.Proofs Go.Deep Go.WideShapes
def w9 {H : Type} (P : Program) (t : TypeId) (d : DataW H) : Prop := ∀ m ∈ d.weights P t, m ≤ reachBytes
theorem DN {H : Type} {P : Program} {e : TypeId} : ∀ {l : List (DataW H)} {d : DataW H}, d ∈ l → ∀ m ∈ d.weights P e, m ∈ DataW.weightsAll P e l
 | [], _, h, _, _ => by cases h
 | x :: l, d, h, m, hm => by
  simp only [DataW.weightsAll, List.mem_append]
  rcases List.mem_cons.1 h with rfl | h
  ·exact .inl hm
  ·exact .inr (DN h m hm)
theorem w9.elem {H : Type} {P : Program} {t e : TypeId} {elems spare : List (DataW H)} (ht : P.underlying t = some (.slice e)) (h : w9 P t (.slice elems spare)) : elems.length * P.bytesOf e ≤ reachBytes ∧ ∀ d ∈ elems, w9 P e d := by
 have hw : (DataW.slice elems spare).weights P t = (elems.length + spare.length) * P.bytesOf e :: (DataW.weightsAll P e elems ++ DataW.weightsAll P e spare) := by
  simp [DataW.weights, ht]
 refine ⟨?_, fun d hd m hm => h m (by rw [hw]; exact List.mem_cons_of_mem _ (List.mem_append_left _ (DN hd m hm)))⟩
 have := h ((elems.length + spare.length) * P.bytesOf e) (by rw [hw]; simp)
 exact Nat.le_trans (Nat.mul_le_mul_right _ (Nat.le_add_right _ _)) this
theorem w9.field {H : Type} {P : Program} {t ft : TypeId} {fs : Array Field} {parts : List (DataW H)} {j : Nat} {d : DataW H} (ht : P.underlying t = some (.struct fs)) (h : w9 P t (.agg parts)) (hf : (fs.toList.map (·.type))[j]? = some ft) (hd : parts[j]? = some d) : w9 P ft d := by
 have hw : (DataW.agg parts).weights P t = DataW.weightsEach P (fs.toList.map (·.type)) parts := by
  simp [DataW.weights, ht]
 exact fun m hm => h m (by rw [hw]; exact DataW.weights_mem_each hf hd m hm)
section
variable {H : Type} {enc : TypeId × Value → H} {P : Program} {w : World} {base : Nat} {spare : Nat → Bool} {held : Bool} {κ : bA} {pv : bN}
def GK (enc : TypeId × Value → H) (P : Program) (w : World) (base : Nat) (spare : Nat → Bool) (held : Bool) (κ : bA) (pv : bN) {α : Type} (t : TypeId) (f : α → List AV) (G : α → Prop) (fuel : Nat) : Prop :=
 ∀ cs x, DataW.trod enc P w base spare held fuel t cs = some x → w9 P t x.1 → ∃ a : α, gF w κ pv (f a) cs ∧ G a
theorem Iz {α : Type} [Inhabited α] {t e : TypeId} {f : α → List AV} {G : α → Prop} {sz : Nat} (ht : P.underlying t = some (.slice e)) (hc : P.cellsOf e = sz) (hsz : 0 < sz) (hf : ∀ a, (f a).length = sz) (hpv : ∀ b o, ¬ pv b o) {fuel : Nat}
  (he : ∀ n, n < fuel → GK enc P w base spare held κ pv e f G n) : GK enc P w base spare held κ pv t (fun l : List α => [.slice (l.map f) .shared]) (fun l => l.length * P.bytesOf e ≤ reachBytes ∧ ∀ a ∈ l, G a) fuel := fun cs x h hw => by
 rcases DataW.trod_slice ht h with ⟨rfl, _⟩ | ⟨a, len, cap, elems, rest, m, rfl, rfl, rfl, _, hcap, hmax, hel, hget0, _, _⟩
 ·refine ⟨[], gF.one ?_, by simp, by simp⟩
  exact .slice (es := []) (tag := .shared) (a := none) (cap := 0) 0 0 sz (fun _ _ => undef) (fun i h => by cases h) (fun h => (h rfl).elim) (Nat.zero_le _) (by simp) (fun i j h => by cases h) (fun i j h => by cases h) (fun i j h => by cases h) trivial
 ·obtain ⟨hwl, hwe⟩ := w9.elem ht hw
  have hget : ∀ i, i < len → ∃ v : List Value × α, w.cells? base (a.add (i * sz)) sz = some v.1 ∧ gF w κ pv (f v.2) v.1 ∧ G v.2 := fun i hi => by
   have h1 := hget0 i hi
   rw [List.getElem?_eq_getElem (by omega), hc] at h1
   obtain ⟨cs', h2, h3⟩ := Option.bind_eq_some_iff.1 h1
   obtain ⟨y, hy, hg⟩ := he m (Nat.lt_succ_self m) cs' _ h3 (hwe _ (List.mem_map.2 ⟨_, List.getElem_mem (by omega), rfl⟩))
   exact ⟨(cs', y), h2, hy, hg⟩
  obtain ⟨V, hV⟩ := choose_lt hget
  refine ⟨(List.range len).map fun i => (V i).2, gF.one ?_, by simpa [hel] using hwl, fun a ha => by
   obtain ⟨i, hi, rfl⟩ := List.mem_map.1 ha
   exact (hV i (List.mem_range.1 hi)).2.2⟩
  have hlen : (((List.range len).map fun i => (V i).2).map f).length = len := by simp
  have hgetD : ∀ i, i < len → (((List.range len).map fun i => (V i).2).map f).getD i [] = f (V i).2 := fun i hi => by
   simp [List.getD, List.getElem?_map, List.getElem?_range hi]
  have hcell : ∀ i j, i < len → j < sz → w.cell? ((a.add (i * sz)).add j) = some ((V i).1.getD j undef) := fun i j hi hj => by
   obtain ⟨_, h2, h3⟩ := World.cells?_some (hV i hi).1
   rw [h3 j hj, List.getD, List.getElem?_eq_getElem (by omega)]
   rfl
  have hspot : 0 < len → a.spot = none := fun h0 => by
   have := World.cell?_spot (hcell 0 0 h0 hsz)
   simpa [Addr.add] using this
  have hadd : ∀ i j : Nat, a.spot = none → (a.add i).add j = ⟨a.block, a.off + (i + j), none⟩ := fun i j hs => by
   obtain ⟨b, o, s⟩ := a
   simp only at hs
   subst hs
   unfold Addr.add
   by_cases hi : i = 0
   ·subst hi
    by_cases hj : j = 0
    ·subst hj; simp
    ·simp [hj]
   ·by_cases hj : j = 0
    ·subst hj; simp [hi]
    ·simp [hi, hj]; omega
  have key := Rel.slice (w := w) (κ := κ) (pv := pv) (es := ((List.range len).map fun i => (V i).2).map f) (tag := .shared) (a := some a) (cap := cap) a.block a.off sz (fun i j => (V i).1.getD j undef)
   (fun i hi => by rw [hlen] at hi; rw [hgetD i hi, hf]) (fun hne => by
    have h0 : 0 < len := by
     apply Nat.pos_of_ne_zero
     intro h0
     apply hne
     rw [h0]; rfl
    rw [← hspot h0]) (by rw [hlen]; exact hcap) (by rw [hlen]; simp only [maxLen] at hmax; omega)
   (fun i j _ _ => hpv _ _) (fun i j hi hj => by
    rw [hlen] at hi
    have h1 := hcell i j hi hj
    rw [hadd _ _ (hspot (by omega))] at h1
    exact h1)
   (fun i j hi hj => by
    rw [hlen] at hi
    rw [hgetD i hi]
    exact (hV i hi).2.1.2 j (by rw [hf]; exact hj)) trivial
  rw [hlen] at key
  exact key
end
theorem ajQ : Tryz.prog.bytesOf 31 = 56 := by kernel_rfl
theorem QN : ∀ {ts : List Val}, (∀ t ∈ ts, dS t) → vP ts
 | [], _ => trivial
 | t :: ts, h => by
  simp only [vP]
  exact ⟨h t (List.mem_cons_self ..), QN fun u hu => h u (List.mem_cons_of_mem _ hu)⟩
section
variable {H : Type} {enc : TypeId × Value → H} {w : World} {base : Nat} {spare : Nat → Bool} {held : Bool} {κ : bA} {pv : bN}
set_option maxRecDepth 100000 in
theorem rA (hpv : ∀ b o, ¬ pv b o) (fuel : Nat) : GK enc Tryz.prog w base spare held κ pv 31 ah dS fuel := by
 induction fuel using Nat.strongRecOn with
 | _ fuel ih =>
  intro cs x h hw
  obtain ⟨xs, n, rfl, rfl, hl, hlen, hf⟩ := DataW.trod_struct Tryz.underlying31 h
  rw [LG] at hl
  match cs, hl with
  | [c0, c1, c2, c3], _ =>
   obtain ⟨y0, e0⟩ := kW (i := 0) hlen (by decide)
   obtain ⟨y1, e1⟩ := kW (i := 1) hlen (by decide)
   obtain ⟨y2, e2⟩ := kW (i := 2) hlen (by decide)
   obtain ⟨y3, e3⟩ := kW (i := 3) hlen (by decide)
   have h0 := hf 0 _ rfl
   have h1 := hf 1 _ rfl
   have h2 := hf 2 _ rfl
   have h3 := hf 3 _ rfl
   have w3 : w9 Tryz.prog 27 y3.1 := w9.field (j := 3) Tryz.underlying31 hw rfl (by rw [List.getElem?_map, e3]; rfl)
   simp only [e0, Rp, List.drop_zero, List.take_succ_cons, List.take_zero] at h0
   simp only [e1, Rp, List.drop_succ_cons, List.drop_zero, List.take_succ_cons, List.take_zero] at h1
   simp only [e2, Vf, List.drop_succ_cons, List.drop_zero, List.take_succ_cons, List.take_zero] at h2
   simp only [e3, ac5, List.drop_succ_cons, List.drop_zero, List.take_succ_cons, List.take_zero] at h3
   obtain ⟨k, hk⟩ := qX (κ := κ) (pv := pv) Tryz.underlying3 n _ _ h0
   obtain ⟨m, hm⟩ := qX (κ := κ) (pv := pv) Tryz.underlying3 n _ _ h1
   obtain ⟨nm, hn⟩ := tJ (κ := κ) (pv := pv) Tryz.underlying9 n _ _ h2
   obtain ⟨ks, hks, hb, hg⟩ := Iz (f := ah) (G := dS) Tryz.underlying27 LG (by decide) uW hpv (fun m hm => ih m (by omega)) _ _ h3 w3
   refine ⟨.mk k m nm ks, ?_, ?_⟩
   ·have := hk.app (hm.app (hn.app hks))
    rw [aX]
    exact this
   ·simp only [dS]
    rw [ajQ] at hb
    exact ⟨Nat.le_trans hb (by decide), QN hg⟩
set_option maxRecDepth 100000 in
theorem uL {α : Type} {r : Reach} {b0 : Nat} {t : TypeId} {fs : Array Field} {f : α → List AV} {G : α → Prop} {v : Value} {d : DataW H} {p : List MemPlace} (hs : Tryz.prog.underlying t = some (.struct fs)) (hv : Value.okWide Tryz.prog w r b0 t v)
  (h : DataW.Trod enc Tryz.prog w base spare held t v d p) (hw : w9 Tryz.prog t d) (hr : ∀ fuel, GK enc Tryz.prog w base spare held κ pv t f G fuel) : ∃ a : α, Rel w κ pv (.agg (f a)) v ∧ G a := by
 obtain ⟨cs, rfl, hsz⟩ := okWide_struct hs hv
 obtain ⟨fuel, hf⟩ := h
 obtain ⟨a, ⟨h1, h2⟩, hg⟩ := hr fuel _ _ hf hw
 simp only [Value.cells] at h1 h2
 refine ⟨a, ?_, hg⟩
 have := Rel.agg (w := w) (κ := κ) (pv := pv) h1 h2
 simpa using this
end
end Abs
end Go.Proofs.YtkopaeklihhdlaaGreat
namespace Go.Proofs.YtkopaeklihhdlaaGreat
namespace Abs
open Go Go.Proofs Go.Deep Go.WideShapes
theorem aji : Tryz.prog.cellsOf 59 = 2 := by kernel_rfl
section
variable {H : Type} {enc : TypeId × Value → H} {w : World} {base : Nat} {spare : Nat → Bool} {held : Bool} {κ : bA} {pv : bN}
set_option maxRecDepth 100000 in
theorem VQ (hpv : ∀ b o, ¬ pv b o) (fuel : Nat) : Reads enc Tryz.prog w base spare held κ pv 59 eX fuel := by
 intro cs x h
 obtain ⟨xs, n, rfl, _, hl, hlen, hf⟩ := DataW.trod_struct Tryz.underlying59 h
 rw [aji] at hl
 match cs, hl with
 | [c0, c1], _ =>
  obtain ⟨y0, e0⟩ := kW (i := 0) hlen (by decide)
  obtain ⟨y1, e1⟩ := kW (i := 1) hlen (by decide)
  have h0 := hf 0 _ rfl
  have h1 := hf 1 _ rfl
  simp only [e0, Vf, List.drop_zero, List.take_succ_cons, List.take_zero] at h0
  simp only [e1, Z8, List.drop_succ_cons, List.drop_zero, List.take_succ_cons, List.take_zero] at h1
  obtain ⟨nm, hn⟩ := tJ (κ := κ) (pv := pv) Tryz.underlying9 n _ _ h0
  obtain ⟨sz, hsz⟩ := zk (κ := κ) hpv n _ _ h1
  exact ⟨⟨nm, sz⟩, hn.app hsz⟩
end
end Abs
end Go.Proofs.YtkopaeklihhdlaaGreat

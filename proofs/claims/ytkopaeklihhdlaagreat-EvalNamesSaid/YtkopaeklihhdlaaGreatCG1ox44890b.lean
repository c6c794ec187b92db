/-
  From what the claim's form reads of an argument to the abstract values: a datum of the program's types that can be read stands for a plain tree. Conditions: none; lemmas over any program, then at the program's types.
-/
import Derived.Test.YtkopaeklihhdlaaGreatRows
import Derived.Deep.Slices
import Derived.Deep.Strs
import Derived.ProofKit
import Derived.Below
import Derived.Carry
import Derived.Test.YtkopaeklihhdlaaGreatCP1ox4118dd
import Derived.Test.YtkopaeklihhdlaaGreatCEDoxbbef31
set_option linter.unusedSimpArgs false
set_option linter.unusedVariables false
namespace Go.Proofs.YtkopaeklihhdlaaGreat
namespace Abs
open Go Go.Proofs Go.Deep
def gq (w : World) (κ : bA) (pv : bK) (xs : List AV) (cs : List Value) : Prop := cs.length = xs.length ∧ ∀ j, j < xs.length → Rel w κ pv (xs.getD j .unk) (cs.getD j undef)
theorem gq.one {w : World} {κ : bA} {pv : bK} {x : AV} {v : Value} (h : Rel w κ pv x v) : gq w κ pv [x] [v] := ⟨rfl, fun j hj => by
 have : j = 0 := by simp at hj; omega
 subst this; exact h⟩
theorem gq.app {w : World} {κ : bA} {pv : bK} {xs ys : List AV} {cs ds : List Value} (h : gq w κ pv xs cs) (k : gq w κ pv ys ds) : gq w κ pv (xs ++ ys) (cs ++ ds) := by
 refine ⟨by simp [h.1, k.1], fun j hj => ?_⟩
 by_cases hx : j < xs.length
 ·have e1 : (xs ++ ys).getD j .unk = xs.getD j .unk := by simp [List.getD, List.getElem?_append_left hx]
  have e2 : (cs ++ ds).getD j undef = cs.getD j undef := by simp [List.getD, List.getElem?_append_left (show j < cs.length by rw [h.1]; exact hx)]
  rw [e1, e2]; exact h.2 j hx
 ·have e1 : (xs ++ ys).getD j .unk = ys.getD (j - xs.length) .unk := by simp [List.getD, List.getElem?_append_right (Nat.le_of_not_lt hx)]
  have e2 : (cs ++ ds).getD j undef = ds.getD (j - xs.length) undef := by simp [List.getD, List.getElem?_append_right (show cs.length ≤ j by rw [h.1]; omega), h.1]
  rw [e1, e2]; exact k.2 _ (by simp at hj; omega)
theorem gq.split {w : World} {κ : bA} {pv : bK} {xs ys : List AV} {cs : List Value} (hl : cs.length = xs.length + ys.length) (h : gq w κ pv xs (cs.take xs.length)) (k : gq w κ pv ys ((cs.drop xs.length).take ys.length)) : gq w κ pv (xs ++ ys) cs := by
 have := h.app k
 have e : cs.take xs.length ++ (cs.drop xs.length).take ys.length = cs := by
  rw [List.take_of_length_le (l := cs.drop xs.length) (by simp; omega), List.take_append_drop]
 rwa [e] at this
section
variable {H : Type} {enc : TypeId × Value → H} {P : Program} {w : World} {base : Nat} {spare : Nat → Bool} {held : Bool} {κ : bA} {pv : bK}
def Reads (enc : TypeId × Value → H) (P : Program) (w : World) (base : Nat) (spare : Nat → Bool) (held : Bool) (κ : bA) (pv : bK) {α : Type} (t : TypeId) (f : α → List AV) (fuel : Nat) : Prop :=
 ∀ cs x, DataW.trod enc P w base spare held fuel t cs = some x → ∃ a : α, gq w κ pv (f a) cs
theorem qA {t : TypeId} (ht : P.underlying t = some (.int .i64)) (fuel : Nat) : Reads enc P w base spare held κ pv t encI fuel := fun cs x h => by
 obtain ⟨n, rfl, _, hw⟩ := DataW.trod_int ht h
 refine ⟨n, gq.one (.int ?_)⟩
 simpa [Lit.wf, oV] using hw
theorem vM {t : TypeId} (ht : P.underlying t = some .string) (fuel : Nat) : Reads enc P w base spare held κ pv t encS fuel := fun cs x h => by
 obtain ⟨s, rfl, _, hw⟩ := DataW.trod_string ht h
 refine ⟨s.data.toList, gq.one ?_⟩
 have := Rel.str (w := w) (κ := κ) (pv := pv) (s := s.data.toList) (by
  have : s.data.size ≤ maxLen := hw
  simpa [maxLen] using this)
 simpa using this
theorem oM {α : Type} [Inhabited α] {t e : TypeId} {f : α → List AV} {sz : Nat} (ht : P.underlying t = some (.slice e)) (hc : P.cellsOf e = sz) (hsz : 0 < sz) (hf : ∀ a, (f a).length = sz) (hpv : ∀ b o, ¬ pv b o) {fuel : Nat}
  (he : ∀ n, n < fuel → Reads enc P w base spare held κ pv e f n) : Reads enc P w base spare held κ pv t (fun l : List α => [.slice (l.map f) .shared]) fuel := fun cs x h => by
 rcases DataW.trod_slice ht h with ⟨rfl, _⟩ | ⟨a, len, cap, elems, rest, m, rfl, rfl, _, _, hcap, hmax, hel, hget0, _, _⟩
 ·refine ⟨[], gq.one ?_⟩
  exact .slice (es := []) (tag := .shared) (a := none) (cap := 0) 0 0 sz (fun _ _ => undef) (fun i h => by cases h) (fun h => (h rfl).elim) (Nat.zero_le _) (by simp) (fun i j h => by cases h) (fun i j h => by cases h) (fun i j h => by cases h) trivial
 ·have hget : ∀ i, i < len → ∃ v : List Value × α, w.cells? base (a.add (i * sz)) sz = some v.1 ∧ gq w κ pv (f v.2) v.1 := fun i hi => by
   have h1 := hget0 i hi
   rw [List.getElem?_eq_getElem (by omega), hc] at h1
   obtain ⟨cs', h2, h3⟩ := Option.bind_eq_some_iff.1 h1
   obtain ⟨y, hy⟩ := he m (Nat.lt_succ_self m) cs' _ h3
   exact ⟨(cs', y), h2, hy⟩
  obtain ⟨V, hV⟩ := choose_lt hget
  refine ⟨(List.range len).map fun i => (V i).2, gq.one ?_⟩
  have hlen : (((List.range len).map fun i => (V i).2).map f).length = len := by simp
  have hgetD : ∀ i, i < len → (((List.range len).map fun i => (V i).2).map f).getD i [] = f (V i).2 := fun i hi => by
   simp [List.getD, List.getElem?_map, List.getElem?_range hi]
  have hcell : ∀ i j, i < len → j < sz → w.cell? ((a.add (i * sz)).add j) = some ((V i).1.getD j undef) := fun i j hi hj => by
   obtain ⟨_, h2, h3⟩ := World.cells?_some (hV i hi).1
   rw [h3 j hj, List.getD, List.getElem?_eq_getElem (by omega)]
   rfl
  have hspot : 0 < len → a.spot = none := fun h0 => by
   have := World.cell?_spot (hcell 0 0 h0 hsz)
   simpa [Addr.add] using this
  have hadd : ∀ i j : Nat, a.spot = none → (a.add i).add j = ⟨a.block, a.off + (i + j), none⟩ := fun i j hs => by
   obtain ⟨b, o, s⟩ := a
   simp only at hs
   subst hs
   unfold Addr.add
   by_cases hi : i = 0
   ·subst hi
    by_cases hj : j = 0
    ·subst hj; simp
    ·simp [hj]
   ·by_cases hj : j = 0
    ·subst hj; simp [hi]
    ·simp [hi, hj]; omega
  have key := Rel.slice (w := w) (κ := κ) (pv := pv) (es := ((List.range len).map fun i => (V i).2).map f) (tag := .shared) (a := some a) (cap := cap) a.block a.off sz (fun i j => (V i).1.getD j undef)
   (fun i hi => by rw [hlen] at hi; rw [hgetD i hi, hf]) (fun hne => by
    have h0 : 0 < len := by
     apply Nat.pos_of_ne_zero
     intro h0
     apply hne
     rw [h0]; rfl
    rw [← hspot h0]) (by rw [hlen]; exact hcap) (by rw [hlen]; simp only [maxLen] at hmax; omega)
   (fun i j _ _ => hpv _ _) (fun i j hi hj => by
    rw [hlen] at hi
    have h1 := hcell i j hi hj
    rw [hadd _ _ (hspot (by omega))] at h1
    exact h1)
   (fun i j hi hj => by
    rw [hlen] at hi
    rw [hgetD i hi]
    exact (hV i hi).2.2 j (by rw [hf]; exact hj)) trivial
  rw [hlen] at key
  exact key
end
instance : Inhabited Ty := ⟨.mk 0 [] []⟩
instance : Inhabited Carrier := ⟨⟨[], []⟩⟩
instance : Inhabited Decl := ⟨⟨[], .mk 0 [] []⟩⟩
theorem laidOut : laidOutB Tryz.prog = true := by kernel_rfl
theorem XQ : Tryz.prog.cellsOf 9 = 1 := by kernel_rfl
theorem YH : Tryz.prog.cellsOf 34 = 3 := by kernel_rfl
theorem aeX : Tryz.prog.cellsOf 71 = 2 := by kernel_rfl
theorem afk : Tryz.prog.cellsOf 74 = 4 := by kernel_rfl
theorem aeF : Tryz.prog.cellsOf 25 = 2 := by kernel_rfl
theorem Pj : Tryz.prog.cellsOf 3 = 1 := by kernel_rfl
theorem ahw : Tryz.prog.cellsOf 32 = 1 := by kernel_rfl
theorem aie : Tryz.prog.cellsOf 69 = 1 := by kernel_rfl
theorem aht : Tryz.prog.cellsOf 22 = 1 := by kernel_rfl
theorem ahQ : Tryz.prog.cellsOf 23 = 1 := by kernel_rfl
end Abs
end Go.Proofs.YtkopaeklihhdlaaGreat
namespace Go.Proofs.YtkopaeklihhdlaaGreat
namespace Abs
open Go Go.Proofs Go.Deep Go.WideShapes
section
variable {H : Type} {enc : TypeId × Value → H} {w : World} {base : Nat} {spare : Nat → Bool} {held : Bool} {κ : bA} {pv : bK}
theorem lK {α : Type} {xs : List α} {i n : Nat} (h : xs.length = n) (hi : i < n) : ∃ y, xs[i]? = some y := ⟨xs[i]'(by omega), List.getElem?_eq_getElem (by omega)⟩
theorem aai (t : Ty) : (aC t).length = 3 := by rw [fq]; rfl
set_option maxRecDepth 100000 in
theorem SN (hpv : ∀ b o, ¬ pv b o) (fuel : Nat) : Reads enc Tryz.prog w base spare held κ pv 34 aC fuel := by
 induction fuel using Nat.strongRecOn with
 | _ fuel ih =>
  intro cs x h
  obtain ⟨xs, n, rfl, _, hl, hlen, hf⟩ := DataW.trod_struct Tryz.underlying34 h
  rw [YH] at hl
  match cs, hl with
  | [c0, c1, c2], _ =>
   obtain ⟨y0, e0⟩ := lK (i := 0) hlen (by decide)
   obtain ⟨y1, e1⟩ := lK (i := 1) hlen (by decide)
   obtain ⟨y2, e2⟩ := lK (i := 2) hlen (by decide)
   have h0 := hf 0 _ rfl
   have h1 := hf 1 _ rfl
   have h2 := hf 2 _ rfl
   simp only [e0, Pj, List.drop_zero, List.take_succ_cons, List.take_zero] at h0
   simp only [e1, XQ, List.drop_succ_cons, List.drop_zero, List.take_succ_cons, List.take_zero] at h1
   simp only [e2, ahw, List.drop_succ_cons, List.drop_zero, List.take_succ_cons, List.take_zero] at h2
   obtain ⟨k, hk⟩ := qA (κ := κ) (pv := pv) Tryz.underlying3 n _ _ h0
   obtain ⟨nm, hn⟩ := vM (κ := κ) (pv := pv) Tryz.underlying9 n _ _ h1
   obtain ⟨ks, hks⟩ := oM (f := aC) Tryz.underlying32 YH (by decide) aai hpv (fun m hm => ih m (by omega)) _ _ h2
   refine ⟨.mk k nm ks, ?_⟩
   have := hk.app (hn.app hks)
   rw [fq]
   exact this
set_option maxRecDepth 100000 in
theorem Y4 (hpv : ∀ b o, ¬ pv b o) (fuel : Nat) : Reads enc Tryz.prog w base spare held κ pv 69 (fun l : List Str => [.slice (l.map encS) .shared]) fuel :=
 oM (f := encS) Tryz.underlying69 XQ (by decide) (fun _ => rfl) hpv (fun m _ => vM Tryz.underlying9 m)
set_option maxRecDepth 100000 in
theorem Qo (hpv : ∀ b o, ¬ pv b o) (fuel : Nat) : Reads enc Tryz.prog w base spare held κ pv 71 ah fuel := by
 intro cs x h
 obtain ⟨xs, n, rfl, _, hl, hlen, hf⟩ := DataW.trod_struct Tryz.underlying71 h
 rw [aeX] at hl
 match cs, hl with
 | [c0, c1], _ =>
  obtain ⟨y0, e0⟩ := lK (i := 0) hlen (by decide)
  obtain ⟨y1, e1⟩ := lK (i := 1) hlen (by decide)
  have h0 := hf 0 _ rfl
  have h1 := hf 1 _ rfl
  simp only [e0, XQ, List.drop_zero, List.take_succ_cons, List.take_zero] at h0
  simp only [e1, aie, List.drop_succ_cons, List.drop_zero, List.take_succ_cons, List.take_zero] at h1
  obtain ⟨nm, hn⟩ := vM (κ := κ) (pv := pv) Tryz.underlying9 n _ _ h0
  obtain ⟨es, hes⟩ := Y4 hpv n _ _ h1
  exact ⟨⟨nm, es⟩, hn.app hes⟩
set_option maxRecDepth 100000 in
theorem X0 (hpv : ∀ b o, ¬ pv b o) (fuel : Nat) : Reads enc Tryz.prog w base spare held κ pv 74 ak fuel := by
 intro cs x h
 obtain ⟨xs, n, rfl, _, hl, hlen, hf⟩ := DataW.trod_struct Tryz.underlying74 h
 rw [afk] at hl
 match cs, hl with
 | [c0, c1, c2, c3], _ =>
  obtain ⟨y0, e0⟩ := lK (i := 0) hlen (by decide)
  obtain ⟨y1, e1⟩ := lK (i := 1) hlen (by decide)
  have h0 := hf 0 _ rfl
  have h1 := hf 1 _ rfl
  simp only [e0, XQ, List.drop_zero, List.take_succ_cons, List.take_zero] at h0
  simp only [e1, YH, List.drop_succ_cons, List.drop_zero, List.take_succ_cons, List.take_zero] at h1
  obtain ⟨nm, hn⟩ := vM (κ := κ) (pv := pv) Tryz.underlying9 n _ _ h0
  obtain ⟨t, ht⟩ := SN hpv n _ _ h1
  refine ⟨⟨nm, t⟩, ?_⟩
  have := hn.app ht
  rw [fq] at this
  exact this
def LZ (e : Env) : List AV := [.slice (e.carriers.map ah) .shared, .slice (e.names.map ak) .shared]
set_option maxRecDepth 100000 in
theorem aau (hpv : ∀ b o, ¬ pv b o) (fuel : Nat) : Reads enc Tryz.prog w base spare held κ pv 25 LZ fuel := by
 intro cs x h
 obtain ⟨xs, n, rfl, _, hl, hlen, hf⟩ := DataW.trod_struct Tryz.underlying25 h
 rw [aeF] at hl
 match cs, hl with
 | [c0, c1], _ =>
  obtain ⟨y0, e0⟩ := lK (i := 0) hlen (by decide)
  obtain ⟨y1, e1⟩ := lK (i := 1) hlen (by decide)
  have h0 := hf 0 _ rfl
  have h1 := hf 1 _ rfl
  simp only [e0, aht, List.drop_zero, List.take_succ_cons, List.take_zero] at h0
  simp only [e1, ahQ, List.drop_succ_cons, List.drop_zero, List.take_succ_cons, List.take_zero] at h1
  obtain ⟨cs, hcs⟩ := oM (f := ah) Tryz.underlying22 aeX (by decide) (fun _ => rfl) hpv (fun m _ => Qo hpv m) _ _ h0
  obtain ⟨ds, hds⟩ := oM (f := ak) Tryz.underlying23 afk (by decide) (fun _ => rfl) hpv (fun m _ => X0 hpv m) _ _ h1
  exact ⟨⟨cs, ds⟩, hcs.app hds⟩
set_option maxRecDepth 100000 in
theorem yE {α : Type} {r : Reach} {b0 : Nat} {t : TypeId} {fs : Array Field} {f : α → List AV} {v : Value} {d : DataW H} {p : List MemPlace} (hs : Tryz.prog.underlying t = some (.struct fs)) (hv : Value.okWide Tryz.prog w r b0 t v)
  (h : DataW.Trod enc Tryz.prog w base spare held t v d p) (hr : ∀ fuel, Reads enc Tryz.prog w base spare held κ pv t f fuel) : ∃ a : α, Rel w κ pv (.agg (f a)) v := by
 obtain ⟨cs, rfl, hsz⟩ := okWide_struct hs hv
 obtain ⟨fuel, hf⟩ := h
 obtain ⟨a, h1, h2⟩ := hr fuel _ _ hf
 simp only [Value.cells] at h1 h2
 refine ⟨a, ?_⟩
 have := Rel.agg (w := w) (κ := κ) (pv := pv) h1 h2
 simpa using this
set_option maxRecDepth 100000 in
theorem Uj {r : Reach} {b0 : Nat} {v : Value} {d : DataW H} {p : List MemPlace} (hv : Value.okWide Tryz.prog w r b0 9 v)
  (h : DataW.Trod enc Tryz.prog w base spare held 9 v d p) : ∃ s : Str, s.length ≤ 9223372036854775807 ∧ Rel w κ pv (.str s) v := by
 obtain ⟨s, rfl, rfl, rfl, hs⟩ := Go.ChangeMaps.open_string Tryz.underlying9 hv h
 refine ⟨s.data.toList, ?_, ?_⟩
 ·have : s.data.size ≤ maxLen := hs
  simpa [maxLen] using this
 ·have := Rel.str (w := w) (κ := κ) (pv := pv) (s := s.data.toList) (by
   have : s.data.size ≤ maxLen := hs
   simpa [maxLen] using this)
  simpa using this
end
set_option maxRecDepth 100000 in
theorem aff (w : World) : Entry [] (fun _ _ => False) [] w :=
 ⟨rfl, fun l _ => rfl, fun l b h => by simp [at?] at h, fun l l' b h => by simp [at?] at h, fun l b h => by simp [at?] at h, fun _ _ h => h.elim, fun _ _ _ h => h.elim⟩
set_option maxRecDepth 100000 in
theorem aN : ∀ b o, ¬ aO (fun _ _ => False) [] [] b o := fun b o h => by
 rcases h with h | ⟨l, h, _⟩
 ·exact h
 ·simp [at?] at h
set_option maxRecDepth 100000 in
theorem DV {f : Nat} {args : List AV} {vs : List Value} {w : World} (h : au Tryz.prog f args [] (.bool true) []) (hl : vs.length = args.length)
  (hr : ∀ j, j < args.length → Rel w [] (aO (fun _ _ => False) [] []) (args.getD j .unk) (vs.getD j undef)) :
  Calls Tryz.prog f vs.toArray w fun e w' => e = .returned (.bool true) ∧ Go.RowKit.Below w.heap.size w w' := by
 refine (h [] (fun _ _ => False) w vs (aff w) hl hr).mono fun e w' ⟨v, κ', he, hL, hv⟩ => ?_
 cases hv
 exact ⟨he, hL.os, hL.tape, hL.output, hL.oP.size, fun k hk => hL.kept k hk fun l h => by simp [at?] at h⟩
end Abs
end Go.Proofs.YtkopaeklihhdlaaGreat
namespace Go.Proofs.YtkopaeklihhdlaaGreat
namespace Abs
open Go Go.Proofs Go.Deep Go.WideShapes
instance : Inhabited Val := ⟨.mk 0 0 [] []⟩
theorem KW : Tryz.prog.cellsOf 31 = 4 := by kernel_rfl
theorem aaP : Tryz.prog.cellsOf 27 = 1 := by kernel_rfl
theorem abV : Tryz.prog.cellsOf 26 = 1 := by kernel_rfl
theorem aii : Tryz.prog.cellsOf 29 = 4 := by kernel_rfl
theorem tC (t : Val) : (aj t).length = 4 := by rw [bg]; rfl
section
variable {H : Type} {enc : TypeId × Value → H} {w : World} {base : Nat} {spare : Nat → Bool} {held : Bool} {κ : bA} {pv : bK}
set_option maxRecDepth 100000 in
theorem Gz (hpv : ∀ b o, ¬ pv b o) (fuel : Nat) : Reads enc Tryz.prog w base spare held κ pv 31 aj fuel := by
 induction fuel using Nat.strongRecOn with
 | _ fuel ih =>
  intro cs x h
  obtain ⟨xs, n, rfl, _, hl, hlen, hf⟩ := DataW.trod_struct Tryz.underlying31 h
  rw [KW] at hl
  match cs, hl with
  | [c0, c1, c2, c3], _ =>
   obtain ⟨y0, e0⟩ := lK (i := 0) hlen (by decide)
   obtain ⟨y1, e1⟩ := lK (i := 1) hlen (by decide)
   obtain ⟨y2, e2⟩ := lK (i := 2) hlen (by decide)
   obtain ⟨y3, e3⟩ := lK (i := 3) hlen (by decide)
   have h0 := hf 0 _ rfl
   have h1 := hf 1 _ rfl
   have h2 := hf 2 _ rfl
   have h3 := hf 3 _ rfl
   simp only [e0, Pj, List.drop_zero, List.take_succ_cons, List.take_zero] at h0
   simp only [e1, Pj, List.drop_succ_cons, List.drop_zero, List.take_succ_cons, List.take_zero] at h1
   simp only [e2, XQ, List.drop_succ_cons, List.drop_zero, List.take_succ_cons, List.take_zero] at h2
   simp only [e3, aaP, List.drop_succ_cons, List.drop_zero, List.take_succ_cons, List.take_zero] at h3
   obtain ⟨k, hk⟩ := qA (κ := κ) (pv := pv) Tryz.underlying3 n _ _ h0
   obtain ⟨m, hm⟩ := qA (κ := κ) (pv := pv) Tryz.underlying3 n _ _ h1
   obtain ⟨nm, hn⟩ := vM (κ := κ) (pv := pv) Tryz.underlying9 n _ _ h2
   obtain ⟨ks, hks⟩ := oM (f := aj) Tryz.underlying27 KW (by decide) tC hpv (fun m hm => ih m (by omega)) _ _ h3
   refine ⟨.mk k m nm ks, ?_⟩
   have := hk.app (hm.app (hn.app hks))
   rw [bg]
   exact this
set_option maxRecDepth 100000 in
theorem V4 (hpv : ∀ b o, ¬ pv b o) (fuel : Nat) : Reads enc Tryz.prog w base spare held κ pv 27 (fun l : List Val => [.slice (l.map aj) .shared]) fuel :=
 oM (f := aj) Tryz.underlying27 KW (by decide) tC hpv (fun m _ => Gz hpv m)
set_option maxRecDepth 100000 in
theorem Cq (hpv : ∀ b o, ¬ pv b o) (fuel : Nat) : Reads enc Tryz.prog w base spare held κ pv 26 (fun l : List Int => [.slice (l.map encI) .shared]) fuel :=
 oM (f := encI) Tryz.underlying26 Pj (by decide) (fun _ => rfl) hpv (fun m _ => qA Tryz.underlying3 m)
set_option maxRecDepth 100000 in
theorem JH (hpv : ∀ b o, ¬ pv b o) (fuel : Nat) : Reads enc Tryz.prog w base spare held κ pv 29 gT fuel := by
 intro cs x h
 obtain ⟨xs, n, rfl, _, hl, hlen, hf⟩ := DataW.trod_struct Tryz.underlying29 h
 rw [aii] at hl
 match cs, hl with
 | [c0, c1, c2, c3], _ =>
  obtain ⟨y0, e0⟩ := lK (i := 0) hlen (by decide)
  obtain ⟨y1, e1⟩ := lK (i := 1) hlen (by decide)
  obtain ⟨y2, e2⟩ := lK (i := 2) hlen (by decide)
  have h0 := hf 0 _ rfl
  have h1 := hf 1 _ rfl
  have h2 := hf 2 _ rfl
  simp only [e0, aeF, List.drop_zero, List.take_succ_cons, List.take_zero] at h0
  simp only [e1, abV, List.drop_succ_cons, List.drop_zero, List.take_succ_cons, List.take_zero] at h1
  simp only [e2, aaP, List.drop_succ_cons, List.drop_zero, List.take_succ_cons, List.take_zero] at h2
  obtain ⟨env, henv⟩ := aau (κ := κ) hpv n _ _ h0
  obtain ⟨sz, hsz⟩ := Cq (κ := κ) hpv n _ _ h1
  obtain ⟨vs, hvs⟩ := V4 (κ := κ) hpv n _ _ h2
  exact ⟨⟨env, sz, vs⟩, henv.app (hsz.app hvs)⟩
end
theorem Tp : ∀ {ts : List Val}, (∀ t ∈ ts, dX t) → Ii ts
 | [], _ => trivial
 | t :: ts, h => by
  simp only [Ii]
  exact ⟨h t (List.mem_cons_self ..), Tp fun u hu => h u (List.mem_cons_of_mem _ hu)⟩
theorem MZ {w : World} {κ : bA} {pv : bK} {ts : List Val} {u : Value} (ih : ∀ t ∈ ts, ∀ f : Nat → Value, (∀ j, j < 4 → Rel w κ pv ((aj t).getD j .unk) (f j)) → dX t) (h : Rel w κ pv (.slice (ts.map aj) .shared) u) : ts.length ≤ 9223372036854775807 ∧ ∀ t ∈ ts, dX t := by
 cases h with
 | slice b off sz f h1 h2 h3 h3' h4 h5 h6 _ =>
  refine ⟨by simpa using h3', fun t ht => ?_⟩
  obtain ⟨i, hi, rfl⟩ := List.mem_iff_getElem.1 ht
  have hi' : i < (ts.map aj).length := by simpa using hi
  have eg : (ts.map aj).getD i [] = aj ts[i] := by simp [List.getD, List.getElem?_map, List.getElem?_eq_getElem hi]
  have hsz := h1 i hi'
  rw [eg, tC] at hsz
  refine ih _ (List.getElem_mem hi) (f i) fun j hj => ?_
  have := h6 i j hi' (by omega)
  rw [eg] at this
  exact this
theorem H9 {w : World} {κ : bA} {pv : bK} : ∀ t : Val, ∀ f : Nat → Value, (∀ j, j < 4 → Rel w κ pv ((aj t).getD j .unk) (f j)) → dX t := Val.ind fun k n s ks ih f h => by
 have h3 := h 3 (by decide)
 rw [bg] at h3
 have := MZ ih h3
 simp only [dX]
 exact ⟨this.1, Tp this.2⟩
theorem vK {t : Val} {w : World} {κ : bA} {pv : bK} {v : Value} (h : Rel w κ pv (.agg (aj t)) v) : dX t := by
 cases h with
 | @agg _ vs hl hj => exact H9 t (fun j => vs.getD j undef) fun j h => hj j (by rw [tC]; exact h)
theorem Jk {ts : List Val} {w : World} {κ : bA} {pv : bK} {v : Value} (h : Rel w κ pv (.slice (ts.map aj) .shared) v) : ts.length ≤ 9223372036854775807 ∧ ∀ t ∈ ts, dX t := MZ (fun t _ f hf => H9 t f hf) h
theorem Wo {env : Env} {w : World} {κ : bA} {pv : bK} {u : Value} (h1 : Rel w κ pv (.slice (env.names.map ak) .shared) u) : ∀ d ∈ env.names, d.name.length ≤ 9223372036854775807 := by
 intro d hd
 obtain ⟨i, hi, rfl⟩ := List.mem_iff_getElem.1 hd
 cases h1 with
 | slice b off sz f h1 h2 h3 h3' h4 h5 h6 _ =>
  have hi' : i < (env.names.map ak).length := by simpa using hi
  have eg : (env.names.map ak).getD i [] = ak env.names[i] := by simp [List.getD, List.getElem?_map, List.getElem?_eq_getElem hi]
  have hsz := h1 i hi'
  rw [eg] at hsz
  have hz : sz = 4 := hsz.symm
  have := h6 i 0 hi' (by omega)
  rw [eg] at this
  have e2 : (ak env.names[i]).getD 0 .unk = .str env.names[i].name := rfl
  rw [e2] at this
  generalize f i 0 = g at this
  cases this
  assumption
theorem Jw {x : S_api_World} {w : World} {κ : bA} {pv : bK} {v : Value} (h : Rel w κ pv (.agg (gT x)) v) : (∀ d ∈ x.env.names, d.name.length ≤ 9223372036854775807) ∧ ∀ v ∈ x.values, dX v := by
 cases h with
 | @agg _ vs hl hj => exact ⟨Wo (hj 1 (by simp [gT])), (Jk (hj 3 (by simp [gT]))).2⟩
end Abs
end Go.Proofs.YtkopaeklihhdlaaGreat

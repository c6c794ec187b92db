/-
  From what the claim's form reads of an argument to the abstract values: a datum of the program's types that can be read stands for a plain tree. Conditions: none; lemmas over any program, then at the program's types.
-/
import Derived.Test.YtkopaeklihhdlaaGreatRows
import Derived.Deep.Slices
import Derived.Deep.Strs
import Derived.ProofKit
import Derived.Below
import Derived.Carry
import Derived.Test.YtkopaeklihhdlaaGreatCP1ox325bcc
set_option linter.unusedSimpArgs false
set_option linter.unusedVariables false
namespace Go.Proofs.YtkopaeklihhdlaaGreat
namespace Abs
open Go Go.Proofs Go.Deep
def gZ (w : World) (κ : aX) (pv : bF) (xs : List AV) (cs : List Value) : Prop := cs.length = xs.length ∧ ∀ j, j < xs.length → Rel w κ pv (xs.getD j .unk) (cs.getD j undef)
theorem gZ.one {w : World} {κ : aX} {pv : bF} {x : AV} {v : Value} (h : Rel w κ pv x v) : gZ w κ pv [x] [v] := ⟨rfl, fun j hj => by
 have : j = 0 := by simp at hj; omega
 subst this; exact h⟩
theorem gZ.app {w : World} {κ : aX} {pv : bF} {xs ys : List AV} {cs ds : List Value} (h : gZ w κ pv xs cs) (k : gZ w κ pv ys ds) : gZ w κ pv (xs ++ ys) (cs ++ ds) := by
 refine ⟨by simp [h.1, k.1], fun j hj => ?_⟩
 by_cases hx : j < xs.length
 ·have e1 : (xs ++ ys).getD j .unk = xs.getD j .unk := by simp [List.getD, List.getElem?_append_left hx]
  have e2 : (cs ++ ds).getD j undef = cs.getD j undef := by simp [List.getD, List.getElem?_append_left (show j < cs.length by rw [h.1]; exact hx)]
  rw [e1, e2]; exact h.2 j hx
 ·have e1 : (xs ++ ys).getD j .unk = ys.getD (j - xs.length) .unk := by simp [List.getD, List.getElem?_append_right (Nat.le_of_not_lt hx)]
  have e2 : (cs ++ ds).getD j undef = ds.getD (j - xs.length) undef := by simp [List.getD, List.getElem?_append_right (show cs.length ≤ j by rw [h.1]; omega), h.1]
  rw [e1, e2]; exact k.2 _ (by simp at hj; omega)
theorem gZ.split {w : World} {κ : aX} {pv : bF} {xs ys : List AV} {cs : List Value} (hl : cs.length = xs.length + ys.length) (h : gZ w κ pv xs (cs.take xs.length)) (k : gZ w κ pv ys ((cs.drop xs.length).take ys.length)) : gZ w κ pv (xs ++ ys) cs := by
 have := h.app k
 have e : cs.take xs.length ++ (cs.drop xs.length).take ys.length = cs := by
  rw [List.take_of_length_le (l := cs.drop xs.length) (by simp; omega), List.take_append_drop]
 rwa [e] at this
section
variable {H : Type} {enc : TypeId × Value → H} {P : Program} {w : World} {base : Nat} {spare : Nat → Bool} {held : Bool} {κ : aX} {pv : bF}
def Reads (enc : TypeId × Value → H) (P : Program) (w : World) (base : Nat) (spare : Nat → Bool) (held : Bool) (κ : aX) (pv : bF) {α : Type} (t : TypeId) (f : α → List AV) (fuel : Nat) : Prop :=
 ∀ cs x, DataW.trod enc P w base spare held fuel t cs = some x → ∃ a : α, gZ w κ pv (f a) cs
theorem rO {t : TypeId} (ht : P.underlying t = some (.int .i64)) (fuel : Nat) : Reads enc P w base spare held κ pv t encI fuel := fun cs x h => by
 obtain ⟨n, rfl, _, hw⟩ := DataW.trod_int ht h
 refine ⟨n, gZ.one (.int ?_)⟩
 simpa [Lit.wf, nA] using hw
theorem vB {t : TypeId} (ht : P.underlying t = some .string) (fuel : Nat) : Reads enc P w base spare held κ pv t encS fuel := fun cs x h => by
 obtain ⟨s, rfl, _, hw⟩ := DataW.trod_string ht h
 refine ⟨s.data.toList, gZ.one ?_⟩
 have := Rel.str (w := w) (κ := κ) (pv := pv) (s := s.data.toList) (by
  have : s.data.size ≤ maxLen := hw
  simpa [maxLen] using this)
 simpa using this
theorem mY {α : Type} [Inhabited α] {t e : TypeId} {f : α → List AV} {sz : Nat} (ht : P.underlying t = some (.slice e)) (hc : P.cellsOf e = sz) (hsz : 0 < sz) (hf : ∀ a, (f a).length = sz) (hpv : ∀ b o, ¬ pv b o) {fuel : Nat}
  (he : ∀ n, n < fuel → Reads enc P w base spare held κ pv e f n) : Reads enc P w base spare held κ pv t (fun l : List α => [.slice (l.map f) .shared]) fuel := fun cs x h => by
 rcases DataW.trod_slice ht h with ⟨rfl, _⟩ | ⟨a, len, cap, elems, rest, m, rfl, rfl, _, _, hcap, hmax, hel, hget0, _, _⟩
 ·refine ⟨[], gZ.one ?_⟩
  exact .slice (es := []) (tag := .shared) (a := none) (cap := 0) 0 0 sz (fun _ _ => undef) (fun i h => by cases h) (fun h => (h rfl).elim) (Nat.zero_le _) (by simp) (fun i j h => by cases h) (fun i j h => by cases h) (fun i j h => by cases h) trivial
 ·have hget : ∀ i, i < len → ∃ v : List Value × α, w.cells? base (a.add (i * sz)) sz = some v.1 ∧ gZ w κ pv (f v.2) v.1 := fun i hi => by
   have h1 := hget0 i hi
   rw [List.getElem?_eq_getElem (by omega), hc] at h1
   obtain ⟨cs', h2, h3⟩ := Option.bind_eq_some_iff.1 h1
   obtain ⟨y, hy⟩ := he m (Nat.lt_succ_self m) cs' _ h3
   exact ⟨(cs', y), h2, hy⟩
  obtain ⟨V, hV⟩ := choose_lt hget
  refine ⟨(List.range len).map fun i => (V i).2, gZ.one ?_⟩
  have hlen : (((List.range len).map fun i => (V i).2).map f).length = len := by simp
  have hgetD : ∀ i, i < len → (((List.range len).map fun i => (V i).2).map f).getD i [] = f (V i).2 := fun i hi => by
   simp [List.getD, List.getElem?_map, List.getElem?_range hi]
  have hcell : ∀ i j, i < len → j < sz → w.cell? ((a.add (i * sz)).add j) = some ((V i).1.getD j undef) := fun i j hi hj => by
   obtain ⟨_, h2, h3⟩ := World.cells?_some (hV i hi).1
   rw [h3 j hj, List.getD, List.getElem?_eq_getElem (by omega)]
   rfl
  have hspot : 0 < len → a.spot = none := fun h0 => by
   have := World.cell?_spot (hcell 0 0 h0 hsz)
   simpa [Addr.add] using this
  have hadd : ∀ i j : Nat, a.spot = none → (a.add i).add j = ⟨a.block, a.off + (i + j), none⟩ := fun i j hs => by
   obtain ⟨b, o, s⟩ := a
   simp only at hs
   subst hs
   unfold Addr.add
   by_cases hi : i = 0
   ·subst hi
    by_cases hj : j = 0
    ·subst hj; simp
    ·simp [hj]
   ·by_cases hj : j = 0
    ·subst hj; simp [hi]
    ·simp [hi, hj]; omega
  have key := Rel.slice (w := w) (κ := κ) (pv := pv) (es := ((List.range len).map fun i => (V i).2).map f) (tag := .shared) (a := some a) (cap := cap) a.block a.off sz (fun i j => (V i).1.getD j undef)
   (fun i hi => by rw [hlen] at hi; rw [hgetD i hi, hf]) (fun hne => by
    have h0 : 0 < len := by
     apply Nat.pos_of_ne_zero
     intro h0
     apply hne
     rw [h0]; rfl
    rw [← hspot h0]) (by rw [hlen]; exact hcap) (by rw [hlen]; simp only [maxLen] at hmax; omega)
   (fun i j _ _ => hpv _ _) (fun i j hi hj => by
    rw [hlen] at hi
    have h1 := hcell i j hi hj
    rw [hadd _ _ (hspot (by omega))] at h1
    exact h1)
   (fun i j hi hj => by
    rw [hlen] at hi
    rw [hgetD i hi]
    exact (hV i hi).2.2 j (by rw [hf]; exact hj)) trivial
  rw [hlen] at key
  exact key
end
instance : Inhabited Ty := ⟨.mk 0 [] []⟩
instance : Inhabited Carrier := ⟨⟨[], []⟩⟩
instance : Inhabited Decl := ⟨⟨[], .mk 0 [] []⟩⟩
theorem laidOut : laidOutB Tryz.prog = true := by kernel_rfl
theorem TR : Tryz.prog.cellsOf 9 = 1 := by kernel_rfl
theorem Sy : Tryz.prog.cellsOf 34 = 3 := by kernel_rfl
theorem YZ : Tryz.prog.cellsOf 71 = 2 := by kernel_rfl
theorem Yn : Tryz.prog.cellsOf 74 = 4 := by kernel_rfl
theorem YV : Tryz.prog.cellsOf 25 = 2 := by kernel_rfl
theorem Qv : Tryz.prog.cellsOf 3 = 1 := by kernel_rfl
theorem acs : Tryz.prog.cellsOf 32 = 1 := by kernel_rfl
theorem ab8 : Tryz.prog.cellsOf 69 = 1 := by kernel_rfl
theorem ab2 : Tryz.prog.cellsOf 22 = 1 := by kernel_rfl
theorem abG : Tryz.prog.cellsOf 23 = 1 := by kernel_rfl
end Abs
end Go.Proofs.YtkopaeklihhdlaaGreat
namespace Go.Proofs.YtkopaeklihhdlaaGreat
namespace Abs
open Go Go.Proofs Go.Deep Go.WideShapes
section
variable {H : Type} {enc : TypeId × Value → H} {w : World} {base : Nat} {spare : Nat → Bool} {held : Bool} {κ : aX} {pv : bF}
theorem mq {α : Type} {xs : List α} {i n : Nat} (h : xs.length = n) (hi : i < n) : ∃ y, xs[i]? = some y := ⟨xs[i]'(by omega), List.getElem?_eq_getElem (by omega)⟩
theorem TL (t : Ty) : (aC t).length = 3 := by rw [gX]; rfl
set_option maxRecDepth 100000 in
theorem Nf (hpv : ∀ b o, ¬ pv b o) (fuel : Nat) : Reads enc Tryz.prog w base spare held κ pv 34 aC fuel := by
 induction fuel using Nat.strongRecOn with
 | _ fuel ih =>
  intro cs x h
  obtain ⟨xs, n, rfl, _, hl, hlen, hf⟩ := DataW.trod_struct Tryz.underlying34 h
  rw [Sy] at hl
  match cs, hl with
  | [c0, c1, c2], _ =>
   obtain ⟨y0, e0⟩ := mq (i := 0) hlen (by decide)
   obtain ⟨y1, e1⟩ := mq (i := 1) hlen (by decide)
   obtain ⟨y2, e2⟩ := mq (i := 2) hlen (by decide)
   have h0 := hf 0 _ rfl
   have h1 := hf 1 _ rfl
   have h2 := hf 2 _ rfl
   simp only [e0, Qv, List.drop_zero, List.take_succ_cons, List.take_zero] at h0
   simp only [e1, TR, List.drop_succ_cons, List.drop_zero, List.take_succ_cons, List.take_zero] at h1
   simp only [e2, acs, List.drop_succ_cons, List.drop_zero, List.take_succ_cons, List.take_zero] at h2
   obtain ⟨k, hk⟩ := rO (κ := κ) (pv := pv) Tryz.underlying3 n _ _ h0
   obtain ⟨nm, hn⟩ := vB (κ := κ) (pv := pv) Tryz.underlying9 n _ _ h1
   obtain ⟨ks, hks⟩ := mY (f := aC) Tryz.underlying32 Sy (by decide) TL hpv (fun m hm => ih m (by omega)) _ _ h2
   refine ⟨.mk k nm ks, ?_⟩
   have := hk.app (hn.app hks)
   rw [gX]
   exact this
set_option maxRecDepth 100000 in
theorem Rk (hpv : ∀ b o, ¬ pv b o) (fuel : Nat) : Reads enc Tryz.prog w base spare held κ pv 69 (fun l : List Str => [.slice (l.map encS) .shared]) fuel :=
 mY (f := encS) Tryz.underlying69 TR (by decide) (fun _ => rfl) hpv (fun m _ => vB Tryz.underlying9 m)
set_option maxRecDepth 100000 in
theorem Lu (hpv : ∀ b o, ¬ pv b o) (fuel : Nat) : Reads enc Tryz.prog w base spare held κ pv 71 ah fuel := by
 intro cs x h
 obtain ⟨xs, n, rfl, _, hl, hlen, hf⟩ := DataW.trod_struct Tryz.underlying71 h
 rw [YZ] at hl
 match cs, hl with
 | [c0, c1], _ =>
  obtain ⟨y0, e0⟩ := mq (i := 0) hlen (by decide)
  obtain ⟨y1, e1⟩ := mq (i := 1) hlen (by decide)
  have h0 := hf 0 _ rfl
  have h1 := hf 1 _ rfl
  simp only [e0, TR, List.drop_zero, List.take_succ_cons, List.take_zero] at h0
  simp only [e1, ab8, List.drop_succ_cons, List.drop_zero, List.take_succ_cons, List.take_zero] at h1
  obtain ⟨nm, hn⟩ := vB (κ := κ) (pv := pv) Tryz.underlying9 n _ _ h0
  obtain ⟨es, hes⟩ := Rk hpv n _ _ h1
  exact ⟨⟨nm, es⟩, hn.app hes⟩
set_option maxRecDepth 100000 in
theorem Rb (hpv : ∀ b o, ¬ pv b o) (fuel : Nat) : Reads enc Tryz.prog w base spare held κ pv 74 aA fuel := by
 intro cs x h
 obtain ⟨xs, n, rfl, _, hl, hlen, hf⟩ := DataW.trod_struct Tryz.underlying74 h
 rw [Yn] at hl
 match cs, hl with
 | [c0, c1, c2, c3], _ =>
  obtain ⟨y0, e0⟩ := mq (i := 0) hlen (by decide)
  obtain ⟨y1, e1⟩ := mq (i := 1) hlen (by decide)
  have h0 := hf 0 _ rfl
  have h1 := hf 1 _ rfl
  simp only [e0, TR, List.drop_zero, List.take_succ_cons, List.take_zero] at h0
  simp only [e1, Sy, List.drop_succ_cons, List.drop_zero, List.take_succ_cons, List.take_zero] at h1
  obtain ⟨nm, hn⟩ := vB (κ := κ) (pv := pv) Tryz.underlying9 n _ _ h0
  obtain ⟨t, ht⟩ := Nf hpv n _ _ h1
  refine ⟨⟨nm, t⟩, ?_⟩
  have := hn.app ht
  rw [gX] at this
  exact this
def GY (e : Env) : List AV := [.slice (e.carriers.map ah) .shared, .slice (e.names.map aA) .shared]
set_option maxRecDepth 100000 in
theorem TD (hpv : ∀ b o, ¬ pv b o) (fuel : Nat) : Reads enc Tryz.prog w base spare held κ pv 25 GY fuel := by
 intro cs x h
 obtain ⟨xs, n, rfl, _, hl, hlen, hf⟩ := DataW.trod_struct Tryz.underlying25 h
 rw [YV] at hl
 match cs, hl with
 | [c0, c1], _ =>
  obtain ⟨y0, e0⟩ := mq (i := 0) hlen (by decide)
  obtain ⟨y1, e1⟩ := mq (i := 1) hlen (by decide)
  have h0 := hf 0 _ rfl
  have h1 := hf 1 _ rfl
  simp only [e0, ab2, List.drop_zero, List.take_succ_cons, List.take_zero] at h0
  simp only [e1, abG, List.drop_succ_cons, List.drop_zero, List.take_succ_cons, List.take_zero] at h1
  obtain ⟨cs, hcs⟩ := mY (f := ah) Tryz.underlying22 YZ (by decide) (fun _ => rfl) hpv (fun m _ => Lu hpv m) _ _ h0
  obtain ⟨ds, hds⟩ := mY (f := aA) Tryz.underlying23 Yn (by decide) (fun _ => rfl) hpv (fun m _ => Rb hpv m) _ _ h1
  exact ⟨⟨cs, ds⟩, hcs.app hds⟩
set_option maxRecDepth 100000 in
theorem BZ {α : Type} {r : Reach} {b0 : Nat} {t : TypeId} {fs : Array Field} {f : α → List AV} {v : Value} {d : DataW H} {p : List MemPlace} (hs : Tryz.prog.underlying t = some (.struct fs)) (hv : Value.okWide Tryz.prog w r b0 t v)
  (h : DataW.Trod enc Tryz.prog w base spare held t v d p) (hr : ∀ fuel, Reads enc Tryz.prog w base spare held κ pv t f fuel) : ∃ a : α, Rel w κ pv (.agg (f a)) v := by
 obtain ⟨cs, rfl, hsz⟩ := okWide_struct hs hv
 obtain ⟨fuel, hf⟩ := h
 obtain ⟨a, h1, h2⟩ := hr fuel _ _ hf
 simp only [Value.cells] at h1 h2
 refine ⟨a, ?_⟩
 have := Rel.agg (w := w) (κ := κ) (pv := pv) h1 h2
 simpa using this
end
set_option maxRecDepth 100000 in
theorem YG (w : World) : Entry [] (fun _ _ => False) [] w :=
 ⟨rfl, fun l _ => rfl, fun l b h => by simp [at?] at h, fun l l' b h => by simp [at?] at h, fun l b h => by simp [at?] at h, fun _ _ h => h.elim, fun _ _ _ h => h.elim⟩
set_option maxRecDepth 100000 in
theorem aK : ∀ b o, ¬ aL (fun _ _ => False) [] [] b o := fun b o h => by
 rcases h with h | ⟨l, h, _⟩
 ·exact h
 ·simp [at?] at h
set_option maxRecDepth 100000 in
theorem Vo {f : Nat} {args : List AV} {vs : List Value} {w : World} (h : aj Tryz.prog f args [] (.bool true) []) (hl : vs.length = args.length)
  (hr : ∀ j, j < args.length → Rel w [] (aL (fun _ _ => False) [] []) (args.getD j .unk) (vs.getD j undef)) :
  Calls Tryz.prog f vs.toArray w fun e w' => e = .returned (.bool true) ∧ Go.RowKit.Below w.heap.size w w' := by
 refine (h [] (fun _ _ => False) w vs (YG w) hl hr).mono fun e w' ⟨v, κ', he, hL, hv⟩ => ?_
 cases hv
 exact ⟨he, hL.os, hL.tape, hL.output, hL.ny.size, fun k hk => hL.kept k hk fun l h => by simp [at?] at h⟩
end Abs
end Go.Proofs.YtkopaeklihhdlaaGreat
namespace Go.Proofs.YtkopaeklihhdlaaGreat
namespace Abs
open Go Go.Proofs Go.Deep Go.WideShapes
instance : Inhabited Val := ⟨.mk 0 0 [] []⟩
theorem RI : Tryz.prog.cellsOf 31 = 4 := by kernel_rfl
theorem Zg : Tryz.prog.cellsOf 27 = 1 := by kernel_rfl
theorem V8 : Tryz.prog.cellsOf 26 = 1 := by kernel_rfl
theorem acn : Tryz.prog.cellsOf 29 = 4 := by kernel_rfl
theorem abo : Tryz.prog.cellsOf 36 = 8 := by kernel_rfl
theorem abP : Tryz.prog.cellsOf 38 = 3 := by kernel_rfl
theorem wB (t : Val) : (ak t).length = 4 := by rw [dB]; rfl
section
variable {H : Type} {enc : TypeId × Value → H} {w : World} {base : Nat} {spare : Nat → Bool} {held : Bool} {κ : aX} {pv : bF}
set_option maxRecDepth 100000 in
theorem JU (hpv : ∀ b o, ¬ pv b o) (fuel : Nat) : Reads enc Tryz.prog w base spare held κ pv 31 ak fuel := by
 induction fuel using Nat.strongRecOn with
 | _ fuel ih =>
  intro cs x h
  obtain ⟨xs, n, rfl, _, hl, hlen, hf⟩ := DataW.trod_struct Tryz.underlying31 h
  rw [RI] at hl
  match cs, hl with
  | [c0, c1, c2, c3], _ =>
   obtain ⟨y0, e0⟩ := mq (i := 0) hlen (by decide)
   obtain ⟨y1, e1⟩ := mq (i := 1) hlen (by decide)
   obtain ⟨y2, e2⟩ := mq (i := 2) hlen (by decide)
   obtain ⟨y3, e3⟩ := mq (i := 3) hlen (by decide)
   have h0 := hf 0 _ rfl
   have h1 := hf 1 _ rfl
   have h2 := hf 2 _ rfl
   have h3 := hf 3 _ rfl
   simp only [e0, Qv, List.drop_zero, List.take_succ_cons, List.take_zero] at h0
   simp only [e1, Qv, List.drop_succ_cons, List.drop_zero, List.take_succ_cons, List.take_zero] at h1
   simp only [e2, TR, List.drop_succ_cons, List.drop_zero, List.take_succ_cons, List.take_zero] at h2
   simp only [e3, Zg, List.drop_succ_cons, List.drop_zero, List.take_succ_cons, List.take_zero] at h3
   obtain ⟨k, hk⟩ := rO (κ := κ) (pv := pv) Tryz.underlying3 n _ _ h0
   obtain ⟨m, hm⟩ := rO (κ := κ) (pv := pv) Tryz.underlying3 n _ _ h1
   obtain ⟨nm, hn⟩ := vB (κ := κ) (pv := pv) Tryz.underlying9 n _ _ h2
   obtain ⟨ks, hks⟩ := mY (f := ak) Tryz.underlying27 RI (by decide) wB hpv (fun m hm => ih m (by omega)) _ _ h3
   refine ⟨.mk k m nm ks, ?_⟩
   have := hk.app (hm.app (hn.app hks))
   rw [dB]
   exact this
set_option maxRecDepth 100000 in
theorem Oz (hpv : ∀ b o, ¬ pv b o) (fuel : Nat) : Reads enc Tryz.prog w base spare held κ pv 27 (fun l : List Val => [.slice (l.map ak) .shared]) fuel :=
 mY (f := ak) Tryz.underlying27 RI (by decide) wB hpv (fun m _ => JU hpv m)
set_option maxRecDepth 100000 in
theorem zw (hpv : ∀ b o, ¬ pv b o) (fuel : Nat) : Reads enc Tryz.prog w base spare held κ pv 26 (fun l : List Int => [.slice (l.map encI) .shared]) fuel :=
 mY (f := encI) Tryz.underlying26 Qv (by decide) (fun _ => rfl) hpv (fun m _ => rO Tryz.underlying3 m)
set_option maxRecDepth 100000 in
theorem Pq (hpv : ∀ b o, ¬ pv b o) (fuel : Nat) : Reads enc Tryz.prog w base spare held κ pv 29 gT fuel := by
 intro cs x h
 obtain ⟨xs, n, rfl, _, hl, hlen, hf⟩ := DataW.trod_struct Tryz.underlying29 h
 rw [acn] at hl
 match cs, hl with
 | [c0, c1, c2, c3], _ =>
  obtain ⟨y0, e0⟩ := mq (i := 0) hlen (by decide)
  obtain ⟨y1, e1⟩ := mq (i := 1) hlen (by decide)
  obtain ⟨y2, e2⟩ := mq (i := 2) hlen (by decide)
  have h0 := hf 0 _ rfl
  have h1 := hf 1 _ rfl
  have h2 := hf 2 _ rfl
  simp only [e0, YV, List.drop_zero, List.take_succ_cons, List.take_zero] at h0
  simp only [e1, V8, List.drop_succ_cons, List.drop_zero, List.take_succ_cons, List.take_zero] at h1
  simp only [e2, Zg, List.drop_succ_cons, List.drop_zero, List.take_succ_cons, List.take_zero] at h2
  obtain ⟨env, henv⟩ := TD (κ := κ) hpv n _ _ h0
  obtain ⟨sz, hsz⟩ := zw (κ := κ) hpv n _ _ h1
  obtain ⟨vs, hvs⟩ := Oz (κ := κ) hpv n _ _ h2
  exact ⟨⟨env, sz, vs⟩, henv.app (hsz.app hvs)⟩
set_option maxRecDepth 100000 in
theorem PY (hpv : ∀ b o, ¬ pv b o) (fuel : Nat) : Reads enc Tryz.prog w base spare held κ pv 36 dh fuel := by
 intro cs x h
 obtain ⟨xs, n, rfl, _, hl, hlen, hf⟩ := DataW.trod_struct Tryz.underlying36 h
 rw [abo] at hl
 match cs, hl with
 | [c0, c1, c2, c3, c4, c5, c6, c7], _ =>
  obtain ⟨y0, e0⟩ := mq (i := 0) hlen (by decide)
  obtain ⟨y1, e1⟩ := mq (i := 1) hlen (by decide)
  obtain ⟨y2, e2⟩ := mq (i := 2) hlen (by decide)
  have h0 := hf 0 _ rfl
  have h1 := hf 1 _ rfl
  have h2 := hf 2 _ rfl
  simp only [e0, V8, List.drop_zero, List.take_succ_cons, List.take_zero] at h0
  simp only [e1, RI, List.drop_succ_cons, List.drop_zero, List.take_succ_cons, List.take_zero] at h1
  simp only [e2, Sy, List.drop_succ_cons, List.drop_zero, List.take_succ_cons, List.take_zero] at h2
  obtain ⟨sz, hsz⟩ := zw (κ := κ) hpv n _ _ h0
  obtain ⟨v, hv⟩ := JU (κ := κ) hpv n _ _ h1
  obtain ⟨t, ht⟩ := Nf (κ := κ) hpv n _ _ h2
  refine ⟨⟨sz, v, t⟩, ?_⟩
  have := hsz.app (hv.app ht)
  rw [dB, gX] at this
  exact this
set_option maxRecDepth 100000 in
theorem Px (hpv : ∀ b o, ¬ pv b o) (fuel : Nat) : Reads enc Tryz.prog w base spare held κ pv 38 lX fuel := by
 intro cs x h
 obtain ⟨xs, n, rfl, _, hl, hlen, hf⟩ := DataW.trod_struct Tryz.underlying38 h
 rw [abP] at hl
 match cs, hl with
 | [c0, c1, c2], _ =>
  obtain ⟨y0, e0⟩ := mq (i := 0) hlen (by decide)
  obtain ⟨y1, e1⟩ := mq (i := 1) hlen (by decide)
  obtain ⟨y2, e2⟩ := mq (i := 2) hlen (by decide)
  have h0 := hf 0 _ rfl
  have h1 := hf 1 _ rfl
  have h2 := hf 2 _ rfl
  simp only [e0, V8, List.drop_zero, List.take_succ_cons, List.take_zero] at h0
  simp only [e1, Qv, List.drop_succ_cons, List.drop_zero, List.take_succ_cons, List.take_zero] at h1
  simp only [e2, Qv, List.drop_succ_cons, List.drop_zero, List.take_succ_cons, List.take_zero] at h2
  obtain ⟨sz, hsz⟩ := zw (κ := κ) hpv n _ _ h0
  obtain ⟨lo, hlo⟩ := rO (κ := κ) (pv := pv) Tryz.underlying3 n _ _ h1
  obtain ⟨hi, hhi⟩ := rO (κ := κ) (pv := pv) Tryz.underlying3 n _ _ h2
  exact ⟨⟨sz, lo, hi⟩, hsz.app (hlo.app hhi)⟩
end
theorem Nz : ∀ {ts : List Val}, (∀ t ∈ ts, jR t) → Ee ts
 | [], _ => trivial
 | t :: ts, h => by
  simp only [Ee]
  exact ⟨h t (List.mem_cons_self ..), Nz fun u hu => h u (List.mem_cons_of_mem _ hu)⟩
theorem G6 {w : World} {κ : aX} {pv : bF} {ts : List Val} {u : Value} (ih : ∀ t ∈ ts, ∀ f : Nat → Value, (∀ j, j < 4 → Rel w κ pv ((ak t).getD j .unk) (f j)) → jR t) (h : Rel w κ pv (.slice (ts.map ak) .shared) u) : ts.length ≤ 9223372036854775807 ∧ ∀ t ∈ ts, jR t := by
 cases h with
 | slice b off sz f h1 h2 h3 h3' h4 h5 h6 _ =>
  refine ⟨by simpa using h3', fun t ht => ?_⟩
  obtain ⟨i, hi, rfl⟩ := List.mem_iff_getElem.1 ht
  have hi' : i < (ts.map ak).length := by simpa using hi
  have eg : (ts.map ak).getD i [] = ak ts[i] := by simp [List.getD, List.getElem?_map, List.getElem?_eq_getElem hi]
  have hsz := h1 i hi'
  rw [eg, wB] at hsz
  refine ih _ (List.getElem_mem hi) (f i) fun j hj => ?_
  have := h6 i j hi' (by omega)
  rw [eg] at this
  exact this
theorem CB {w : World} {κ : aX} {pv : bF} : ∀ t : Val, ∀ f : Nat → Value, (∀ j, j < 4 → Rel w κ pv ((ak t).getD j .unk) (f j)) → jR t := Val.ind fun k n s ks ih f h => by
 have h3 := h 3 (by decide)
 rw [dB] at h3
 have := G6 ih h3
 simp only [jR]
 exact ⟨this.1, Nz this.2⟩
theorem O5 {ts : List Val} {w : World} {κ : aX} {pv : bF} {v : Value} (h : Rel w κ pv (.slice (ts.map ak) .shared) v) : ts.length ≤ 9223372036854775807 ∧ ∀ t ∈ ts, jR t := G6 (fun t _ f hf => CB t f hf) h
theorem Oy {env : Env} {w : World} {κ : aX} {pv : bF} {u : Value} (h1 : Rel w κ pv (.slice (env.names.map aA) .shared) u) : ∀ d ∈ env.names, d.name.length ≤ 9223372036854775807 := by
 intro d hd
 obtain ⟨i, hi, rfl⟩ := List.mem_iff_getElem.1 hd
 cases h1 with
 | slice b off sz f h1 h2 h3 h3' h4 h5 h6 _ =>
  have hi' : i < (env.names.map aA).length := by simpa using hi
  have eg : (env.names.map aA).getD i [] = aA env.names[i] := by simp [List.getD, List.getElem?_map, List.getElem?_eq_getElem hi]
  have hsz := h1 i hi'
  rw [eg] at hsz
  have hz : sz = 4 := hsz.symm
  have := h6 i 0 hi' (by omega)
  rw [eg] at this
  have e2 : (aA env.names[i]).getD 0 .unk = .str env.names[i].name := rfl
  rw [e2] at this
  generalize f i 0 = g at this
  cases this
  assumption
theorem P9 {x : S_api_World} {w : World} {κ : aX} {pv : bF} {v : Value} (h : Rel w κ pv (.agg (gT x)) v) : (∀ d ∈ x.env.names, d.name.length ≤ 9223372036854775807) ∧ ∀ v ∈ x.values, jR v := by
 cases h with
 | @agg _ vs hl hj => exact ⟨Oy (hj 1 (by simp [gT])), (O5 (hj 3 (by simp [gT]))).2⟩
theorem PE {x : S_refinementlaw03_Typed} {w : World} {κ : aX} {pv : bF} {v : Value} (h : Rel w κ pv (.agg (dh x)) v) : jR x.v := by
 cases h with
 | @agg _ vs hl hj =>
  refine CB (w := w) (κ := κ) (pv := pv) x.v (fun j => vs.getD (1 + j) undef) fun j h => ?_
  have := hj (1 + j) (by simp [dh]; omega)
  rw [dB]
  match j, h with
  | 0, _ | 1, _ | 2, _ | 3, _ => exact this
end Abs
end Go.Proofs.YtkopaeklihhdlaaGreat

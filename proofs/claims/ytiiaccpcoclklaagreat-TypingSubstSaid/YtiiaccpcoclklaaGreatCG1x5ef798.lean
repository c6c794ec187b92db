/-
  From what the claim's form reads of an argument to the abstract values: a datum of the program's types that can be read stands for a plain tree. Conditions: none; lemmas over any program, then at the program's types.
-/
import Derived.Test.YtiiaccpcoclklaaGreatRows
import Derived.Deep.Slices
import Derived.Deep.Strs
import Derived.ProofKit
import Derived.Below
import Derived.Carry
import Derived.Test.YtiiaccpcoclklaaGreatCAbs38x04b7ad
import Derived.Test.YtiiaccpcoclklaaGreatCDfxa6bced
set_option linter.unusedSimpArgs false
set_option linter.unusedVariables false
namespace Go.Proofs.YtiiaccpcoclklaaGreat
namespace Abs
open Go Go.Proofs Go.Deep
def lq (w : World) (κ : cB) (pv : fZ) (xs : List AV) (cs : List Value) : Prop := cs.length = xs.length ∧ ∀ j, j < xs.length → Rel w κ pv (xs.getD j .unk) (cs.getD j undef)
theorem lq.one {w : World} {κ : cB} {pv : fZ} {x : AV} {v : Value} (h : Rel w κ pv x v) : lq w κ pv [x] [v] := ⟨rfl, fun j hj => by
 have : j = 0 := by simp at hj; omega
 subst this; exact h⟩
theorem lq.app {w : World} {κ : cB} {pv : fZ} {xs ys : List AV} {cs ds : List Value} (h : lq w κ pv xs cs) (k : lq w κ pv ys ds) : lq w κ pv (xs ++ ys) (cs ++ ds) := by
 refine ⟨by simp [h.1, k.1], fun j hj => ?_⟩
 by_cases hx : j < xs.length
 ·have e1 : (xs ++ ys).getD j .unk = xs.getD j .unk := by simp [List.getD, List.getElem?_append_left hx]
  have e2 : (cs ++ ds).getD j undef = cs.getD j undef := by simp [List.getD, List.getElem?_append_left (show j < cs.length by rw [h.1]; exact hx)]
  rw [e1, e2]; exact h.2 j hx
 ·have e1 : (xs ++ ys).getD j .unk = ys.getD (j - xs.length) .unk := by simp [List.getD, List.getElem?_append_right (Nat.le_of_not_lt hx)]
  have e2 : (cs ++ ds).getD j undef = ds.getD (j - xs.length) undef := by simp [List.getD, List.getElem?_append_right (show cs.length ≤ j by rw [h.1]; omega), h.1]
  rw [e1, e2]; exact k.2 _ (by simp at hj; omega)
theorem lq.split {w : World} {κ : cB} {pv : fZ} {xs ys : List AV} {cs : List Value} (hl : cs.length = xs.length + ys.length) (h : lq w κ pv xs (cs.take xs.length)) (k : lq w κ pv ys ((cs.drop xs.length).take ys.length)) : lq w κ pv (xs ++ ys) cs := by
 have := h.app k
 have e : cs.take xs.length ++ (cs.drop xs.length).take ys.length = cs := by
  rw [List.take_of_length_le (l := cs.drop xs.length) (by simp; omega), List.take_append_drop]
 rwa [e] at this
section
variable {H : Type} {enc : TypeId × Value → H} {P : Program} {w : World} {base : Nat} {spare : Nat → Bool} {held : Bool} {κ : cB} {pv : fZ}
def Reads (enc : TypeId × Value → H) (P : Program) (w : World) (base : Nat) (spare : Nat → Bool) (held : Bool) (κ : cB) (pv : fZ) {α : Type} (t : TypeId) (f : α → List AV) (fuel : Nat) : Prop :=
 ∀ cs x, DataW.trod enc P w base spare held fuel t cs = some x → ∃ a : α, lq w κ pv (f a) cs
theorem Gl {t : TypeId} (ht : P.underlying t = some (.int .i64)) (fuel : Nat) : Reads enc P w base spare held κ pv t encI fuel := fun cs x h => by
 obtain ⟨n, rfl, _, hw⟩ := DataW.trod_int ht h
 refine ⟨n, lq.one (.int ?_)⟩
 simpa [Lit.wf, xS] using hw
theorem Ak {t : TypeId} (ht : P.underlying t = some .string) (fuel : Nat) : Reads enc P w base spare held κ pv t encS fuel := fun cs x h => by
 obtain ⟨s, rfl, _, hw⟩ := DataW.trod_string ht h
 refine ⟨s.data.toList, lq.one ?_⟩
 have := Rel.str (w := w) (κ := κ) (pv := pv) (s := s.data.toList) (by
  have : s.data.size ≤ maxLen := hw
  simpa [maxLen] using this)
 simpa using this
theorem wN {α : Type} [Inhabited α] {t e : TypeId} {f : α → List AV} {sz : Nat} (ht : P.underlying t = some (.slice e)) (hc : P.cellsOf e = sz) (hsz : 0 < sz) (hf : ∀ a, (f a).length = sz) (hpv : ∀ b o, ¬ pv b o) {fuel : Nat}
  (he : ∀ n, n < fuel → Reads enc P w base spare held κ pv e f n) : Reads enc P w base spare held κ pv t (fun l : List α => [.slice (l.map f) .shared]) fuel := fun cs x h => by
 rcases DataW.trod_slice ht h with ⟨rfl, _⟩ | ⟨a, len, cap, elems, rest, m, rfl, rfl, _, _, hcap, hmax, hel, hget0, _, _⟩
 ·refine ⟨[], lq.one ?_⟩
  exact .slice (es := []) (tag := .shared) (a := none) (cap := 0) 0 0 sz (fun _ _ => undef) (fun i h => by cases h) (fun h => (h rfl).elim) (Nat.zero_le _) (by simp) (fun i j h => by cases h) (fun i j h => by cases h) (fun i j h => by cases h) trivial
 ·have hget : ∀ i, i < len → ∃ v : List Value × α, w.cells? base (a.add (i * sz)) sz = some v.1 ∧ lq w κ pv (f v.2) v.1 := fun i hi => by
   have h1 := hget0 i hi
   rw [List.getElem?_eq_getElem (by omega), hc] at h1
   obtain ⟨cs', h2, h3⟩ := Option.bind_eq_some_iff.1 h1
   obtain ⟨y, hy⟩ := he m (Nat.lt_succ_self m) cs' _ h3
   exact ⟨(cs', y), h2, hy⟩
  obtain ⟨V, hV⟩ := choose_lt hget
  refine ⟨(List.range len).map fun i => (V i).2, lq.one ?_⟩
  have hlen : (((List.range len).map fun i => (V i).2).map f).length = len := by simp
  have hgetD : ∀ i, i < len → (((List.range len).map fun i => (V i).2).map f).getD i [] = f (V i).2 := fun i hi => by
   simp [List.getD, List.getElem?_map, List.getElem?_range hi]
  have hcell : ∀ i j, i < len → j < sz → w.cell? ((a.add (i * sz)).add j) = some ((V i).1.getD j undef) := fun i j hi hj => by
   obtain ⟨_, h2, h3⟩ := World.cells?_some (hV i hi).1
   rw [h3 j hj, List.getD, List.getElem?_eq_getElem (by omega)]
   rfl
  have hspot : 0 < len → a.spot = none := fun h0 => by
   have := World.cell?_spot (hcell 0 0 h0 hsz)
   simpa [Addr.add] using this
  have hadd : ∀ i j : Nat, a.spot = none → (a.add i).add j = ⟨a.block, a.off + (i + j), none⟩ := fun i j hs => by
   obtain ⟨b, o, s⟩ := a
   simp only at hs
   subst hs
   unfold Addr.add
   by_cases hi : i = 0
   ·subst hi
    by_cases hj : j = 0
    ·subst hj; simp
    ·simp [hj]
   ·by_cases hj : j = 0
    ·subst hj; simp [hi]
    ·simp [hi, hj]; omega
  have key := Rel.slice (w := w) (κ := κ) (pv := pv) (es := ((List.range len).map fun i => (V i).2).map f) (tag := .shared) (a := some a) (cap := cap) a.block a.off sz (fun i j => (V i).1.getD j undef)
   (fun i hi => by rw [hlen] at hi; rw [hgetD i hi, hf]) (fun hne => by
    have h0 : 0 < len := by
     apply Nat.pos_of_ne_zero
     intro h0
     apply hne
     rw [h0]; rfl
    rw [← hspot h0]) (by rw [hlen]; exact hcap) (by rw [hlen]; simp only [maxLen] at hmax; omega)
   (fun i j _ _ => hpv _ _) (fun i j hi hj => by
    rw [hlen] at hi
    have h1 := hcell i j hi hj
    rw [hadd _ _ (hspot (by omega))] at h1
    exact h1)
   (fun i j hi hj => by
    rw [hlen] at hi
    rw [hgetD i hi]
    exact (hV i hi).2.2 j (by rw [hf]; exact hj)) trivial
  rw [hlen] at key
  exact key
end
instance : Inhabited Ty := ⟨.mk 0 [] []⟩
instance : Inhabited Carrier := ⟨⟨[], []⟩⟩
instance : Inhabited Decl := ⟨⟨[], .mk 0 [] []⟩⟩
theorem laidOut : laidOutB Tryz.prog = true := by kernel_rfl
theorem cl9 : Tryz.prog.cellsOf 9 = 1 := by kernel_rfl
theorem afS : Tryz.prog.cellsOf 28 = 3 := by kernel_rfl
theorem alC : Tryz.prog.cellsOf 91 = 2 := by kernel_rfl
theorem amx : Tryz.prog.cellsOf 60 = 4 := by kernel_rfl
theorem amo : Tryz.prog.cellsOf 25 = 2 := by kernel_rfl
theorem cl3 : Tryz.prog.cellsOf 3 = 1 := by kernel_rfl
theorem an9 : Tryz.prog.cellsOf 26 = 1 := by kernel_rfl
theorem aoc : Tryz.prog.cellsOf 49 = 1 := by kernel_rfl
theorem an6 : Tryz.prog.cellsOf 22 = 1 := by kernel_rfl
theorem anY : Tryz.prog.cellsOf 23 = 1 := by kernel_rfl
end Abs
end Go.Proofs.YtiiaccpcoclklaaGreat
namespace Go.Proofs.YtiiaccpcoclklaaGreat
namespace Abs
open Go Go.Proofs Go.Deep Go.WideShapes
section
variable {H : Type} {enc : TypeId × Value → H} {w : World} {base : Nat} {spare : Nat → Bool} {held : Bool} {κ : cB} {pv : fZ}
theorem u6 {α : Type} {xs : List α} {i n : Nat} (h : xs.length = n) (hi : i < n) : ∃ y, xs[i]? = some y := ⟨xs[i]'(by omega), List.getElem?_eq_getElem (by omega)⟩
theorem ahJ (t : Ty) : (aF t).length = 3 := by rw [aL]; rfl
set_option maxRecDepth 100000 in
theorem FE (hpv : ∀ b o, ¬ pv b o) (fuel : Nat) : Reads enc Tryz.prog w base spare held κ pv 28 aF fuel := by
 induction fuel using Nat.strongRecOn with
 | _ fuel ih =>
  intro cs x h
  obtain ⟨xs, n, rfl, _, hl, hlen, hf⟩ := DataW.trod_struct Tryz.underlying28 h
  rw [afS] at hl
  match cs, hl with
  | [c0, c1, c2], _ =>
   obtain ⟨y0, e0⟩ := u6 (i := 0) hlen (by decide)
   obtain ⟨y1, e1⟩ := u6 (i := 1) hlen (by decide)
   obtain ⟨y2, e2⟩ := u6 (i := 2) hlen (by decide)
   have h0 := hf 0 _ rfl
   have h1 := hf 1 _ rfl
   have h2 := hf 2 _ rfl
   simp only [e0, cl3, List.drop_zero, List.take_succ_cons, List.take_zero] at h0
   simp only [e1, cl9, List.drop_succ_cons, List.drop_zero, List.take_succ_cons, List.take_zero] at h1
   simp only [e2, an9, List.drop_succ_cons, List.drop_zero, List.take_succ_cons, List.take_zero] at h2
   obtain ⟨k, hk⟩ := Gl (κ := κ) (pv := pv) Tryz.underlying3 n _ _ h0
   obtain ⟨nm, hn⟩ := Ak (κ := κ) (pv := pv) Tryz.underlying9 n _ _ h1
   obtain ⟨ks, hks⟩ := wN (f := aF) Tryz.underlying26 afS (by decide) ahJ hpv (fun m hm => ih m (by omega)) _ _ h2
   refine ⟨.mk k nm ks, ?_⟩
   have := hk.app (hn.app hks)
   rw [aL]
   exact this
set_option maxRecDepth 100000 in
theorem aeW (hpv : ∀ b o, ¬ pv b o) (fuel : Nat) : Reads enc Tryz.prog w base spare held κ pv 49 (fun l : List Str => [.slice (l.map encS) .shared]) fuel :=
 wN (f := encS) Tryz.underlying49 cl9 (by decide) (fun _ => rfl) hpv (fun m _ => Ak Tryz.underlying9 m)
set_option maxRecDepth 100000 in
theorem aac (hpv : ∀ b o, ¬ pv b o) (fuel : Nat) : Reads enc Tryz.prog w base spare held κ pv 91 bQ fuel := by
 intro cs x h
 obtain ⟨xs, n, rfl, _, hl, hlen, hf⟩ := DataW.trod_struct Tryz.underlying91 h
 rw [alC] at hl
 match cs, hl with
 | [c0, c1], _ =>
  obtain ⟨y0, e0⟩ := u6 (i := 0) hlen (by decide)
  obtain ⟨y1, e1⟩ := u6 (i := 1) hlen (by decide)
  have h0 := hf 0 _ rfl
  have h1 := hf 1 _ rfl
  simp only [e0, cl9, List.drop_zero, List.take_succ_cons, List.take_zero] at h0
  simp only [e1, aoc, List.drop_succ_cons, List.drop_zero, List.take_succ_cons, List.take_zero] at h1
  obtain ⟨nm, hn⟩ := Ak (κ := κ) (pv := pv) Tryz.underlying9 n _ _ h0
  obtain ⟨es, hes⟩ := aeW hpv n _ _ h1
  exact ⟨⟨nm, es⟩, hn.app hes⟩
set_option maxRecDepth 100000 in
theorem ae3 (hpv : ∀ b o, ¬ pv b o) (fuel : Nat) : Reads enc Tryz.prog w base spare held κ pv 60 bD fuel := by
 intro cs x h
 obtain ⟨xs, n, rfl, _, hl, hlen, hf⟩ := DataW.trod_struct Tryz.underlying60 h
 rw [amx] at hl
 match cs, hl with
 | [c0, c1, c2, c3], _ =>
  obtain ⟨y0, e0⟩ := u6 (i := 0) hlen (by decide)
  obtain ⟨y1, e1⟩ := u6 (i := 1) hlen (by decide)
  have h0 := hf 0 _ rfl
  have h1 := hf 1 _ rfl
  simp only [e0, cl9, List.drop_zero, List.take_succ_cons, List.take_zero] at h0
  simp only [e1, afS, List.drop_succ_cons, List.drop_zero, List.take_succ_cons, List.take_zero] at h1
  obtain ⟨nm, hn⟩ := Ak (κ := κ) (pv := pv) Tryz.underlying9 n _ _ h0
  obtain ⟨t, ht⟩ := FE hpv n _ _ h1
  refine ⟨⟨nm, t⟩, ?_⟩
  have := hn.app ht
  rw [aL] at this
  exact this
def oQ (e : Env) : List AV := [.slice (e.carriers.map bQ) .shared, .slice (e.names.map bD) .shared]
set_option maxRecDepth 100000 in
theorem mF (hpv : ∀ b o, ¬ pv b o) (fuel : Nat) : Reads enc Tryz.prog w base spare held κ pv 25 oQ fuel := by
 intro cs x h
 obtain ⟨xs, n, rfl, _, hl, hlen, hf⟩ := DataW.trod_struct Tryz.underlying25 h
 rw [amo] at hl
 match cs, hl with
 | [c0, c1], _ =>
  obtain ⟨y0, e0⟩ := u6 (i := 0) hlen (by decide)
  obtain ⟨y1, e1⟩ := u6 (i := 1) hlen (by decide)
  have h0 := hf 0 _ rfl
  have h1 := hf 1 _ rfl
  simp only [e0, an6, List.drop_zero, List.take_succ_cons, List.take_zero] at h0
  simp only [e1, anY, List.drop_succ_cons, List.drop_zero, List.take_succ_cons, List.take_zero] at h1
  obtain ⟨cs, hcs⟩ := wN (f := bQ) Tryz.underlying22 alC (by decide) (fun _ => rfl) hpv (fun m _ => aac hpv m) _ _ h0
  obtain ⟨ds, hds⟩ := wN (f := bD) Tryz.underlying23 amx (by decide) (fun _ => rfl) hpv (fun m _ => ae3 hpv m) _ _ h1
  exact ⟨⟨cs, ds⟩, hcs.app hds⟩
set_option maxRecDepth 100000 in
theorem eX {α : Type} {r : Reach} {b0 : Nat} {t : TypeId} {fs : Array Field} {f : α → List AV} {v : Value} {d : DataW H} {p : List MemPlace} (hs : Tryz.prog.underlying t = some (.struct fs)) (hv : Value.okWide Tryz.prog w r b0 t v)
  (h : DataW.Trod enc Tryz.prog w base spare held t v d p) (hr : ∀ fuel, Reads enc Tryz.prog w base spare held κ pv t f fuel) : ∃ a : α, Rel w κ pv (.agg (f a)) v := by
 obtain ⟨cs, rfl, hsz⟩ := okWide_struct hs hv
 obtain ⟨fuel, hf⟩ := h
 obtain ⟨a, h1, h2⟩ := hr fuel _ _ hf
 simp only [Value.cells] at h1 h2
 refine ⟨a, ?_⟩
 have := Rel.agg (w := w) (κ := κ) (pv := pv) h1 h2
 simpa using this
end
set_option maxRecDepth 100000 in
theorem alJ (w : World) : Entry [] (fun _ _ => False) [] w :=
 ⟨rfl, fun l _ => rfl, fun l b h => by simp [at?] at h, fun l l' b h => by simp [at?] at h, fun l b h => by simp [at?] at h, fun _ _ h => h.elim, fun _ _ _ h => h.elim⟩
set_option maxRecDepth 100000 in
theorem bq : ∀ b o, ¬ aX (fun _ _ => False) [] [] b o := fun b o h => by
 rcases h with h | ⟨l, h, _⟩
 ·exact h
 ·simp [at?] at h
set_option maxRecDepth 100000 in
theorem rC {f : Nat} {args : List AV} {vs : List Value} {w : World} (h : aA Tryz.prog f args [] (.bool true) []) (hl : vs.length = args.length)
  (hr : ∀ j, j < args.length → Rel w [] (aX (fun _ _ => False) [] []) (args.getD j .unk) (vs.getD j undef)) :
  Calls Tryz.prog f vs.toArray w fun e w' => e = .returned (.bool true) ∧ Go.RowKit.Below w.heap.size w w' := by
 refine (h [] (fun _ _ => False) w vs (alJ w) hl hr).mono fun e w' ⟨v, κ', he, hL, hv⟩ => ?_
 cases hv
 exact ⟨he, hL.os, hL.tape, hL.output, hL.evo.size, fun k hk => hL.kept k hk fun l h => by simp [at?] at h⟩
theorem kP {env : Env} {w : World} {κ : cB} {pv : fZ} {v : Value} (h : Rel w κ pv (.agg (oQ env)) v) : ∀ d ∈ env.names, d.name.length ≤ 9223372036854775807 := by
 cases h with
 | @agg _ vs hl hj =>
  have h1 := hj 1 (by simp [oQ])
  intro d hd
  obtain ⟨i, hi, rfl⟩ := List.mem_iff_getElem.1 hd
  have e : (oQ env).getD 1 .unk = .slice (env.names.map bD) .shared := rfl
  rw [e] at h1
  generalize vs.getD 1 undef = u at h1
  cases h1 with
  | slice b off sz f h1 h2 h3 h3' h4 h5 h6 _ =>
   have hi' : i < (env.names.map bD).length := by simpa using hi
   have eg : (env.names.map bD).getD i [] = bD env.names[i] := by simp [List.getD, List.getElem?_map, List.getElem?_eq_getElem hi]
   have hsz := h1 i hi'
   rw [eg] at hsz
   have hz : sz = 4 := hsz.symm
   have := h6 i 0 hi' (by omega)
   rw [eg] at this
   have e2 : (bD env.names[i]).getD 0 .unk = .str env.names[i].name := rfl
   rw [e2] at this
   generalize f i 0 = g at this
   cases this
   assumption
end Abs
end Go.Proofs.YtiiaccpcoclklaaGreat
namespace Go.Proofs.YtiiaccpcoclklaaGreat
namespace Abs
open Go
def Ev {α : Type} (f : Nat → Option α) (v : α) : Prop := ∃ N, ∀ n, N ≤ n → f n = some v
theorem Ev.ret {α : Type} (v : α) : Ev (fun _ => some v) v := ⟨0, fun _ _ => rfl⟩
theorem Ev.of {α : Type} {f : Nat → Option α} {v : α} (h : ∀ n, f n = some v) : Ev f v := ⟨0, fun n _ => h n⟩
theorem Ev.bind {α β : Type} {f : Nat → Option α} {g : α → Nat → Option β} {a : α} {b : β} (h1 : Ev f a) (h2 : Ev (g a) b) : Ev (fun n => (f n).bind fun x => g x n) b := by
 obtain ⟨N, hN⟩ := h1
 obtain ⟨M, hM⟩ := h2
 refine ⟨max N M, fun n hn => ?_⟩
 show (f n).bind (fun x => g x n) = some b
 rw [hN n (by omega)]
 exact hM n (by omega)
theorem Ev.succ {α : Type} {f : Nat → Option α} {v : α} (h : Ev (fun n => f (n + 1)) v) : Ev f v := by
 obtain ⟨N, hN⟩ := h
 refine ⟨N + 1, fun n hn => ?_⟩
 cases n with
 | zero => omega
 | succ n => exact hN n (by omega)
theorem Ev.eq {α : Type} {f : Nat → Option α} {v w : α} (h : Ev f v) (e : v = w) : Ev f w := e ▸ h
theorem Ev.pos {α : Type} {b : Bool} {f g : Nat → Option α} {v : α} (hb : b = true) (h1 : Ev f v) : Ev (fun n => cond b (f n) (g n)) v := by subst hb; exact h1
theorem Ev.neg {α : Type} {b : Bool} {f g : Nat → Option α} {v : α} (hb : b = false) (h1 : Ev g v) : Ev (fun n => cond b (f n) (g n)) v := by subst hb; exact h1
def zD {α σ τ ρ : Type} (st : α → σ → LR σ ρ) (fin : σ → τ) : List α → σ → LR τ ρ
 | [], s => .nx (fin s)
 | x :: xs, s => match st x s with
  | .nx s' => zD st fin xs s'
  | .rt r => .rt r
theorem zi {α : Type} (pre : List α) (x : α) (suf : List α) : idx (pre ++ x :: suf) (pre.length : Int) = some x := by
 unfold idx
 rw [if_pos (by omega)]
 simp
theorem acf {α σ τ ρ : Type} (l : List α) (L : Nat → Nat → Int → σ → Option (LR τ ρ)) (step : Nat → α → σ → Option (LR σ ρ)) (st : α → σ → LR σ ρ) (fin : σ → τ) (I : List α → σ → Prop)
  (hL : ∀ n k i s, L n (k + 1) i s = cond (decide (i < (l.length : Int))) ((idx l i).bind fun x => (step n x s).bind (LR.el (fun s' => L n k (i + 1) s') (fun r => some (.rt r)))) (some (.nx (fin s))))
  (hI : ∀ x suf s, x ∈ l → I (x :: suf) s → Ev (fun n => step n x s) (st x s) ∧ ∀ s', st x s = .nx s' → I suf s') (pre suf : List α) (hl : l = pre ++ suf) {s0 : σ} (h0 : I suf s0) : Ev (fun n => L n n (pre.length : Int) s0) (zD st fin suf s0) := by
 have key : ∀ (suf pre : List α) (s : σ), l = pre ++ suf → I suf s → ∃ N, ∀ n, N ≤ n → ∀ k, suf.length + 1 ≤ k → L n k (pre.length : Int) s = some (zD st fin suf s) := by
  intro suf
  induction suf with
  | nil =>
   intro pre s hl _
   refine ⟨0, fun n _ k hk => ?_⟩
   cases k with
   | zero => simp at hk
   | succ k =>
    rw [hL, decide_eq_false (by rw [hl]; simp)]
    rfl
  | cons x suf ih =>
   intro pre s hl hIs
   obtain ⟨⟨N1, h1⟩, h2⟩ := hI x suf s (by rw [hl]; simp) hIs
   replace h1 : ∀ n, N1 ≤ n → step n x s = some (st x s) := h1
   have hi : decide ((pre.length : Int) < (l.length : Int)) = true := decide_eq_true (by rw [hl]; simp; omega)
   have hx : idx l (pre.length : Int) = some x := by rw [hl]; exact zi pre x suf
   cases hs : st x s with
   | rt r =>
    refine ⟨N1, fun n hn k hk => ?_⟩
    cases k with
    | zero => simp at hk
    | succ k =>
     rw [hL, hi, hx]
     simp only [cond_true, Option.bind_some]
     rw [h1 n hn, hs]
     simp [zD, hs]
   | nx s' =>
    obtain ⟨N2, h3⟩ := ih (pre ++ [x]) s' (by rw [hl]; simp) (h2 s' hs)
    refine ⟨max N1 N2, fun n hn k hk => ?_⟩
    cases k with
    | zero => simp at hk
    | succ k =>
     rw [hL, hi, hx]
     simp only [cond_true, Option.bind_some]
     rw [h1 n (by omega), hs]
     simp only [Option.bind_some, LR.el]
     have := h3 n (by omega) k (by simp at hk; omega)
     simp only [List.length_append, List.length_singleton, Int.natCast_add, Int.natCast_one] at this
     rw [this]
     simp [zD, hs]
 obtain ⟨N, hN⟩ := key suf pre s0 hl h0
 exact ⟨max N (suf.length + 1), fun n hn => hN n (by omega) n (by omega)⟩
theorem IQ {α σ τ ρ : Type} (l : List α) (L : Nat → Nat → Int → σ → Option (LR τ ρ)) (step : Nat → α → σ → Option (LR σ ρ)) (st : α → σ → LR σ ρ) (fin : σ → τ) (I : List α → σ → Prop)
  (hL : ∀ n k i s, L n (k + 1) i s = cond (decide (i < (l.length : Int))) ((idx l i).bind fun x => (step n x s).bind (LR.el (fun s' => L n k (i + 1) s') (fun r => some (.rt r)))) (some (.nx (fin s))))
  (hI : ∀ x suf s, x ∈ l → I (x :: suf) s → Ev (fun n => step n x s) (st x s) ∧ ∀ s', st x s = .nx s' → I suf s') {s0 : σ} (h0 : I l s0) : Ev (fun n => L n n 0 s0) (zD st fin l s0) :=
 acf l L step st fin I hL hI [] l rfl h0
theorem Nc {α ρ : Type} (p : α → Bool) (r : ρ) : ∀ (l : List α) (u : Unit), zD (τ := Unit) (fun x _ => cond (p x) (.rt r) (.nx ())) (fun _ => ()) l u = cond (l.any p) (.rt r) (.nx ())
 | [], _ => rfl
 | x :: xs, u => by
  simp only [zD, List.any_cons]
  cases p x
  ·exact Nc p r xs ()
  ·rfl
theorem VN {α ρ : Type} (l : List α) (L : Nat → Nat → Int → Option (LR Unit ρ)) (step : Nat → α → Option Bool) (p : α → Bool) (r : ρ)
  (hL : ∀ n k i, L n (k + 1) i = cond (decide (i < (l.length : Int))) ((idx l i).bind fun x => (step n x).bind fun b => cond b (some (.rt r)) (L n k (i + 1))) (some (.nx ())))
  (hp : ∀ x ∈ l, Ev (fun n => step n x) (p x)) (pre suf : List α) (hl : l = pre ++ suf) : Ev (fun n => L n n (pre.length : Int)) (cond (suf.any p) (.rt r) (.nx ())) := by
 have := acf l (fun n k i (_ : Unit) => L n k i) (fun n x _ => (step n x).bind fun b => cond b (some (.rt r)) (some (.nx ()))) (fun x _ => cond (p x) (.rt r) (.nx ())) (fun _ => ()) (fun _ _ => True)
  (fun n k i s => by
   rw [hL]
   congr 1
   congr 1
   funext x
   cases step n x with
   | none => rfl
   | some b => cases b <;> rfl)
  (fun x suf s hx _ => ⟨by
   refine Ev.bind (hp x hx) ?_
   cases p x
   ·exact Ev.ret _
   ·exact Ev.ret _, fun _ _ => trivial⟩) pre suf hl (s0 := ()) trivial
 rw [Nc] at this
 exact this
theorem kJ {α ρ : Type} (l : List α) (L : Nat → Nat → Int → Option (LR Unit ρ)) (step : Nat → α → Option Bool) (p : α → Bool) (r : ρ)
  (hL : ∀ n k i, L n (k + 1) i = cond (decide (i < (l.length : Int))) ((idx l i).bind fun x => (step n x).bind fun b => cond b (some (.rt r)) (L n k (i + 1))) (some (.nx ())))
  (hp : ∀ x ∈ l, Ev (fun n => step n x) (p x)) : Ev (fun n => L n n 0) (cond (l.any p) (.rt r) (.nx ())) := VN l L step p r hL hp [] l rfl
def dZ {α σ τ ρ : Type} (st : Int → α → σ → LR σ ρ) (fin : σ → τ) : Int → List α → σ → LR τ ρ
 | _, [], s => .nx (fin s)
 | i, x :: xs, s => match st i x s with
  | .nx s' => dZ st fin (i + 1) xs s'
  | .rt r => .rt r
theorem Et {α σ τ ρ : Type} (l : List α) (L : Nat → Nat → Int → σ → Option (LR τ ρ)) (step : Nat → Int → α → σ → Option (LR σ ρ)) (st : Int → α → σ → LR σ ρ) (fin : σ → τ) (I : Int → List α → σ → Prop)
  (hL : ∀ n k i s, L n (k + 1) i s = cond (decide (i < (l.length : Int))) ((idx l i).bind fun x => (step n i x s).bind (LR.el (fun s' => L n k (i + 1) s') (fun r => some (.rt r)))) (some (.nx (fin s))))
  (hI : ∀ i x suf s, x ∈ l → I i (x :: suf) s → Ev (fun n => step n i x s) (st i x s) ∧ ∀ s', st i x s = .nx s' → I (i + 1) suf s') {s0 : σ} (h0 : I 0 l s0) : Ev (fun n => L n n 0 s0) (dZ st fin 0 l s0) := by
 have key : ∀ (suf pre : List α) (s : σ), l = pre ++ suf → I (pre.length : Int) suf s → ∃ N, ∀ n, N ≤ n → ∀ k, suf.length + 1 ≤ k → L n k (pre.length : Int) s = some (dZ st fin (pre.length : Int) suf s) := by
  intro suf
  induction suf with
  | nil =>
   intro pre s hl _
   refine ⟨0, fun n _ k hk => ?_⟩
   cases k with
   | zero => simp at hk
   | succ k =>
    rw [hL, decide_eq_false (by rw [hl]; simp)]
    rfl
  | cons x suf ih =>
   intro pre s hl hIs
   obtain ⟨⟨N1, h1⟩, h2⟩ := hI _ x suf s (by rw [hl]; simp) hIs
   replace h1 : ∀ n, N1 ≤ n → step n (pre.length : Int) x s = some (st (pre.length : Int) x s) := h1
   have hi : decide ((pre.length : Int) < (l.length : Int)) = true := decide_eq_true (by rw [hl]; simp; omega)
   have hx : idx l (pre.length : Int) = some x := by rw [hl]; exact zi pre x suf
   cases hs : st (pre.length : Int) x s with
   | rt r =>
    refine ⟨N1, fun n hn k hk => ?_⟩
    cases k with
    | zero => simp at hk
    | succ k =>
     rw [hL, hi, hx]
     simp only [cond_true, Option.bind_some]
     rw [h1 n hn, hs]
     simp [dZ, hs]
   | nx s' =>
    have h3 := h2 s' hs
    have e : ((pre ++ [x]).length : Int) = (pre.length : Int) + 1 := by simp
    obtain ⟨N2, h4⟩ := ih (pre ++ [x]) s' (by rw [hl]; simp) (by rw [e]; exact h3)
    refine ⟨max N1 N2, fun n hn k hk => ?_⟩
    cases k with
    | zero => simp at hk
    | succ k =>
     rw [hL, hi, hx]
     simp only [cond_true, Option.bind_some]
     rw [h1 n (by omega), hs]
     simp only [Option.bind_some, LR.el]
     have := h4 n (by omega) k (by simp at hk; omega)
     rw [e] at this
     rw [this]
     simp [dZ, hs]
 obtain ⟨N, hN⟩ := key l [] s0 rfl h0
 exact ⟨max N (l.length + 1), fun n hn => hN n (by omega) n (by omega)⟩
def nC {α : Type} (p : α → Bool) : Int → List α → Int
 | _, [] => -1
 | i, x :: xs => cond (p x) i (nC p (i + 1) xs)
theorem Zz {α : Type} (p : α → Bool) : ∀ (l : List α) (i : Int), (match dZ (τ := Unit) (fun i x _ => cond (p x) (.rt i) (.nx ())) (fun _ => ()) i l () with | .nx _ => (-1 : Int) | .rt r => r) = nC p i l
 | [], _ => rfl
 | x :: xs, i => by
  simp only [dZ, nC]
  cases p x
  ·exact Zz p xs (i + 1)
  ·rfl
theorem xJ {α : Type} (l : List α) (L : Nat → Nat → Int → Option (LR Unit Int)) (step : Nat → α → Option Bool) (p : α → Bool)
  (hL : ∀ n k i, L n (k + 1) i = cond (decide (i < (l.length : Int))) ((idx l i).bind fun x => (step n x).bind fun b => cond b (some (.rt i)) (L n k (i + 1))) (some (.nx ())))
  (hp : ∀ x ∈ l, Ev (fun n => step n x) (p x)) : Ev (fun n => (L n n 0).bind (LR.el (fun _ => some (-1)) (fun r => some r))) (nC p 0 l) := by
 have := Et l (fun n k i (_ : Unit) => L n k i) (fun n i x _ => (step n x).bind fun b => cond b (some (.rt i)) (some (.nx ()))) (fun i x _ => cond (p x) (.rt i) (.nx ())) (fun _ => ()) (fun _ _ _ => True)
  (fun n k i s => by
   rw [hL]
   congr 1
   congr 1
   funext x
   cases step n x with
   | none => rfl
   | some b => cases b <;> rfl)
  (fun i x suf s hx _ => ⟨by
   refine Ev.bind (hp x hx) ?_
   cases p x
   ·exact Ev.ret _
   ·exact Ev.ret _, fun _ _ => trivial⟩) (s0 := ()) trivial
 refine Ev.bind this ?_
 rw [← Zz]
 generalize dZ (τ := Unit) (fun i x _ => cond (p x) (.rt i) (.nx ())) (fun _ => ()) 0 l () = R
 cases R
 ·exact Ev.ret _
 ·exact Ev.ret _
theorem w9 {α : Type} (p : α → Bool) : ∀ (l : List α) (i : Int), 0 ≤ i → decide (0 ≤ nC p i l) = l.any p
 | [], _, _ => rfl
 | x :: xs, i, h => by
  have ih := w9 p xs (i + 1) (by omega)
  by_cases hx : p x = true
  ·simp [nC, hx, h]
  ·simp only [Bool.not_eq_true] at hx
   simpa [nC, hx] using ih
theorem zK (s : List UInt8) (i : Int) : vE s i = (idx s i).map fun c => (c.toNat : Int) := by
 unfold vE idx
 by_cases h : 0 ≤ i
 ·rw [if_pos h]
  by_cases h2 : i < s.length
  ·rw [if_pos ⟨h, h2⟩]
   have : i.toNat < s.length := by omega
   simp [List.getD, List.getElem?_eq_getElem this]
  ·rw [if_neg (fun hh => h2 hh.2), List.getElem?_eq_none (by omega)]; rfl
 ·rw [if_neg (fun hh => h hh.1), if_neg h]; rfl
theorem wrap64 {n : Int} (h1 : -9223372036854775808 ≤ n) (h2 : n ≤ 9223372036854775807) : IntKind.wrap .i64 n = n := (bI h1 h2).symm
end Abs
end Go.Proofs.YtiiaccpcoclklaaGreat
namespace Go.Proofs.YtiiaccpcoclklaaGreat
namespace Abs
open Go
def Du (c : Int) : Bool := (decide (97 ≤ c) && decide (c ≤ 122)) || (decide (65 ≤ c) && decide (c ≤ 90))
def yG (c : Int) : Bool := decide (48 ≤ c) && decide (c ≤ 57)
def vJ (c : Int) : Bool := Du c || (yG c || c == 95)
theorem Jw (n : Nat) (c : Int) : wC n c = some (Du c) := by
 unfold wC Du
 cases decide (97 ≤ c) <;> cases decide (c ≤ 122) <;> cases decide (65 ≤ c) <;> rfl
theorem M5 (n : Nat) (c : Int) : Al n c = some (Du c) := by
 unfold Al Du
 cases decide (97 ≤ c) <;> cases decide (c ≤ 122) <;> cases decide (65 ≤ c) <;> rfl
theorem aav (n : Nat) (c : Int) : Bc n c = some (yG c) := by
 unfold Bc yG
 cases decide (48 ≤ c) <;> rfl
theorem GQ (n : Nat) (c : Int) : Ch n c = some (yG c) := by
 unfold Ch yG
 cases decide (48 ≤ c) <;> rfl
theorem XI (n : Nat) (c : Int) : yM n c = some (vJ c) := by
 unfold yM vJ
 rw [Jw, aav]
 cases Du c <;> cases yG c <;> rfl
theorem rH (p0 : Str) (l : List Str) : Ev (fun n => nZ n p0 l) (l.any fun x => x == p0) := by
 unfold nZ
 have h := kJ l (fun n k i => EH n p0 l k i) (fun _ x => some (x == p0)) (fun x => x == p0) true (fun n k i => rfl) (fun x _ => Ev.ret _)
 refine Ev.bind h ?_
 cases l.any fun x => x == p0
 ·exact Ev.ret _
 ·exact Ev.ret _
def kws : List Str := [[116, 114, 117, 101], [102, 97, 108, 115, 101], [110, 111, 116], [111, 114], [102, 111, 114, 97, 108, 108], [101, 120, 105, 115, 116, 115], [105, 110], [110, 111, 116, 105, 110], [115, 117, 98], [109, 111, 100], [102, 117, 110], [99, 97, 114, 100], [109, 105, 110], [109, 97, 120], [100, 111, 109], [114, 97, 110], [80, 79, 87], [105, 110, 116], [98, 111, 111, 108], [115, 101, 116], [112, 97, 105, 114]]
def Oa (s : Str) : Bool := kws.any fun x => x == s
theorem aaq (s : Str) : Ev (fun n => Bl n s) (Oa s) := by
 unfold Bl
 exact Ev.bind (rH s _) (Ev.ret _)
theorem chainB (a b : Bool) : cond a (some a) (some b) = some (a || b) := by cases a <;> rfl
theorem Wn (n : Nat) (s : Str) : wV n s = some (Oa s) := by
 unfold wV
 simp only [chainB, Option.bind_some]
 have h : ∀ b : Bool, cond b (some true) (some false) = some b := fun b => by cases b <;> rfl
 rw [h]
 simp only [Oa, kws, List.any_cons, List.any_nil, Bool.or_false]
 simp only [BEq.comm (a := s)]
def ident (s : Str) : Bool := match s with
 | [] => false
 | c :: cs => decide (cs.length < 16) && (Du (c.toNat : Int) && (!(Oa (c :: cs)) && cs.all fun c => vJ (c.toNat : Int)))
theorem nL {α : Type} (p : α → Bool) (l : List α) : l.any (fun x => !(p x)) = !(l.all p) := by
 induction l with
 | nil => rfl
 | cons x l ih => simp [ih]
theorem oN (s : Str) : Ev (fun n => fA n s) (ident s) := by
 unfold fA
 cases s with
 | nil => exact Ev.of fun n => rfl
 | cons c cs =>
  have hloop : Ev (fun n => mG n (c :: cs) n 0) (cond ((c :: cs).any fun c => !(vJ (c.toNat : Int))) (.rt false) (.nx ())) := by
   refine kJ (c :: cs) (fun n k i => mG n (c :: cs) k i) (fun _ x => some (!(vJ (x.toNat : Int)))) (fun x => !(vJ (x.toNat : Int))) false (fun n k i => ?_) (fun x _ => Ev.ret _)
   show cond _ _ _ = _
   congr 1
   rw [zK]
   cases idx (c :: cs) i with
   | none => rfl
   | some x =>
    simp only [Option.map_some, Option.bind_some, XI]
  have hs0 : vE (c :: cs) 0 = some (c.toNat : Int) := by rw [zK]; rfl
  have hne : ((c :: cs) == ([] : Str)) = false := by simp
  simp only [hne, cond_false, hs0, Option.bind_some, Jw, Wn]
  by_cases hl : cs.length < 16
  ·have h1 : decide (16 < ((c :: cs).length : Int)) = false := decide_eq_false (by simp; omega)
   simp only [h1, cond_false, ident, decide_eq_true hl, Bool.true_and]
   cases hlet : Du (c.toNat : Int) with
   | false => exact Ev.ret _
   | true =>
    cases hk : Oa (c :: cs) with
    | true => exact Ev.ret _
    | false =>
     simp only [Bool.not_true, cond_false, Option.bind_some, Bool.true_and, Bool.not_false]
     refine Ev.bind hloop ?_
     rw [nL]
     simp only [List.all_cons, vJ, hlet, Bool.true_or, Bool.true_and]
     cases cs.all fun c => Du (c.toNat : Int) || (yG (c.toNat : Int) || (c.toNat : Int) == 95)
     ·exact Ev.ret _
     ·exact Ev.ret _
  ·have h1 : decide (16 < ((c :: cs).length : Int)) = true := decide_eq_true (by simp; omega)
   simp only [h1, cond_true, Option.bind_some, ident, decide_eq_false hl, Bool.false_and]
   exact Ev.ret _
theorem l7 (s : Str) : Ev (fun n => gJ n s) (ident s) := by
 unfold gJ
 cases s with
 | nil => exact Ev.of fun n => rfl
 | cons c cs =>
  have hloop : Ev (fun n => oq n (c :: cs) n 1) (cond (cs.any fun c => !(vJ (c.toNat : Int))) (.rt false) (.nx ())) := by
   refine VN (c :: cs) (fun n k i => oq n (c :: cs) k i) (fun _ x => some (!(vJ (x.toNat : Int)))) (fun x => !(vJ (x.toNat : Int))) false (fun n k i => ?_) (fun x _ => Ev.ret _) [c] cs rfl
   show cond _ _ _ = _
   congr 1
   rw [zK]
   cases idx (c :: cs) i with
   | none => rfl
   | some x =>
    simp only [Option.map_some, Option.bind_some, M5, GQ, vJ]
    cases Du (x.toNat : Int) <;> cases yG (x.toNat : Int) <;> rfl
  have hs0 : vE (c :: cs) 0 = some (c.toNat : Int) := by rw [zK]; rfl
  have hne : decide (((c :: cs).length : Int) < 1) = false := decide_eq_false (by simp; omega)
  simp only [hne, cond_false, hs0, Option.bind_some, M5]
  by_cases hl : cs.length < 16
  ·have h1 : decide (16 < ((c :: cs).length : Int)) = false := decide_eq_false (by simp; omega)
   simp only [h1, cond_false, ident, decide_eq_true hl, Bool.true_and]
   cases hlet : Du (c.toNat : Int) with
   | false => exact Ev.ret _
   | true =>
    simp only [Bool.not_true, cond_false, Bool.true_and]
    refine Ev.bind (a := Oa (c :: cs)) (Ev.bind (aaq _) (Ev.ret _)) ?_
    cases hk : Oa (c :: cs) with
    | true => exact Ev.ret _
    | false =>
     simp only [cond_false, Bool.true_and, Bool.not_false]
     refine Ev.bind hloop ?_
     rw [nL]
     cases cs.all fun c => vJ (c.toNat : Int)
     ·exact Ev.ret _
     ·exact Ev.ret _
  ·have h1 : decide (16 < ((c :: cs).length : Int)) = true := decide_eq_true (by simp; omega)
   simp only [h1, cond_true, Option.bind_some, ident, decide_eq_false hl, Bool.false_and]
   exact Ev.ret _
def Cc (s : Str) : Str := if s.getLast? = some 39 then s.dropLast else s
theorem Cr {α : Type} (s : List α) (k : Nat) (h : k ≤ s.length) : ny s 0 (k : Int) = some (s.take k) := by
 unfold ny
 rw [if_pos (by omega)]
 simp
theorem aas (n : Nat) (s : Str) (hs : s.length ≤ 9223372036854775807) : strings_TrimSuffix n s [39] = some (Cc s) := by
 unfold strings_TrimSuffix jE jO
 rcases List.eq_nil_or_concat s with rfl | ⟨t, c, rfl⟩
 ·rfl
 ·have hl : ((t ++ [c]).length : Int) - (([39] : Str).length : Int) = (t.length : Int) := by simp
  have hd : decide ((([39] : Str).length : Int) ≤ ((t ++ [c]).length : Int)) = true := decide_eq_true (by simp; omega)
  simp only [List.concat_eq_append] at hs ⊢
  rw [hl, hd, wrap64 (by omega) (by simp at hs; omega)]
  have h1 : ny (t ++ [c]) (t.length : Int) ((t ++ [c]).length : Int) = some [c] := by
   unfold ny
   rw [if_pos (by simp; omega)]
   simp
  have h2 : ny (t ++ [c]) 0 (t.length : Int) = some t := by rw [Cr _ _ (by simp)]; simp
  simp only [cond_true, h1, h2, Option.bind_some]
  unfold Cc
  rw [List.getLast?_concat, List.dropLast_concat]
  by_cases hc : c = 39
  ·subst hc; simp
  ·have : (([c] : Str) == [39]) = false := by simp [hc]
   rw [this, if_neg (by simpa using hc)]; rfl
def named (s : Str) : Bool := ident (Cc s)
theorem Ra (s : Str) (hs : s.length ≤ 9223372036854775807) : Ev (fun n => pJ n s) (named s) := by
 unfold pJ
 simp only [aas _ s hs, Option.bind_some]
 exact Ev.bind (oN _) (Ev.ret _)
theorem DX {s : Str} (h : ident s = true) : ∀ c ∈ s, vJ (c.toNat : Int) = true := by
 cases s with
 | nil => cases h
 | cons c cs =>
  simp only [ident, Bool.and_eq_true, decide_eq_true_eq, List.all_eq_true] at h
  intro x hx
  rcases List.mem_cons.1 hx with rfl | hx
  ·simp [vJ, h.2.1]
  ·exact h.2.2.2 x hx
theorem CB (s : Str) : Ev (fun n => wW n s) (named s) := by
 unfold wW
 have hp : Ev (fun n => vB n s) (decide (s.getLast? = some 39) && ident s.dropLast) := by
  unfold vB
  rcases List.eq_nil_or_concat s with rfl | ⟨t, c, rfl⟩
  ·exact Ev.ret _
  ·simp only [List.concat_eq_append, List.getLast?_concat, List.dropLast_concat]
   cases t with
   | nil =>
    have h1 : decide (1 < (([] ++ [c] : Str).length : Int)) = false := rfl
    simp only [h1, cond_false, Option.bind_some]
    have : ident ([] : Str) = false := rfl
    rw [this, Bool.and_false]; exact Ev.ret _
   | cons d t =>
    have h1 : decide (1 < ((d :: t ++ [c] : Str).length : Int)) = true := decide_eq_true (by simp; omega)
    have hlen : (((d :: t ++ [c] : Str).length : Int) - 1) = ((d :: t).length : Int) := by simp
    have h2 : vE (d :: t ++ [c]) (((d :: t ++ [c] : Str).length : Int) - 1) = some (c.toNat : Int) := by
     rw [hlen, zK, show (d :: t ++ [c] : Str) = (d :: t) ++ c :: [] from rfl, zi]; rfl
    have h3 : ny (d :: t ++ [c]) 0 (((d :: t ++ [c] : Str).length : Int) - 1) = some (d :: t) := by rw [hlen, Cr _ _ (by simp)]; simp
    simp only [h1, cond_true, h2, h3, Option.bind_some]
    by_cases hc : c = 39
    ·subst hc
     simp only [show ((((39 : UInt8).toNat : Nat) : Int) == 39) = true from rfl, cond_true, decide_true, Bool.true_and]
     exact Ev.bind (Ev.bind (l7 _) (Ev.ret _)) (Ev.ret _)
    ·have e : (((c.toNat : Nat) : Int) == 39) = false := by
      apply beq_false_of_ne
      intro h
      apply hc
      have : c.toNat = 39 := by omega
      exact UInt8.toNat_inj.1 this
     rw [e]
     have e2 : decide (some c = some (39 : UInt8)) = false := decide_eq_false (by simpa using hc)
     simp only [cond_false, Option.bind_some, e2, Bool.false_and]
     exact Ev.ret _
 refine Ev.bind (a := named s) ?_ (Ev.ret _)
 refine Ev.bind (l7 s) ?_
 unfold named Cc
 by_cases hq : s.getLast? = some 39
 ·have hi : ident s = false := by
   cases h : ident s with
   | false => rfl
   | true =>
    have := DX h 39 (List.mem_of_getLast? hq)
    cases this
  rw [hi, if_pos hq]
  rw [decide_eq_true hq, Bool.true_and] at hp
  exact Ev.bind hp (Ev.ret _)
 ·rw [if_neg hq]
  rw [decide_eq_false hq, Bool.false_and] at hp
  cases ident s
  ·exact Ev.bind hp (Ev.ret _)
  ·exact Ev.ret _
end Abs
end Go.Proofs.YtiiaccpcoclklaaGreat
namespace Go.Proofs.YtiiaccpcoclklaaGreat
namespace Abs
open Go
theorem Ty.ind {P : Ty → Prop} (h : ∀ k n ks, (∀ t ∈ ks, P t) → P (.mk k n ks)) (t : Ty) : P t := by
 match t with
 | .mk k n ks => exact h k n ks fun u _ => Ty.ind h u
termination_by SizeOf.sizeOf t
decreasing_by
 rename_i hu
 have := List.sizeOf_lt_of_mem hu
 simp only [Ty.mk.sizeOf_spec]
 omega
def eU (k : Int) (nm : Str) (len : Nat) (d : Int) : Bool :=
 !(k == 2 && decide (1 < d)) && ((((k == 1 || (k == 2 || k == 3)) && len == 0) || ((k == 4 && len == 2) || (k == 5 && len == 1))) && cond (k == 3) (ident nm) (nm == []))
mutual
def pf : Ty → Int → Int → Bool × Int
 | .mk k nm ks, d, c => cond ((decide (c + 1 ≤ 16) && decide (d ≤ 6)) && eU k nm ks.length d) (iX ks (d + 1) (c + 1)) (false, c + 1)
def iX : List Ty → Int → Int → Bool × Int
 | [], _, c => (true, c)
 | t :: ts, d, c => cond (pf t d c).1 (iX ts d (pf t d c).2) (false, (pf t d c).2)
end
mutual
theorem Gf : ∀ (t : Ty) (d c : Int), (pf t d c).1 = true → c < (pf t d c).2 ∧ (pf t d c).2 ≤ 16
 | .mk k nm ks, d, c, h => by
  simp only [pf] at h ⊢
  cases hb : ((decide (c + 1 ≤ 16) && decide (d ≤ 6)) && eU k nm ks.length d) with
  | false => rw [hb] at h; cases h
  | true =>
   rw [hb] at h
   simp only [cond_true] at h ⊢
   simp only [Bool.and_eq_true, decide_eq_true_eq] at hb
   have := abh ks (d + 1) (c + 1) h
   omega
theorem abh : ∀ (ts : List Ty) (d c : Int), (iX ts d c).1 = true → c ≤ (iX ts d c).2 ∧ (c ≤ 16 → (iX ts d c).2 ≤ 16)
 | [], _, c, _ => by simp [iX]
 | t :: ts, d, c, h => by
  simp only [iX] at h ⊢
  cases hb : (pf t d c).1 with
  | false => rw [hb] at h; cases h
  | true =>
   rw [hb] at h
   simp only [cond_true] at h ⊢
   have h1 := Gf t d c hb
   have h2 := abh ts d _ h
   exact ⟨by omega, fun _ => h2.2 h1.2⟩
end
theorem aiB (n : Nat) (c d : Int) (h0 : 0 ≤ c) (h1 : c ≤ 16) : je n c 16 6 d = some (decide (c + 1 ≤ 16) && decide (d ≤ 6), c + 1) := by
 unfold je
 rw [wrap64 (by omega) (by omega)]
 cases decide (c + 1 ≤ 16) <;> rfl
def alA (t : Ty) : Prop := ∀ d c : Int, 1 ≤ d → d ≤ 7 → 0 ≤ c → c ≤ 16 → Ev (fun n => d9 n c 16 6 t d (decide (1 < d))) (pf t d c)
theorem aex (d : Int) : ∀ (ts : List Ty) (i c : Int), 0 ≤ i → (∃ j, 0 ≤ j ∧ (iX ts d c).1 = false ∧ dZ (τ := Int) (fun i x s => cond (!(pf x d s).1) (.rt (i, (pf x d s).2)) (.nx (pf x d s).2)) (fun s => s) i ts c = .rt (j, (iX ts d c).2)) ∨ ((iX ts d c).1 = true ∧ dZ (ρ := Int × Int) (fun i x s => cond (!(pf x d s).1) (.rt (i, (pf x d s).2)) (.nx (pf x d s).2)) (fun s => s) i ts c = .nx (iX ts d c).2)
 | [], i, c, _ => .inr ⟨rfl, rfl⟩
 | t :: ts, i, c, hi => by
  simp only [iX, dZ]
  cases hb : (pf t d c).1 with
  | false => exact .inl ⟨i, hi, rfl, rfl⟩
  | true => exact aex d ts (i + 1) _ (by omega)
theorem ah4 (ts : List Ty) (h : ∀ t ∈ ts, alA t) (d c : Int) (hd : 1 ≤ d) (hd6 : d ≤ 6) (h0 : 0 ≤ c) (h1 : c ≤ 16) : Ev (fun n => dL n ts c 16 6 d) (!(iX ts (d + 1) c).1, (iX ts (d + 1) c).2) := by
 refine Ev.succ ?_
 show Ev (fun n => iM n _ _ _ _ ts c 16 6 d) _
 unfold iM
 have hloop := Et ts (fun n k i s => kC n (fun p0 p1 p2 p3 p4 => gT n p0 p1 p2 p3 p4) (fun p0 p1 p2 p3 p4 => dL n p0 p1 p2 p3 p4) (fun p0 p1 p2 p3 p4 p5 => d9 n p0 p1 p2 p3 p4 p5) (fun p0 p1 p2 p3 p4 => dP n p0 p1 p2 p3 p4) ts 16 6 d k (i, s))
  (fun n i x s => (dP n x s 16 6 d).bind fun x2 => cond x2.1 (some (.rt (i, x2.2))) (some (.nx x2.2))) (fun i x s => cond (!(pf x (d + 1) s).1) (.rt (i, (pf x (d + 1) s).2)) (.nx (pf x (d + 1) s).2)) (fun s => s) (fun _ _ s => 0 ≤ s ∧ s ≤ 16)
  (fun n k i s => by
   show cond _ _ _ = _
   congr 1
   congr 1
   funext x
   dsimp only
   cases dP n x s 16 6 d with
   | none => rfl
   | some b => obtain ⟨b, e⟩ := b; cases b <;> rfl)
  (fun i x suf s hx hs => ⟨by
   have hfit : Ev (fun n => dP n x s 16 6 d) (!(pf x (d + 1) s).1, (pf x (d + 1) s).2) := by
    refine Ev.succ ?_
    show Ev (fun n => iT n _ _ _ _ x s 16 6 d) _
    unfold iT
    have := h x hx (d + 1) s (by omega) (by omega) hs.1 hs.2
    rw [decide_eq_true (show 1 < d + 1 by omega)] at this
    rw [wrap64 (by omega) (by omega)]
    exact Ev.bind this (Ev.ret _)
   refine Ev.bind hfit ?_
   cases (pf x (d + 1) s).1
   ·exact Ev.ret _
   ·exact Ev.ret _, fun s' he => by
    cases hb : (pf x (d + 1) s).1 with
    | false => rw [hb] at he; cases he
    | true =>
     rw [hb] at he
     simp only [Bool.not_true, cond_false, LR.nx.injEq] at he
     have := Gf x (d + 1) s hb
     omega⟩) (s0 := c) ⟨h0, h1⟩
 rcases aex (d + 1) ts 0 c (Int.le_refl _) with ⟨j, hj, hf, hr⟩ | ⟨ht, hr⟩
 ·rw [hr] at hloop
  refine Ev.bind (a := (j, (iX ts (d + 1) c).2)) (Ev.succ ?_) ?_
  ·show Ev (fun n => fO n _ _ _ _ ts c 16 6 d) _
   unfold fO
   exact Ev.bind hloop (Ev.ret _)
  ·rw [hf]
   simp only [decide_eq_true hj]
   exact Ev.ret _
 ·rw [hr] at hloop
  refine Ev.bind (a := (-1, (iX ts (d + 1) c).2)) (Ev.succ ?_) ?_
  ·show Ev (fun n => fO n _ _ _ _ ts c 16 6 d) _
   unfold fO
   exact Ev.bind hloop (Ev.ret _)
  ·rw [ht]
   exact Ev.ret _
theorem aaK (len : Nat) (m : Nat) : (((len : Int) != (m : Int))) = !(len == m) := by
 rw [bne]
 congr 1
 by_cases h : len = m
 ·subst h; simp
 ·rw [beq_false_of_ne h, beq_false_of_ne (by omega)]
theorem fits : ∀ t : Ty, alA t := Ty.ind fun k nm ks ih d c hd hd7 h0 h1 => by
 refine Ev.succ ?_
 show Ev (fun n => jA n _ _ _ _ c 16 6 (.mk k nm ks) d (decide (1 < d))) _
 unfold jA
 simp only [aiB _ c d h0 h1, Option.bind_some, pf, Ty.kind, Ty.name, Ty.kids]
 cases hb : (decide (c + 1 ≤ 16) && decide (d ≤ 6)) with
 | false => exact Ev.ret _
 | true =>
  simp only [Bool.and_eq_true, decide_eq_true_eq] at hb
  have hk := ah4 ks ih d (c + 1) hd hb.2 (by omega) hb.1
  simp only [Bool.not_true, cond_false, Bool.true_and]
  -- the end: the number of kids, the name, the kids
  have hend : ∀ m : Nat, Ev (fun n => (((cond ((ks.length : Int) != (m : Int)) (some true) (cond (k != 3) (some (!(nm == ([] : Str)))) (some false))) : Option Bool).bind fun (s2 : Bool) => (cond s2 (some (false, c + 1)) ((dL n ks (c + 1) 16 6 d).bind fun (x2 : Bool × Int) => some ((!x2.1), x2.2)))))
    (cond ((ks.length == m) && cond (k == 3) true (nm == [])) (iX ks (d + 1) (c + 1)) (false, c + 1)) := fun m => by
   rw [aaK]
   cases ks.length == m with
   | false => exact Ev.ret _
   | true =>
    simp only [Bool.not_true, cond_false, Bool.true_and, bne]
    have hkids : Ev (fun n => (dL n ks (c + 1) 16 6 d).bind fun (x2 : Bool × Int) => some ((!x2.1), x2.2)) (iX ks (d + 1) (c + 1)) := by
     refine Ev.bind hk ?_
     simp only [Bool.not_not]
     exact Ev.ret _
    cases k == 3 with
    | true => exact hkids
    | false =>
     simp only [Bool.not_false, cond_true, Option.bind_some, cond_false]
     cases nm == ([] : Str) with
     | false => exact Ev.ret _
     | true => exact hkids
  by_cases e1 : k = 1
  ·subst e1
   have := hend 0
   simpa [eU] using this
  by_cases e2 : k = 2
  ·subst e2
   cases hf : decide (1 < d) with
   | true =>
    have : eU 2 nm ks.length d = false := by simp [eU, hf]
    simp only [this, cond_false]
    exact Ev.of fun n => by simp
   | false =>
    have := hend 0
    simpa [eU, hf] using this
  by_cases e3 : k = 3
  ·subst e3
   simp only [show ((3 : Int) == 1) = false from rfl, show ((3 : Int) == 2) = false from rfl, show ((3 : Int) == 3) = true from rfl, cond_false, cond_true]
   refine Ev.bind (a := cond (ident nm) (.nx 0) (.rt (false, c + 1))) (Ev.bind (oN nm) ?_) ?_
   ·cases ident nm
    ·exact Ev.ret _
    ·exact Ev.ret _
   ·cases hi : ident nm with
    | false =>
     have : eU 3 nm ks.length d = false := by simp [eU, hi]
     rw [this]
     exact Ev.ret _
    | true =>
     have := hend 0
     simpa [eU, hi] using this
  by_cases e4 : k = 4
  ·subst e4
   have := hend 2
   simpa [eU] using this
  by_cases e5 : k = 5
  ·subst e5
   have := hend 1
   simpa [eU] using this
  ·have : eU k nm ks.length d = false := by simp [eU, e1, e2, e3, e4, e5]
   rw [this]
   refine Ev.of fun n => ?_
   have b1 := beq_false_of_ne e1
   have b2 := beq_false_of_ne e2
   have b3 := beq_false_of_ne e3
   have b4 := beq_false_of_ne e4
   have b5 := beq_false_of_ne e5
   simp only [b1, b2, b3, b4, b5, cond_false, Option.bind_some, LR.el]
def bN (t : Ty) : Bool := (pf t 1 0).1
theorem jJ (t : Ty) : Ev (fun n => jH n t) (bN t) := by
 unfold jH
 have := fits t 1 0 (by omega) (by omega) (by omega) (by omega)
 rw [show decide ((1 : Int) < 1) = false from rfl] at this
 exact Ev.bind this (Ev.ret _)
def pt (t : Ty) (d c : Int) : Int := cond (pf t d c).1 (pf t d c).2 (-1)
def alz (t : Ty) : Prop := ∀ d c : Int, 1 ≤ d → d ≤ 7 → 0 ≤ c → c ≤ 16 → Ev (fun n => p9 n t d c) (pt t d c)
theorem adl (d : Int) : ∀ (ts : List Ty) (c : Int), 0 ≤ c → zD (τ := Int) (fun x s => cond (decide (pt x d s < 0)) (.rt (-1)) (.nx (pt x d s))) (fun s => s) ts c = cond (iX ts d c).1 (.nx (iX ts d c).2) (.rt (-1))
 | [], c, _ => rfl
 | t :: ts, c, h0 => by
  simp only [iX, zD]
  by_cases hb : (pf t d c).1 = true
  ·have h1 := Gf t d c hb
   have h2 : pt t d c = (pf t d c).2 := by simp only [pt, hb, cond_true]
   have h3 : decide ((pf t d c).2 < 0) = false := decide_eq_false (by omega)
   simp only [h2, h3, hb, cond_true, cond_false]
   exact adl d ts (pf t d c).2 (by omega)
  ·have hb' : (pf t d c).1 = false := by simpa using hb
   have h2 : pt t d c = -1 := by simp only [pt, hb', cond_false]
   have h3 : decide (pt t d c < 0) = true := decide_eq_true (by omega)
   simp only [h3, hb', cond_true, cond_false]
theorem typed : ∀ t : Ty, alz t := Ty.ind fun k nm ks ih d c hd hd7 h0 h1 => by
 refine Ev.succ ?_
 show Ev (fun n => wz n _ (.mk k nm ks) d c) _
 unfold wz
 simp only [pt, pf, Ty.kind, Ty.name, Ty.kids]
 rw [wrap64 (by omega) (by omega)]
 by_cases hd6 : d ≤ 6
 case neg =>
  rw [decide_eq_true (show 6 < d by omega), decide_eq_false hd6]
  simp only [Bool.and_false, Bool.false_and, cond_false]
  exact Ev.ret _
 by_cases hc : c + 1 ≤ 16
 case neg =>
  rw [decide_eq_false (show ¬ 6 < d by omega), decide_eq_true (show 16 < c + 1 by omega), decide_eq_false hc]
  simp only [Bool.false_and, cond_false, cond_true]
  exact Ev.ret _
 rw [decide_eq_false (show ¬ 6 < d by omega), decide_eq_false (show ¬ 16 < c + 1 by omega), decide_eq_true hd6, decide_eq_true hc]
 simp only [cond_false, Bool.true_and]
 have hloop := IQ ks (fun n k' i s => tQ n (fun p0 p1 p2 => p9 n p0 p1 p2) (.mk k nm ks) d k' (s, i)) (fun n x s => (p9 n x (IntKind.wrap .i64 (d + 1)) s).bind fun x2 => cond (decide (x2 < 0)) (some (.rt (-1))) (some (.nx x2)))
  (fun x s => cond (decide (pt x (d + 1) s < 0)) (.rt (-1)) (.nx (pt x (d + 1) s))) (fun s => s) (fun _ s => 0 ≤ s ∧ s ≤ 16)
  (fun n k' i s => by
   show cond _ _ _ = _
   congr 1
   show (idx ks i).bind _ = _
   congr 1
   funext x
   dsimp only
   cases p9 n x (IntKind.wrap .i64 (d + 1)) s with
   | none => rfl
   | some b => simp only [Option.bind_some]; cases decide (b < 0) <;> rfl)
  (fun x suf s hx hs => ⟨by
   rw [wrap64 (by omega) (by omega)]
   refine Ev.bind (ih x hx (d + 1) s (by omega) (by omega) hs.1 hs.2) ?_
   cases decide (pt x (d + 1) s < 0)
   ·exact Ev.ret _
   ·exact Ev.ret _, fun s' he => by
    cases hb : decide (pt x (d + 1) s < 0) with
    | true => rw [hb] at he; cases he
    | false =>
     rw [hb] at he
     simp only [cond_false, LR.nx.injEq] at he
     have hneg : ¬ pt x (d + 1) s < 0 := of_decide_eq_false hb
     subst he
     unfold pt at hneg ⊢
     cases hb2 : (pf x (d + 1) s).1 with
     | false => rw [hb2] at hneg; simp at hneg
     | true => have := Gf x (d + 1) s hb2; simp only [cond_true]; omega⟩) (s0 := c + 1) ⟨by omega, hc⟩
 rw [adl _ _ _ (by omega)] at hloop
 have hkids : Ev (fun n => (tQ n (fun p0 p1 p2 => p9 n p0 p1 p2) (.mk k nm ks) d n (c + 1, 0)).bind (LR.el (fun (s5 : Int) => some s5) (fun r => some r))) (cond (iX ks (d + 1) (c + 1)).1 (iX ks (d + 1) (c + 1)).2 (-1)) := by
  refine Ev.bind hloop ?_
  cases (iX ks (d + 1) (c + 1)).1
  ·exact Ev.ret _
  ·exact Ev.ret _
 have hend : ∀ m : Nat, Ev (fun n => (((cond ((ks.length : Int) != (m : Int)) (some true) (cond (k == 3) ((gJ n nm).bind fun (x3 : Bool) => (cond (!x3) (some true) (cond (k != 3) (some (!(nm == ([] : Str)))) (some false)))) (cond (k != 3) (some (!(nm == ([] : Str)))) (some false)))) : Option Bool).bind fun (s3 : Bool) => (cond s3 (some (-1)) ((tQ n (fun p0 p1 p2 => p9 n p0 p1 p2) (.mk k nm ks) d n (c + 1, 0)).bind (LR.el (fun (s5 : Int) => some s5) (fun r => some r))))))
   (cond ((ks.length == m) && cond (k == 3) (ident nm) (nm == [])) (cond (iX ks (d + 1) (c + 1)).1 (iX ks (d + 1) (c + 1)).2 (-1)) (-1)) := fun m => by
  rw [aaK]
  cases ks.length == m with
  | false => exact Ev.ret _
  | true =>
   simp only [Bool.not_true, cond_false, Bool.true_and, bne]
   cases k == 3 with
   | true =>
    simp only [cond_true, Bool.not_true, cond_false]
    refine Ev.bind (a := !(ident nm)) (Ev.bind (l7 nm) ?_) ?_
    ·cases ident nm
     ·exact Ev.ret _
     ·exact Ev.ret _
    ·cases ident nm
     ·exact Ev.ret _
     ·exact hkids
   | false =>
    simp only [cond_false, Bool.not_false, cond_true, Option.bind_some]
    cases nm == ([] : Str) with
    | false => exact Ev.ret _
    | true => exact hkids
 have hpair : ∀ b : Bool, (cond (cond b (iX ks (d + 1) (c + 1)) (false, c + 1)).1 (cond b (iX ks (d + 1) (c + 1)) (false, c + 1)).2 (-1) : Int) = cond b (cond (iX ks (d + 1) (c + 1)).1 (iX ks (d + 1) (c + 1)).2 (-1)) (-1) := fun b => by cases b <;> rfl
 rw [hpair]
 by_cases e1 : k = 1
 ·subst e1
  have := hend 0
  simpa [eU] using this
 by_cases e2 : k = 2
 ·subst e2
  cases hf : decide (1 < d) with
  | true =>
   have : eU 2 nm ks.length d = false := by simp [eU, hf]
   rw [this]
   exact Ev.of fun n => by simp
  | false =>
   have := hend 0
   simpa [eU, hf] using this
 by_cases e3 : k = 3
 ·subst e3
  have := hend 0
  simpa [eU] using this
 by_cases e4 : k = 4
 ·subst e4
  have := hend 2
  simpa [eU] using this
 by_cases e5 : k = 5
 ·subst e5
  have := hend 1
  simpa [eU] using this
 ·have : eU k nm ks.length d = false := by simp [eU, e1, e2, e3, e4, e5]
  rw [this]
  refine Ev.of fun n => ?_
  have b1 := beq_false_of_ne e1
  have b2 := beq_false_of_ne e2
  have b3 := beq_false_of_ne e3
  have b4 := beq_false_of_ne e4
  have b5 := beq_false_of_ne e5
  simp only [b1, b2, b3, b4, b5, cond_false, Option.bind_some, LR.el]
theorem jS (t : Ty) : Ev (fun n => iF n t) (bN t) := by
 unfold iF
 refine Ev.bind (typed t 1 0 (by omega) (by omega) (by omega) (by omega)) ?_
 unfold pt bN
 cases hb : (pf t 1 0).1 with
 | false => exact Ev.ret _
 | true =>
  have := Gf t 1 0 hb
  simp only [cond_true]
  rw [decide_eq_true (by omega)]
  exact Ev.ret _
end Abs
end Go.Proofs.YtiiaccpcoclklaaGreat
namespace Go.Proofs.YtiiaccpcoclklaaGreat
namespace Abs
open Go
theorem Nw {α σ τ ρ : Type} (f : α → σ → σ) (fin : σ → τ) : ∀ (l : List α) (s : σ), zD (ρ := ρ) (fun x s => .nx (f x s)) fin l s = .nx (fin (l.foldl (fun s x => f x s) s))
 | [], _ => rfl
 | x :: xs, s => Nw f fin xs (f x s)
theorem kD {α σ τ ρ : Type} (l : List α) (L : Nat → Nat → Int → σ → Option (LR τ ρ)) (step : Nat → α → σ → Option σ) (f : α → σ → σ) (fin : σ → τ) (I : List α → σ → Prop)
  (hL : ∀ n k i s, L n (k + 1) i s = cond (decide (i < (l.length : Int))) ((idx l i).bind fun x => (step n x s).bind fun s' => L n k (i + 1) s') (some (.nx (fin s))))
  (hI : ∀ x suf s, x ∈ l → I (x :: suf) s → Ev (fun n => step n x s) (f x s) ∧ I suf (f x s)) {s0 : σ} (h0 : I l s0) : Ev (fun n => L n n 0 s0) (.nx (fin (l.foldl (fun s x => f x s) s0))) := by
 rw [← Nw f fin]
 refine IQ l L (fun n x s => (step n x s).bind fun s' => some (.nx s')) (fun x s => .nx (f x s)) fin I (fun n k i s => ?_) (fun x suf s hx hs => ?_) h0
 ·rw [hL]
  congr 1
  congr 1
  funext x
  cases step n x s <;> rfl
 ·obtain ⟨h1, h2⟩ := hI x suf s hx hs
  exact ⟨Ev.bind h1 (Ev.ret _), fun s' h => by cases h; exact h2⟩
theorem Gu {α ρ : Type} (l : List α) (L : Nat → Nat → Int → Option (LR Unit ρ)) (step : Nat → α → Option (LR Unit ρ)) (p : α → Bool) (r : ρ)
  (hL : ∀ n k i, L n (k + 1) i = cond (decide (i < (l.length : Int))) ((idx l i).bind fun x => (step n x).bind (LR.el (fun _ => L n k (i + 1)) (fun r => some (.rt r)))) (some (.nx ())))
  (hp : ∀ x ∈ l, Ev (fun n => step n x) (cond (p x) (.rt r) (.nx ()))) : Ev (fun n => L n n 0) (cond (l.any p) (.rt r) (.nx ())) := by
 have := IQ l (fun n k i (_ : Unit) => L n k i) (fun n x _ => step n x) (fun x _ => cond (p x) (.rt r) (.nx ())) (fun _ => ()) (fun _ _ => True)
  (fun n k i s => by rw [hL]) (fun x suf s hx _ => ⟨hp x hx, fun _ _ => trivial⟩) (s0 := ()) trivial
 rw [Nc] at this
 exact this
theorem gY {α : Type} {b : Nat} {l ys : List α} (h : l.length + ys.length ≤ 1000000) (hb : b ≤ 1000) : app b l ys = some (l ++ ys) := by
 unfold app
 have := Nat.mul_le_mul h hb
 rw [if_pos ⟨by omega, by omega⟩]
theorem AP {α : Type} : ∀ (l s : List α), l.foldl (fun s x => s ++ [x]) s = s ++ l
 | [], s => by simp
 | x :: l, s => by simp [AP l]
theorem CP {α : Type} (k : Str) : eP ([] : List (Str × α)) k = none := rfl
theorem jm {α : Type} (p : Str × α) (m : List (Str × α)) (k : Str) : eP (p :: m) k = if p.1 == k then some p.2 else eP m k := by
 unfold eP
 simp only [List.find?_cons]
 cases p.1 == k <;> rfl
theorem Ms {α : Type} (m : List (Str × α)) (k : Str) (v : α) (k' : Str) : eP (jN m k v) k' = if k == k' then some v else eP m k' := by
 induction m with
 | nil => rw [jN, jm]
 | cons p m ih =>
  simp only [jN]
  by_cases h : (p.1 == k) = true
  ·have e : p.1 = k := by simpa using h
   rw [if_pos h, jm, jm, e]
   by_cases hk : (k == k') = true
   ·rw [if_pos hk, if_pos hk]
   ·rw [if_neg hk, if_neg hk, if_neg hk]
  ·rw [if_neg h, jm, ih, jm]
   by_cases hp : (p.1 == k') = true
   ·rw [if_pos hp, if_pos hp, if_neg]
    intro h2
    apply h
    have e1 : p.1 = k' := by simpa using hp
    have e2 : k = k' := by simpa using h2
    simp [e1, e2]
   ·rw [if_neg hp, if_neg hp]
theorem zO {α : Type} (m : List (Str × α)) (k : Str) (v : α) : (jN m k v).length ≤ m.length + 1 := by
 induction m with
 | nil => simp [jN]
 | cons p m ih =>
  simp only [jN]
  split
  ·simp
  ·simp only [List.length_cons]; omega
theorem Ep {α : Type} {m : List (Str × α)} (h : m.length ≤ 1000000) (k : Str) (v : α) : xC m k v = some (jN m k v) := by
 unfold xC
 rw [if_pos (by omega)]
theorem mem_keys {α : Type} (m : List (Str × α)) (k : Str) : k ∈ m.map (·.1) ↔ ∃ v, eP m k = some v := by
 induction m with
 | nil => simp [CP]
 | cons p m ih =>
  rw [jm]
  simp only [List.map_cons, List.mem_cons, ih]
  by_cases h : (p.1 == k) = true
  ·rw [if_pos h]
   have e : p.1 = k := by simpa using h
   exact ⟨fun _ => ⟨_, rfl⟩, fun _ => .inl e.symm⟩
  ·rw [if_neg h]
   have e : k ≠ p.1 := fun e => h (by simp [e])
   simp [e]
def fD {α : Type} (l : List (Str × α)) (m : List (Str × α)) : List (Str × α) := l.foldl (fun m p => jN m p.1 p.2) m
theorem Eb {α : Type} (l m : List (Str × α)) : (fD l m).length ≤ m.length + l.length := by
 induction l generalizing m with
 | nil => simp [fD]
 | cons p l ih =>
  have h1 := ih (jN m p.1 p.2)
  have h2 := zO m p.1 p.2
  simp only [fD, List.foldl_cons, List.length_cons] at h1 ⊢
  omega
theorem KQ {α : Type} (l l' m : List (Str × α)) : fD (l ++ l') m = fD l' (fD l m) := by simp [fD]
theorem TM {α : Type} (l m : List (Str × α)) (k : Str) : k ∈ (fD l m).map (·.1) ↔ k ∈ m.map (·.1) ∨ k ∈ l.map (·.1) := by
 induction l generalizing m with
 | nil => simp [fD]
 | cons p l ih =>
  have h1 := ih (jN m p.1 p.2)
  have h2 : k ∈ (jN m p.1 p.2).map (·.1) ↔ k ∈ m.map (·.1) ∨ k = p.1 := by
   rw [mem_keys, mem_keys, Ms]
   by_cases h : (p.1 == k) = true
   ·rw [if_pos h]
    have e : p.1 = k := by simpa using h
    exact ⟨fun _ => .inr e.symm, fun _ => ⟨_, rfl⟩⟩
   ·rw [if_neg h]
    have e : k ≠ p.1 := fun e => h (by simp [e])
    simp [e]
  rw [h2] at h1
  simp only [fD, List.foldl_cons, List.map_cons, List.mem_cons] at h1 ⊢
  rw [h1, or_assoc]
theorem Ni {α : Type} (l m : List (Str × α)) (k : Str) (hn : (l.map (·.1)).Nodup) : eP (fD l m) k = (match eP l k with | some v => some v | none => eP m k) := by
 induction l generalizing m with
 | nil => rfl
 | cons p l ih =>
  rw [List.map_cons, List.nodup_cons] at hn
  have h1 := ih (jN m p.1 p.2) hn.2
  simp only [fD, List.foldl_cons] at h1 ⊢
  rw [h1, Ms, jm]
  by_cases h : (p.1 == k) = true
  ·rw [if_pos h, if_pos h]
   have e : p.1 = k := by simpa using h
   have h3 : eP l k = none := by
    cases hm : eP l k with
    | none => rfl
    | some v => exact absurd ((mem_keys l k).2 ⟨v, hm⟩) (e ▸ hn.1)
   rw [h3]
  ·rw [if_neg h, if_neg h]
theorem C9 {α : Type} (l : List (Str × α)) (k : Str) (v : α) (hn : (l.map (·.1)).Nodup) : eP l k = some v ↔ (k, v) ∈ l := by
 induction l with
 | nil => simp [CP]
 | cons p l ih =>
  rw [List.map_cons, List.nodup_cons] at hn
  rw [jm, List.mem_cons]
  by_cases h : (p.1 == k) = true
  ·rw [if_pos h]
   have e : p.1 = k := by simpa using h
   constructor
   ·intro h2
    cases h2
    exact .inl (by rw [← e])
   ·rintro (h2 | h2)
    ·rw [← h2]
    ·exact absurd (List.mem_map.2 ⟨_, h2, rfl⟩) (e ▸ hn.1)
  ·rw [if_neg h, ih hn.2]
   constructor
   ·exact .inr
   ·rintro (h2 | h2)
    ·exact absurd (by rw [← h2]; simp) h
    ·exact h2
theorem TK {α : Type} {l l' : List (Str × α)} (hp : l.Perm l') (hn : (l.map (·.1)).Nodup) (k : Str) : eP l k = eP l' k := by
 have hn' : (l'.map (·.1)).Nodup := (hp.map _).nodup_iff.1 hn
 cases h : eP l k with
 | some v =>
  rw [C9 _ _ _ hn] at h
  exact ((C9 _ _ _ hn').2 (hp.mem_iff.1 h)).symm
 | none =>
  cases h' : eP l' k with
  | none => rfl
  | some v =>
   rw [C9 _ _ _ hn'] at h'
   rw [(C9 _ _ _ hn).2 (hp.mem_iff.2 h')] at h
   cases h
mutual
def ji (q : Int) : Ty → Bool
 | .mk k _ ks => k == q || D8 q ks
def D8 (q : Int) : List Ty → Bool
 | [] => false
 | t :: ts => ji q t || D8 q ts
end
theorem F3 (q : Int) : ∀ ts, D8 q ts = ts.any (ji q)
 | [] => rfl
 | t :: ts => by simp [D8, F3 q ts]
theorem Hl (q : Int) : ∀ t : Ty, Ev (fun n => iB n t q) (ji q t) := Ty.ind fun k nm ks ih => by
 refine Ev.succ ?_
 show Ev (fun n => nH n _ _ _ _ (.mk k nm ks) q) _
 unfold nH
 simp only [Ty.kind, Ty.kids, ji, F3]
 have hk : Ev (fun n => eZ n ks q) (ks.any (ji q)) := by
  refine Ev.succ ?_
  show Ev (fun n => gZ n _ _ _ _ ks q) _
  unfold gZ
  refine Ev.bind (a := nC (ji q) 0 ks) (Ev.succ ?_) ?_
  ·show Ev (fun n => iP n _ _ _ _ ks q) _
   unfold iP
   refine xJ ks (fun n k i => jo n _ _ _ (fun p0 p1 => iO n p0 p1) ks q k i) (fun n x => iO n x q) (ji q) (fun n k i => rfl) (fun x hx => ?_)
   refine Ev.succ ?_
   show Ev (fun n => lS n _ _ _ _ x q) _
   unfold lS
   exact Ev.bind (ih x hx) (Ev.ret _)
  ·rw [w9 _ _ _ (Int.le_refl _)]; exact Ev.ret _
 cases hq : (k == q)
 ·exact Ev.bind (Ev.bind hk (Ev.ret _)) (Ev.ret _)
 ·exact Ev.bind (Ev.ret _) (Ev.ret _)
mutual
def eG : Ty → List Str
 | .mk k nm ks => cond (k == 3) [nm] (lT ks)
def lT : List Ty → List Str
 | [] => []
 | t :: ts => eG t ++ lT ts
end
mutual
def Bb : Ty → Bool
 | .mk k _ ks => (decide (ks.length ≤ 2) && (k != 3 || ks.length == 0)) && Ie ks
def Ie : List Ty → Bool
 | [] => true
 | t :: ts => Bb t && Ie ts
end
theorem Fy : ∀ {ts : List Ty}, Ie ts = true → ∀ t ∈ ts, Bb t = true
 | [], _, t, h => by cases h
 | u :: ts, h, t, ht => by
  simp only [Ie, Bool.and_eq_true] at h
  rcases List.mem_cons.1 ht with rfl | ht
  ·exact h.1
  ·exact Fy h.2 t ht
theorem akC {k : Int} {nm : Str} {len : Nat} {d : Int} (h : eU k nm len d = true) : len ≤ 2 ∧ (k = 3 → len = 0) := by
 unfold eU at h
 simp only [Bool.and_eq_true, Bool.or_eq_true, beq_iff_eq] at h
 obtain ⟨_, h, _⟩ := h
 rcases h with ⟨h1, h2⟩ | ⟨h1, h2⟩ | ⟨h1, h2⟩ <;> omega
mutual
theorem ajF : ∀ (t : Ty) (d c : Int), (pf t d c).1 = true → Bb t = true ∧ ((eG t).length : Int) ≤ (pf t d c).2 - c
 | .mk k nm ks, d, c, h => by
  simp only [pf] at h ⊢
  cases hb : ((decide (c + 1 ≤ 16) && decide (d ≤ 6)) && eU k nm ks.length d) with
  | false => rw [hb] at h; cases h
  | true =>
   rw [hb] at h
   simp only [cond_true] at h ⊢
   simp only [Bool.and_eq_true] at hb
   have hh := akC hb.2
   have h1 := af7 ks (d + 1) (c + 1) h
   have h2 := abh ks (d + 1) (c + 1) h
   constructor
   ·simp only [Bb, h1.1, Bool.and_true, Bool.and_eq_true, decide_eq_true_eq, Bool.or_eq_true, bne_iff_ne, beq_iff_eq]
    refine ⟨hh.1, ?_⟩
    by_cases e : k = 3
    ·exact .inr (hh.2 e)
    ·exact .inl e
   ·simp only [eG]
    cases k == 3 with
    | true => simp only [cond_true, List.length_singleton]; omega
    | false => simp only [cond_false]; omega
theorem af7 : ∀ (ts : List Ty) (d c : Int), (iX ts d c).1 = true → Ie ts = true ∧ ((lT ts).length : Int) ≤ (iX ts d c).2 - c
 | [], _, c, _ => by simp [iX, Ie, lT]
 | t :: ts, d, c, h => by
  simp only [iX] at h ⊢
  cases hb : (pf t d c).1 with
  | false => rw [hb] at h; cases h
  | true =>
   rw [hb] at h
   simp only [cond_true] at h ⊢
   have h1 := ajF t d c hb
   have h2 := af7 ts d _ h
   simp only [Ie, h1.1, h2.1, Bool.and_true, lT, List.length_append]
   refine ⟨trivial, ?_⟩
   omega
end
theorem Kv {t : Ty} (h : bN t = true) : Bb t = true ∧ (eG t).length ≤ 16 := by
 have h1 := ajF t 1 0 h
 have h2 := Gf t 1 0 h
 exact ⟨h1.1, by omega⟩
theorem aeQ : ∀ t : Ty, Bb t = true → ∀ m : List (Str × Bool), m.length + (eG t).length ≤ 1000 → Ev (fun n => jG n t m) (fD ((eG t).map fun s => (s, true)) m) := Ty.ind fun k nm ks ih hok m hlen => by
 refine Ev.succ ?_
 show Ev (fun n => oh n _ (.mk k nm ks) m) _
 unfold oh
 simp only [Ty.kind, Ty.name, eG] at hlen ⊢
 simp only [Bb, Bool.and_eq_true, decide_eq_true_eq, Bool.or_eq_true, beq_iff_eq, bne_iff_ne] at hok
 have hloop : ∀ (m : List (Str × Bool)), m.length + (lT ks).length ≤ 1000 → Ev (fun n => nK n (fun p0 p1 => jG n p0 p1) (.mk k nm ks) n (0, m)) (.nx (fD ((lT ks).map fun s => (s, true)) m)) := fun m hm => by
  have h := kD ks (fun n k' i s => nK n (fun p0 p1 => jG n p0 p1) (.mk k nm ks) k' (i, s)) (fun n x s => jG n x s) (fun x s => fD ((eG x).map fun s => (s, true)) s) (fun s => s) (fun suf s => s.length + (lT suf).length ≤ 1000)
   (fun n k' i s => rfl)
   (fun x suf s hx hs => by
    simp only [lT, List.length_append] at hs
    refine ⟨ih x hx (Fy hok.2 x hx) s (by omega), ?_⟩
    have := Eb ((eG x).map fun s => (s, true)) s
    simp only [List.length_map] at this
    omega) (s0 := m) hm
  have hf : ∀ (ts : List Ty) (s : List (Str × Bool)), ts.foldl (fun s x => fD ((eG x).map fun s => (s, true)) s) s = fD ((lT ts).map fun s => (s, true)) s := by
   intro ts
   induction ts with
   | nil => intro s; rfl
   | cons t ts iht => intro s; simp only [List.foldl_cons, lT, List.map_append, KQ, iht]
  rw [hf] at h
  exact h
 cases hq : (k == 3) with
 | true =>
  have hk : k = 3 := by simpa using hq
  have hks : ks = [] := by
   rcases hok.1.2 with h | h
   ·exact absurd hk h
   ·exact List.length_eq_zero_iff.1 h
  rw [hq] at hlen
  simp only [cond_true, List.length_singleton] at hlen ⊢
  rw [Ep (by omega)]
  have hl := zO m nm true
  have := hloop (jN m nm true) (by rw [hks]; simp only [lT, List.length_nil]; omega)
  rw [hks] at this ⊢
  simp only [Option.bind_some]
  exact Ev.bind this (Ev.ret _)
 | false =>
  rw [hq] at hlen
  simp only [cond_false, Option.bind_some] at hlen ⊢
  exact Ev.bind (hloop m hlen) (Ev.ret _)
theorem wT {t : Ty} (h : bN t = true) : Ev (fun n => jV n t) (((fD ((eG t).map fun s => (s, true)) []).map (·.1)).mergeSort AO) := by
 unfold jV
 refine Ev.bind (jJ t) ?_
 rw [h]
 obtain ⟨h1, h2⟩ := Kv h
 refine Ev.bind (aeQ t h1 [] (by simp; omega)) ?_
 have := Eb ((eG t).map fun s => (s, true)) []
 simp only [List.length_map, List.length_nil] at this
 unfold qJ
 rw [if_pos (by omega)]
 exact Ev.ret _
theorem ET (t : Ty) (s : Str) : s ∈ ((fD ((eG t).map fun s => (s, true)) []).map (·.1)).mergeSort AO ↔ s ∈ eG t := by
 rw [List.mem_mergeSort, TM]
 simp
theorem Rs : ∀ t : Ty, Bb t = true → Ev (fun n => jc n t) t := Ty.ind fun k nm ks ih hok => by
 refine Ev.succ ?_
 show Ev (fun n => mW n _ (.mk k nm ks)) _
 unfold mW
 simp only [Ty.kind, Ty.name]
 simp only [Bb, Bool.and_eq_true, decide_eq_true_eq] at hok
 have h := kD ks (fun n k' i s => oU n (fun p0 => jc n p0) (.mk k nm ks) k' (i, s)) (fun n x s => (jc n x).bind fun x2 => app 48 s [x2]) (fun x s => s ++ [x]) (fun s => s) (fun suf s => s.length + suf.length ≤ 2)
  (fun n k' i s => by
   show cond _ _ _ = _
   congr 1
   show (idx ks i).bind _ = _
   congr 1
   funext x
   simp only [Option.bind_assoc])
  (fun x suf s hx hs => by
   simp only [List.length_cons] at hs
   refine ⟨Ev.bind (ih x hx (Fy hok.2 x hx)) ?_, ?_⟩
   ·rw [gY (by simp only [List.length_singleton]; omega) (by omega)]; exact Ev.ret _
   ·simp only [List.length_append, List.length_singleton]; omega) (s0 := ([] : List Ty)) (by simpa using hok.1.1)
 rw [AP] at h
 exact Ev.bind h (Ev.ret _)
theorem wI : ∀ t : Ty, Bb t = true → Ev (fun n => kN n t) t := Ty.ind fun k nm ks ih hok => by
 refine Ev.succ ?_
 show Ev (fun n => rM n _ (.mk k nm ks)) _
 unfold rM
 simp only [Ty.kind, Ty.name]
 simp only [Bb, Bool.and_eq_true, decide_eq_true_eq] at hok
 have h := kD ks (fun n k' i s => uO n (fun p0 => kN n p0) (.mk k nm ks) k' (i, s)) (fun n x s => (kN n x).bind fun x2 => app 48 s [x2]) (fun x s => s ++ [x]) (fun s => s) (fun suf s => s.length + suf.length ≤ 2)
  (fun n k' i s => by
   show cond _ _ _ = _
   congr 1
   show (idx ks i).bind _ = _
   congr 1
   funext x
   simp only [Option.bind_assoc])
  (fun x suf s hx hs => by
   simp only [List.length_cons] at hs
   refine ⟨Ev.bind (ih x hx (Fy hok.2 x hx)) ?_, ?_⟩
   ·rw [gY (by simp only [List.length_singleton]; omega) (by omega)]; exact Ev.ret _
   ·simp only [List.length_append, List.length_singleton]; omega) (s0 := ([] : List Ty)) (by simpa using hok.1.1)
 rw [AP] at h
 exact Ev.bind h (Ev.ret _)
theorem Zr {α : Type} [BEq α] [ReflBEq α] (a : α) : (a != a) = false := by simp [bne]
theorem aa5 {α : Type} (l : List α) : (l.any fun _ => false) = false := by induction l <;> simp_all
theorem yY : ∀ t : Ty, Ev (fun n => bO n t t) true := Ty.ind fun k nm ks ih => by
 refine Ev.succ ?_
 show Ev (fun n => lZ n _ (.mk k nm ks) (.mk k nm ks)) _
 unfold lZ
 simp only [Zr, beq_self_eq_true, Bool.not_true, cond_false, Option.bind_some]
 have h := kJ ks (fun n k' i => qZ n (fun p0 p1 => bO n p0 p1) (.mk k nm ks) (.mk k nm ks) k' i) (fun n x => (bO n x x).bind fun b => some (!b)) (fun _ => false) false
  (fun n k' i => by
   show cond _ _ _ = _
   congr 1
   show (idx ks i).bind _ = _
   cases hx : idx ks i with
   | none => rfl
   | some x =>
    show ((idx ks i).bind _) = _
    rw [hx]
    simp only [Option.bind_some, Option.bind_assoc])
  (fun x hx => Ev.bind (ih x hx) (Ev.ret _))
 rw [aa5] at h
 exact Ev.bind h (Ev.ret _)
end Abs
end Go.Proofs.YtiiaccpcoclklaaGreat
namespace Go.Proofs.YtiiaccpcoclklaaGreat
namespace Abs
open Go
def eu (env : Env) (s : Str) : Bool := env.carriers.any fun c => c.name == s
def Ca (c : Carrier) : Bool := ident c.name && (!(decide (8 < (c.elems.length : Int))) && c.elems.all ident)
def uF (env : Env) (d : Decl) : Bool := named d.name && ((bN d.ty && !(ji 2 d.ty)) && (eG d.ty).all (eu env))
def xI (env : Env) : List Str := (env.carriers.flatMap fun c => c.name :: c.elems) ++ env.names.map (·.name)
def names2 (env : Env) : List Str := env.carriers.map (·.name) ++ (env.carriers.flatMap (·.elems) ++ env.names.map (·.name))
def pR : List Str → List Str → Bool
 | _, [] => true
 | pre, x :: xs => !(pre.any (· == x)) && pR (pre ++ [x]) xs
theorem ZL : ∀ (l pre : List Str), pR pre l = true ↔ l.Nodup ∧ ∀ x ∈ l, x ∉ pre
 | [], pre => by simp [pR]
 | x :: l, pre => by
  simp only [pR, Bool.and_eq_true, ZL l, Bool.not_eq_true', List.nodup_cons, List.mem_cons, List.any_eq_false, beq_iff_eq, List.mem_append, List.not_mem_nil, or_false]
  constructor
  ·rintro ⟨h1, h2, h3⟩
   refine ⟨⟨fun hx => (h3 x hx) (.inr rfl), h2⟩, ?_⟩
   rintro y (rfl | hy)
   ·exact fun hp => h1 _ hp rfl
   ·exact fun hp => h3 y hy (.inl hp)
  ·rintro ⟨⟨h1, h2⟩, h3⟩
   refine ⟨fun y hy e => h3 x (.inl rfl) (e ▸ hy), h2, fun y hy hp => ?_⟩
   rcases hp with hp | rfl
   ·exact h3 y (.inr hy) hp
   ·exact h1 hy
theorem JN (l : List Str) : pR [] l = true ↔ l.Nodup := by rw [ZL]; simp
theorem ahc (cs : List Carrier) : (cs.flatMap fun c => c.name :: c.elems).Perm (cs.map (·.name) ++ cs.flatMap (·.elems)) := by
 induction cs with
 | nil => simp
 | cons c cs ih =>
  simp only [List.flatMap_cons, List.map_cons, List.cons_append]
  refine List.Perm.cons _ ?_
  refine (List.Perm.append_left _ ih).trans ?_
  rw [← List.append_assoc, ← List.append_assoc]
  exact List.Perm.append_right _ List.perm_append_comm
theorem KI (env : Env) : (xI env).Perm (names2 env) := by
 unfold xI names2
 rw [← List.append_assoc]
 exact List.Perm.append_right _ (ahc _)
theorem amb (env : Env) : pR [] (xI env) = pR [] (names2 env) := by
 have h : (pR [] (xI env) = true) ↔ (pR [] (names2 env) = true) := by rw [JN, JN]; exact (KI env).nodup_iff
 cases h1 : pR [] (xI env) <;> cases h2 : pR [] (names2 env) <;> simp_all
def bX (env : Env) : Bool := !(decide (8 < (env.carriers.length : Int)) || decide (64 < (env.names.length : Int))) && (env.carriers.all Ca && (env.names.all (uF env) && pR [] (names2 env)))
theorem aal (env : Env) (s : Str) : Ev (fun n => qA n env s) (eu env s) := by
 unfold qA lC mZ
 refine Ev.bind (a := eu env s) ?_ (Ev.ret _)
 refine Ev.bind (xJ env.carriers (fun n k i => jf n env.carriers s k i) (fun _ x => some (x.name == s)) (fun c => c.name == s) (fun n k i => rfl) (fun x _ => Ev.ret _)) ?_
 rw [w9 _ _ _ (Int.le_refl _)]
 exact Ev.ret _
theorem Rf (env : Env) {t : Ty} (h : bN t = true) : Ev (fun n => nG n env t) ((eG t).all (eu env)) := by
 unfold nG lV nX
 refine Ev.bind (wT h) ?_
 generalize hl : ((fD ((eG t).map fun s => (s, true)) []).map (·.1)).mergeSort AO = l
 have hm : ∀ s, s ∈ l ↔ s ∈ eG t := fun s => by rw [← hl]; exact ET t s
 have hf := xJ l (fun n k i => jw n l env.carriers env.names k i) (fun n x => qz n x env.carriers env.names) (fun s => !(eu env s)) (fun n k i => rfl) (fun x _ => by
  unfold qz
  exact Ev.bind (aal env x) (Ev.ret _))
 refine Ev.bind (a := l.any fun s => !(eu env s)) (Ev.bind hf ?_) ?_
 ·rw [w9 _ _ _ (Int.le_refl _)]
  exact Ev.ret _
 ·rw [nL, Bool.not_not]
  have : l.all (eu env) = (eG t).all (eu env) := by
   have h : (l.all (eu env) = true) ↔ ((eG t).all (eu env) = true) := by simp only [List.all_eq_true, hm]
   cases h1 : l.all (eu env) <;> cases h2 : (eG t).all (eu env) <;> simp_all
  rw [this]
  exact Ev.ret _
theorem acN (env : Env) (h : (xI env).length ≤ 1000000) : Ev (fun n => sV n env) (xI env) := by
 unfold sV
 simp only [xI, List.length_append, List.length_map] at h
 have h1 := kD env.carriers (fun n k i s => oP n env k (s, i)) (fun n x s => (app 16 s [x.name]).bind fun x4 => app 16 x4 x.elems) (fun x s => s ++ (x.name :: x.elems)) (fun s => s) (fun suf s => s.length + (suf.flatMap fun c => c.name :: c.elems).length ≤ 1000000)
  (fun n k i s => by
   show cond _ _ _ = _
   congr 1
   show (idx env.carriers i).bind _ = _
   congr 1
   funext x
   simp only [Option.bind_assoc])
  (fun x suf s hx hs => by
   simp only [List.flatMap_cons, List.length_append, List.length_cons] at hs
   refine ⟨?_, ?_⟩
   ·rw [gY (by simp only [List.length_singleton]; omega) (by omega), Option.bind_some, gY (by simp only [List.length_append, List.length_singleton]; omega) (by omega)]
    rw [List.append_assoc]
    exact Ev.ret _
   ·simp only [List.length_append, List.length_cons]; omega) (s0 := ([] : List Str)) (by simp only [List.length_nil]; omega)
 have hf1 : ∀ (cs : List Carrier) (s : List Str), cs.foldl (fun s x => s ++ (x.name :: x.elems)) s = s ++ cs.flatMap fun c => c.name :: c.elems := by
  intro cs
  induction cs with
  | nil => intro s; simp
  | cons c cs ih => intro s; rw [List.foldl_cons, ih]; simp
 rw [hf1, List.nil_append] at h1
 have h2 := kD env.names (fun n k i s => o9 n env k (s, i)) (fun n x s => app 16 s [x.name]) (fun x s => s ++ [x.name]) (fun s => s) (fun suf s => s.length + suf.length ≤ 1000000)
  (fun n k i s => rfl)
  (fun x suf s hx hs => by
   simp only [List.length_cons] at hs
   refine ⟨?_, ?_⟩
   ·rw [gY (by simp only [List.length_singleton]; omega) (by omega)]
    exact Ev.ret _
   ·simp only [List.length_append, List.length_singleton]; omega) (s0 := env.carriers.flatMap fun c => c.name :: c.elems) (by omega)
 have hf2 : ∀ (cs : List Decl) (s : List Str), cs.foldl (fun s x => s ++ [x.name]) s = s ++ cs.map (·.name) := by
  intro cs
  induction cs with
  | nil => intro s; simp
  | cons c cs ih => intro s; rw [List.foldl_cons, ih]; simp
 rw [hf2] at h2
 exact Ev.bind h1 (Ev.bind h2 (Ev.ret _))
theorem acT (l : List Str) (hl : l.length ≤ 1000000) : Ev (fun n => tu n l) (pR [] l) := by
 unfold tu
 have h := IQ l (fun n k i s => oL n l k (i, s)) (fun n x s => (Zb (eP s x) (some false) (fun x3 => some x3) : Option Bool).bind fun s3 => cond s3 (some (.rt false)) ((xC s x true).bind fun x2 => some (.nx x2))) (fun x s => cond ((eP s x).getD false) (.rt false) (.nx (jN s x true))) (fun _ => ())
  (fun suf s => s.length + suf.length ≤ 1000000)
  (fun n k i s => by
   show cond _ _ _ = _
   congr 1
   show (idx l i).bind _ = _
   congr 1
   funext x
   cases eP s x with
   | none => simp only [Zb, Option.bind_some, cond_false, Option.bind_assoc]
   | some b => cases b <;> simp only [Zb, Option.bind_some, cond_false, cond_true, Option.bind_assoc])
  (fun x suf s hx hs => by
   simp only [List.length_cons] at hs
   refine ⟨?_, fun s' he => ?_⟩
   ·rw [Ep (by omega)]
    cases eP s x with
    | none => exact Ev.ret _
    | some b => cases b <;> exact Ev.ret _
   ·cases hb : (eP s x).getD false with
    | true => rw [hb] at he; cases he
    | false =>
     rw [hb] at he
     cases he
     have := zO s x true
     omega) (s0 := ([] : List (Str × Bool))) (by simpa using hl)
 have key : ∀ (suf pre : List Str) (s : List (Str × Bool)), (∀ x, eP s x = if pre.any (· == x) then some true else none) → zD (τ := Unit) (fun x s => cond ((eP s x).getD false) (.rt false) (.nx (jN s x true))) (fun _ => ()) suf s = cond (pR pre suf) (.nx ()) (.rt false) := by
  intro suf
  induction suf with
  | nil => intro pre s _; rfl
  | cons x suf ih =>
   intro pre s hs
   simp only [zD, pR]
   rw [hs x]
   cases hb : pre.any (· == x) with
   | true => rfl
   | false =>
    simp only [Bool.false_eq_true, if_false, Option.getD_none, cond_false, Bool.not_false, Bool.true_and]
    refine ih (pre ++ [x]) _ (fun y => ?_)
    rw [Ms, hs y]
    simp only [List.any_append, List.any_cons, List.any_nil, Bool.or_false]
    cases hy : (x == y) with
    | true => simp
    | false => simp
 rw [key l [] [] (fun x => rfl)] at h
 refine Ev.bind h ?_
 cases pR [] l
 ·exact Ev.ret _
 ·exact Ev.ret _
theorem Rj {env : Env} (h1 : ¬ 8 < (env.carriers.length : Int)) (h2 : ¬ 64 < (env.names.length : Int)) (h3 : env.carriers.all Ca = true) : (names2 env).length ≤ 1000 := by
 have key : ∀ cs : List Carrier, cs.all Ca = true → (cs.flatMap (·.elems)).length ≤ 8 * cs.length := by
  intro cs
  induction cs with
  | nil => intro _; simp
  | cons c cs ih =>
   intro h
   simp only [List.all_cons, Bool.and_eq_true, Ca, Bool.not_eq_true', decide_eq_false_iff_not] at h
   have := ih (by simpa only [List.all_eq_true, Ca] using h.2)
   simp only [List.flatMap_cons, List.length_append, List.length_cons]
   omega
 have := key _ h3
 simp only [names2, List.length_append, List.length_map]
 omega
theorem CK (env : Env) (hs : ∀ d ∈ env.names, d.name.length ≤ 9223372036854775807) : Ev (fun n => pW n env) (bX env) := by
 unfold pW
 by_cases h1 : 8 < (env.carriers.length : Int)
 ·have : bX env = false := by simp only [bX, decide_eq_true h1, Bool.true_or, Bool.not_true, Bool.false_and]
  rw [this, decide_eq_true h1]
  exact Ev.ret _
 by_cases h2 : 64 < (env.names.length : Int)
 ·have : bX env = false := by simp only [bX, decide_eq_true h2, Bool.or_true, Bool.not_true, Bool.false_and]
  rw [this, decide_eq_true h2, decide_eq_false h1]
  exact Ev.ret _
 simp only [bX, decide_eq_false h1, decide_eq_false h2, Bool.or_false, Bool.not_false, Bool.true_and, cond_false, Option.bind_some]
 have hcar := Gu env.carriers (fun n k i => oZ n env k i) (fun n x => ((fA n x.name).bind fun x10 => cond (!x10) (some true) (some (decide (8 < (x.elems.length : Int))))).bind fun s7 => cond s7 (some (.rt false)) ((ku n x n 0).bind (LR.el (fun _ => some (.nx ())) (fun r => some (.rt r))))) (fun c => !(Ca c)) false
  (fun n k i => by
   show cond _ _ _ = _
   congr 1
   congr 1
   funext x
   cases ((fA n x.name).bind fun x10 => cond (!x10) (some true) (some (decide (8 < (x.elems.length : Int))))) with
   | none => rfl
   | some b =>
    cases b with
    | true => rfl
    | false =>
     simp only [Option.bind_some, cond_false]
     cases ku n x n 0 with
     | none => rfl
     | some r => cases r <;> rfl)
  (fun c hc => by
   refine Ev.bind (a := !(ident c.name) || decide (8 < (c.elems.length : Int))) (Ev.bind (oN c.name) ?_) ?_
   ·cases ident c.name
    ·exact Ev.ret _
    ·exact Ev.ret _
   ·unfold Ca
    cases ident c.name with
    | false => exact Ev.ret _
    | true =>
     cases decide (8 < (c.elems.length : Int)) with
     | true => exact Ev.ret _
     | false =>
      simp only [Bool.not_true, Bool.false_or, cond_false, Bool.true_and, Bool.not_false]
      have h := kJ c.elems (fun n k i => ku n c k i) (fun n x => (fA n x).bind fun x9 => some (!x9)) (fun s => !(ident s)) false
       (fun n k i => by
        show cond _ _ _ = _
        congr 1
        congr 1
        funext x
        simp only [Option.bind_assoc, Option.bind_some])
       (fun x _ => Ev.bind (oN x) (Ev.ret _))
      rw [nL] at h
      refine Ev.bind h ?_
      cases c.elems.all ident
      ·exact Ev.ret _
      ·exact Ev.ret _)
 rw [nL] at hcar
 refine Ev.bind hcar ?_
 cases hc : env.carriers.all Ca with
 | false => exact Ev.ret _
 | true =>
  simp only [Bool.not_true, cond_false, Bool.true_and]
  have hdecl := kJ env.names (fun n k i => o8 n env k i) (fun n x => (pJ n x.name).bind fun x4 => cond (!x4) (some true) ((jI n x.ty).bind fun x5 => cond (!x5) (some true) ((nG n env x.ty).bind fun x6 => some (!x6)))) (fun d => !(uF env d)) false
   (fun n k i => rfl)
   (fun d hd => by
    refine Ev.bind (Ra d.name (hs d hd)) ?_
    unfold uF
    cases named d.name with
    | false => exact Ev.ret _
    | true =>
     simp only [Bool.not_true, cond_false, Bool.true_and]
     refine Ev.bind (a := bN d.ty && !(ji 2 d.ty)) ?_ ?_
     ·unfold jI
      refine Ev.bind (a := bN d.ty && !(ji 2 d.ty)) (Ev.bind (jJ d.ty) ?_) (Ev.ret _)
      cases bN d.ty with
      | false => exact Ev.ret _
      | true => exact Ev.bind (Hl 2 d.ty) (Ev.ret _)
     ·cases hv : bN d.ty with
      | false => exact Ev.ret _
      | true =>
       cases ji 2 d.ty with
       | true => exact Ev.ret _
       | false => exact Ev.bind (Rf env hv) (Ev.ret _))
  rw [nL] at hdecl
  refine Ev.bind hdecl ?_
  cases hd : env.names.all (uF env) with
  | false => exact Ev.ret _
  | true =>
   simp only [Bool.not_true, cond_false, Bool.true_and]
   have hlen := Rj h1 h2 hc
   have hlen1 : (xI env).length ≤ 1000 := by rw [(KI env).length_eq]; exact hlen
   refine Ev.bind (acN env (by omega)) ?_
   rw [← amb]
   exact Ev.bind (acT _ (by omega)) (Ev.ret _)
end Abs
end Go.Proofs.YtiiaccpcoclklaaGreat
